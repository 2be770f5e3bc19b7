/- A part of the proof: see YtgleaefhflamnaaLawStepsKeeps. -/
import Derived.Test.YtgleaefhflamnaaZk5
set_option linter.unusedVariables false
set_option linter.unusedSimpArgs false
set_option maxHeartbeats 32000000
set_option maxRecDepth 100000
namespace Go.Proofs.Ytgleaefhflamnaa.T
open Go.RowKit Go.Proofs.YtgleaefhflamnaaW.PrintWords Go.Proofs.YtgleaefhflamnaaW.PrintLast Go.Proofs.YtgleaefhflamnaaW.PrintMore
attribute [local go_sem] Try.underlying24 Try.underlying34 Try.underlying62
theorem spots_just (t : List S34) (h : ¬ 120 < t.length) (A0 : Option Addr) (c0 : Nat) (w : World) (hr : Kd.C k34 w A0 t.length t) (hc0 : t.length ≤ c0) :
  Calls Try.prog 16 #[.slice A0 t.length c0] w fun e w' => (∃ v, e = .returned v) ∧ Below w.heap.size w w' := by
 obtain ⟨k, ⟨e, h1, h2, h3⟩ | ⟨r, met, H, h⟩⟩ := spots_facts t
 ·refine (sspots_err k A0 c0 t 0 [] e w hr hc0 h2 h1).mono ?_
  rintro _ w' ⟨rfl, hb⟩
  exact ⟨⟨_, rfl⟩, hb⟩
 ·refine (sspots_ok k A0 c0 t r met H w hr hc0 (by omega) h.keys h.len h.le h.form h.prog).mono ?_
  rintro _ w' ⟨v1, v2, rfl, _, _, hb⟩
  exact ⟨⟨_, rfl⟩, hb⟩
def n77 : S34 := ⟨77, 0, 0, 0, 0, 0⟩
def n78 : S34 := ⟨78, 0, 0, 0, 0, 0⟩
theorem two34 (W : World) (base : Nat) (ok : Nat → Prop) : Reps (k34.M W base ok) 6 [n77, n78] [.int .i64 77, .int .i64 0, .int .i64 0, .int .i64 0, .int .i64 0, .int .i64 0, .int .i64 78, .int .i64 0, .int .i64 0, .int .i64 0, .int .i64 0, .int .i64 0] :=
 ((Reps.none (k34.M W base ok) 6).snoc (k34_mkM _ _ _ n77) rfl).snoc (k34_mkM _ _ _ n78) rfl
theorem C_front {W : World} {base : Nat} {ok : Nat → Prop} {A : Option Addr} {n cap : Nat} {t l : List S34} (h : Kd.R k34 34 W base ok (.slice A n cap) (t ++ l)) : Kd.C k34 W A t.length t ∧ t.length ≤ cap := by
 obtain ⟨h1, h2, h3⟩ := Kd.R_reads' h
 have h4 := Kd.C_take h3 (m := t.length) (by simp)
 rw [List.take_left] at h4
 exact ⟨h4, by rw [List.length_append] at h1; omega⟩
theorem to_f (kind : Int) (mir : Bool) : larchlaw18_to.f kind mir = some (kind, mir) := rfl
theorem tail_cells {W : World} {base g n cap : Nat} {ok : Nat → Prop} {t : List S34} (h : Kd.R k34 34 W base ok (.slice (some ⟨g, 0, none⟩) n cap) (t ++ [n77, n78])) :
  W.cell? ⟨g, t.length * 6, none⟩ = some (.int .i64 77) ∧ W.cell? ⟨g, (t.length + 1) * 6, none⟩ = some (.int .i64 78) := by
 obtain ⟨h1, h2, h3⟩ := Kd.R_reads' h
 rw [List.length_append] at h1
 have h1' : n = t.length + 2 := h1
 obtain ⟨ce, hcl, hM, hcc, hfr⟩ := Kd.R_elem h z34 (t.length : Int) (by omega) (by omega)
 obtain ⟨ce', hcl', hM', hcc', hfr'⟩ := Kd.R_elem h z34 ((t.length + 1 : Nat) : Int) (by omega) (by omega)
 rw [Int.toNat_natCast, show (t ++ [n77, n78]).getD t.length z34 = n77 from by simp [List.getD_eq_getElem?_getD]] at hM
 rw [Int.toNat_natCast, show (t ++ [n77, n78]).getD (t.length + 1) z34 = n78 from by simp [List.getD_eq_getElem?_getD]] at hM'
 obtain rfl := k34_openM hM
 obtain rfl := k34_openM hM'
 exact ⟨hcc 0 _ rfl, hcc' 0 _ rfl⟩
theorem same_self' (y : List S34) (hy : y.length ≤ 4000000000000000000) : ∃ k, larchref18_SameTable.f k y y = some true := by
 have key : ∀ (d i k : Nat), i + d = y.length → d < k → larchref18_SameTable.l0 k y y i = some true := by
  intro d
  induction d with
  | zero =>
   intro i k hi hk
   cases k with
   | zero => omega
   | succ k => rw [larchref18_SameTable.l0, if_neg (by omega)]
  | succ d ih =>
   intro i k hi hk
   cases k with
   | zero => omega
   | succ k =>
    rw [larchref18_SameTable.l0, if_pos (by omega), if_pos (by omega), if_pos (by omega), if_neg (by simp), Go.IntWalk.wrap64_in _ (by omega)]
    exact ih (i + 1) k (by omega) (by omega)
 refine ⟨y.length + 1, ?_⟩
 unfold larchref18_SameTable.f
 rw [if_pos rfl]
 exact key y.length 0 _ (by omega) (by omega)
theorem put34 {W : World} {base g n cap : Nat} {ok : Nat → Prop} {xs : List S34} (h : Kd.R k34 34 W base ok (.slice (some ⟨g, 0, none⟩) n cap) xs) {c : Nat} (hc : c < n) (x : S34) :
  (∃ u, W.cell? ⟨g, c * 6, none⟩ = some u) ∧ (∃ u, W.cell? ⟨g, c * 6 + 1, none⟩ = some u) ∧ (∃ u, W.cell? ⟨g, c * 6 + 2, none⟩ = some u) ∧ (∃ u, W.cell? ⟨g, c * 6 + 3, none⟩ = some u) ∧ (∃ u, W.cell? ⟨g, c * 6 + 4, none⟩ = some u) ∧ (∃ u, W.cell? ⟨g, c * 6 + 5, none⟩ = some u) ∧
  W.frozen? ⟨g, c * 6, none⟩ = false ∧ W.frozen? ⟨g, c * 6 + 1, none⟩ = false ∧ W.frozen? ⟨g, c * 6 + 2, none⟩ = false ∧ W.frozen? ⟨g, c * 6 + 3, none⟩ = false ∧ W.frozen? ⟨g, c * 6 + 4, none⟩ = false ∧ W.frozen? ⟨g, c * 6 + 5, none⟩ = false ∧
  Kd.R k34 34 ((((((W.setCell ⟨g, c * 6, none⟩ (.int .i64 x.f0)).setCell ⟨g, c * 6 + 1, none⟩ (.int .i64 x.f1)).setCell ⟨g, c * 6 + 2, none⟩ (.int .i64 x.f2)).setCell ⟨g, c * 6 + 3, none⟩ (.int .i64 x.f3)).setCell ⟨g, c * 6 + 4, none⟩ (.int .i64 x.f4)).setCell ⟨g, c * 6 + 5, none⟩ (.int .i64 x.f5)) base ok (.slice (some ⟨g, 0, none⟩) n cap) (xs.set c x) ∧
  W.grownBy ((((((W.setCell ⟨g, c * 6, none⟩ (.int .i64 x.f0)).setCell ⟨g, c * 6 + 1, none⟩ (.int .i64 x.f1)).setCell ⟨g, c * 6 + 2, none⟩ (.int .i64 x.f2)).setCell ⟨g, c * 6 + 3, none⟩ (.int .i64 x.f3)).setCell ⟨g, c * 6 + 4, none⟩ (.int .i64 x.f4)).setCell ⟨g, c * 6 + 5, none⟩ (.int .i64 x.f5)) (some g) := by
 obtain ⟨ce, hcl, hM, hcc, hfr⟩ := Kd.R_elem h z34 (c : Int) (by omega) (by omega)
 obtain rfl := k34_openM hM
 have hs := Kd.R_seg h (c : Int) (by omega) (by omega) (seg := [.int .i64 x.f0, .int .i64 x.f1, .int .i64 x.f2, .int .i64 x.f3, .int .i64 x.f4, .int .i64 x.f5]) (j := 0) hcl hcc (show 6 ≤ 6 from by decide) (x' := x) (k34_mkM _ _ _ x) (fun _ hk => hk)
 exact ⟨⟨_, hcc 0 _ rfl⟩, ⟨_, hcc 1 _ rfl⟩, ⟨_, hcc 2 _ rfl⟩, ⟨_, hcc 3 _ rfl⟩, ⟨_, hcc 4 _ rfl⟩, ⟨_, hcc 5 _ rfl⟩, hfr 0, hfr 1, hfr 2, hfr 3, hfr 4, hfr 5, hs.1, hs.2⟩
theorem grown_below {w W W' : World} {g : Nat} (h : W.grownBy W' (some g)) (hb : Below w.heap.size w W) (hg : w.heap.size ≤ g) : Below w.heap.size w W' :=
 hb.trans ⟨h.os, h.tape, h.output, h.size, fun k hk => by
  rcases Nat.lt_or_ge k W.heap.size with hlt | hge
  ·exact h.block k hlt (fun he => by injection he with he; omega)
  ·exact absurd (Nat.lt_of_lt_of_le hk hb.size) (by omega)⟩
theorem can_just (t : List S34) (a kind : Int) (mir : Bool) : ∃ c e, ∀ A0 c0 w, Kd.C k34 w A0 t.length t → t.length ≤ c0 →
  Calls Try.prog 28 #[.slice A0 t.length c0, .int .i64 a, .agg #[.int .i64 kind, .bool mir]] w (RB w (.tuple #[.bool c, .int .i64 e])) := by
 obtain ⟨K, ⟨e, h⟩ | ⟨T, X0, c0', met, h⟩⟩ := keys_base t
 ·exact ⟨false, e, fun A0 c0 w hr hc => sCan_err w hr hc (at_err h)⟩
 ·obtain ⟨b, hb1, hb2⟩ := is_alike kind mir
  cases b with
  | false => exact ⟨false, 5, fun A0 c0 w hr hc => sCan_err w hr hc (at_5 h hb1)⟩
  | true =>
   by_cases ha : a ∈ plT X0
   ·obtain ⟨c, X, rfl, hi⟩ := in_k h ha
    exact ⟨_, 0, fun A0 c0 w hr hc => sCan_ok w hr hc (at_0 hi) hb1 (move_kind hb1)⟩
   ·exact ⟨false, 1, fun A0 c0 w hr hc => sCan_err w hr hc (at_1 h (fun _ => hb1) ha)⟩
theorem here_just (t : List S34) (a : Int) : ∃ (L : List S62) (e : Int), ∀ A0 c0 w, Kd.C k34 w A0 t.length t → t.length ≤ c0 →
  Calls Try.prog 31 #[.slice A0 t.length c0, .int .i64 a] w fun ed w' => ∃ v, ed = .returned (.tuple #[v, .int .i64 e]) ∧ Kd.R k62 62 w' w.heap.size (fun _ => True) v L ∧ Below w.heap.size w w' := by
 have hnil : ∀ (A0 : Option Addr) (c0 : Nat) (w : World) (K : Nat) (e : Int), Kd.C k34 w A0 t.length t → t.length ≤ c0 → AtE K t a 0 false false e → Calls Try.prog 31 #[.slice A0 t.length c0, .int .i64 a] w fun ed w' => ∃ v, ed = .returned (.tuple #[v, .int .i64 e]) ∧ Kd.R k62 62 w' w.heap.size (fun _ => True) v ([] : List S62) ∧ Below w.heap.size w w' := by
  intro A0 c0 w K e hr hc h
  refine (sHere_err w hr hc h).mono ?_
  rintro _ w' ⟨rfl, hb⟩
  exact ⟨_, rfl, Kd.R_nil _ _ _ _ _, hb⟩
 obtain ⟨K, ⟨e, h⟩ | ⟨T, X0, c0', met, h⟩⟩ := keys_base t
 ·exact ⟨[], e, fun A0 c0 w hr hc => hnil A0 c0 w K e hr hc (at_err h)⟩
 ·by_cases ha : a ∈ plT X0
  ·obtain ⟨c, X, rfl, hi⟩ := in_k h ha
   exact ⟨hereS ((c : Int) == (c0' : Int)) X, 0, fun A0 c0 w hr hc => sHere_ok w hr hc (at_0 hi)⟩
  ·exact ⟨[], 1, fun A0 c0 w hr hc => hnil A0 c0 w K 1 hr hc (at_1 h (fun h => by cases h) ha)⟩
theorem putI {W : World} {base g n cap : Nat} {ok : Nat → Prop} {xs : List Int} (h : Kd.R (Kd.int .i64) 3 W base ok (.slice (some ⟨g, 0, none⟩) n cap) xs) {c : Nat} (hc : c < n) (x : Int) :
  (∃ u, W.cell? ⟨g, c, none⟩ = some u) ∧ W.frozen? ⟨g, c, none⟩ = false ∧ Kd.R (Kd.int .i64) 3 (W.setCell ⟨g, c, none⟩ (.int .i64 x)) base ok (.slice (some ⟨g, 0, none⟩) n cap) (xs.set c x) ∧ W.grownBy (W.setCell ⟨g, c, none⟩ (.int .i64 x)) (some g) := by
 obtain ⟨h1, h2⟩ := Kd.R_celln 0 h (c : Int) (by omega) (by omega)
 have h3 := Kd.R_putg h (c : Int) x
 rw [Int.toNat_natCast] at h1 h2 h3
 exact ⟨⟨_, h1⟩, h2, h3⟩
theorem put62 {W : World} {base g n cap : Nat} {ok : Nat → Prop} {xs : List S62} (h : Kd.R k62 62 W base ok (.slice (some ⟨g, 0, none⟩) n cap) xs) {c : Nat} (hc : c < n) (x : S62) :
  (∃ u, W.cell? ⟨g, c * 2, none⟩ = some u) ∧ (∃ u, W.cell? ⟨g, c * 2 + 1, none⟩ = some u) ∧ W.frozen? ⟨g, c * 2, none⟩ = false ∧ W.frozen? ⟨g, c * 2 + 1, none⟩ = false ∧
  Kd.R k62 62 ((W.setCell ⟨g, c * 2, none⟩ (.int .i64 x.f0)).setCell ⟨g, c * 2 + 1, none⟩ (.bool x.f1)) base ok (.slice (some ⟨g, 0, none⟩) n cap) (xs.set c x) ∧
  W.grownBy ((W.setCell ⟨g, c * 2, none⟩ (.int .i64 x.f0)).setCell ⟨g, c * 2 + 1, none⟩ (.bool x.f1)) (some g) := by
 obtain ⟨ce, hcl, hM, hcc, hfr⟩ := Kd.R_elem h z62 (c : Int) (by omega) (by omega)
 obtain rfl := k62_openM hM
 have hs := Kd.R_seg h (c : Int) (by omega) (by omega) (seg := [.int .i64 x.f0, .bool x.f1]) (j := 0) hcl hcc (show 2 ≤ 2 from by decide) (x' := x) (k62_mkM _ _ _ x) (fun _ hk => hk)
 exact ⟨⟨_, hcc 0 _ rfl⟩, ⟨_, hcc 1 _ rfl⟩, hfr 0, hfr 1, hs.1, hs.2⟩
theorem R_at {α : Type} {d : Kd α} {e base n c : Nat} {W : World} {ok : Nat → Prop} {A : Option Addr} {xs : List α} (h : d.R e W base ok (.slice A n c) xs) (hp : 0 < n) : ∃ g, A = some ⟨g, 0, none⟩ ∧ ok g := by
 have h1 := (Kd.R_reads' h).1
 obtain ⟨g, cap, he, _⟩ := Kd.R_form h (by omega)
 injection he with h2 h3 h4
 subst h2
 exact ⟨g, rfl, h.1 g rfl⟩
theorem two00 (W : World) (base : Nat) (ok : Nat → Prop) : Reps (k34.M W base ok) 6 [z34, z34] [.int .i64 0, .int .i64 0, .int .i64 0, .int .i64 0, .int .i64 0, .int .i64 0, .int .i64 0, .int .i64 0, .int .i64 0, .int .i64 0, .int .i64 0, .int .i64 0] :=
 ((Reps.none (k34.M W base ok) 6).snoc (k34_mkM _ _ _ z34) rfl).snoc (k34_mkM _ _ _ z34) rfl
theorem fromS_f : larchlaw18_from.f 40 allS = some allM := by kernel_rfl
theorem sameM_f : larchref18_SameMoves.f 40 allM allM = some true := by kernel_rfl
def OB (v : Value) (k : Nat) : Prop := v.ownBlock = some k
theorem OB_at {g n c k : Nat} (h : some g = some k) : OB (.slice (some ⟨g, 0, none⟩) n c) k := h
theorem R_between {α : Type} {d : Kd α} {e : Nat} {W W' : World} {v : Value} {xs : List α} (h : d.R e W' W.heap.size (fun _ => True) v xs) : d.R e W' W.heap.size (fun k => W.heap.size ≤ k ∧ k < W'.heap.size) v xs :=
 Kd.R_mono (Kd.R_bound h) (fun _ hk => ⟨hk.2.1, hk.2.2.1⟩)
theorem keeps_any (A0 : Option Addr) (c0 : Nat) (t : List S34) (a kind : Int) (mir : Bool) (w : World) (hr0 : Kd.C k34 w A0 t.length t) (hc0 : t.length ≤ c0) (hsz : t.length ≤ 2932031007317) :
  Calls Try.prog 8 #[.slice A0 t.length c0, .int .i64 a, .agg #[.int .i64 kind, .bool mir]] w (RB w (.bool true)) := by
 obtain ⟨cc, e1, HCB⟩ := can_just t a kind mir
 obtain ⟨LD, e2, hl2, HDB⟩ := do_both t a kind mir
 obtain ⟨LH, e3, HHB⟩ := here_just t a
 obtain ⟨LT, e4, hl4, HTB⟩ := touched_both t a kind mir
 obtain ⟨kT, hT⟩ := same_self' t (by omega)
 obtain ⟨kD, hD⟩ := same_self' LD (by omega)
 have hI : larchref02_Ints.f 10001 LT LT = some true := by
  unfold larchref02_Ints.f
  rw [if_pos rfl]
  exact ints_f _ (by omega) LT.length 0 10001 (by omega) (by omega)
 have HT := Am hT
 have HD := Am hD
 have HI := Am hI
 have HR0 := Am hr0
 have HC0 := Am hc0
 have HSZ := Am hsz
 have HCB := Am HCB
 have HDB := Am HDB
 have HHB := Am HHB
 have HTB := Am HTB
 have HL2 := Am hl2
 have HL4 := Am hl4
 clear hr0 hc0 hsz hl2 hl4 hT hD hI
 go_enter Try.func8, Try.ntmps8
 go_wp2_with (fail)
 refine (awake_any _).mono ?_
 rintro e w1 ⟨rfl, hb⟩
 have HB := Am (((Below.refl _ _).alloc (Nat.le_refl _) (.cells #[.int .i64 kind, .bool mir] 24)).trans (hb.mono (by simp)) : Below w.heap.size w w1)
 have HK := Am (show w1.heap[w.heap.size]? = some (.cells #[.int .i64 kind, .bool mir] 24 (0, 0)) by rw [hb.block _ (by simp)]; exact heap_alloc_new w _)
 have O1 := Am HB.out.size
 clear hb
 obtain ⟨z0, z1⟩ := c2_of HK.out
 go_wp2_with (fail)
 refine ((HDB.out A0 c0 _ (Kd.C_below HR0.out HB.out) HC0.out).1).mono ?_
 rintro _ w2 ⟨v7, rfl, ho, hb⟩
 clear z0 z1
 obtain ⟨A7, c7, rfl⟩ := Kd.R_slice ho
 have G7_ := Am (Kd.R_lower (R_between ho) HB.out.size)
 have O2 := Am hb.size
 replace HB := Am (bel_t' HB.out hb)
 replace HK := Am (blkB hb HK.out)
 have G7 := G7_
 clear hb ho G7_
 obtain ⟨z0, z1⟩ := c2_of HK.out
 go_wp2_with (fail)
 refine ((HTB.out A0 c0 _ (Kd.C_below HR0.out HB.out) HC0.out).1).mono ?_
 rintro _ w3 ⟨v9, rfl, ho, hb⟩
 clear z0 z1
 obtain ⟨A9, c9, rfl⟩ := Kd.R_slice ho
 have G9_ := Am (Kd.R_lower (R_between ho) HB.out.size)
 have O3 := Am hb.size
 replace HB := Am (bel_t' HB.out hb)
 replace HK := Am (blkB hb HK.out)
 replace G7 := Am (Kd.R_below G7.out hb)
 have G9 := G9_
 clear hb ho G9_
 obtain ⟨z0, z1⟩ := c2_of HK.out
 go_wp2_with (first | ((with_reducible refine gs 43 rfl ?_); refine Kd.R_lit k34 _ 34 ?hg (N := 43) ?hd (xs := ([] : List S34)) (inner := []) (ok := fun _ => True) (okp := fun _ => True) ?hr ?hp (fun _ hk => hk) trivial (Below.refl _ _) (Nat.le_refl _) (by simp) ?_; (case hd => rfl); (case hg => rfl); (case hr => first | (go_simp; done) | (go_simp; rfl)); (case hp => exact (Reps.none _ _)); intro v43 w4 ho hb hg_ hnew_; have HO43 := Am ho; have HP4 := Am hb; clear ho hb hg_ hnew_) | ((with_reducible refine gate_builtin (b := .append) (xs := #[.tmp 43, .tmp 44]) rfl ?_); at_builtin; refine Kd.R_append_rows k34 (w0 := w3) w3.heap.size rfl (.tmp 43) (.tmp 44) 22 34 zN 48 rfl Try.underlying22 info34 rfl (by decide) (by omega) v43 [] t _ _ _ (fun _ => True) (fun _ => False) rfl rfl HO43.out (Kd.C_below HR0.out (bel_t' HB.out HP4.out)) (fun _ _ h => h) (fun _ h => h.elim) (fun _ _ => trivial) HP4.out HP4.out.size (by have := HSZ.out; simp; omega) ?_; intro v45 w5 ho hb hg hat; rw [List.nil_append] at ho; have HO45 := Am ho; have HP5 := Am hb; clear ho hb hg hat HO43 HP4) | ((with_reducible refine gs 48 rfl ?_); refine Kd.R_lit k34 _ 34 ?hg (N := 48) ?hd (xs := [n77, n78]) (inner := [.int .i64 77, .int .i64 0, .int .i64 0, .int .i64 0, .int .i64 0, .int .i64 0, .int .i64 78, .int .i64 0, .int .i64 0, .int .i64 0, .int .i64 0, .int .i64 0]) (ok := fun _ => True) (okp := fun _ => True) ?hr ?hp (fun _ hk => hk) trivial (Below.refl _ _) (Nat.le_refl _) (by simp) ?_; (case hd => rfl); (case hg => rfl); (case hr => first | (go_simp; done) | (go_simp; rfl)); (case hp => exact two34 _ _ _); intro v48 w6 ho hb hg_ hnew_; obtain ⟨A48, c48, rfl⟩ := Kd.R_slice ho; have HO48 := Am (Kd.R_reads' ho).2.2; replace HO45 := Am (Kd.R_below HO45.out hb); replace HP5 := Am (bel_t' HP5.out hb); clear ho hb hg_ hnew_) | ((with_reducible refine gate_builtin (b := .append) (xs := #[.tmp 45, .tmp 48]) rfl ?_); at_builtin; refine Kd.R_append_rows k34 (w0 := w3) w3.heap.size rfl (.tmp 45) (.tmp 48) 22 34 zN 48 rfl Try.underlying22 info34 rfl (by decide) (by omega) v45 t [n77, n78] _ _ _ (fun _ => True) (fun _ => False) rfl rfl HO45.out HO48.out (fun _ _ h => h) (fun _ h => h.elim) (fun _ _ => trivial) HP5.out HP5.out.size (by have := HSZ.out; simp; omega) ?_; intro v11 w7 ho hb hg hat; have HO11 := Am ho; have HP7 := Am hb; clear ho hb hg hat HO45 HO48 HP5; obtain ⟨g, cap, rfl, gb, gl, hgc⟩ := Kd.R_form HO11.out (by simp); have HG := Am (And.intro gb gl); obtain ⟨i34, hi34, _, _, _⟩ := info_parts info34; have hcut := cut_to (P := Try.prog) 22 34 .i64 Try.underlying22 hi34 (some ⟨g, 0, none⟩) (t ++ [n77, n78]).length cap (t.length : Int) (by omega) (by simp; omega) (Kd.R_reads' HO11.out).2.1; rw [Int.toNat_natCast, show (t ++ [n77, n78]).length = t.length + 2 from by simp] at hcut; clear hi34 gb gl hgc; have GW := Am (Nat.le_trans HB.out.size HG.out.1); have O7 := Am HP7.out.size; replace HB := Am (bel_t' HB.out HP7.out); replace HK := Am (blkB HP7.out HK.out); replace G7 := Am (Kd.R_below G7.out HP7.out); replace G9 := Am (Kd.R_below G9.out HP7.out); have HO := Am (R_between HO11.out); have CG := Am (C_front HO11.out); have HP := Am (Below.refl w7.heap.size w7); clear z0 z1; obtain ⟨z0, z1⟩ := c2_of HK.out; clear HO11 HP7))
 refine (larchlaw18_to.calls kind mir kind mir _ (to_f kind mir)).mono ?_
 rintro _ w8 ⟨rfl, hb⟩
 clear z0 z1 hcut
 have O8 := Am hb.size
 replace HB := Am (bel_t' HB.out hb)
 replace HK := Am (blkB hb HK.out)
 replace G7 := Am (Kd.R_below G7.out hb)
 replace G9 := Am (Kd.R_below G9.out hb)
 replace HO := Am (Kd.R_below HO.out hb)
 replace CG := Am (And.intro (Kd.C_below CG.out.1 hb) CG.out.2)
 clear hb
 go_wp2_with (fail)
 refine ((HDB.out _ cap _ CG.out.1 CG.out.2).2).mono ?_
 rintro _ w9 ⟨v13, rfl, ho, hb⟩
 obtain ⟨A13, c13, rfl⟩ := Kd.R_slice ho
 have RU_ := Am (Kd.R_lower (R_between ho) HB.out.size)
 have O9 := Am hb.size
 replace HB := Am (bel_t' HB.out hb)
 replace HK := Am (blkB hb HK.out)
 replace G7 := Am (Kd.R_below G7.out hb)
 replace G9 := Am (Kd.R_below G9.out hb)
 replace HO := Am (Kd.R_below HO.out hb)
 replace CG := Am (And.intro (Kd.C_below CG.out.1 hb) CG.out.2)
 have RU := RU_
 clear hb ho RU_
 obtain ⟨z0, z1⟩ := c2_of HK.out
 go_wp2_with (fail)
 refine (larchlaw18_to.calls kind mir kind mir _ (to_f kind mir)).mono ?_
 rintro _ w10 ⟨rfl, hb⟩
 clear z0 z1
 have O10 := Am hb.size
 replace HB := Am (bel_t' HB.out hb)
 replace HK := Am (blkB hb HK.out)
 replace G7 := Am (Kd.R_below G7.out hb)
 replace G9 := Am (Kd.R_below G9.out hb)
 replace RU := Am (Kd.R_below RU.out hb)
 replace HO := Am (Kd.R_below HO.out hb)
 replace CG := Am (And.intro (Kd.C_below CG.out.1 hb) CG.out.2)
 clear hb
 go_wp2_with (fail)
 refine ((HDB.out _ cap _ CG.out.1 CG.out.2).2).mono ?_
 rintro _ w11 ⟨v15, rfl, ho, hb⟩
 obtain ⟨A15, c15, rfl⟩ := Kd.R_slice ho
 have RV_ := Am (Kd.R_lower (R_between ho) HB.out.size)
 have O11 := Am hb.size
 replace HB := Am (bel_t' HB.out hb)
 replace HK := Am (blkB hb HK.out)
 replace G7 := Am (Kd.R_below G7.out hb)
 replace G9 := Am (Kd.R_below G9.out hb)
 replace RU := Am (Kd.R_below RU.out hb)
 replace HO := Am (Kd.R_below HO.out hb)
 replace CG := Am (And.intro (Kd.C_below CG.out.1 hb) CG.out.2)
 have RV := RV_
 clear hb ho RV_
 obtain ⟨z0, z1⟩ := c2_of HK.out
 go_wp2_with (fail)
 refine (larchlaw18_to.calls kind mir kind mir _ (to_f kind mir)).mono ?_
 rintro _ w12 ⟨rfl, hb⟩
 clear z0 z1
 have O12 := Am hb.size
 replace HB := Am (bel_t' HB.out hb)
 replace HK := Am (blkB hb HK.out)
 replace G7 := Am (Kd.R_below G7.out hb)
 replace G9 := Am (Kd.R_below G9.out hb)
 replace RU := Am (Kd.R_below RU.out hb)
 replace RV := Am (Kd.R_below RV.out hb)
 replace HO := Am (Kd.R_below HO.out hb)
 replace CG := Am (And.intro (Kd.C_below CG.out.1 hb) CG.out.2)
 clear hb
 go_wp2_with (fail)
 refine ((HTB.out _ cap _ CG.out.1 CG.out.2).2).mono ?_
 rintro _ w13 ⟨v17, rfl, ho, hb⟩
 obtain ⟨A17, c17, rfl⟩ := Kd.R_slice ho
 have RX_ := Am (Kd.R_lower (R_between ho) HB.out.size)
 have O13 := Am hb.size
 replace HB := Am (bel_t' HB.out hb)
 replace HK := Am (blkB hb HK.out)
 replace G7 := Am (Kd.R_below G7.out hb)
 replace G9 := Am (Kd.R_below G9.out hb)
 replace RU := Am (Kd.R_below RU.out hb)
 replace RV := Am (Kd.R_below RV.out hb)
 replace HO := Am (Kd.R_below HO.out hb)
 replace CG := Am (And.intro (Kd.C_below CG.out.1 hb) CG.out.2)
 have RX := RX_
 clear hb ho RX_
 obtain ⟨z0, z1⟩ := c2_of HK.out
 go_wp2_with (fail)
 refine (larchlaw18_to.calls kind mir kind mir _ (to_f kind mir)).mono ?_
 rintro _ w14 ⟨rfl, hb⟩
 clear z0 z1
 have O14 := Am hb.size
 replace HB := Am (bel_t' HB.out hb)
 replace HK := Am (blkB hb HK.out)
 replace G7 := Am (Kd.R_below G7.out hb)
 replace G9 := Am (Kd.R_below G9.out hb)
 replace RU := Am (Kd.R_below RU.out hb)
 replace RV := Am (Kd.R_below RV.out hb)
 replace RX := Am (Kd.R_below RX.out hb)
 replace HO := Am (Kd.R_below HO.out hb)
 replace CG := Am (And.intro (Kd.C_below CG.out.1 hb) CG.out.2)
 clear hb
 go_wp2_with (fail)
 refine ((HTB.out _ cap _ CG.out.1 CG.out.2).2).mono ?_
 rintro _ w15 ⟨v19, rfl, ho, hb⟩
 obtain ⟨A19, c19, rfl⟩ := Kd.R_slice ho
 have RY_ := Am (Kd.R_lower (R_between ho) HB.out.size)
 have O15 := Am hb.size
 replace HB := Am (bel_t' HB.out hb)
 replace HK := Am (blkB hb HK.out)
 replace G7 := Am (Kd.R_below G7.out hb)
 replace G9 := Am (Kd.R_below G9.out hb)
 replace RU := Am (Kd.R_below RU.out hb)
 replace RV := Am (Kd.R_below RV.out hb)
 replace RX := Am (Kd.R_below RX.out hb)
 replace HO := Am (Kd.R_below HO.out hb)
 replace CG := Am (And.intro (Kd.C_below CG.out.1 hb) CG.out.2)
 have RY := RY_
 clear hb ho RY_
 go_wp2_with (fail)
 refine (steps_All.calls 20 allS _ sall_f).mono ?_
 rintro _ w16 ⟨v21, rfl, ho, hb⟩
 obtain ⟨A21, c21, rfl⟩ := Kd.R_slice ho
 have RL_ := Am (Kd.R_lower (R_between ho) HB.out.size)
 have O16 := Am hb.size
 replace HB := Am (bel_t' HB.out hb)
 replace HK := Am (blkB hb HK.out)
 replace G7 := Am (Kd.R_below G7.out hb)
 replace G9 := Am (Kd.R_below G9.out hb)
 replace RU := Am (Kd.R_below RU.out hb)
 replace RV := Am (Kd.R_below RV.out hb)
 replace RX := Am (Kd.R_below RX.out hb)
 replace RY := Am (Kd.R_below RY.out hb)
 replace HO := Am (Kd.R_below HO.out hb)
 replace CG := Am (And.intro (Kd.C_below CG.out.1 hb) CG.out.2)
 have RL := RL_
 clear hb ho RL_
 go_wp2_with (fail)
 refine (steps_All.calls 20 allS _ sall_f).mono ?_
 rintro _ w17 ⟨v22, rfl, ho, hb⟩
 obtain ⟨A22, c22, rfl⟩ := Kd.R_slice ho
 have RK_ := Am (Kd.R_lower (R_between ho) HB.out.size)
 have O17 := Am hb.size
 replace HB := Am (bel_t' HB.out hb)
 replace HK := Am (blkB hb HK.out)
 replace G7 := Am (Kd.R_below G7.out hb)
 replace G9 := Am (Kd.R_below G9.out hb)
 replace RU := Am (Kd.R_below RU.out hb)
 replace RV := Am (Kd.R_below RV.out hb)
 replace RX := Am (Kd.R_below RX.out hb)
 replace RY := Am (Kd.R_below RY.out hb)
 replace RL := Am (Kd.R_below RL.out hb)
 replace HO := Am (Kd.R_below HO.out hb)
 replace CG := Am (And.intro (Kd.C_below CG.out.1 hb) CG.out.2)
 have RK := RK_
 clear hb ho RK_
 obtain ⟨z0, z1⟩ := c2_of HK.out
 go_wp2_with (fail)
 refine (larchlaw18_to.calls kind mir kind mir _ (to_f kind mir)).mono ?_
 rintro _ w18 ⟨rfl, hb⟩
 clear z0 z1
 have O18 := Am hb.size
 replace HB := Am (bel_t' HB.out hb)
 replace HK := Am (blkB hb HK.out)
 replace G7 := Am (Kd.R_below G7.out hb)
 replace G9 := Am (Kd.R_below G9.out hb)
 replace RU := Am (Kd.R_below RU.out hb)
 replace RV := Am (Kd.R_below RV.out hb)
 replace RX := Am (Kd.R_below RX.out hb)
 replace RY := Am (Kd.R_below RY.out hb)
 replace RL := Am (Kd.R_below RL.out hb)
 replace RK := Am (Kd.R_below RK.out hb)
 replace HO := Am (Kd.R_below HO.out hb)
 replace CG := Am (And.intro (Kd.C_below CG.out.1 hb) CG.out.2)
 clear hb
 go_wp2_with (fail)
 refine (HCB.out _ cap _ CG.out.1 CG.out.2).mono ?_
 rintro _ w19 ⟨rfl, hb⟩
 have O19 := Am hb.size
 replace HB := Am (bel_t' HB.out hb)
 replace HK := Am (blkB hb HK.out)
 replace G7 := Am (Kd.R_below G7.out hb)
 replace G9 := Am (Kd.R_below G9.out hb)
 replace RU := Am (Kd.R_below RU.out hb)
 replace RV := Am (Kd.R_below RV.out hb)
 replace RX := Am (Kd.R_below RX.out hb)
 replace RY := Am (Kd.R_below RY.out hb)
 replace RL := Am (Kd.R_below RL.out hb)
 replace RK := Am (Kd.R_below RK.out hb)
 replace HO := Am (Kd.R_below HO.out hb)
 replace CG := Am (And.intro (Kd.C_below CG.out.1 hb) CG.out.2)
 clear hb
 by_cases hs : 120 < t.length
 case' pos =>
  have hd : decide ((t.length : Int) ≤ 120) = false := decide_eq_false (by omega)
  clear hs
  go_wp2_with (fail)
  refine (HHB.out _ cap _ CG.out.1 CG.out.2).mono ?_
  rintro _ wz ⟨v95, rfl, ho, hb⟩
  have Oz := Am hb.size
  replace HB := Am (bel_t' HB.out hb)
  replace HK := Am (blkB hb HK.out)
  replace G7 := Am (Kd.R_below G7.out hb)
  replace G9 := Am (Kd.R_below G9.out hb)
  replace RU := Am (Kd.R_below RU.out hb)
  replace RV := Am (Kd.R_below RV.out hb)
  replace RX := Am (Kd.R_below RX.out hb)
  replace RY := Am (Kd.R_below RY.out hb)
  replace RL := Am (Kd.R_below RL.out hb)
  replace RK := Am (Kd.R_below RK.out hb)
  replace HO := Am (Kd.R_below HO.out hb)
  replace CG := Am (And.intro (Kd.C_below CG.out.1 hb) CG.out.2)
  clear hb ho
  go_wp2_with (fail)
 case' neg =>
  have hd : decide ((t.length : Int) ≤ 120) = true := decide_eq_true (by omega)
  have HS := Am hs
  clear hs
  go_wp2_with (fail)
  refine (HHB.out _ cap _ CG.out.1 CG.out.2).mono ?_
  rintro _ w20 ⟨v95, rfl, ho, hb⟩
  have O20 := Am hb.size
  replace HB := Am (bel_t' HB.out hb)
  replace HK := Am (blkB hb HK.out)
  replace G7 := Am (Kd.R_below G7.out hb)
  replace G9 := Am (Kd.R_below G9.out hb)
  replace RU := Am (Kd.R_below RU.out hb)
  replace RV := Am (Kd.R_below RV.out hb)
  replace RX := Am (Kd.R_below RX.out hb)
  replace RY := Am (Kd.R_below RY.out hb)
  replace RL := Am (Kd.R_below RL.out hb)
  replace RK := Am (Kd.R_below RK.out hb)
  replace HO := Am (Kd.R_below HO.out hb)
  replace CG := Am (And.intro (Kd.C_below CG.out.1 hb) CG.out.2)
  clear hb ho
  go_wp2_with (fail)
  refine (spots_just t HS.out _ cap _ CG.out.1 CG.out.2).mono ?_
  rintro _ wz ⟨⟨v100, rfl⟩, hb⟩
  have Oy := Am hb.size
  replace HB := Am (bel_t' HB.out hb)
  replace HK := Am (blkB hb HK.out)
  replace G7 := Am (Kd.R_below G7.out hb)
  replace G9 := Am (Kd.R_below G9.out hb)
  replace RU := Am (Kd.R_below RU.out hb)
  replace RV := Am (Kd.R_below RV.out hb)
  replace RX := Am (Kd.R_below RX.out hb)
  replace RY := Am (Kd.R_below RY.out hb)
  replace RL := Am (Kd.R_below RL.out hb)
  replace RK := Am (Kd.R_below RK.out hb)
  replace HO := Am (Kd.R_below HO.out hb)
  replace CG := Am (And.intro (Kd.C_below CG.out.1 hb) CG.out.2)
  clear hb
  clear HS
  go_wp2_with (fail)
 all_goals
  clear hd
  refine (larchref18_SameTable.calls kT _ _ t _ _ t true _ CG.out.1 CG.out.2 (Kd.C_below HR0.out HB.out) HC0.out HT.out).mono ?_
  rintro _ wa ⟨rfl, hb⟩
  replace hb := hb.below
  have Oa := Am hb.size
  replace HB := Am (bel_t' HB.out hb)
  replace HK := Am (blkB hb HK.out)
  replace G7 := Am (Kd.R_below G7.out hb)
  replace G9 := Am (Kd.R_below G9.out hb)
  replace RU := Am (Kd.R_below RU.out hb)
  replace RV := Am (Kd.R_below RV.out hb)
  replace RX := Am (Kd.R_below RX.out hb)
  replace RY := Am (Kd.R_below RY.out hb)
  replace RL := Am (Kd.R_below RL.out hb)
  replace RK := Am (Kd.R_below RK.out hb)
  replace HO := Am (Kd.R_below HO.out hb)
  replace CG := Am (And.intro (Kd.C_below CG.out.1 hb) CG.out.2)
  clear hb
  obtain ⟨y0, y1⟩ := tail_cells HO.out
  have q1 : ((t.length : Int) < ((t.length + 2 : Nat) : Int)) = True := eq_true (by omega)
  have q2 : ((t.length : Int) + 1 < ((t.length + 2 : Nat) : Int)) = True := eq_true (by omega)
  have q3 : (0 ≤ (t.length : Int)) = True := eq_true (by omega)
  have q4 : (0 ≤ (t.length : Int) + 1) = True := eq_true (by omega)
  have q5 : (t.length : Int) ≤ 2932031007317 := by have := HSZ.out; omega
  have q6 : (LD.length : Int) ≤ 1000000 := by have := HL2.out; omega
  have q8 : (allS.length : Int) ≤ 21 := by decide
  have q7 : (LT.length : Int) ≤ 10000 := by have := HL4.out; omega
  go_wp2_with (fail)
  have HO' : Aside0 (Kd.R k34 34 wa w.heap.size (fun k => w3.heap.size ≤ k ∧ k < w7.heap.size) (.slice (some ⟨g, 0, none⟩) (t.length + 2) cap) (t ++ [n77, n78])) := ⟨by
   have h := Kd.R_lower HO.out (show w.heap.size ≤ w3.heap.size from Nat.le_trans O1.out (Nat.le_trans O2.out O3.out))
   rwa [show (t ++ [n77, n78]).length = t.length + 2 from by simp] at h⟩
  have OO := Am (And.intro O1.out (And.intro O2.out (And.intro O3.out (And.intro O7.out (And.intro O8.out (And.intro O9.out (And.intro O10.out (And.intro O11.out (And.intro O12.out (And.intro O13.out (And.intro O14.out (And.intro O15.out (And.intro O16.out O17.out)))))))))))))
  clear O1 O2 O3 O7 O8 O9 O10 O11 O12 O13 O14 O15 O16 O17
  clear y0 y1 q1 q2 q4 HO CG HK HR0 HC0 HSZ HDB HCB HHB HTB HT
  go_loopg [126] (t.length + 1) (fun kq v126 w' => ∃ i : Nat, v126 = .int .i64 i ∧ Aside0 (i ≤ t.length ∧ kq + i = t.length + 1) ∧ (∃ xs', Aside0 (k34.R 34 w' w.heap.size (fun k => w3.heap.size ≤ k ∧ k < w7.heap.size) (.slice (some ⟨g, 0, none⟩) (t.length + 2) cap) xs')) ∧ Aside0 (Kept wa w' (OB (.slice (some ⟨g, 0, none⟩) (t.length + 2) cap))) ∧ Aside0 (Below w.heap.size w w'))
  case atStart => exact ⟨0, rfl, ⟨Nat.zero_le _, rfl⟩, ⟨_, HO'⟩, ⟨Kept.refl _ _⟩, HB⟩
  case round =>
   clear HO' HB
   obtain ⟨i, rfl, HI_, ⟨xs', HX⟩, HQ, HB⟩ := hrel
   by_cases hlt : i < t.length
   ·have hlt0 := hlt
    clear hlt0
    obtain ⟨⟨u0, x0⟩, ⟨u1, x1⟩, ⟨u2, x2⟩, ⟨u3, x3⟩, ⟨u4, x4⟩, ⟨u5, x5⟩, f0, f1, f2, f3, f4, f5, hset⟩ := put34 HX.out (show i < t.length + 2 by omega) ⟨0, 0, -1, 0, 0, 0⟩
    have HSET := Am hset
    have HLT := Am hlt
    have r1 : (0 ≤ (i : Int)) = True := eq_true (by omega)
    have r2 : ((i : Int) < (t.length : Int)) = True := eq_true (by omega)
    have r3 : decide ((i : Int) < (t.length : Int)) = true := decide_eq_true (by omega)
    have r4 : decide (i < t.length) = true := decide_eq_true (by omega)
    have r5 : (i : Int) ≤ 2932031007317 := by omega
    clear hset hlt
    obtain ⟨k1, rfl⟩ : ∃ x, gk = x + 1 := ⟨gk - 1, by have := HI_.out; have := HLT.out; omega⟩
    go_wp2
    go_roundg k1
    case measure => have := HI_.out; omega
    case rel => exact ⟨i + 1, rfl, ⟨by have := HI_.out; have := HLT.out; omega⟩, ⟨_, ⟨HSET.out.1⟩⟩, ⟨Kept.of_grown HSET.out.2 HQ.out (fun k hk => .inl (OB_at hk))⟩, ⟨grown_below HSET.out.2 HB.out (GW.out)⟩⟩
   ·obtain rfl : i = t.length := by have := HI_.out; omega
    have r3 : decide ((t.length : Int) < (t.length : Int)) = false := decide_eq_false (by omega)
    have r4 : decide (t.length < t.length) = false := decide_eq_false (by omega)
    clear hlt HI_
    replace G7 := Am (Kd.R_kept G7.out HQ.out (fun k hk he => by have h1 := HX.out.1 k he; dsimp only at h1 hk; have := OO.out; omega))
    replace G9 := Am (Kd.R_kept G9.out HQ.out (fun k hk he => by have h1 := HX.out.1 k he; dsimp only at h1 hk; have := OO.out; omega))
    replace RU := Am (Kd.R_kept RU.out HQ.out (fun k hk he => by have h1 := HX.out.1 k he; dsimp only at h1 hk; have := OO.out; omega))
    replace RV := Am (Kd.R_kept RV.out HQ.out (fun k hk he => by have h1 := HX.out.1 k he; dsimp only at h1 hk; have := OO.out; omega))
    replace RX := Am (Kd.R_kept RX.out HQ.out (fun k hk he => by have h1 := HX.out.1 k he; dsimp only at h1 hk; have := OO.out; omega))
    replace RY := Am (Kd.R_kept RY.out HQ.out (fun k hk he => by have h1 := HX.out.1 k he; dsimp only at h1 hk; have := OO.out; omega))
    replace RL := Am (Kd.R_kept RL.out HQ.out (fun k hk he => by have h1 := HX.out.1 k he; dsimp only at h1 hk; have := OO.out; omega))
    replace RK := Am (Kd.R_kept RK.out HQ.out (fun k hk he => by have h1 := HX.out.1 k he; dsimp only at h1 hk; have := OO.out; omega))
    clear HX HQ r3 r4
    generalize wr = wd at *
    go_wp2
    go_loopg [136] (LD.length + 1) (fun kq v136 w' => ∃ i : Nat, v136 = .int .i64 i ∧ Aside0 (i ≤ LD.length ∧ kq + i = LD.length + 1) ∧ (∃ xs', Aside0 (k34.R 34 w' w.heap.size (fun k => w8.heap.size ≤ k ∧ k < w9.heap.size) (.slice A13 LD.length c13) xs')) ∧ Aside0 (Kept wd w' (OB (.slice A13 LD.length c13))) ∧ Aside0 (Below w.heap.size w w'))
    case atStart => exact ⟨0, rfl, ⟨Nat.zero_le _, rfl⟩, ⟨_, RU⟩, ⟨Kept.refl _ _⟩, HB⟩
    case round =>
     clear RU HB
     obtain ⟨i, rfl, HI_, ⟨xs', HX⟩, HQ, HB⟩ := hrel
     by_cases hlt : i < LD.length
     ·obtain ⟨gv, rfl, hgv⟩ := R_at HX.out (show 0 < LD.length by omega)
      have HGV := Am hgv
      clear hgv
      obtain ⟨⟨u0, x0⟩, ⟨u1, x1⟩, ⟨u2, x2⟩, ⟨u3, x3⟩, ⟨u4, x4⟩, ⟨u5, x5⟩, f0, f1, f2, f3, f4, f5, hset⟩ := put34 HX.out (show i < LD.length by omega) ⟨0, 0, -2, 0, 0, 0⟩
      have HSET := Am hset
      have HLT := Am hlt
      have r1 : (0 ≤ (i : Int)) = True := eq_true (by omega)
      have r2 : ((i : Int) < (LD.length : Int)) = True := eq_true (by omega)
      have r3 : decide ((i : Int) < (LD.length : Int)) = true := decide_eq_true (by omega)
      have r4 : decide (i < LD.length) = true := decide_eq_true (by omega)
      have r5 : (i : Int) ≤ 2932031007317 := by omega
      clear hset hlt
      obtain ⟨k1, rfl⟩ : ∃ x, gk = x + 1 := ⟨gk - 1, by have := HI_.out; have := HLT.out; omega⟩
      go_wp2
      go_roundg k1
      case measure => have := HI_.out; omega
      case rel => exact ⟨i + 1, rfl, ⟨by have := HI_.out; have := HLT.out; omega⟩, ⟨_, ⟨HSET.out.1⟩⟩, ⟨Kept.of_grown HSET.out.2 HQ.out (fun k hk => .inl (OB_at hk))⟩, ⟨grown_below HSET.out.2 HB.out (by have h1 := HGV.out; (try dsimp only at h1); have := OO.out; omega)⟩⟩
     ·obtain rfl : i = LD.length := by have := HI_.out; omega
      have r3 : decide ((LD.length : Int) < (LD.length : Int)) = false := decide_eq_false (by omega)
      have r4 : decide (LD.length < LD.length) = false := decide_eq_false (by omega)
      clear hlt HI_
      replace G7 := Am (Kd.R_kept G7.out HQ.out (fun k hk he => by have h1 := HX.out.1 k he; dsimp only at h1 hk; have := OO.out; omega))
      replace G9 := Am (Kd.R_kept G9.out HQ.out (fun k hk he => by have h1 := HX.out.1 k he; dsimp only at h1 hk; have := OO.out; omega))
      replace RV := Am (Kd.R_kept RV.out HQ.out (fun k hk he => by have h1 := HX.out.1 k he; dsimp only at h1 hk; have := OO.out; omega))
      replace RX := Am (Kd.R_kept RX.out HQ.out (fun k hk he => by have h1 := HX.out.1 k he; dsimp only at h1 hk; have := OO.out; omega))
      replace RY := Am (Kd.R_kept RY.out HQ.out (fun k hk he => by have h1 := HX.out.1 k he; dsimp only at h1 hk; have := OO.out; omega))
      replace RL := Am (Kd.R_kept RL.out HQ.out (fun k hk he => by have h1 := HX.out.1 k he; dsimp only at h1 hk; have := OO.out; omega))
      replace RK := Am (Kd.R_kept RK.out HQ.out (fun k hk he => by have h1 := HX.out.1 k he; dsimp only at h1 hk; have := OO.out; omega))
      clear HQ r3 r4
      go_wp2_with (first | ((with_reducible refine gs 147 rfl ?_); refine Kd.R_lit k34 _ 34 ?hg (N := 147) ?hd (xs := [z34, z34]) (inner := [.int .i64 0, .int .i64 0, .int .i64 0, .int .i64 0, .int .i64 0, .int .i64 0, .int .i64 0, .int .i64 0, .int .i64 0, .int .i64 0, .int .i64 0, .int .i64 0]) (ok := fun _ => True) (okp := fun _ => True) ?hr ?hp (fun _ hk => hk) trivial (Below.refl _ _) (Nat.le_refl _) (by simp) ?_; (case hd => rfl); (case hg => rfl); (case hr => first | (go_simp; done) | (go_simp; rfl)); (case hp => exact two00 _ _ _); intro v147 wm ho hb hg_ hnew_; obtain ⟨A147, c147, rfl⟩ := Kd.R_slice ho; have HO147 := Am (Kd.R_reads' ho).2.2; replace G7 := Am (Kd.R_below G7.out hb); replace G9 := Am (Kd.R_below G9.out hb); replace RV := Am (Kd.R_below RV.out hb); replace RX := Am (Kd.R_below RX.out hb); replace RY := Am (Kd.R_below RY.out hb); replace RL := Am (Kd.R_below RL.out hb); replace RK := Am (Kd.R_below RK.out hb); replace HX := Am (Kd.R_below HX.out hb); replace HB := Am (bel_t' HB.out hb); clear ho hb hg_ hnew_) | ((with_reducible refine gate_builtin (b := .append) (xs := #[.tmp 144, .tmp 147]) rfl ?_); at_builtin; refine Kd.R_append_rows k34 (w0 := w) w.heap.size rfl (.tmp 144) (.tmp 147) 22 34 zN 48 rfl Try.underlying22 info34 rfl (by decide) (by omega) (.slice A13 LD.length c13) _ [z34, z34] _ _ _ (fun _ => True) (fun _ => False) rfl rfl (Kd.R_mono HX.out (fun _ _ => trivial)) HO147.out (fun _ _ h => h) (fun _ h => h.elim) (fun _ _ => trivial) HB.out HB.out.size (by have := HL2.out; have := (Kd.R_reads' HX.out).1; simp; omega) ?_; intro v148 we ho hb hg hat; have HGR := Am hg; replace G7 := Am (Kd.R_kept G7.out (Kept.of_grown HGR.out (Kept.refl _ (OB (.slice A13 LD.length c13))) (fun k hk => .inl hk)) (fun k hk he => by have h1 := HX.out.1 k he; dsimp only at h1 hk; have := OO.out; omega)); replace G9 := Am (Kd.R_kept G9.out (Kept.of_grown HGR.out (Kept.refl _ (OB (.slice A13 LD.length c13))) (fun k hk => .inl hk)) (fun k hk he => by have h1 := HX.out.1 k he; dsimp only at h1 hk; have := OO.out; omega)); replace RV := Am (Kd.R_kept RV.out (Kept.of_grown HGR.out (Kept.refl _ (OB (.slice A13 LD.length c13))) (fun k hk => .inl hk)) (fun k hk he => by have h1 := HX.out.1 k he; dsimp only at h1 hk; have := OO.out; omega)); replace RX := Am (Kd.R_kept RX.out (Kept.of_grown HGR.out (Kept.refl _ (OB (.slice A13 LD.length c13))) (fun k hk => .inl hk)) (fun k hk he => by have h1 := HX.out.1 k he; dsimp only at h1 hk; have := OO.out; omega)); replace RY := Am (Kd.R_kept RY.out (Kept.of_grown HGR.out (Kept.refl _ (OB (.slice A13 LD.length c13))) (fun k hk => .inl hk)) (fun k hk he => by have h1 := HX.out.1 k he; dsimp only at h1 hk; have := OO.out; omega)); replace RL := Am (Kd.R_kept RL.out (Kept.of_grown HGR.out (Kept.refl _ (OB (.slice A13 LD.length c13))) (fun k hk => .inl hk)) (fun k hk he => by have h1 := HX.out.1 k he; dsimp only at h1 hk; have := OO.out; omega)); replace RK := Am (Kd.R_kept RK.out (Kept.of_grown HGR.out (Kept.refl _ (OB (.slice A13 LD.length c13))) (fun k hk => .inl hk)) (fun k hk he => by have h1 := HX.out.1 k he; dsimp only at h1 hk; have := OO.out; omega)); replace HB := Am hb; clear ho hb hg hat HO147 HX HGR))
      go_loopg [151] (LT.length + 1) (fun kq v151 w' => ∃ i : Nat, v151 = .int .i64 i ∧ Aside0 (i ≤ LT.length ∧ kq + i = LT.length + 1) ∧ (∃ xs', Aside0 ((Kd.int .i64).R 3 w' w.heap.size (fun k => w12.heap.size ≤ k ∧ k < w13.heap.size) (.slice A17 LT.length c17) xs')) ∧ Aside0 (Kept we w' (OB (.slice A17 LT.length c17))) ∧ Aside0 (Below w.heap.size w w'))
      case atStart => exact ⟨0, rfl, ⟨Nat.zero_le _, rfl⟩, ⟨_, RX⟩, ⟨Kept.refl _ _⟩, HB⟩
      case round =>
       clear RX HB
       obtain ⟨i, rfl, HI_, ⟨xs', HX⟩, HQ, HB⟩ := hrel
       by_cases hlt : i < LT.length
       ·obtain ⟨gv, rfl, hgv⟩ := R_at HX.out (show 0 < LT.length by omega)
        have HGV := Am hgv
        clear hgv
        obtain ⟨⟨u0, x0⟩, f0, hset⟩ := putI HX.out (show i < LT.length by omega) (-3)
        have HSET := Am hset
        have HLT := Am hlt
        have r1 : (0 ≤ (i : Int)) = True := eq_true (by omega)
        have r2 : ((i : Int) < (LT.length : Int)) = True := eq_true (by omega)
        have r3 : decide ((i : Int) < (LT.length : Int)) = true := decide_eq_true (by omega)
        have r4 : decide (i < LT.length) = true := decide_eq_true (by omega)
        have r5 : (i : Int) ≤ 2932031007317 := by omega
        clear hset hlt
        obtain ⟨k1, rfl⟩ : ∃ x, gk = x + 1 := ⟨gk - 1, by have := HI_.out; have := HLT.out; omega⟩
        go_wp2
        go_roundg k1
        case measure => have := HI_.out; omega
        case rel => exact ⟨i + 1, rfl, ⟨by have := HI_.out; have := HLT.out; omega⟩, ⟨_, ⟨HSET.out.1⟩⟩, ⟨Kept.of_grown HSET.out.2 HQ.out (fun k hk => .inl (OB_at hk))⟩, ⟨grown_below HSET.out.2 HB.out (by have h1 := HGV.out; (try dsimp only at h1); have := OO.out; omega)⟩⟩
       ·obtain rfl : i = LT.length := by have := HI_.out; omega
        have r3 : decide ((LT.length : Int) < (LT.length : Int)) = false := decide_eq_false (by omega)
        have r4 : decide (LT.length < LT.length) = false := decide_eq_false (by omega)
        clear hlt HI_
        replace G7 := Am (Kd.R_kept G7.out HQ.out (fun k hk he => by have h1 := HX.out.1 k he; dsimp only at h1 hk; have := OO.out; omega))
        replace G9 := Am (Kd.R_kept G9.out HQ.out (fun k hk he => by have h1 := HX.out.1 k he; dsimp only at h1 hk; have := OO.out; omega))
        replace RV := Am (Kd.R_kept RV.out HQ.out (fun k hk he => by have h1 := HX.out.1 k he; dsimp only at h1 hk; have := OO.out; omega))
        replace RY := Am (Kd.R_kept RY.out HQ.out (fun k hk he => by have h1 := HX.out.1 k he; dsimp only at h1 hk; have := OO.out; omega))
        replace RL := Am (Kd.R_kept RL.out HQ.out (fun k hk he => by have h1 := HX.out.1 k he; dsimp only at h1 hk; have := OO.out; omega))
        replace RK := Am (Kd.R_kept RK.out HQ.out (fun k hk he => by have h1 := HX.out.1 k he; dsimp only at h1 hk; have := OO.out; omega))
        clear HX HQ r3 r4
        generalize wr = wf at *
        go_wp2
        go_loopg [160] (allS.length + 1) (fun kq v160 w' => ∃ i : Nat, v160 = .int .i64 i ∧ Aside0 (i ≤ allS.length ∧ kq + i = allS.length + 1) ∧ (∃ xs', Aside0 (k62.R 62 w' w.heap.size (fun k => w15.heap.size ≤ k ∧ k < w16.heap.size) (.slice A21 allS.length c21) xs')) ∧ Aside0 (Kept wf w' (OB (.slice A21 allS.length c21))) ∧ Aside0 (Below w.heap.size w w'))
        case atStart => exact ⟨0, rfl, ⟨Nat.zero_le _, rfl⟩, ⟨_, RL⟩, ⟨Kept.refl _ _⟩, HB⟩
        case round =>
         clear RL HB
         obtain ⟨i, rfl, HI_, ⟨xs', HX⟩, HQ, HB⟩ := hrel
         by_cases hlt : i < allS.length
         ·obtain ⟨gv, rfl, hgv⟩ := R_at HX.out (show 0 < allS.length by omega)
          have HGV := Am hgv
          clear hgv
          obtain ⟨⟨u0, x0⟩, ⟨u1, x1⟩, f0, f1, hset⟩ := put62 HX.out (show i < allS.length by omega) ⟨99, false⟩
          have HSET := Am hset
          have HLT := Am hlt
          have r1 : (0 ≤ (i : Int)) = True := eq_true (by omega)
          have r2 : ((i : Int) < (allS.length : Int)) = True := eq_true (by omega)
          have r3 : decide ((i : Int) < (allS.length : Int)) = true := decide_eq_true (by omega)
          have r4 : decide (i < allS.length) = true := decide_eq_true (by omega)
          have r5 : (i : Int) ≤ 2932031007317 := by omega
          clear hset hlt
          obtain ⟨k1, rfl⟩ : ∃ x, gk = x + 1 := ⟨gk - 1, by have := HI_.out; have := HLT.out; omega⟩
          go_wp2
          go_roundg k1
          case measure => have := HI_.out; omega
          case rel => exact ⟨i + 1, rfl, ⟨by have := HI_.out; have := HLT.out; omega⟩, ⟨_, ⟨HSET.out.1⟩⟩, ⟨Kept.of_grown HSET.out.2 HQ.out (fun k hk => .inl (OB_at hk))⟩, ⟨grown_below HSET.out.2 HB.out (by have h1 := HGV.out; (try dsimp only at h1); have := OO.out; omega)⟩⟩
         ·obtain rfl : i = allS.length := by have := HI_.out; omega
          have r3 : decide ((allS.length : Int) < (allS.length : Int)) = false := decide_eq_false (by omega)
          have r4 : decide (allS.length < allS.length) = false := decide_eq_false (by omega)
          clear hlt HI_
          replace G7 := Am (Kd.R_kept G7.out HQ.out (fun k hk he => by have h1 := HX.out.1 k he; dsimp only at h1 hk; have := OO.out; omega))
          replace G9 := Am (Kd.R_kept G9.out HQ.out (fun k hk he => by have h1 := HX.out.1 k he; dsimp only at h1 hk; have := OO.out; omega))
          replace RV := Am (Kd.R_kept RV.out HQ.out (fun k hk he => by have h1 := HX.out.1 k he; dsimp only at h1 hk; have := OO.out; omega))
          replace RY := Am (Kd.R_kept RY.out HQ.out (fun k hk he => by have h1 := HX.out.1 k he; dsimp only at h1 hk; have := OO.out; omega))
          replace RK := Am (Kd.R_kept RK.out HQ.out (fun k hk he => by have h1 := HX.out.1 k he; dsimp only at h1 hk; have := OO.out; omega))
          clear HX HQ r3 r4
          go_wp2_with (fail)
          refine (larchref18_SameTable.calls kD _ _ LD _ _ LD true _ (Kd.R_reads' RV.out).2.2 (Kd.R_reads' RV.out).2.1 (Kd.R_reads' G7.out).2.2 (Kd.R_reads' G7.out).2.1 HD.out).mono ?_
          rintro _ wg ⟨rfl, hb⟩
          replace hb := hb.below
          replace HB := Am (bel_t' HB.out hb)
          replace G9 := Am (Kd.R_below G9.out hb)
          replace RY := Am (Kd.R_below RY.out hb)
          replace RK := Am (Kd.R_below RK.out hb)
          clear hb
          go_wp2_with (fail)
          refine (larchref02_Ints.calls 10001 _ _ LT _ _ LT true _ (Kd.R_reads' RY.out).2.2 (Kd.R_reads' RY.out).2.1 (Kd.R_reads' G9.out).2.2 (Kd.R_reads' G9.out).2.1 HI.out).mono ?_
          rintro _ wh ⟨rfl, hb⟩
          replace hb := hb.below
          replace HB := Am (bel_t' HB.out hb)
          replace RK := Am (Kd.R_below RK.out hb)
          clear hb
          go_wp2_with (fail)
          refine (larchlaw18_from.calls 40 _ _ allS allM _ (Kd.R_reads' RK.out).2.2 (Kd.R_reads' RK.out).2.1 fromS_f).mono ?_
          rintro _ wi ⟨v178, rfl, ho, hb⟩
          obtain ⟨A178, c178, rfl⟩ := Kd.R_slice ho
          have RF := Am ho
          clear ho
          replace HB := Am (bel_t' HB.out hb)
          clear hb
          go_wp2_with (fail)
          refine (larchref18_All.calls 20 allM _ all_f).mono ?_
          rintro _ wj ⟨v179, rfl, ho, hb⟩
          obtain ⟨A179, c179, rfl⟩ := Kd.R_slice ho
          have RM := Am ho
          clear ho
          replace HB := Am (bel_t' HB.out hb)
          replace RF := Am (Kd.R_below RF.out hb)
          clear hb
          go_wp2_with (fail)
          refine (larchref18_SameMoves.calls 40 _ _ allM _ _ allM true _ (Kd.R_reads' RF.out).2.2 (Kd.R_reads' RF.out).2.1 (Kd.R_reads' RM.out).2.2 (Kd.R_reads' RM.out).2.1 sameM_f).mono ?_
          rintro _ wk ⟨rfl, hb⟩
          replace hb := hb.below
          replace HB := Am (bel_t' HB.out hb)
          clear hb
          go_wp2
          go_ret
          exact ⟨rfl, HB.out⟩
end Go.Proofs.Ytgleaefhflamnaa.T
