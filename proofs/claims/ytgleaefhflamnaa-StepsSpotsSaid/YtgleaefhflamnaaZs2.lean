/- A part of the proof: see YtgleaefhflamnaaLawStepsSpots. -/
import Derived.Test.YtgleaefhflamnaaZs1
set_option linter.unusedVariables false
set_option linter.unusedSimpArgs false
namespace Go.Proofs.Ytgleaefhflamnaa.T
open Go.RowKit Go.Proofs.YtgleaefhflamnaaW.PrintWords Go.Proofs.YtgleaefhflamnaaW.PrintLast Go.Proofs.YtgleaefhflamnaaW.PrintMore
attribute [local go_sem] max2_int min2_int max_two min_two max_three min_three max_four min_four   -- for this text's walks alone
set_option linter.unusedVariables false
set_option linter.unusedSimpArgs false
attribute [local go_sem high] eqA34
def table_crowned.f (l0 : List (S34)) (a1_0 : Int) (a1_1 : Int) (a1_2 : Int) (a1_3 : Int) (a1_4 : Int) (a1_5 : Int) : Option (Bool) := (table_isLeaf.f a1_0 a1_1 a1_2 a1_3 a1_4 a1_5).bind fun t137 => (if t137 = true then (some false) else (if a1_1 = 1 then (if a1_2 = 1 then (if 0 ≤ a1_5 then (if a1_5 < (l0.length : Int) then ((table_sentinel.f).bind fun bt139 => (some (((rd_T34 l0 a1_5).f0) == bt139.1 && (((rd_T34 l0 a1_5).f1) == bt139.2.1 && (((rd_T34 l0 a1_5).f2) == bt139.2.2.1 && (((rd_T34 l0 a1_5).f3) == bt139.2.2.2.1 && (((rd_T34 l0 a1_5).f4) == bt139.2.2.2.2.1 && (((rd_T34 l0 a1_5).f5) == bt139.2.2.2.2.2)))))))) else (none)) else (none)) else (some false)) else (some false)))
def table_crowned.T1 : Bool × List (List Nat × List Nat) := (true, [([], []), ([0], [0]), ([1], [1]), ([2, 1], [2]), ([3], [3]), ([4, 3], [3, 4]), ([5, 3], [3, 5]), ([3, 6], [3, 6]), ([7, 3], [7]), ([8], [8]), ([9, 8], [8, 9]), ([10, 8], [8, 10]), ([8, 11], [8, 11]), ([12, 8], [12]), ([13], [13]), ([13], [13]), ([15, 13], [13, 15]), ([14, 16, 13], [13, 14, 16]), ([17, 13], [13, 17]), ([13, 13], [13]), ([18, 19, 13], [13, 18, 19]), ([13, 20], [13, 20]), ([21, 19, 0, 1, 2, 3, 4, 5, 6, 7, 8, 9, 10, 11, 12, 13, 14, 15, 16, 17, 18, 19, 20, 21], [21])])
def table_crowned.B1 : List Nat := [0, 1, 3, 7, 15, 31, 63, 127, 255, 511, 1023, 2047, 4095, 8191, 16383, 16383, 49151, 131071, 262143, 16383, 1048575, 2097151, 4194303]
theorem table_crowned.tab1 : rtab .any (opsOf Try.f42 1) = table_crowned.T1 := by kernel_rfl
theorem table_crowned.bits1 : waitsOk table_crowned.T1.2 table_crowned.B1 = true := by kernel_rfl
theorem crh (a b c : Bool) : (a = false) ∨ (a = true ∧ b = false) ∨ (a = true ∧ b = true ∧ c = false) ∨ (a = true ∧ b = true ∧ c = true) := by
 cases a <;> cases b <;> cases c <;> simp
theorem crowned_inv {l0 : List S34} {n0 n1 n2 n3 n4 n5 : Int} {r : Bool} (h : table_crowned.f l0 n0 n1 n2 n3 n4 n5 = some r) : ∃ b, table_isLeaf.f n0 n1 n2 n3 n4 n5 = some b ∧ (b = true → r = false) ∧ (b = false → (n1 == 1) = false → r = false) ∧ (b = false → (n1 == 1) = true → (n2 == 1) = false → r = false) ∧
  (b = false → (n1 == 1) = true → (n2 == 1) = true → (0 ≤ n5 ∧ n5 < l0.length) ∧ ((rd_T34 l0 n5).f0 == 0 && ((rd_T34 l0 n5).f1 == 1 && ((rd_T34 l0 n5).f2 == 1 && ((rd_T34 l0 n5).f3 == 0 && ((rd_T34 l0 n5).f4 == -1 && (rd_T34 l0 n5).f5 == -1))))) = r) := by
 unfold table_crowned.f at h
 obtain ⟨b, hb, h⟩ := Option.bind_eq_some_iff.1 h
 refine ⟨b, hb, ?_, ?_, ?_, ?_⟩
 ·rintro rfl
  exact (Option.some.inj h).symm
 ·intro h0 h1
  rw [h0, if_neg (by simp), if_neg (by simpa using h1)] at h
  exact (Option.some.inj h).symm
 ·intro h0 h1 h2
  rw [h0, if_neg (by simp), if_pos (by simpa using h1), if_neg (by simpa using h2)] at h
  exact (Option.some.inj h).symm
 ·intro h0 h1 h2
  rw [h0, if_neg (by simp), if_pos (by simpa using h1), if_pos (by simpa using h2)] at h
  by_cases h3 : 0 ≤ n5
  ·rw [if_pos h3] at h
   by_cases h4 : n5 < (l0.length : Int)
   ·rw [if_pos h4] at h
    exact ⟨⟨h3, h4⟩, Option.some.inj h⟩
   ·rw [if_neg h4] at h; exact absurd h (by simp)
  ·rw [if_neg h3] at h; exact absurd h (by simp)
theorem crb {w w1 w2 : World} (h : Below w.heap.size w w1) (hb : Below w1.heap.size w1 w2) : Below w.heap.size w w2 := h.trans (hb.mono h.size)
theorem crl {w : World} {b : Nat} {o : Obj} (h : w.heap[b]? = some o) : b < w.heap.size := (Array.getElem?_eq_some_iff.1 h).1
theorem crc {W : World} {g : Nat} {t : TypeId} {a b c d e f : Value} (h : W.heap[g]? = some (.cells #[a, b, c, d, e, f] t (0, 0))) : W.cell? ⟨g, 0, none⟩ = some a ∧ W.cell? ⟨g, 1, none⟩ = some b ∧ W.cell? ⟨g, 2, none⟩ = some c ∧ W.cell? ⟨g, 3, none⟩ = some d ∧ W.cell? ⟨g, 4, none⟩ = some e ∧ W.cell? ⟨g, 5, none⟩ = some f := by
 simp [World.cell?, h]
set_option maxHeartbeats 8000000 in
set_option maxRecDepth 100000 in
theorem table_crowned.calls (A0 : Option Addr) (c0 : Nat) (l0 : List S34) (n0 n1 n2 n3 n4 n5 : Int) (r : Bool) (w : World) (hr0 : Kd.C k34 w A0 l0.length l0) (hc0 : l0.length ≤ c0) (h : table_crowned.f l0 n0 n1 n2 n3 n4 n5 = some r) :
  Calls Try.prog 42 #[.slice A0 l0.length c0, .agg #[.int .i64 n0, .int .i64 n1, .int .i64 n2, .int .i64 n3, .int .i64 n4, .int .i64 n5]] w fun e w' => e = .returned (.bool r) ∧ Below w.heap.size w w' := by
 have hu34 := Try.underlying34
 obtain ⟨b, hb, e0, e1, e2, e3⟩ := crowned_inv h
 have HR0 := Am hr0
 have HC0 := Am hc0
 have HL := Am hb
 clear hr0 hc0 h hb
 rcases crh (!b) (n1 == 1) (n2 == 1) with h0 | ⟨h0, h1⟩ | ⟨h0, h1, h2⟩ | ⟨h0, h1, h2⟩
 rotate_left 3
 ·obtain rfl : b = false := by simpa using h0
  obtain ⟨⟨q0, q1⟩, e4⟩ := e3 rfl h1 h2
  have E4 := Am e4
  obtain ⟨ad, ea, x0, x1, x2, x3, x4, x5⟩ := at_T34 HR0.out n5 q0 q1
  subst ea
  have t : ∀ {W} {a : Addr} {v : Value}, Below w.heap.size w W → w.cell? a = some v → W.cell? a = some v := fun hb h => (hb.cell (blt w _ h)).trans h
  have HX := fun {W} (hb : Below w.heap.size w W) => And.intro (t hb x0) (And.intro (t hb x1) (And.intro (t hb x2) (And.intro (t hb x3) (And.intro (t hb x4) (t hb x5)))))
  have p0 := eq_true q0
  have p1 := eq_true q1
  clear e0 e1 e2 e3 e4 x0 x1 x2 x3 x4 x5 q0 q1
  go_enter Try.func42, Try.ntmps42
  go_wp2
  refine start_ (n := 23) (S := fun W' => Below w.heap.size w W' ∧ W'.heap[w.heap.size]? = some (.cells #[.int .i64 n0, .int .i64 n1, .int .i64 n2, .int .i64 n3, .int .i64 n4, .int .i64 n5] 34 (0, 0))) (ds := []) #[false, false, false, false, false, false, false, false, false, false, false, false, false, false, false, false, false, false, false, false, false, false, false] (by kernel_rfl) rfl rfl ⟨below_drew (ba (Below.refl _ _) _), heap_alloc_new w _⟩ (fun hHeld => ?_)
  refine ta 0 5 hHeld (hy := by intro w' hs; obtain ⟨y0, y1, y2, y3, y4, y5⟩ := crc hs.2; go_simp; with_reducible rfl) ?_
  refine one_ (i := 1) (N := some 6) #[true, true, false, false, false, false, false, false, false, false, false, false, false, false, false, false, false, false, false, false, false, false, false] rfl rfl (by kernel_rfl) (by decide) (fun K hK => ?_)
  refine goes_ Try.func72 (by kernel_rfl) rfl #[.agg #[.int .i64 n0, .int .i64 n1, .int .i64 n2, .int .i64 n3, .int .i64 n4, .int .i64 n5]] (by rfl) rfl rfl (by (try simp only [List.map_toArray, List.map_cons, List.map_nil]); first | done | rfl) ?_
  refine (table_isLeaf.calls _ _ _ _ _ _ _ _ HL.out).mono ?_
  rintro e w2 ⟨rfl, hb⟩
  have hs2 := And.intro (crb hHeld.1 hb) ((hb.block _ (crl hHeld.2)).trans hHeld.2)
  refine ⟨_, rfl, ?_⟩
  refine hK.out _ _ hs2 (fun hHeld => ?_)
  clear hK K hs2 hb
  refine norm_ (a' := ?_) ?_ ?_
  rotate_left
  ·show Act.put _ (some 6) _ = _
   simp only [Act.put, sI, sZ, sS]
   rfl
  first | refine pu 2 7 ?_ | refine po 2 7 ?_
  first | refine pu 3 8 ?_ | refine po 3 8 ?_
  first | refine pu 4 9 ?_ | refine po 4 9 ?_
  first | refine ta 5 10 hHeld (hy := by intro w' hs; obtain ⟨y0, y1, y2, y3, y4, y5⟩ := crc hs.2; go_simp; with_reducible rfl) ?_ | refine po 5 10 ?_
  first | refine pu 6 11 ?_ | refine po 6 11 ?_
  first | refine pu 7 12 ?_ | refine po 7 12 ?_
  first | refine pu 8 13 ?_ | refine po 8 13 ?_
  first | refine pu 9 14 ?_ | refine po 9 14 ?_
  first | refine ta 10 15 hHeld (hy := by intro w' hs; obtain ⟨y0, y1, y2, y3, y4, y5⟩ := crc hs.2; go_simp; with_reducible rfl) ?_ | refine po 10 15 ?_
  first | refine pu 11 16 ?_ | refine po 11 16 ?_
  first | refine pu 12 17 ?_ | refine po 12 17 ?_
  first | refine pu 13 18 ?_ | refine po 13 18 ?_
  first | refine pu 14 19 ?_ | refine po 14 19 ?_
  first | refine pu 15 20 ?_ | refine po 15 20 ?_
  first | refine ta 16 21 hHeld (hy := by intro w' hs; obtain ⟨y0, y1, y2, y3, y4, y5⟩ := crc hs.2; go_simp; with_reducible rfl) ?_ | refine po 16 21 ?_
  first | refine pu 17 22 ?_ | refine po 17 22 ?_
  first | refine ta 18 23 hHeld (hy := by intro w' hs; obtain ⟨x0, x1, x2, x3, x4, x5⟩ := HX hs.1; go_simp; with_reducible rfl) ?_ | refine po 18 23 ?_
  refine one_ (i := 19) (N := some 24) #[true, true, true, true, true, true, true, true, true, true, true, true, true, true, true, true, true, true, true, true, false, false, false] rfl rfl (by kernel_rfl) (by decide) (fun K hK => ?_)
  refine goes_ Try.func43 (by kernel_rfl) rfl #[] (by rfl) rfl rfl (by (try simp only [List.map_toArray, List.map_cons, List.map_nil]); first | done | rfl) ?_
  refine (table_sentinel.calls 0 1 1 0 (-1) (-1) _ rfl).mono ?_
  rintro e w3 ⟨rfl, hb⟩
  have hs3 := And.intro (crb hHeld.1 hb) ((hb.block _ (crl hHeld.2)).trans hHeld.2)
  refine ⟨_, rfl, ?_⟩
  refine hK.out _ _ hs3 (fun hHeld => ?_)
  clear hK K hs3 hb
  refine norm_ (a' := ?_) ?_ ?_
  rotate_left
  ·show Act.put _ (some 24) _ = _
   simp only [Act.put, sI, sZ, sS]
   rfl
  refine pu 20 25 ?_
  refine pu 21 26 ?_
  refine pu 22 4 ?_
  refine done_ (by kernel_rfl) ?_
  go_wp2
  go_ret
  exact ⟨by rw [← E4.out]; rfl, hHeld.1⟩
 ·obtain rfl : b = true := by simpa using h0
  obtain rfl := e0 rfl
  clear e0 e1 e2 e3
  go_enter Try.func42, Try.ntmps42
  go_wp2
  refine start_ (n := 23) (S := fun W' => Below w.heap.size w W' ∧ W'.heap[w.heap.size]? = some (.cells #[.int .i64 n0, .int .i64 n1, .int .i64 n2, .int .i64 n3, .int .i64 n4, .int .i64 n5] 34 (0, 0))) (ds := []) #[false, false, false, false, false, false, false, false, false, false, false, false, false, false, false, false, false, false, false, false, false, false, false] (by kernel_rfl) rfl rfl ⟨below_drew (ba (Below.refl _ _) _), heap_alloc_new w _⟩ (fun hHeld => ?_)
  refine ta 0 5 hHeld (hy := by intro w' hs; obtain ⟨y0, y1, y2, y3, y4, y5⟩ := crc hs.2; go_simp; with_reducible rfl) ?_
  refine one_ (i := 1) (N := some 6) #[true, true, false, false, false, false, false, false, false, false, false, false, false, false, false, false, false, false, false, false, false, false, false] rfl rfl (by kernel_rfl) (by decide) (fun K hK => ?_)
  refine goes_ Try.func72 (by kernel_rfl) rfl #[.agg #[.int .i64 n0, .int .i64 n1, .int .i64 n2, .int .i64 n3, .int .i64 n4, .int .i64 n5]] (by rfl) rfl rfl (by (try simp only [List.map_toArray, List.map_cons, List.map_nil]); first | done | rfl) ?_
  refine (table_isLeaf.calls _ _ _ _ _ _ _ _ HL.out).mono ?_
  rintro e w2 ⟨rfl, hb⟩
  have hs2 := And.intro (crb hHeld.1 hb) ((hb.block _ (crl hHeld.2)).trans hHeld.2)
  refine ⟨_, rfl, ?_⟩
  refine hK.out _ _ hs2 (fun hHeld => ?_)
  clear hK K hs2 hb
  refine norm_ (a' := ?_) ?_ ?_
  rotate_left
  ·show Act.put _ (some 6) _ = _
   simp only [Act.put, sI, sZ, sS]
   rfl
  first | refine pu 2 7 ?_ | refine po 2 7 ?_
  first | refine pu 3 8 ?_ | refine po 3 8 ?_
  first | refine pu 4 9 ?_ | refine po 4 9 ?_
  first | refine ta 5 10 hHeld (hy := by intro w' hs; obtain ⟨y0, y1, y2, y3, y4, y5⟩ := crc hs.2; go_simp; with_reducible rfl) ?_ | refine po 5 10 ?_
  first | refine pu 6 11 ?_ | refine po 6 11 ?_
  first | refine pu 7 12 ?_ | refine po 7 12 ?_
  first | refine pu 8 13 ?_ | refine po 8 13 ?_
  first | refine pu 9 14 ?_ | refine po 9 14 ?_
  first | refine ta 10 15 hHeld (hy := by intro w' hs; obtain ⟨y0, y1, y2, y3, y4, y5⟩ := crc hs.2; go_simp; with_reducible rfl) ?_ | refine po 10 15 ?_
  first | refine pu 11 16 ?_ | refine po 11 16 ?_
  first | refine pu 12 17 ?_ | refine po 12 17 ?_
  first | refine pu 13 18 ?_ | refine po 13 18 ?_
  first | refine pu 14 19 ?_ | refine po 14 19 ?_
  first | refine pu 15 20 ?_ | refine po 15 20 ?_
  first | refine ta 16 21 hHeld (hy := by intro w' hs; obtain ⟨y0, y1, y2, y3, y4, y5⟩ := crc hs.2; go_simp; with_reducible rfl) ?_ | refine po 16 21 ?_
  first | refine pu 17 22 ?_ | refine po 17 22 ?_
  first | refine ta 18 23 hHeld (hy := by intro w' hs; obtain ⟨x0, x1, x2, x3, x4, x5⟩ := HX hs.1; go_simp; with_reducible rfl) ?_ | refine po 18 23 ?_
  refine po 19 24 ?_
  first | refine pu 20 25 ?_ | refine po 20 25 ?_
  first | refine pu 21 26 ?_ | refine po 21 26 ?_
  first | refine pu 22 4 ?_ | refine po 22 4 ?_
  refine done_ (by kernel_rfl) ?_
  go_wp2
  go_ret
  exact ⟨rfl, hHeld.1⟩
 all_goals
  obtain rfl : b = false := by simpa using h0
  have hr : r = false := by first | exact e1 rfl h1 | exact e2 rfl h1 h2
  subst hr
  clear e0 e1 e2 e3
  go_enter Try.func42, Try.ntmps42
  go_wp2
  refine start_ (n := 23) (S := fun W' => Below w.heap.size w W' ∧ W'.heap[w.heap.size]? = some (.cells #[.int .i64 n0, .int .i64 n1, .int .i64 n2, .int .i64 n3, .int .i64 n4, .int .i64 n5] 34 (0, 0))) (ds := []) #[false, false, false, false, false, false, false, false, false, false, false, false, false, false, false, false, false, false, false, false, false, false, false] (by kernel_rfl) rfl rfl ⟨below_drew (ba (Below.refl _ _) _), heap_alloc_new w _⟩ (fun hHeld => ?_)
  refine ta 0 5 hHeld (hy := by intro w' hs; obtain ⟨y0, y1, y2, y3, y4, y5⟩ := crc hs.2; go_simp; with_reducible rfl) ?_
  refine one_ (i := 1) (N := some 6) #[true, true, false, false, false, false, false, false, false, false, false, false, false, false, false, false, false, false, false, false, false, false, false] rfl rfl (by kernel_rfl) (by decide) (fun K hK => ?_)
  refine goes_ Try.func72 (by kernel_rfl) rfl #[.agg #[.int .i64 n0, .int .i64 n1, .int .i64 n2, .int .i64 n3, .int .i64 n4, .int .i64 n5]] (by rfl) rfl rfl (by (try simp only [List.map_toArray, List.map_cons, List.map_nil]); first | done | rfl) ?_
  refine (table_isLeaf.calls _ _ _ _ _ _ _ _ HL.out).mono ?_
  rintro e w2 ⟨rfl, hb⟩
  have hs2 := And.intro (crb hHeld.1 hb) ((hb.block _ (crl hHeld.2)).trans hHeld.2)
  refine ⟨_, rfl, ?_⟩
  refine hK.out _ _ hs2 (fun hHeld => ?_)
  clear hK K hs2 hb
  refine norm_ (a' := ?_) ?_ ?_
  rotate_left
  ·show Act.put _ (some 6) _ = _
   simp only [Act.put, sI, sZ, sS]
   rfl
  first | refine pu 2 7 ?_ | refine po 2 7 ?_
  first | refine pu 3 8 ?_ | refine po 3 8 ?_
  first | refine pu 4 9 ?_ | refine po 4 9 ?_
  first | refine ta 5 10 hHeld (hy := by intro w' hs; obtain ⟨y0, y1, y2, y3, y4, y5⟩ := crc hs.2; go_simp; with_reducible rfl) ?_ | refine po 5 10 ?_
  first | refine pu 6 11 ?_ | refine po 6 11 ?_
  first | refine pu 7 12 ?_ | refine po 7 12 ?_
  first | refine pu 8 13 ?_ | refine po 8 13 ?_
  first | refine pu 9 14 ?_ | refine po 9 14 ?_
  first | refine ta 10 15 hHeld (hy := by intro w' hs; obtain ⟨y0, y1, y2, y3, y4, y5⟩ := crc hs.2; go_simp; with_reducible rfl) ?_ | refine po 10 15 ?_
  first | refine pu 11 16 ?_ | refine po 11 16 ?_
  first | refine pu 12 17 ?_ | refine po 12 17 ?_
  first | refine pu 13 18 ?_ | refine po 13 18 ?_
  first | refine pu 14 19 ?_ | refine po 14 19 ?_
  first | refine pu 15 20 ?_ | refine po 15 20 ?_
  first | refine ta 16 21 hHeld (hy := by intro w' hs; obtain ⟨y0, y1, y2, y3, y4, y5⟩ := crc hs.2; go_simp; with_reducible rfl) ?_ | refine po 16 21 ?_
  first | refine pu 17 22 ?_ | refine po 17 22 ?_
  first | refine ta 18 23 hHeld (hy := by intro w' hs; obtain ⟨x0, x1, x2, x3, x4, x5⟩ := HX hs.1; go_simp; with_reducible rfl) ?_ | refine po 18 23 ?_
  refine po 19 24 ?_
  first | refine pu 20 25 ?_ | refine po 20 25 ?_
  first | refine pu 21 26 ?_ | refine po 21 26 ?_
  first | refine pu 22 4 ?_ | refine po 22 4 ?_
  refine done_ (by kernel_rfl) ?_
  go_wp2
  go_ret
  exact ⟨rfl, hHeld.1⟩
end Go.Proofs.Ytgleaefhflamnaa.T
namespace Go.Proofs.Ytgleaefhflamnaa.T
open Go.RowKit Go.Proofs.YtgleaefhflamnaaW.PrintWords Go.Proofs.YtgleaefhflamnaaW.PrintLast Go.Proofs.YtgleaefhflamnaaW.PrintMore
attribute [local go_sem] max2_int min2_int max_two min_two max_three min_three max_four min_four   -- for this text's walks alone
set_option linter.unusedVariables false
set_option linter.unusedSimpArgs false
attribute [local go_sem high] eqA34
def table_Root.l0 : Nat → List (S34) → List Int → Int → Int → Int → Int → Int → Int → Int → Int → Option (Int × Int)
 | 0, _, _, _, _, _, _, _, _, _, _ => none
 | k + 1, x0, x36, x37, x38, x151000, x151001, x151002, x151003, x151004, x151005 => if x38 < x37 then (if 0 ≤ x38 then (if x38 < (x36.length : Int) then (if 0 ≤ (rd x36 x38) then (if (rd x36 x38) < (x0.length : Int) then (if ((rd_T34 x0 (rd x36 x38)).f1) = 0 then (table_Root.l0 k x0 x36 x37 (wrap64 (x38 + 1)) x151000 x151001 x151002 x151003 x151004 x151005) else (some (0, 3))) else (none)) else (none)) else (none)) else (none)) else (some (x151004, 0))
def table_Root.f (k : Nat) (l0 : List (S34)) : Option (Int × Int) := (table_Check.f k l0).bind fun t145 => (if t145 = 0 then (if 0 < (l0.length : Int) then ((table_crowned.f l0 ((rd_T34 l0 0).f0) ((rd_T34 l0 0).f1) ((rd_T34 l0 0).f2) ((rd_T34 l0 0).f3) ((rd_T34 l0 0).f4) ((rd_T34 l0 0).f5)).bind fun t147 => (if t147 = true then (if 0 ≤ ((rd_T34 l0 0).f4) then (if ((rd_T34 l0 0).f4) < (l0.length : Int) then ((table_sentinel.f).bind fun bt151 => (if (((rd_T34 l0 ((rd_T34 l0 0).f4)).f0) == bt151.1 && (((rd_T34 l0 ((rd_T34 l0 0).f4)).f1) == bt151.2.1 && (((rd_T34 l0 ((rd_T34 l0 0).f4)).f2) == bt151.2.2.1 && (((rd_T34 l0 ((rd_T34 l0 0).f4)).f3) == bt151.2.2.2.1 && (((rd_T34 l0 ((rd_T34 l0 0).f4)).f4) == bt151.2.2.2.2.1 && (((rd_T34 l0 ((rd_T34 l0 0).f4)).f5) == bt151.2.2.2.2.2)))))) = true then (some (0, 4)) else ((table_crowned.f l0 ((rd_T34 l0 ((rd_T34 l0 0).f4)).f0) ((rd_T34 l0 ((rd_T34 l0 0).f4)).f1) ((rd_T34 l0 ((rd_T34 l0 0).f4)).f2) ((rd_T34 l0 ((rd_T34 l0 0).f4)).f3) ((rd_T34 l0 ((rd_T34 l0 0).f4)).f4) ((rd_T34 l0 ((rd_T34 l0 0).f4)).f5)).bind fun t157 => (if t157 = true then ((table_order.f k l0 ((rd_T34 l0 ((rd_T34 l0 0).f4)).f4)).bind fun t158 => (table_Root.l0 k l0 t158 (t158.length : Int) 0 ((rd_T34 l0 ((rd_T34 l0 0).f4)).f0) ((rd_T34 l0 ((rd_T34 l0 0).f4)).f1) ((rd_T34 l0 ((rd_T34 l0 0).f4)).f2) ((rd_T34 l0 ((rd_T34 l0 0).f4)).f3) ((rd_T34 l0 ((rd_T34 l0 0).f4)).f4) ((rd_T34 l0 ((rd_T34 l0 0).f4)).f5))) else (some (0, 3)))))) else (none)) else (none)) else (some (0, 3)))) else (none)) else (some (0, t145)))
theorem table_Root.mono_l : ∀ k, (∀ y0 y1 y2 y3 y4 y5 y6 y7 y8 y9, LeO (table_Root.l0 k y0 y1 y2 y3 y4 y5 y6 y7 y8 y9) (table_Root.l0 (k + 1) y0 y1 y2 y3 y4 y5 y6 y7 y8 y9))
 | 0 => fun _ _ _ _ _ _ _ _ _ _ r h => by simp [table_Root.l0] at h
 | k + 1 => by
  have ih0 := table_Root.mono_l k
  ·intro y0 y1 y2 y3 y4 y5 y6 y7 y8 y9
   unfold table_Root.l0
   repeat' first
   | (with_reducible exact ih0 _ _ _ _ _ _ _ _ _ _)
   | (with_reducible exact table_Check.mono _ _)
   | (with_reducible exact table_order.mono _ _ _)
   | (with_reducible exact LeO.refl _)
   | (with_reducible exact LeO.none _)
   | (with_reducible refine LeO.ite ?_ ?_)
   | (with_reducible refine LeO.bind ?_ (fun _ => ?_))
   | exact ih0 _ _ _ _ _ _ _ _ _ _
   | exact table_Check.mono _ _
   | exact table_order.mono _ _ _
   | exact LeO.none _
   | refine LeO.ite ?_ ?_
   | refine LeO.bind ?_ (fun _ => ?_)
theorem table_Root.mono : ∀ a0 k, LeO (table_Root.f k a0) (table_Root.f (k + 1) a0) := by
 intro a0 k
 have ih0 := table_Root.mono_l k
 unfold table_Root.f
 repeat' first
   | (with_reducible exact ih0 _ _ _ _ _ _ _ _ _ _)
   | (with_reducible exact table_Check.mono _ _)
   | (with_reducible exact table_order.mono _ _ _)
   | (with_reducible exact LeO.refl _)
   | (with_reducible exact LeO.none _)
   | (with_reducible refine LeO.ite ?_ ?_)
   | (with_reducible refine LeO.bind ?_ (fun _ => ?_))
   | exact ih0 _ _ _ _ _ _ _ _ _ _
   | exact table_Check.mono _ _
   | exact table_order.mono _ _ _
   | exact LeO.none _
   | refine LeO.ite ?_ ?_
   | refine LeO.bind ?_ (fun _ => ?_)
set_option maxHeartbeats 8000000 in
set_option maxRecDepth 100000 in
theorem table_Root.calls (k : Nat) (A0 : Option Addr) (c0 : Nat) (l0 : List (S34)) (r1 : Int) (r2 : Int) (w : World) (hr0 : Kd.C k34 w A0 l0.length l0) (hc0 : l0.length ≤ c0) (h : table_Root.f k l0 = some (r1, r2)) :
  Calls Try.prog 12 #[.slice A0 l0.length c0] w fun e w' => e = .returned (.tuple #[.int .i64 r1, .int .i64 r2]) ∧ Below w.heap.size w w' := by
 have hu34 := Try.underlying34
 have HR0 := Am hr0
 have HC0 := Am hc0
 clear hr0 hc0
 have HB := Am (Below.refl w.heap.size w)
 have H : ((table_Check.f k l0).bind fun t145 => (if t145 = 0 then (if 0 < (l0.length : Int) then ((table_crowned.f l0 ((rd_T34 l0 0).f0) ((rd_T34 l0 0).f1) ((rd_T34 l0 0).f2) ((rd_T34 l0 0).f3) ((rd_T34 l0 0).f4) ((rd_T34 l0 0).f5)).bind fun t147 => (if t147 = true then (if 0 ≤ ((rd_T34 l0 0).f4) then (if ((rd_T34 l0 0).f4) < (l0.length : Int) then ((table_sentinel.f).bind fun bt151 => (if (((rd_T34 l0 ((rd_T34 l0 0).f4)).f0) == bt151.1 && (((rd_T34 l0 ((rd_T34 l0 0).f4)).f1) == bt151.2.1 && (((rd_T34 l0 ((rd_T34 l0 0).f4)).f2) == bt151.2.2.1 && (((rd_T34 l0 ((rd_T34 l0 0).f4)).f3) == bt151.2.2.2.1 && (((rd_T34 l0 ((rd_T34 l0 0).f4)).f4) == bt151.2.2.2.2.1 && (((rd_T34 l0 ((rd_T34 l0 0).f4)).f5) == bt151.2.2.2.2.2)))))) = true then (some (0, 4)) else ((table_crowned.f l0 ((rd_T34 l0 ((rd_T34 l0 0).f4)).f0) ((rd_T34 l0 ((rd_T34 l0 0).f4)).f1) ((rd_T34 l0 ((rd_T34 l0 0).f4)).f2) ((rd_T34 l0 ((rd_T34 l0 0).f4)).f3) ((rd_T34 l0 ((rd_T34 l0 0).f4)).f4) ((rd_T34 l0 ((rd_T34 l0 0).f4)).f5)).bind fun t157 => (if t157 = true then ((table_order.f k l0 ((rd_T34 l0 ((rd_T34 l0 0).f4)).f4)).bind fun t158 => (table_Root.l0 k l0 t158 (t158.length : Int) 0 ((rd_T34 l0 ((rd_T34 l0 0).f4)).f0) ((rd_T34 l0 ((rd_T34 l0 0).f4)).f1) ((rd_T34 l0 ((rd_T34 l0 0).f4)).f2) ((rd_T34 l0 ((rd_T34 l0 0).f4)).f3) ((rd_T34 l0 ((rd_T34 l0 0).f4)).f4) ((rd_T34 l0 ((rd_T34 l0 0).f4)).f5))) else (some (0, 3)))))) else (none)) else (none)) else (some (0, 3)))) else (none)) else (some (0, t145)))) = some (r1, r2) := h
 clear h
 replace H := Option.bind_eq_some_iff.mp H
 obtain ⟨t145, A20, H⟩ := H
 replace H : (if t145 = 0 then (if 0 < (l0.length : Int) then ((table_crowned.f l0 ((rd_T34 l0 0).f0) ((rd_T34 l0 0).f1) ((rd_T34 l0 0).f2) ((rd_T34 l0 0).f3) ((rd_T34 l0 0).f4) ((rd_T34 l0 0).f5)).bind fun t147 => (if t147 = true then (if 0 ≤ ((rd_T34 l0 0).f4) then (if ((rd_T34 l0 0).f4) < (l0.length : Int) then ((table_sentinel.f).bind fun bt151 => (if (((rd_T34 l0 ((rd_T34 l0 0).f4)).f0) == bt151.1 && (((rd_T34 l0 ((rd_T34 l0 0).f4)).f1) == bt151.2.1 && (((rd_T34 l0 ((rd_T34 l0 0).f4)).f2) == bt151.2.2.1 && (((rd_T34 l0 ((rd_T34 l0 0).f4)).f3) == bt151.2.2.2.1 && (((rd_T34 l0 ((rd_T34 l0 0).f4)).f4) == bt151.2.2.2.2.1 && (((rd_T34 l0 ((rd_T34 l0 0).f4)).f5) == bt151.2.2.2.2.2)))))) = true then (some (0, 4)) else ((table_crowned.f l0 ((rd_T34 l0 ((rd_T34 l0 0).f4)).f0) ((rd_T34 l0 ((rd_T34 l0 0).f4)).f1) ((rd_T34 l0 ((rd_T34 l0 0).f4)).f2) ((rd_T34 l0 ((rd_T34 l0 0).f4)).f3) ((rd_T34 l0 ((rd_T34 l0 0).f4)).f4) ((rd_T34 l0 ((rd_T34 l0 0).f4)).f5)).bind fun t157 => (if t157 = true then ((table_order.f k l0 ((rd_T34 l0 ((rd_T34 l0 0).f4)).f4)).bind fun t158 => (table_Root.l0 k l0 t158 (t158.length : Int) 0 ((rd_T34 l0 ((rd_T34 l0 0).f4)).f0) ((rd_T34 l0 ((rd_T34 l0 0).f4)).f1) ((rd_T34 l0 ((rd_T34 l0 0).f4)).f2) ((rd_T34 l0 ((rd_T34 l0 0).f4)).f3) ((rd_T34 l0 ((rd_T34 l0 0).f4)).f4) ((rd_T34 l0 ((rd_T34 l0 0).f4)).f5))) else (some (0, 3)))))) else (none)) else (none)) else (some (0, 3)))) else (none)) else (some (0, t145))) = some (r1, r2) := H
 have A2 := Am A20
 clear A20
 by_cases c3 : t145 = 0
 ·rw [if_pos c3] at H
  have c3b0 : (t145 == 0) = true := beq_iff_eq.mpr c3
  have c3b1 : (t145 != 0) = false := bne_eq_false_iff_eq.mpr c3
  clear c3
  by_cases c4 : 0 < (l0.length : Int)
  ·rw [if_pos c4] at H
   have c4b0 : decide (0 < (l0.length : Int)) = true := decide_eq_true c4
   have c4b1 : decide (0 < l0.length) = true := decide_eq_true (by omega)
   clear c4
   replace H := Option.bind_eq_some_iff.mp H
   obtain ⟨t147, A50, H⟩ := H
   replace H : (if t147 = true then (if 0 ≤ ((rd_T34 l0 0).f4) then (if ((rd_T34 l0 0).f4) < (l0.length : Int) then ((table_sentinel.f).bind fun bt151 => (if (((rd_T34 l0 ((rd_T34 l0 0).f4)).f0) == bt151.1 && (((rd_T34 l0 ((rd_T34 l0 0).f4)).f1) == bt151.2.1 && (((rd_T34 l0 ((rd_T34 l0 0).f4)).f2) == bt151.2.2.1 && (((rd_T34 l0 ((rd_T34 l0 0).f4)).f3) == bt151.2.2.2.1 && (((rd_T34 l0 ((rd_T34 l0 0).f4)).f4) == bt151.2.2.2.2.1 && (((rd_T34 l0 ((rd_T34 l0 0).f4)).f5) == bt151.2.2.2.2.2)))))) = true then (some (0, 4)) else ((table_crowned.f l0 ((rd_T34 l0 ((rd_T34 l0 0).f4)).f0) ((rd_T34 l0 ((rd_T34 l0 0).f4)).f1) ((rd_T34 l0 ((rd_T34 l0 0).f4)).f2) ((rd_T34 l0 ((rd_T34 l0 0).f4)).f3) ((rd_T34 l0 ((rd_T34 l0 0).f4)).f4) ((rd_T34 l0 ((rd_T34 l0 0).f4)).f5)).bind fun t157 => (if t157 = true then ((table_order.f k l0 ((rd_T34 l0 ((rd_T34 l0 0).f4)).f4)).bind fun t158 => (table_Root.l0 k l0 t158 (t158.length : Int) 0 ((rd_T34 l0 ((rd_T34 l0 0).f4)).f0) ((rd_T34 l0 ((rd_T34 l0 0).f4)).f1) ((rd_T34 l0 ((rd_T34 l0 0).f4)).f2) ((rd_T34 l0 ((rd_T34 l0 0).f4)).f3) ((rd_T34 l0 ((rd_T34 l0 0).f4)).f4) ((rd_T34 l0 ((rd_T34 l0 0).f4)).f5))) else (some (0, 3)))))) else (none)) else (none)) else (some (0, 3))) = some (r1, r2) := H
   have A5 := Am A50
   clear A50
   by_cases c6 : t147 = true
   ·subst c6
    have H1 : (if 0 ≤ ((rd_T34 l0 0).f4) then (if ((rd_T34 l0 0).f4) < (l0.length : Int) then ((table_sentinel.f).bind fun bt151 => (if (((rd_T34 l0 ((rd_T34 l0 0).f4)).f0) == bt151.1 && (((rd_T34 l0 ((rd_T34 l0 0).f4)).f1) == bt151.2.1 && (((rd_T34 l0 ((rd_T34 l0 0).f4)).f2) == bt151.2.2.1 && (((rd_T34 l0 ((rd_T34 l0 0).f4)).f3) == bt151.2.2.2.1 && (((rd_T34 l0 ((rd_T34 l0 0).f4)).f4) == bt151.2.2.2.2.1 && (((rd_T34 l0 ((rd_T34 l0 0).f4)).f5) == bt151.2.2.2.2.2)))))) = true then (some (0, 4)) else ((table_crowned.f l0 ((rd_T34 l0 ((rd_T34 l0 0).f4)).f0) ((rd_T34 l0 ((rd_T34 l0 0).f4)).f1) ((rd_T34 l0 ((rd_T34 l0 0).f4)).f2) ((rd_T34 l0 ((rd_T34 l0 0).f4)).f3) ((rd_T34 l0 ((rd_T34 l0 0).f4)).f4) ((rd_T34 l0 ((rd_T34 l0 0).f4)).f5)).bind fun t157 => (if t157 = true then ((table_order.f k l0 ((rd_T34 l0 ((rd_T34 l0 0).f4)).f4)).bind fun t158 => (table_Root.l0 k l0 t158 (t158.length : Int) 0 ((rd_T34 l0 ((rd_T34 l0 0).f4)).f0) ((rd_T34 l0 ((rd_T34 l0 0).f4)).f1) ((rd_T34 l0 ((rd_T34 l0 0).f4)).f2) ((rd_T34 l0 ((rd_T34 l0 0).f4)).f3) ((rd_T34 l0 ((rd_T34 l0 0).f4)).f4) ((rd_T34 l0 ((rd_T34 l0 0).f4)).f5))) else (some (0, 3)))))) else (none)) else (none)) = some (r1, r2) := by rw [if_pos rfl] at H; exact H
    clear H
    have H := H1
    clear H1
    by_cases c7 : 0 ≤ ((rd_T34 l0 0).f4)
    ·rw [if_pos c7] at H
     have c7b0 : decide (0 ≤ ((rd_T34 l0 0).f4)) = true := decide_eq_true c7
     clear c7
     by_cases c8 : ((rd_T34 l0 0).f4) < (l0.length : Int)
     ·rw [if_pos c8] at H
      have c8b0 : decide (((rd_T34 l0 0).f4) < (l0.length : Int)) = true := decide_eq_true c8
      clear c8
      replace H := Option.bind_eq_some_iff.mp H
      obtain ⟨⟨t151, t152, t153, t154, t155, t156⟩, A90, H⟩ := H
      replace H : (if (((rd_T34 l0 ((rd_T34 l0 0).f4)).f0) == t151 && (((rd_T34 l0 ((rd_T34 l0 0).f4)).f1) == t152 && (((rd_T34 l0 ((rd_T34 l0 0).f4)).f2) == t153 && (((rd_T34 l0 ((rd_T34 l0 0).f4)).f3) == t154 && (((rd_T34 l0 ((rd_T34 l0 0).f4)).f4) == t155 && (((rd_T34 l0 ((rd_T34 l0 0).f4)).f5) == t156)))))) = true then (some (0, 4)) else ((table_crowned.f l0 ((rd_T34 l0 ((rd_T34 l0 0).f4)).f0) ((rd_T34 l0 ((rd_T34 l0 0).f4)).f1) ((rd_T34 l0 ((rd_T34 l0 0).f4)).f2) ((rd_T34 l0 ((rd_T34 l0 0).f4)).f3) ((rd_T34 l0 ((rd_T34 l0 0).f4)).f4) ((rd_T34 l0 ((rd_T34 l0 0).f4)).f5)).bind fun t157 => (if t157 = true then ((table_order.f k l0 ((rd_T34 l0 ((rd_T34 l0 0).f4)).f4)).bind fun t158 => (table_Root.l0 k l0 t158 (t158.length : Int) 0 ((rd_T34 l0 ((rd_T34 l0 0).f4)).f0) ((rd_T34 l0 ((rd_T34 l0 0).f4)).f1) ((rd_T34 l0 ((rd_T34 l0 0).f4)).f2) ((rd_T34 l0 ((rd_T34 l0 0).f4)).f3) ((rd_T34 l0 ((rd_T34 l0 0).f4)).f4) ((rd_T34 l0 ((rd_T34 l0 0).f4)).f5))) else (some (0, 3))))) = some (r1, r2) := H
      have A9 := Am A90
      clear A90
      by_cases c10 : (((rd_T34 l0 ((rd_T34 l0 0).f4)).f0) == t151 && (((rd_T34 l0 ((rd_T34 l0 0).f4)).f1) == t152 && (((rd_T34 l0 ((rd_T34 l0 0).f4)).f2) == t153 && (((rd_T34 l0 ((rd_T34 l0 0).f4)).f3) == t154 && (((rd_T34 l0 ((rd_T34 l0 0).f4)).f4) == t155 && (((rd_T34 l0 ((rd_T34 l0 0).f4)).f5) == t156)))))) = true
      ·rw [if_pos c10] at H
       have c10b0 : (((rd_T34 l0 ((rd_T34 l0 0).f4)).f0) == t151 && (((rd_T34 l0 ((rd_T34 l0 0).f4)).f1) == t152 && (((rd_T34 l0 ((rd_T34 l0 0).f4)).f2) == t153 && (((rd_T34 l0 ((rd_T34 l0 0).f4)).f3) == t154 && (((rd_T34 l0 ((rd_T34 l0 0).f4)).f4) == t155 && (((rd_T34 l0 ((rd_T34 l0 0).f4)).f5) == t156)))))) = true := c10
       (try (have c10b1 : decide (((rd_T34 l0 ((rd_T34 l0 0).f4)).f0) = t151 && (((rd_T34 l0 ((rd_T34 l0 0).f4)).f1) == t152 && (((rd_T34 l0 ((rd_T34 l0 0).f4)).f2) == t153 && (((rd_T34 l0 ((rd_T34 l0 0).f4)).f3) == t154 && (((rd_T34 l0 ((rd_T34 l0 0).f4)).f4) == t155 && (((rd_T34 l0 ((rd_T34 l0 0).f4)).f5) == t156)))))) = true := by simpa using c10))
       (try (have c10b2 : (((rd_T34 l0 ((rd_T34 l0 0).f4)).f0) == t151 && (((rd_T34 l0 ((rd_T34 l0 0).f4)).f1) == t152 && (((rd_T34 l0 ((rd_T34 l0 0).f4)).f2) == t153 && (((rd_T34 l0 ((rd_T34 l0 0).f4)).f3) == t154 && (((rd_T34 l0 ((rd_T34 l0 0).f4)).f4) == t155 && (((rd_T34 l0 ((rd_T34 l0 0).f4)).f5) == t156)))))) = true := by simpa using c10))
       clear c10
       simp only [Option.some.injEq, Prod.mk.injEq] at H
       obtain ⟨rfl, rfl⟩ := H
       go_enter Try.func12, Try.ntmps12
       try go_wp2_with (first | ((with_reducible refine gate_callee (f := 41) rfl ?_); refine goesL_ (some 9) rfl rfl Try.func41 (by kernel_rfl) rfl #[.slice A0 l0.length c0] rfl (by (try simp only [List.map_toArray, List.map_cons, List.map_nil]); first | done | rfl | (simp only [List.length_drop, List.length_take]; rfl)) ?_; (with_reducible refine (table_Check.calls k _ _ l0 t145 _ ?side1 ?side2 A2.out).mono ?_); (case side1 => repeat (first | exact HR0.out | (with_reducible refine Kd.C_alloc ?_ _) | (with_reducible refine Kd.C_drewN ?_ _) | (with_reducible refine Kd.C_drew ?_))); (case side2 => exact HC0.out); rintro e w11 ⟨rfl, hb⟩; refine ⟨_, rfl, ?_⟩; have n0_ := Am (below_step (by repeat (first | (with_reducible first | exact HB.out | apply ba | apply bn | apply bd) | exact HB.out)) hb); clear HB; have HB := n0_; clear n0_; (try clear hb); (try clear hb2); (try clear hk); (try clear hi); have p146 : 0 ≤ (0 : Int) := (by omega); have q146 : 0 < (l0.length : Int) := of_decide_eq_true (by first | (with_reducible assumption) | assumption); obtain ⟨ad146, e146, hx146_0, hx146_1, hx146_2, hx146_3, hx146_4, hx146_5⟩ := at_T34 HR0.out 0 p146 q146; cases e146; have qi146 : (0 < l0.length) = True := eq_true (by omega); (try rw [show ((0 : Int)).toNat = 0 from rfl] at hx146_0); (try rw [show 0 * 6 = 0 from rfl] at hx146_0); (try rw [Addr.add_zero'] at hx146_0); (try rw [show ((0 : Int)).toNat = 0 from rfl] at hx146_1); (try rw [show 0 * 6 = 0 from rfl] at hx146_1); (try rw [Addr.add_zero'] at hx146_1); (try rw [show ((0 : Int)).toNat = 0 from rfl] at hx146_2); (try rw [show 0 * 6 = 0 from rfl] at hx146_2); (try rw [Addr.add_zero'] at hx146_2); (try rw [show ((0 : Int)).toNat = 0 from rfl] at hx146_3); (try rw [show 0 * 6 = 0 from rfl] at hx146_3); (try rw [Addr.add_zero'] at hx146_3); (try rw [show ((0 : Int)).toNat = 0 from rfl] at hx146_4); (try rw [show 0 * 6 = 0 from rfl] at hx146_4); (try rw [Addr.add_zero'] at hx146_4); (try rw [show ((0 : Int)).toNat = 0 from rfl] at hx146_5); (try rw [show 0 * 6 = 0 from rfl] at hx146_5); (try rw [Addr.add_zero'] at hx146_5); replace hx146_0 := (HB.out.cell (blt w _ hx146_0)).trans hx146_0; replace hx146_1 := (HB.out.cell (blt w _ hx146_1)).trans hx146_1; replace hx146_2 := (HB.out.cell (blt w _ hx146_2)).trans hx146_2; replace hx146_3 := (HB.out.cell (blt w _ hx146_3)).trans hx146_3; replace hx146_4 := (HB.out.cell (blt w _ hx146_4)).trans hx146_4; replace hx146_5 := (HB.out.cell (blt w _ hx146_5)).trans hx146_5; replace p146 := eq_true p146; replace q146 := eq_true q146) | ((with_reducible refine gate_callee (f := 42) rfl ?_); refine goesL_ (some 17) rfl rfl Try.func42 (by kernel_rfl) rfl #[.slice (some ad146) l0.length c0, .agg #[.int .i64 ((rd_T34 l0 0).f0), .int .i64 ((rd_T34 l0 0).f1), .int .i64 ((rd_T34 l0 0).f2), .int .i64 ((rd_T34 l0 0).f3), .int .i64 ((rd_T34 l0 0).f4), .int .i64 ((rd_T34 l0 0).f5)]] rfl (by (try simp only [List.map_toArray, List.map_cons, List.map_nil]); first | done | rfl | (simp only [List.length_drop, List.length_take]; rfl)) ?_; (with_reducible refine (table_crowned.calls _ _ l0 ((rd_T34 l0 0).f0) ((rd_T34 l0 0).f1) ((rd_T34 l0 0).f2) ((rd_T34 l0 0).f3) ((rd_T34 l0 0).f4) ((rd_T34 l0 0).f5) true _ ?side1 ?side2 A5.out).mono ?_); (case side1 => repeat (first | exact (Kd.C_below HR0.out HB.out) | (with_reducible refine Kd.C_alloc ?_ _) | (with_reducible refine Kd.C_drewN ?_ _) | (with_reducible refine Kd.C_drew ?_))); (case side2 => exact HC0.out); rintro e w12 ⟨rfl, hb⟩; refine ⟨_, rfl, ?_⟩; have n0_ := Am (below_step (by repeat (first | (with_reducible first | exact HB.out | apply ba | apply bn | apply bd) | exact HB.out)) hb); clear HB; have HB := n0_; clear n0_; (try clear hb); (try clear hb2); (try clear hk); (try clear hi); have p148 : 0 ≤ (0 : Int) := (by omega); have q148 : 0 < (l0.length : Int) := of_decide_eq_true (by first | (with_reducible assumption) | assumption); obtain ⟨ad148, e148, hx148_0, hx148_1, hx148_2, hx148_3, hx148_4, hx148_5⟩ := at_T34 HR0.out 0 p148 q148; obtain rfl : ad146 = ad148 := (by injection e148); have qi148 : (0 < l0.length) = True := eq_true (by omega); (try rw [show ((0 : Int)).toNat = 0 from rfl] at hx148_0); (try rw [show 0 * 6 = 0 from rfl] at hx148_0); (try rw [Addr.add_zero'] at hx148_0); (try rw [show ((0 : Int)).toNat = 0 from rfl] at hx148_1); (try rw [show 0 * 6 = 0 from rfl] at hx148_1); (try rw [Addr.add_zero'] at hx148_1); (try rw [show ((0 : Int)).toNat = 0 from rfl] at hx148_2); (try rw [show 0 * 6 = 0 from rfl] at hx148_2); (try rw [Addr.add_zero'] at hx148_2); (try rw [show ((0 : Int)).toNat = 0 from rfl] at hx148_3); (try rw [show 0 * 6 = 0 from rfl] at hx148_3); (try rw [Addr.add_zero'] at hx148_3); (try rw [show ((0 : Int)).toNat = 0 from rfl] at hx148_4); (try rw [show 0 * 6 = 0 from rfl] at hx148_4); (try rw [Addr.add_zero'] at hx148_4); (try rw [show ((0 : Int)).toNat = 0 from rfl] at hx148_5); (try rw [show 0 * 6 = 0 from rfl] at hx148_5); (try rw [Addr.add_zero'] at hx148_5); replace hx148_0 := (HB.out.cell (blt w _ hx148_0)).trans hx148_0; replace hx148_1 := (HB.out.cell (blt w _ hx148_1)).trans hx148_1; replace hx148_2 := (HB.out.cell (blt w _ hx148_2)).trans hx148_2; replace hx148_3 := (HB.out.cell (blt w _ hx148_3)).trans hx148_3; replace hx148_4 := (HB.out.cell (blt w _ hx148_4)).trans hx148_4; replace hx148_5 := (HB.out.cell (blt w _ hx148_5)).trans hx148_5; replace p148 := eq_true p148; replace q148 := eq_true q148; have p149 : 0 ≤ (((rd_T34 l0 0).f4) : Int) := of_decide_eq_true (by first | (with_reducible assumption) | assumption); have q149 : ((rd_T34 l0 0).f4) < (l0.length : Int) := of_decide_eq_true (by first | (with_reducible assumption) | assumption); obtain ⟨ad149, e149, hx149_0, hx149_1, hx149_2, hx149_3, hx149_4, hx149_5⟩ := at_T34 HR0.out ((rd_T34 l0 0).f4) p149 q149; obtain rfl : ad146 = ad149 := (by injection e149); replace hx149_0 := (HB.out.cell (blt w _ hx149_0)).trans hx149_0; replace hx149_1 := (HB.out.cell (blt w _ hx149_1)).trans hx149_1; replace hx149_2 := (HB.out.cell (blt w _ hx149_2)).trans hx149_2; replace hx149_3 := (HB.out.cell (blt w _ hx149_3)).trans hx149_3; replace hx149_4 := (HB.out.cell (blt w _ hx149_4)).trans hx149_4; replace hx149_5 := (HB.out.cell (blt w _ hx149_5)).trans hx149_5; replace p149 := eq_true p149; replace q149 := eq_true q149) | ((with_reducible refine gate_dst (N := 5) rfl ?_); refine box_event ?hg (N := 5) ?hd (cs := #[.int .i64 0, .int .i64 0, .int .i64 0, .int .i64 0, .int .i64 0, .int .i64 0]) (t := 34) ?hr ?_; (case hd => rfl); (case hg => rfl); (case hr => first | (go_simp; done) | (go_simp; rfl)); intro gb150 hg w13 hbox hb; have n0_ := Am (below_step (by repeat (first | (with_reducible first | exact HB.out | apply ba | apply bn | apply bd) | exact HB.out)) hb); have n1_ := Am (hbox); have n2_ := Am ((by rw [hg]; exact (below_size (by repeat (first | (with_reducible first | exact HB.out | apply ba | apply bn | apply bd) | exact HB.out))) : w.heap.size ≤ gb150)); have n3_ := Am ((by rw [hg]; exact (below_size (by repeat (first | (with_reducible first | exact HB.out | apply ba | apply bn | apply bd) | exact HB.out))) : w.heap.size ≤ gb150)); clear HB; have HB := n0_; have BK150 := n1_; have GW150 := n2_; have GE150 := n3_; clear n0_ n1_ n2_ n3_; clear hb hbox hg; have hcz14_0 : w13.cell? ⟨gb150, 0, none⟩ = some (.int .i64 0) := (blk_cell BK150.out 0).trans rfl; have hcz14_1 : w13.cell? ⟨gb150, 1, none⟩ = some (.int .i64 0) := (blk_cell BK150.out 1).trans rfl; have hcz14_2 : w13.cell? ⟨gb150, 2, none⟩ = some (.int .i64 0) := (blk_cell BK150.out 2).trans rfl; have hcz14_3 : w13.cell? ⟨gb150, 3, none⟩ = some (.int .i64 0) := (blk_cell BK150.out 3).trans rfl; have hcz14_4 : w13.cell? ⟨gb150, 4, none⟩ = some (.int .i64 0) := (blk_cell BK150.out 4).trans rfl; have hcz14_5 : w13.cell? ⟨gb150, 5, none⟩ = some (.int .i64 0) := (blk_cell BK150.out 5).trans rfl; have hfz14_0 := blk_frozen BK150.out 0; have hfz14_1 := blk_frozen BK150.out 1; have hfz14_2 := blk_frozen BK150.out 2; have hfz14_3 := blk_frozen BK150.out 3; have hfz14_4 := blk_frozen BK150.out 4; have hfz14_5 := blk_frozen BK150.out 5))
       have n0_ : Aside0 (((((((w13.setCell ⟨gb150, 0, none⟩ (.int .i64 ((rd_T34 l0 ((rd_T34 l0 0).f4)).f0))).setCell ⟨gb150, 1, none⟩ (.int .i64 ((rd_T34 l0 ((rd_T34 l0 0).f4)).f1))).setCell ⟨gb150, 2, none⟩ (.int .i64 ((rd_T34 l0 ((rd_T34 l0 0).f4)).f2))).setCell ⟨gb150, 3, none⟩ (.int .i64 ((rd_T34 l0 ((rd_T34 l0 0).f4)).f3))).setCell ⟨gb150, 4, none⟩ (.int .i64 ((rd_T34 l0 ((rd_T34 l0 0).f4)).f4))).setCell ⟨gb150, 5, none⟩ (.int .i64 ((rd_T34 l0 ((rd_T34 l0 0).f4)).f5))).heap[gb150]? = some (.cells #[.int .i64 ((rd_T34 l0 ((rd_T34 l0 0).f4)).f0), .int .i64 ((rd_T34 l0 ((rd_T34 l0 0).f4)).f1), .int .i64 ((rd_T34 l0 ((rd_T34 l0 0).f4)).f2), .int .i64 ((rd_T34 l0 ((rd_T34 l0 0).f4)).f3), .int .i64 ((rd_T34 l0 ((rd_T34 l0 0).f4)).f4), .int .i64 ((rd_T34 l0 ((rd_T34 l0 0).f4)).f5)] 34 (0, 0))) := ⟨by (with_reducible repeat (first | refine blk_drewN ?_ _ | refine blk_drew ?_ | refine blk_alloc ?_ _)); refine blk_put (cs := #[.int .i64 ((rd_T34 l0 ((rd_T34 l0 0).f4)).f0), .int .i64 ((rd_T34 l0 ((rd_T34 l0 0).f4)).f1), .int .i64 ((rd_T34 l0 ((rd_T34 l0 0).f4)).f2), .int .i64 ((rd_T34 l0 ((rd_T34 l0 0).f4)).f3), .int .i64 ((rd_T34 l0 ((rd_T34 l0 0).f4)).f4), .int .i64 0]) ?_ 5 _ rfl; (with_reducible repeat (first | refine blk_drewN ?_ _ | refine blk_drew ?_ | refine blk_alloc ?_ _)); refine blk_put (cs := #[.int .i64 ((rd_T34 l0 ((rd_T34 l0 0).f4)).f0), .int .i64 ((rd_T34 l0 ((rd_T34 l0 0).f4)).f1), .int .i64 ((rd_T34 l0 ((rd_T34 l0 0).f4)).f2), .int .i64 ((rd_T34 l0 ((rd_T34 l0 0).f4)).f3), .int .i64 0, .int .i64 0]) ?_ 4 _ rfl; (with_reducible repeat (first | refine blk_drewN ?_ _ | refine blk_drew ?_ | refine blk_alloc ?_ _)); refine blk_put (cs := #[.int .i64 ((rd_T34 l0 ((rd_T34 l0 0).f4)).f0), .int .i64 ((rd_T34 l0 ((rd_T34 l0 0).f4)).f1), .int .i64 ((rd_T34 l0 ((rd_T34 l0 0).f4)).f2), .int .i64 0, .int .i64 0, .int .i64 0]) ?_ 3 _ rfl; (with_reducible repeat (first | refine blk_drewN ?_ _ | refine blk_drew ?_ | refine blk_alloc ?_ _)); refine blk_put (cs := #[.int .i64 ((rd_T34 l0 ((rd_T34 l0 0).f4)).f0), .int .i64 ((rd_T34 l0 ((rd_T34 l0 0).f4)).f1), .int .i64 0, .int .i64 0, .int .i64 0, .int .i64 0]) ?_ 2 _ rfl; (with_reducible repeat (first | refine blk_drewN ?_ _ | refine blk_drew ?_ | refine blk_alloc ?_ _)); refine blk_put (cs := #[.int .i64 ((rd_T34 l0 ((rd_T34 l0 0).f4)).f0), .int .i64 0, .int .i64 0, .int .i64 0, .int .i64 0, .int .i64 0]) ?_ 1 _ rfl; (with_reducible repeat (first | refine blk_drewN ?_ _ | refine blk_drew ?_ | refine blk_alloc ?_ _)); refine blk_put (cs := #[.int .i64 0, .int .i64 0, .int .i64 0, .int .i64 0, .int .i64 0, .int .i64 0]) ?_ 0 _ rfl; (with_reducible repeat (first | refine blk_drewN ?_ _ | refine blk_drew ?_ | refine blk_alloc ?_ _)); exact BK150.out⟩
       have n1_ : Aside0 (Below w.heap.size w ((((((w13.setCell ⟨gb150, 0, none⟩ (.int .i64 ((rd_T34 l0 ((rd_T34 l0 0).f4)).f0))).setCell ⟨gb150, 1, none⟩ (.int .i64 ((rd_T34 l0 ((rd_T34 l0 0).f4)).f1))).setCell ⟨gb150, 2, none⟩ (.int .i64 ((rd_T34 l0 ((rd_T34 l0 0).f4)).f2))).setCell ⟨gb150, 3, none⟩ (.int .i64 ((rd_T34 l0 ((rd_T34 l0 0).f4)).f3))).setCell ⟨gb150, 4, none⟩ (.int .i64 ((rd_T34 l0 ((rd_T34 l0 0).f4)).f4))).setCell ⟨gb150, 5, none⟩ (.int .i64 ((rd_T34 l0 ((rd_T34 l0 0).f4)).f5)))) := ⟨by repeat (first | (with_reducible first | exact HB.out | apply ba | apply bn | apply bd | refine below_set ?_ GE150.out) | exact HB.out)⟩
       (try clear BK150)
       (try clear HB)
       generalize ((((((w13.setCell ⟨gb150, 0, none⟩ (.int .i64 ((rd_T34 l0 ((rd_T34 l0 0).f4)).f0))).setCell ⟨gb150, 1, none⟩ (.int .i64 ((rd_T34 l0 ((rd_T34 l0 0).f4)).f1))).setCell ⟨gb150, 2, none⟩ (.int .i64 ((rd_T34 l0 ((rd_T34 l0 0).f4)).f2))).setCell ⟨gb150, 3, none⟩ (.int .i64 ((rd_T34 l0 ((rd_T34 l0 0).f4)).f3))).setCell ⟨gb150, 4, none⟩ (.int .i64 ((rd_T34 l0 ((rd_T34 l0 0).f4)).f4))).setCell ⟨gb150, 5, none⟩ (.int .i64 ((rd_T34 l0 ((rd_T34 l0 0).f4)).f5))) = w15 at n0_ n1_ ⊢
       have BK150 := n0_
       have HB := n1_
       clear n0_ n1_
       have n0_ := Am (blk_drew BK150.out)
       have n1_ := Am (bd HB.out)
       clear BK150
       clear HB
       have BK150 := n0_
       have HB := n1_
       clear n0_ n1_
       refine start_ (n := 3) (S := fun w' => w'.cell? ⟨gb150, 0, none⟩ = some (.int .i64 ((rd_T34 l0 ((rd_T34 l0 0).f4)).f0)) ∧ w'.cell? ⟨gb150, 1, none⟩ = some (.int .i64 ((rd_T34 l0 ((rd_T34 l0 0).f4)).f1)) ∧ w'.cell? ⟨gb150, 2, none⟩ = some (.int .i64 ((rd_T34 l0 ((rd_T34 l0 0).f4)).f2)) ∧ w'.cell? ⟨gb150, 3, none⟩ = some (.int .i64 ((rd_T34 l0 ((rd_T34 l0 0).f4)).f3)) ∧ w'.cell? ⟨gb150, 4, none⟩ = some (.int .i64 ((rd_T34 l0 ((rd_T34 l0 0).f4)).f4)) ∧ w'.cell? ⟨gb150, 5, none⟩ = some (.int .i64 ((rd_T34 l0 ((rd_T34 l0 0).f4)).f5))) (ds := []) #[false, false, false] (by kernel_rfl) rfl rfl ⟨(blk_cell BK150.out 0).trans rfl, (blk_cell BK150.out 1).trans rfl, (blk_cell BK150.out 2).trans rfl, (blk_cell BK150.out 3).trans rfl, (blk_cell BK150.out 4).trans rfl, (blk_cell BK150.out 5).trans rfl⟩ (fun hHeld => ?_)
       generalize w15.drew = w16 at BK150 HB hHeld ⊢
       refine ta 0 26 hHeld ?_
       refine one_ (i := 1) (N := some 27) #[true, true, false] rfl rfl (by kernel_rfl) (by decide) (fun K hK => ?_)
       refine goes_ Try.func43 (by kernel_rfl) rfl #[] (by rfl) rfl rfl (by (try simp only [List.map_toArray, List.map_cons, List.map_nil]); first | done | rfl | (simp only [List.length_drop, List.length_take]; rfl)) ?_
       with_reducible refine (table_sentinel.calls  t151 t152 t153 t154 t155 t156 _ A9.out).mono ?_
       rintro e w17 ⟨rfl, hb⟩
       refine ⟨_, rfl, ?_⟩
       have n0_ := Am (blk_below (g := gb150) (o := .cells #[.int .i64 ((rd_T34 l0 ((rd_T34 l0 0).f4)).f0), .int .i64 ((rd_T34 l0 ((rd_T34 l0 0).f4)).f1), .int .i64 ((rd_T34 l0 ((rd_T34 l0 0).f4)).f2), .int .i64 ((rd_T34 l0 ((rd_T34 l0 0).f4)).f3), .int .i64 ((rd_T34 l0 ((rd_T34 l0 0).f4)).f4), .int .i64 ((rd_T34 l0 ((rd_T34 l0 0).f4)).f5)] 34 (0, 0)) (by (with_reducible repeat (first | refine blk_drewN ?_ _ | refine blk_drew ?_ | refine blk_alloc ?_ _)); exact BK150.out) hb)
       have n1_ := Am (below_step (by repeat (first | (with_reducible first | exact HB.out | apply ba | apply bn | apply bd | refine below_set ?_ GE150.out) | exact HB.out)) hb)
       clear BK150
       clear HB
       have BK150 := n0_
       have HB := n1_
       clear n0_ n1_
       (try clear hb)
       (try clear hb2)
       (try clear hk)
       (try clear hi)
       refine hK.out _ _ ⟨(blk_cell BK150.out 0).trans rfl, (blk_cell BK150.out 1).trans rfl, (blk_cell BK150.out 2).trans rfl, (blk_cell BK150.out 3).trans rfl, (blk_cell BK150.out 4).trans rfl, (blk_cell BK150.out 5).trans rfl⟩ (fun hHeld => ?_)
       clear hK K
       refine norm_ (a' := ?_) ?_ ?_
       rotate_left
       ·show Act.put _ (some 27) _ = _
        simp only [Act.put, sI, sZ, sS, i64_w, i32_w]
        rfl
       refine pu 2 28 ?_
       refine done_ (by kernel_rfl) ?_
       try go_wp2
       go_ret2
       exact ⟨by first | rfl | (simp [errW_none, errW_some] <;> rfl) | (simp [*, errW_none, errW_some] <;> rfl), by repeat (first | (with_reducible first | exact HB.out | apply ba | apply bn | apply bd | refine below_set ?_ GE150.out) | exact HB.out)⟩
      ·rw [if_neg c10] at H
       have c10b0 : (((rd_T34 l0 ((rd_T34 l0 0).f4)).f0) == t151 && (((rd_T34 l0 ((rd_T34 l0 0).f4)).f1) == t152 && (((rd_T34 l0 ((rd_T34 l0 0).f4)).f2) == t153 && (((rd_T34 l0 ((rd_T34 l0 0).f4)).f3) == t154 && (((rd_T34 l0 ((rd_T34 l0 0).f4)).f4) == t155 && (((rd_T34 l0 ((rd_T34 l0 0).f4)).f5) == t156)))))) = false := by simpa using c10
       (try (have c10b1 : decide (((rd_T34 l0 ((rd_T34 l0 0).f4)).f0) = t151 && (((rd_T34 l0 ((rd_T34 l0 0).f4)).f1) == t152 && (((rd_T34 l0 ((rd_T34 l0 0).f4)).f2) == t153 && (((rd_T34 l0 ((rd_T34 l0 0).f4)).f3) == t154 && (((rd_T34 l0 ((rd_T34 l0 0).f4)).f4) == t155 && (((rd_T34 l0 ((rd_T34 l0 0).f4)).f5) == t156)))))) = false := by simpa using c10))
       (try (have c10b2 : (((rd_T34 l0 ((rd_T34 l0 0).f4)).f0) == t151 && (((rd_T34 l0 ((rd_T34 l0 0).f4)).f1) == t152 && (((rd_T34 l0 ((rd_T34 l0 0).f4)).f2) == t153 && (((rd_T34 l0 ((rd_T34 l0 0).f4)).f3) == t154 && (((rd_T34 l0 ((rd_T34 l0 0).f4)).f4) == t155 && (((rd_T34 l0 ((rd_T34 l0 0).f4)).f5) == t156)))))) = false := by simpa using c10))
       (try (have c10b3 : ¬ (((rd_T34 l0 ((rd_T34 l0 0).f4)).f0) = t151 && (((rd_T34 l0 ((rd_T34 l0 0).f4)).f1) == t152 && (((rd_T34 l0 ((rd_T34 l0 0).f4)).f2) == t153 && (((rd_T34 l0 ((rd_T34 l0 0).f4)).f3) == t154 && (((rd_T34 l0 ((rd_T34 l0 0).f4)).f4) == t155 && (((rd_T34 l0 ((rd_T34 l0 0).f4)).f5) == t156)))))) := by simpa using c10))
       clear c10
       replace H := Option.bind_eq_some_iff.mp H
       obtain ⟨t157, A180, H⟩ := H
       replace H : (if t157 = true then ((table_order.f k l0 ((rd_T34 l0 ((rd_T34 l0 0).f4)).f4)).bind fun t158 => (table_Root.l0 k l0 t158 (t158.length : Int) 0 ((rd_T34 l0 ((rd_T34 l0 0).f4)).f0) ((rd_T34 l0 ((rd_T34 l0 0).f4)).f1) ((rd_T34 l0 ((rd_T34 l0 0).f4)).f2) ((rd_T34 l0 ((rd_T34 l0 0).f4)).f3) ((rd_T34 l0 ((rd_T34 l0 0).f4)).f4) ((rd_T34 l0 ((rd_T34 l0 0).f4)).f5))) else (some (0, 3))) = some (r1, r2) := H
       have A18 := Am A180
       clear A180
       by_cases c19 : t157 = true
       ·subst c19
        have H1 : ((table_order.f k l0 ((rd_T34 l0 ((rd_T34 l0 0).f4)).f4)).bind fun t158 => (table_Root.l0 k l0 t158 (t158.length : Int) 0 ((rd_T34 l0 ((rd_T34 l0 0).f4)).f0) ((rd_T34 l0 ((rd_T34 l0 0).f4)).f1) ((rd_T34 l0 ((rd_T34 l0 0).f4)).f2) ((rd_T34 l0 ((rd_T34 l0 0).f4)).f3) ((rd_T34 l0 ((rd_T34 l0 0).f4)).f4) ((rd_T34 l0 ((rd_T34 l0 0).f4)).f5))) = some (r1, r2) := by rw [if_pos rfl] at H; exact H
        clear H
        have H := H1
        clear H1
        replace H := Option.bind_eq_some_iff.mp H
        obtain ⟨t158, A200, H⟩ := H
        replace H : (table_Root.l0 k l0 t158 (t158.length : Int) 0 ((rd_T34 l0 ((rd_T34 l0 0).f4)).f0) ((rd_T34 l0 ((rd_T34 l0 0).f4)).f1) ((rd_T34 l0 ((rd_T34 l0 0).f4)).f2) ((rd_T34 l0 ((rd_T34 l0 0).f4)).f3) ((rd_T34 l0 ((rd_T34 l0 0).f4)).f4) ((rd_T34 l0 ((rd_T34 l0 0).f4)).f5)) = some (r1, r2) := H
        have A20 := Am A200
        clear A200
        have H' := Am H
        clear H
        go_enter Try.func12, Try.ntmps12
        try go_wp2_with (first | ((with_reducible refine gate_callee (f := 41) rfl ?_); refine goesL_ (some 9) rfl rfl Try.func41 (by kernel_rfl) rfl #[.slice A0 l0.length c0] rfl (by (try simp only [List.map_toArray, List.map_cons, List.map_nil]); first | done | rfl | (simp only [List.length_drop, List.length_take]; rfl)) ?_; (with_reducible refine (table_Check.calls k _ _ l0 t145 _ ?side1 ?side2 A2.out).mono ?_); (case side1 => repeat (first | exact HR0.out | (with_reducible refine Kd.C_alloc ?_ _) | (with_reducible refine Kd.C_drewN ?_ _) | (with_reducible refine Kd.C_drew ?_))); (case side2 => exact HC0.out); rintro e w21 ⟨rfl, hb⟩; refine ⟨_, rfl, ?_⟩; have n0_ := Am (below_step (by repeat (first | (with_reducible first | exact HB.out | apply ba | apply bn | apply bd) | exact HB.out)) hb); clear HB; have HB := n0_; clear n0_; (try clear hb); (try clear hb2); (try clear hk); (try clear hi); have p146 : 0 ≤ (0 : Int) := (by omega); have q146 : 0 < (l0.length : Int) := of_decide_eq_true (by first | (with_reducible assumption) | assumption); obtain ⟨ad146, e146, hx146_0, hx146_1, hx146_2, hx146_3, hx146_4, hx146_5⟩ := at_T34 HR0.out 0 p146 q146; cases e146; have qi146 : (0 < l0.length) = True := eq_true (by omega); (try rw [show ((0 : Int)).toNat = 0 from rfl] at hx146_0); (try rw [show 0 * 6 = 0 from rfl] at hx146_0); (try rw [Addr.add_zero'] at hx146_0); (try rw [show ((0 : Int)).toNat = 0 from rfl] at hx146_1); (try rw [show 0 * 6 = 0 from rfl] at hx146_1); (try rw [Addr.add_zero'] at hx146_1); (try rw [show ((0 : Int)).toNat = 0 from rfl] at hx146_2); (try rw [show 0 * 6 = 0 from rfl] at hx146_2); (try rw [Addr.add_zero'] at hx146_2); (try rw [show ((0 : Int)).toNat = 0 from rfl] at hx146_3); (try rw [show 0 * 6 = 0 from rfl] at hx146_3); (try rw [Addr.add_zero'] at hx146_3); (try rw [show ((0 : Int)).toNat = 0 from rfl] at hx146_4); (try rw [show 0 * 6 = 0 from rfl] at hx146_4); (try rw [Addr.add_zero'] at hx146_4); (try rw [show ((0 : Int)).toNat = 0 from rfl] at hx146_5); (try rw [show 0 * 6 = 0 from rfl] at hx146_5); (try rw [Addr.add_zero'] at hx146_5); replace hx146_0 := (HB.out.cell (blt w _ hx146_0)).trans hx146_0; replace hx146_1 := (HB.out.cell (blt w _ hx146_1)).trans hx146_1; replace hx146_2 := (HB.out.cell (blt w _ hx146_2)).trans hx146_2; replace hx146_3 := (HB.out.cell (blt w _ hx146_3)).trans hx146_3; replace hx146_4 := (HB.out.cell (blt w _ hx146_4)).trans hx146_4; replace hx146_5 := (HB.out.cell (blt w _ hx146_5)).trans hx146_5; replace p146 := eq_true p146; replace q146 := eq_true q146) | ((with_reducible refine gate_callee (f := 42) rfl ?_); refine goesL_ (some 17) rfl rfl Try.func42 (by kernel_rfl) rfl #[.slice (some ad146) l0.length c0, .agg #[.int .i64 ((rd_T34 l0 0).f0), .int .i64 ((rd_T34 l0 0).f1), .int .i64 ((rd_T34 l0 0).f2), .int .i64 ((rd_T34 l0 0).f3), .int .i64 ((rd_T34 l0 0).f4), .int .i64 ((rd_T34 l0 0).f5)]] rfl (by (try simp only [List.map_toArray, List.map_cons, List.map_nil]); first | done | rfl | (simp only [List.length_drop, List.length_take]; rfl)) ?_; (with_reducible refine (table_crowned.calls _ _ l0 ((rd_T34 l0 0).f0) ((rd_T34 l0 0).f1) ((rd_T34 l0 0).f2) ((rd_T34 l0 0).f3) ((rd_T34 l0 0).f4) ((rd_T34 l0 0).f5) true _ ?side1 ?side2 A5.out).mono ?_); (case side1 => repeat (first | exact (Kd.C_below HR0.out HB.out) | (with_reducible refine Kd.C_alloc ?_ _) | (with_reducible refine Kd.C_drewN ?_ _) | (with_reducible refine Kd.C_drew ?_))); (case side2 => exact HC0.out); rintro e w22 ⟨rfl, hb⟩; refine ⟨_, rfl, ?_⟩; have n0_ := Am (below_step (by repeat (first | (with_reducible first | exact HB.out | apply ba | apply bn | apply bd) | exact HB.out)) hb); clear HB; have HB := n0_; clear n0_; (try clear hb); (try clear hb2); (try clear hk); (try clear hi); have p148 : 0 ≤ (0 : Int) := (by omega); have q148 : 0 < (l0.length : Int) := of_decide_eq_true (by first | (with_reducible assumption) | assumption); obtain ⟨ad148, e148, hx148_0, hx148_1, hx148_2, hx148_3, hx148_4, hx148_5⟩ := at_T34 HR0.out 0 p148 q148; obtain rfl : ad146 = ad148 := (by injection e148); have qi148 : (0 < l0.length) = True := eq_true (by omega); (try rw [show ((0 : Int)).toNat = 0 from rfl] at hx148_0); (try rw [show 0 * 6 = 0 from rfl] at hx148_0); (try rw [Addr.add_zero'] at hx148_0); (try rw [show ((0 : Int)).toNat = 0 from rfl] at hx148_1); (try rw [show 0 * 6 = 0 from rfl] at hx148_1); (try rw [Addr.add_zero'] at hx148_1); (try rw [show ((0 : Int)).toNat = 0 from rfl] at hx148_2); (try rw [show 0 * 6 = 0 from rfl] at hx148_2); (try rw [Addr.add_zero'] at hx148_2); (try rw [show ((0 : Int)).toNat = 0 from rfl] at hx148_3); (try rw [show 0 * 6 = 0 from rfl] at hx148_3); (try rw [Addr.add_zero'] at hx148_3); (try rw [show ((0 : Int)).toNat = 0 from rfl] at hx148_4); (try rw [show 0 * 6 = 0 from rfl] at hx148_4); (try rw [Addr.add_zero'] at hx148_4); (try rw [show ((0 : Int)).toNat = 0 from rfl] at hx148_5); (try rw [show 0 * 6 = 0 from rfl] at hx148_5); (try rw [Addr.add_zero'] at hx148_5); replace hx148_0 := (HB.out.cell (blt w _ hx148_0)).trans hx148_0; replace hx148_1 := (HB.out.cell (blt w _ hx148_1)).trans hx148_1; replace hx148_2 := (HB.out.cell (blt w _ hx148_2)).trans hx148_2; replace hx148_3 := (HB.out.cell (blt w _ hx148_3)).trans hx148_3; replace hx148_4 := (HB.out.cell (blt w _ hx148_4)).trans hx148_4; replace hx148_5 := (HB.out.cell (blt w _ hx148_5)).trans hx148_5; replace p148 := eq_true p148; replace q148 := eq_true q148; have p149 : 0 ≤ (((rd_T34 l0 0).f4) : Int) := of_decide_eq_true (by first | (with_reducible assumption) | assumption); have q149 : ((rd_T34 l0 0).f4) < (l0.length : Int) := of_decide_eq_true (by first | (with_reducible assumption) | assumption); obtain ⟨ad149, e149, hx149_0, hx149_1, hx149_2, hx149_3, hx149_4, hx149_5⟩ := at_T34 HR0.out ((rd_T34 l0 0).f4) p149 q149; obtain rfl : ad146 = ad149 := (by injection e149); replace hx149_0 := (HB.out.cell (blt w _ hx149_0)).trans hx149_0; replace hx149_1 := (HB.out.cell (blt w _ hx149_1)).trans hx149_1; replace hx149_2 := (HB.out.cell (blt w _ hx149_2)).trans hx149_2; replace hx149_3 := (HB.out.cell (blt w _ hx149_3)).trans hx149_3; replace hx149_4 := (HB.out.cell (blt w _ hx149_4)).trans hx149_4; replace hx149_5 := (HB.out.cell (blt w _ hx149_5)).trans hx149_5; replace p149 := eq_true p149; replace q149 := eq_true q149) | ((with_reducible refine gate_dst (N := 5) rfl ?_); refine box_event ?hg (N := 5) ?hd (cs := #[.int .i64 0, .int .i64 0, .int .i64 0, .int .i64 0, .int .i64 0, .int .i64 0]) (t := 34) ?hr ?_; (case hd => rfl); (case hg => rfl); (case hr => first | (go_simp; done) | (go_simp; rfl)); intro gb150 hg w23 hbox hb; have n0_ := Am (below_step (by repeat (first | (with_reducible first | exact HB.out | apply ba | apply bn | apply bd) | exact HB.out)) hb); have n1_ := Am (hbox); have n2_ := Am ((by rw [hg]; exact (below_size (by repeat (first | (with_reducible first | exact HB.out | apply ba | apply bn | apply bd) | exact HB.out))) : w.heap.size ≤ gb150)); have n3_ := Am ((by rw [hg]; exact (below_size (by repeat (first | (with_reducible first | exact HB.out | apply ba | apply bn | apply bd) | exact HB.out))) : w.heap.size ≤ gb150)); clear HB; have HB := n0_; have BK150 := n1_; have GW150 := n2_; have GE150 := n3_; clear n0_ n1_ n2_ n3_; clear hb hbox hg; have hcz24_0 : w23.cell? ⟨gb150, 0, none⟩ = some (.int .i64 0) := (blk_cell BK150.out 0).trans rfl; have hcz24_1 : w23.cell? ⟨gb150, 1, none⟩ = some (.int .i64 0) := (blk_cell BK150.out 1).trans rfl; have hcz24_2 : w23.cell? ⟨gb150, 2, none⟩ = some (.int .i64 0) := (blk_cell BK150.out 2).trans rfl; have hcz24_3 : w23.cell? ⟨gb150, 3, none⟩ = some (.int .i64 0) := (blk_cell BK150.out 3).trans rfl; have hcz24_4 : w23.cell? ⟨gb150, 4, none⟩ = some (.int .i64 0) := (blk_cell BK150.out 4).trans rfl; have hcz24_5 : w23.cell? ⟨gb150, 5, none⟩ = some (.int .i64 0) := (blk_cell BK150.out 5).trans rfl; have hfz24_0 := blk_frozen BK150.out 0; have hfz24_1 := blk_frozen BK150.out 1; have hfz24_2 := blk_frozen BK150.out 2; have hfz24_3 := blk_frozen BK150.out 3; have hfz24_4 := blk_frozen BK150.out 4; have hfz24_5 := blk_frozen BK150.out 5))
        have n0_ : Aside0 (((((((w23.setCell ⟨gb150, 0, none⟩ (.int .i64 ((rd_T34 l0 ((rd_T34 l0 0).f4)).f0))).setCell ⟨gb150, 1, none⟩ (.int .i64 ((rd_T34 l0 ((rd_T34 l0 0).f4)).f1))).setCell ⟨gb150, 2, none⟩ (.int .i64 ((rd_T34 l0 ((rd_T34 l0 0).f4)).f2))).setCell ⟨gb150, 3, none⟩ (.int .i64 ((rd_T34 l0 ((rd_T34 l0 0).f4)).f3))).setCell ⟨gb150, 4, none⟩ (.int .i64 ((rd_T34 l0 ((rd_T34 l0 0).f4)).f4))).setCell ⟨gb150, 5, none⟩ (.int .i64 ((rd_T34 l0 ((rd_T34 l0 0).f4)).f5))).heap[gb150]? = some (.cells #[.int .i64 ((rd_T34 l0 ((rd_T34 l0 0).f4)).f0), .int .i64 ((rd_T34 l0 ((rd_T34 l0 0).f4)).f1), .int .i64 ((rd_T34 l0 ((rd_T34 l0 0).f4)).f2), .int .i64 ((rd_T34 l0 ((rd_T34 l0 0).f4)).f3), .int .i64 ((rd_T34 l0 ((rd_T34 l0 0).f4)).f4), .int .i64 ((rd_T34 l0 ((rd_T34 l0 0).f4)).f5)] 34 (0, 0))) := ⟨by (with_reducible repeat (first | refine blk_drewN ?_ _ | refine blk_drew ?_ | refine blk_alloc ?_ _)); refine blk_put (cs := #[.int .i64 ((rd_T34 l0 ((rd_T34 l0 0).f4)).f0), .int .i64 ((rd_T34 l0 ((rd_T34 l0 0).f4)).f1), .int .i64 ((rd_T34 l0 ((rd_T34 l0 0).f4)).f2), .int .i64 ((rd_T34 l0 ((rd_T34 l0 0).f4)).f3), .int .i64 ((rd_T34 l0 ((rd_T34 l0 0).f4)).f4), .int .i64 0]) ?_ 5 _ rfl; (with_reducible repeat (first | refine blk_drewN ?_ _ | refine blk_drew ?_ | refine blk_alloc ?_ _)); refine blk_put (cs := #[.int .i64 ((rd_T34 l0 ((rd_T34 l0 0).f4)).f0), .int .i64 ((rd_T34 l0 ((rd_T34 l0 0).f4)).f1), .int .i64 ((rd_T34 l0 ((rd_T34 l0 0).f4)).f2), .int .i64 ((rd_T34 l0 ((rd_T34 l0 0).f4)).f3), .int .i64 0, .int .i64 0]) ?_ 4 _ rfl; (with_reducible repeat (first | refine blk_drewN ?_ _ | refine blk_drew ?_ | refine blk_alloc ?_ _)); refine blk_put (cs := #[.int .i64 ((rd_T34 l0 ((rd_T34 l0 0).f4)).f0), .int .i64 ((rd_T34 l0 ((rd_T34 l0 0).f4)).f1), .int .i64 ((rd_T34 l0 ((rd_T34 l0 0).f4)).f2), .int .i64 0, .int .i64 0, .int .i64 0]) ?_ 3 _ rfl; (with_reducible repeat (first | refine blk_drewN ?_ _ | refine blk_drew ?_ | refine blk_alloc ?_ _)); refine blk_put (cs := #[.int .i64 ((rd_T34 l0 ((rd_T34 l0 0).f4)).f0), .int .i64 ((rd_T34 l0 ((rd_T34 l0 0).f4)).f1), .int .i64 0, .int .i64 0, .int .i64 0, .int .i64 0]) ?_ 2 _ rfl; (with_reducible repeat (first | refine blk_drewN ?_ _ | refine blk_drew ?_ | refine blk_alloc ?_ _)); refine blk_put (cs := #[.int .i64 ((rd_T34 l0 ((rd_T34 l0 0).f4)).f0), .int .i64 0, .int .i64 0, .int .i64 0, .int .i64 0, .int .i64 0]) ?_ 1 _ rfl; (with_reducible repeat (first | refine blk_drewN ?_ _ | refine blk_drew ?_ | refine blk_alloc ?_ _)); refine blk_put (cs := #[.int .i64 0, .int .i64 0, .int .i64 0, .int .i64 0, .int .i64 0, .int .i64 0]) ?_ 0 _ rfl; (with_reducible repeat (first | refine blk_drewN ?_ _ | refine blk_drew ?_ | refine blk_alloc ?_ _)); exact BK150.out⟩
        have n1_ : Aside0 (Below w.heap.size w ((((((w23.setCell ⟨gb150, 0, none⟩ (.int .i64 ((rd_T34 l0 ((rd_T34 l0 0).f4)).f0))).setCell ⟨gb150, 1, none⟩ (.int .i64 ((rd_T34 l0 ((rd_T34 l0 0).f4)).f1))).setCell ⟨gb150, 2, none⟩ (.int .i64 ((rd_T34 l0 ((rd_T34 l0 0).f4)).f2))).setCell ⟨gb150, 3, none⟩ (.int .i64 ((rd_T34 l0 ((rd_T34 l0 0).f4)).f3))).setCell ⟨gb150, 4, none⟩ (.int .i64 ((rd_T34 l0 ((rd_T34 l0 0).f4)).f4))).setCell ⟨gb150, 5, none⟩ (.int .i64 ((rd_T34 l0 ((rd_T34 l0 0).f4)).f5)))) := ⟨by repeat (first | (with_reducible first | exact HB.out | apply ba | apply bn | apply bd | refine below_set ?_ GE150.out) | exact HB.out)⟩
        (try clear BK150)
        (try clear HB)
        generalize ((((((w23.setCell ⟨gb150, 0, none⟩ (.int .i64 ((rd_T34 l0 ((rd_T34 l0 0).f4)).f0))).setCell ⟨gb150, 1, none⟩ (.int .i64 ((rd_T34 l0 ((rd_T34 l0 0).f4)).f1))).setCell ⟨gb150, 2, none⟩ (.int .i64 ((rd_T34 l0 ((rd_T34 l0 0).f4)).f2))).setCell ⟨gb150, 3, none⟩ (.int .i64 ((rd_T34 l0 ((rd_T34 l0 0).f4)).f3))).setCell ⟨gb150, 4, none⟩ (.int .i64 ((rd_T34 l0 ((rd_T34 l0 0).f4)).f4))).setCell ⟨gb150, 5, none⟩ (.int .i64 ((rd_T34 l0 ((rd_T34 l0 0).f4)).f5))) = w25 at n0_ n1_ ⊢
        have BK150 := n0_
        have HB := n1_
        clear n0_ n1_
        have n0_ := Am (blk_drew BK150.out)
        have n1_ := Am (bd HB.out)
        clear BK150
        clear HB
        have BK150 := n0_
        have HB := n1_
        clear n0_ n1_
        refine start_ (n := 3) (S := fun w' => w'.cell? ⟨gb150, 0, none⟩ = some (.int .i64 ((rd_T34 l0 ((rd_T34 l0 0).f4)).f0)) ∧ w'.cell? ⟨gb150, 1, none⟩ = some (.int .i64 ((rd_T34 l0 ((rd_T34 l0 0).f4)).f1)) ∧ w'.cell? ⟨gb150, 2, none⟩ = some (.int .i64 ((rd_T34 l0 ((rd_T34 l0 0).f4)).f2)) ∧ w'.cell? ⟨gb150, 3, none⟩ = some (.int .i64 ((rd_T34 l0 ((rd_T34 l0 0).f4)).f3)) ∧ w'.cell? ⟨gb150, 4, none⟩ = some (.int .i64 ((rd_T34 l0 ((rd_T34 l0 0).f4)).f4)) ∧ w'.cell? ⟨gb150, 5, none⟩ = some (.int .i64 ((rd_T34 l0 ((rd_T34 l0 0).f4)).f5))) (ds := []) #[false, false, false] (by kernel_rfl) rfl rfl ⟨(blk_cell BK150.out 0).trans rfl, (blk_cell BK150.out 1).trans rfl, (blk_cell BK150.out 2).trans rfl, (blk_cell BK150.out 3).trans rfl, (blk_cell BK150.out 4).trans rfl, (blk_cell BK150.out 5).trans rfl⟩ (fun hHeld => ?_)
        generalize w25.drew = w26 at BK150 HB hHeld ⊢
        refine ta 0 26 hHeld ?_
        refine one_ (i := 1) (N := some 27) #[true, true, false] rfl rfl (by kernel_rfl) (by decide) (fun K hK => ?_)
        refine goes_ Try.func43 (by kernel_rfl) rfl #[] (by rfl) rfl rfl (by (try simp only [List.map_toArray, List.map_cons, List.map_nil]); first | done | rfl | (simp only [List.length_drop, List.length_take]; rfl)) ?_
        with_reducible refine (table_sentinel.calls  t151 t152 t153 t154 t155 t156 _ A9.out).mono ?_
        rintro e w27 ⟨rfl, hb⟩
        refine ⟨_, rfl, ?_⟩
        have n0_ := Am (blk_below (g := gb150) (o := .cells #[.int .i64 ((rd_T34 l0 ((rd_T34 l0 0).f4)).f0), .int .i64 ((rd_T34 l0 ((rd_T34 l0 0).f4)).f1), .int .i64 ((rd_T34 l0 ((rd_T34 l0 0).f4)).f2), .int .i64 ((rd_T34 l0 ((rd_T34 l0 0).f4)).f3), .int .i64 ((rd_T34 l0 ((rd_T34 l0 0).f4)).f4), .int .i64 ((rd_T34 l0 ((rd_T34 l0 0).f4)).f5)] 34 (0, 0)) (by (with_reducible repeat (first | refine blk_drewN ?_ _ | refine blk_drew ?_ | refine blk_alloc ?_ _)); exact BK150.out) hb)
        have n1_ := Am (below_step (by repeat (first | (with_reducible first | exact HB.out | apply ba | apply bn | apply bd | refine below_set ?_ GE150.out) | exact HB.out)) hb)
        clear BK150
        clear HB
        have BK150 := n0_
        have HB := n1_
        clear n0_ n1_
        (try clear hb)
        (try clear hb2)
        (try clear hk)
        (try clear hi)
        refine hK.out _ _ ⟨(blk_cell BK150.out 0).trans rfl, (blk_cell BK150.out 1).trans rfl, (blk_cell BK150.out 2).trans rfl, (blk_cell BK150.out 3).trans rfl, (blk_cell BK150.out 4).trans rfl, (blk_cell BK150.out 5).trans rfl⟩ (fun hHeld => ?_)
        clear hK K
        refine norm_ (a' := ?_) ?_ ?_
        rotate_left
        ·show Act.put _ (some 27) _ = _
         simp only [Act.put, sI, sZ, sS, i64_w, i32_w]
         rfl
        refine pu 2 28 ?_
        refine done_ (by kernel_rfl) ?_
        have hcz28_0 : w27.cell? ⟨gb150, 0, none⟩ = some (.int .i64 ((rd_T34 l0 ((rd_T34 l0 0).f4)).f0)) := (blk_cell BK150.out 0).trans rfl
        have hcz28_1 : w27.cell? ⟨gb150, 1, none⟩ = some (.int .i64 ((rd_T34 l0 ((rd_T34 l0 0).f4)).f1)) := (blk_cell BK150.out 1).trans rfl
        have hcz28_2 : w27.cell? ⟨gb150, 2, none⟩ = some (.int .i64 ((rd_T34 l0 ((rd_T34 l0 0).f4)).f2)) := (blk_cell BK150.out 2).trans rfl
        have hcz28_3 : w27.cell? ⟨gb150, 3, none⟩ = some (.int .i64 ((rd_T34 l0 ((rd_T34 l0 0).f4)).f3)) := (blk_cell BK150.out 3).trans rfl
        have hcz28_4 : w27.cell? ⟨gb150, 4, none⟩ = some (.int .i64 ((rd_T34 l0 ((rd_T34 l0 0).f4)).f4)) := (blk_cell BK150.out 4).trans rfl
        have hcz28_5 : w27.cell? ⟨gb150, 5, none⟩ = some (.int .i64 ((rd_T34 l0 ((rd_T34 l0 0).f4)).f5)) := (blk_cell BK150.out 5).trans rfl
        have hfz28_0 := blk_frozen BK150.out 0
        have hfz28_1 := blk_frozen BK150.out 1
        have hfz28_2 := blk_frozen BK150.out 2
        have hfz28_3 := blk_frozen BK150.out 3
        have hfz28_4 := blk_frozen BK150.out 4
        have hfz28_5 := blk_frozen BK150.out 5
        try go_wp2_with (first | ((with_reducible refine gate_callee (f := 42) rfl ?_); refine goesL_ (some 31) rfl rfl Try.func42 (by kernel_rfl) rfl #[.slice (some ad146) l0.length c0, .agg #[.int .i64 ((rd_T34 l0 ((rd_T34 l0 0).f4)).f0), .int .i64 ((rd_T34 l0 ((rd_T34 l0 0).f4)).f1), .int .i64 ((rd_T34 l0 ((rd_T34 l0 0).f4)).f2), .int .i64 ((rd_T34 l0 ((rd_T34 l0 0).f4)).f3), .int .i64 ((rd_T34 l0 ((rd_T34 l0 0).f4)).f4), .int .i64 ((rd_T34 l0 ((rd_T34 l0 0).f4)).f5)]] rfl (by (try simp only [List.map_toArray, List.map_cons, List.map_nil]); first | done | rfl | (simp only [List.length_drop, List.length_take]; rfl)) ?_; (with_reducible refine (table_crowned.calls _ _ l0 ((rd_T34 l0 ((rd_T34 l0 0).f4)).f0) ((rd_T34 l0 ((rd_T34 l0 0).f4)).f1) ((rd_T34 l0 ((rd_T34 l0 0).f4)).f2) ((rd_T34 l0 ((rd_T34 l0 0).f4)).f3) ((rd_T34 l0 ((rd_T34 l0 0).f4)).f4) ((rd_T34 l0 ((rd_T34 l0 0).f4)).f5) true _ ?side1 ?side2 A18.out).mono ?_); (case side1 => repeat (first | exact (Kd.C_below HR0.out HB.out) | (with_reducible refine Kd.C_alloc ?_ _) | (with_reducible refine Kd.C_drewN ?_ _) | (with_reducible refine Kd.C_drew ?_))); (case side2 => exact HC0.out); rintro e w29 ⟨rfl, hb⟩; refine ⟨_, rfl, ?_⟩; have n0_ := Am (blk_below (g := gb150) (o := .cells #[.int .i64 ((rd_T34 l0 ((rd_T34 l0 0).f4)).f0), .int .i64 ((rd_T34 l0 ((rd_T34 l0 0).f4)).f1), .int .i64 ((rd_T34 l0 ((rd_T34 l0 0).f4)).f2), .int .i64 ((rd_T34 l0 ((rd_T34 l0 0).f4)).f3), .int .i64 ((rd_T34 l0 ((rd_T34 l0 0).f4)).f4), .int .i64 ((rd_T34 l0 ((rd_T34 l0 0).f4)).f5)] 34 (0, 0)) (by (with_reducible repeat (first | refine blk_drewN ?_ _ | refine blk_drew ?_ | refine blk_alloc ?_ _)); exact BK150.out) hb); have n1_ := Am (below_step (by repeat (first | (with_reducible first | exact HB.out | apply ba | apply bn | apply bd | refine below_set ?_ GE150.out) | exact HB.out)) hb); clear BK150; clear HB; have BK150 := n0_; have HB := n1_; clear n0_ n1_; (try clear hb); (try clear hb2); (try clear hk); (try clear hi); have hcz30_0 : w29.cell? ⟨gb150, 0, none⟩ = some (.int .i64 ((rd_T34 l0 ((rd_T34 l0 0).f4)).f0)) := (blk_cell BK150.out 0).trans rfl; have hcz30_1 : w29.cell? ⟨gb150, 1, none⟩ = some (.int .i64 ((rd_T34 l0 ((rd_T34 l0 0).f4)).f1)) := (blk_cell BK150.out 1).trans rfl; have hcz30_2 : w29.cell? ⟨gb150, 2, none⟩ = some (.int .i64 ((rd_T34 l0 ((rd_T34 l0 0).f4)).f2)) := (blk_cell BK150.out 2).trans rfl; have hcz30_3 : w29.cell? ⟨gb150, 3, none⟩ = some (.int .i64 ((rd_T34 l0 ((rd_T34 l0 0).f4)).f3)) := (blk_cell BK150.out 3).trans rfl; have hcz30_4 : w29.cell? ⟨gb150, 4, none⟩ = some (.int .i64 ((rd_T34 l0 ((rd_T34 l0 0).f4)).f4)) := (blk_cell BK150.out 4).trans rfl; have hcz30_5 : w29.cell? ⟨gb150, 5, none⟩ = some (.int .i64 ((rd_T34 l0 ((rd_T34 l0 0).f4)).f5)) := (blk_cell BK150.out 5).trans rfl; have hfz30_0 := blk_frozen BK150.out 0; have hfz30_1 := blk_frozen BK150.out 1; have hfz30_2 := blk_frozen BK150.out 2; have hfz30_3 := blk_frozen BK150.out 3; have hfz30_4 := blk_frozen BK150.out 4; have hfz30_5 := blk_frozen BK150.out 5) | ((with_reducible refine gate_callee (f := 44) rfl ?_); refine goesL_ (some 36) rfl rfl Try.func44 (by kernel_rfl) rfl #[.slice (some ad146) l0.length c0, .int .i64 ((rd_T34 l0 ((rd_T34 l0 0).f4)).f4)] rfl (by (try simp only [List.map_toArray, List.map_cons, List.map_nil]); first | done | rfl | (simp only [List.length_drop, List.length_take]; rfl)) ?_; (with_reducible refine (table_order.calls k _ _ l0 ((rd_T34 l0 ((rd_T34 l0 0).f4)).f4) t158 _ ?side1 ?side2 A20.out).mono ?_); (case side1 => repeat (first | exact (Kd.C_below HR0.out HB.out) | (with_reducible refine Kd.C_alloc ?_ _) | (with_reducible refine Kd.C_drewN ?_ _) | (with_reducible refine Kd.C_drew ?_))); (case side2 => exact HC0.out); rintro e w31 ⟨v159, rfl, ho0, hb⟩; refine ⟨_, rfl, ?_⟩; have n0_ := Am (Kd.R_lower ho0 (below_size (by repeat (first | (with_reducible first | exact HB.out | apply ba | apply bn | apply bd | refine below_set ?_ GE150.out) | exact HB.out)))); have n1_ := Am (blk_below (g := gb150) (o := .cells #[.int .i64 ((rd_T34 l0 ((rd_T34 l0 0).f4)).f0), .int .i64 ((rd_T34 l0 ((rd_T34 l0 0).f4)).f1), .int .i64 ((rd_T34 l0 ((rd_T34 l0 0).f4)).f2), .int .i64 ((rd_T34 l0 ((rd_T34 l0 0).f4)).f3), .int .i64 ((rd_T34 l0 ((rd_T34 l0 0).f4)).f4), .int .i64 ((rd_T34 l0 ((rd_T34 l0 0).f4)).f5)] 34 (0, 0)) (by (with_reducible repeat (first | refine blk_drewN ?_ _ | refine blk_drew ?_ | refine blk_alloc ?_ _)); exact BK150.out) hb); have n2_ := Am (below_step (by repeat (first | (with_reducible first | exact HB.out | apply ba | apply bn | apply bd | refine below_set ?_ GE150.out) | exact HB.out)) hb); clear BK150; clear HB; have HO160 := n0_; have BK150 := n1_; have HB := n2_; clear n0_ n1_ n2_; (try clear hb); (try clear hb2); (try clear hk); (try clear hi); (try clear ho0); obtain ⟨Ao32, co32, eo32⟩ := Kd.R_slice HO160.out; subst eo32))
        go_loopg [38] k (fun kq v38 w' => ∃ (x38_1 : Int), v38 = .int .i64 x38_1 ∧ Aside0 (table_Root.l0 kq l0 t158 (t158.length : Int) x38_1 ((rd_T34 l0 ((rd_T34 l0 0).f4)).f0) ((rd_T34 l0 ((rd_T34 l0 0).f4)).f1) ((rd_T34 l0 ((rd_T34 l0 0).f4)).f2) ((rd_T34 l0 ((rd_T34 l0 0).f4)).f3) ((rd_T34 l0 ((rd_T34 l0 0).f4)).f4) ((rd_T34 l0 ((rd_T34 l0 0).f4)).f5) = some (r1, r2)) ∧ Aside0 (kq ≤ k) ∧ Aside0 (Kd.R (Kd.int .i64) 3 w' w.heap.size (fun _ => True) (.slice Ao32 t158.length co32) t158) ∧ Aside0 (w'.heap[gb150]? = some (.cells #[.int .i64 ((rd_T34 l0 ((rd_T34 l0 0).f4)).f0), .int .i64 ((rd_T34 l0 ((rd_T34 l0 0).f4)).f1), .int .i64 ((rd_T34 l0 ((rd_T34 l0 0).f4)).f2), .int .i64 ((rd_T34 l0 ((rd_T34 l0 0).f4)).f3), .int .i64 ((rd_T34 l0 ((rd_T34 l0 0).f4)).f4), .int .i64 ((rd_T34 l0 ((rd_T34 l0 0).f4)).f5)] 34 (0, 0))) ∧ Aside0 (Below w.heap.size w w'))
        case atStart => exact ⟨(0), (by first | rfl | (simp; done) | (simp [*]; done)), H', ⟨Nat.le_refl _⟩, ⟨by (with_reducible repeat (first | apply Kd.R_alloc | apply Kd.R_drewN | apply Kd.R_drew)); exact HO160.out⟩, ⟨by (with_reducible repeat (first | refine blk_drewN ?_ _ | refine blk_drew ?_ | refine blk_alloc ?_ _)); exact BK150.out⟩, ⟨by repeat (first | (with_reducible first | exact HB.out | apply ba | apply bn | apply bd | refine below_set ?_ GE150.out) | exact HB.out)⟩⟩
        case round =>
         clear H'
         try clear c1
         try clear p1
         try clear q1
         try clear hx1
         try clear qi1
         try clear p2
         try clear c3
         try clear c3b0
         try clear c3b1
         try clear c4
         try clear c4b0
         try clear c4b1
         try clear c6
         try clear c7
         try clear c7b0
         try clear c8
         try clear c8b0
         try clear c10
         try clear c10b0
         try clear c10b1
         try clear c10b2
         try clear c12
         try clear p14
         try clear q14
         try clear hx14
         try clear qi14
         try clear c19
         try clear hcz14_0
         try clear hcz14_1
         try clear hcz14_2
         try clear hcz14_3
         try clear hcz14_4
         try clear hcz14_5
         try clear hcz24_0
         try clear hcz24_1
         try clear hcz24_2
         try clear hcz24_3
         try clear hcz24_4
         try clear hcz24_5
         try clear hcz28_0
         try clear hcz28_1
         try clear hcz28_2
         try clear hcz28_3
         try clear hcz28_4
         try clear hcz28_5
         try clear hcz30_0
         try clear hcz30_1
         try clear hcz30_2
         try clear hcz30_3
         try clear hcz30_4
         try clear hcz30_5
         try clear hfz14_0
         try clear hfz14_1
         try clear hfz14_2
         try clear hfz14_3
         try clear hfz14_4
         try clear hfz14_5
         try clear hfz24_0
         try clear hfz24_1
         try clear hfz24_2
         try clear hfz24_3
         try clear hfz24_4
         try clear hfz24_5
         try clear hfz28_0
         try clear hfz28_1
         try clear hfz28_2
         try clear hfz28_3
         try clear hfz28_4
         try clear hfz28_5
         try clear hfz30_0
         try clear hfz30_1
         try clear hfz30_2
         try clear hfz30_3
         try clear hfz30_4
         try clear hfz30_5
         try clear hx146_0
         try clear hx146_1
         try clear hx146_2
         try clear hx146_3
         try clear hx146_4
         try clear hx146_5
         try clear hx148_0
         try clear hx148_1
         try clear hx148_2
         try clear hx148_3
         try clear hx148_4
         try clear hx148_5
         try clear hx149_0
         try clear hx149_1
         try clear hx149_2
         try clear hx149_3
         try clear hx149_4
         try clear hx149_5
         try clear p146
         try clear p148
         try clear p149
         try clear q146
         try clear q148
         try clear q149
         obtain ⟨x38_1, rfl, HA, HK1, HO_36, BK150, HB⟩ := hrel
         cases gk with
         | zero => exact absurd HA.out (by simp [table_Root.l0])
         | succ k1 =>
          have H := HA.out
          clear HA
          simp only [table_Root.l0] at H
          by_cases c33 : x38_1 < (t158.length : Int)
          ·rw [if_pos c33] at H
           have c33b0 : decide (x38_1 < (t158.length : Int)) = true := decide_eq_true c33
           clear c33
           by_cases c34 : 0 ≤ x38_1
           ·rw [if_pos c34] at H
            have c34b0 : decide (0 ≤ x38_1) = true := decide_eq_true c34
            clear c34
            by_cases c35 : x38_1 < (t158.length : Int)
            ·rw [if_pos c35] at H
             have c35b0 : decide (x38_1 < (t158.length : Int)) = true := decide_eq_true c35
             clear c35
             by_cases c36 : 0 ≤ (rd t158 x38_1)
             ·rw [if_pos c36] at H
              have c36b0 : decide (0 ≤ (rd t158 x38_1)) = true := decide_eq_true c36
              clear c36
              by_cases c37 : (rd t158 x38_1) < (l0.length : Int)
              ·rw [if_pos c37] at H
               have c37b0 : decide ((rd t158 x38_1) < (l0.length : Int)) = true := decide_eq_true c37
               clear c37
               by_cases c38 : ((rd_T34 l0 (rd t158 x38_1)).f1) = 0
               ·rw [if_pos c38] at H
                have c38b0 : (((rd_T34 l0 (rd t158 x38_1)).f1) == 0) = true := beq_iff_eq.mpr c38
                have c38b1 : (((rd_T34 l0 (rd t158 x38_1)).f1) != 0) = false := bne_eq_false_iff_eq.mpr c38
                clear c38
                have H' := Am H
                clear H
                have p161 : 0 ≤ (x38_1 : Int) := of_decide_eq_true (by first | (with_reducible assumption) | assumption)
                have q161 : x38_1 < (t158.length : Int) := of_decide_eq_true (by first | (with_reducible assumption) | assumption)
                obtain ⟨ad161, e161, hx161_0⟩ := Kd.at_int (Kd.R_reads' HO_36.out).2.2 x38_1 p161 q161
                cases e161
                replace p161 := eq_true p161
                replace q161 := eq_true q161
                have p162 : 0 ≤ ((rd t158 x38_1) : Int) := of_decide_eq_true (by first | (with_reducible assumption) | assumption)
                have q162 : (rd t158 x38_1) < (l0.length : Int) := of_decide_eq_true (by first | (with_reducible assumption) | assumption)
                obtain ⟨ad162, e162, hx162_0, hx162_1, hx162_2, hx162_3, hx162_4, hx162_5⟩ := at_T34 HR0.out (rd t158 x38_1) p162 q162
                obtain rfl : ad146 = ad162 := (by injection e162)
                replace hx162_0 := (HB.out.cell (blt w _ hx162_0)).trans hx162_0
                replace hx162_1 := (HB.out.cell (blt w _ hx162_1)).trans hx162_1
                replace hx162_2 := (HB.out.cell (blt w _ hx162_2)).trans hx162_2
                replace hx162_3 := (HB.out.cell (blt w _ hx162_3)).trans hx162_3
                replace hx162_4 := (HB.out.cell (blt w _ hx162_4)).trans hx162_4
                replace hx162_5 := (HB.out.cell (blt w _ hx162_5)).trans hx162_5
                replace p162 := eq_true p162
                replace q162 := eq_true q162
                go_wp2
                go_roundg k1
                case measure => have := HK1.out; omega
                case rel => exact ⟨(wrap64 (x38_1 + 1)), (by first | rfl | (simp; done) | (simp [*]; done)), H', ⟨by have := HK1.out; omega⟩, ⟨by (with_reducible repeat (first | apply Kd.R_alloc | apply Kd.R_drewN | apply Kd.R_drew)); exact HO_36.out⟩, ⟨by (with_reducible repeat (first | refine blk_drewN ?_ _ | refine blk_drew ?_ | refine blk_alloc ?_ _)); exact BK150.out⟩, ⟨by repeat (first | (with_reducible first | exact HB.out | apply ba | apply bn | apply bd | refine below_set ?_ GE150.out) | exact HB.out)⟩⟩
               ·rw [if_neg c38] at H
                have c38b0 : (((rd_T34 l0 (rd t158 x38_1)).f1) == 0) = false := beq_eq_false_iff_ne.mpr c38
                have c38b1 : (((rd_T34 l0 (rd t158 x38_1)).f1) != 0) = true := bne_iff_ne.mpr c38
                simp only [Option.some.injEq, Prod.mk.injEq] at H
                obtain ⟨rfl, rfl⟩ := H
                have p161 : 0 ≤ (x38_1 : Int) := of_decide_eq_true (by first | (with_reducible assumption) | assumption)
                have q161 : x38_1 < (t158.length : Int) := of_decide_eq_true (by first | (with_reducible assumption) | assumption)
                obtain ⟨ad161, e161, hx161_0⟩ := Kd.at_int (Kd.R_reads' HO_36.out).2.2 x38_1 p161 q161
                cases e161
                replace p161 := eq_true p161
                replace q161 := eq_true q161
                have p162 : 0 ≤ ((rd t158 x38_1) : Int) := of_decide_eq_true (by first | (with_reducible assumption) | assumption)
                have q162 : (rd t158 x38_1) < (l0.length : Int) := of_decide_eq_true (by first | (with_reducible assumption) | assumption)
                obtain ⟨ad162, e162, hx162_0, hx162_1, hx162_2, hx162_3, hx162_4, hx162_5⟩ := at_T34 HR0.out (rd t158 x38_1) p162 q162
                obtain rfl : ad146 = ad162 := (by injection e162)
                replace hx162_0 := (HB.out.cell (blt w _ hx162_0)).trans hx162_0
                replace hx162_1 := (HB.out.cell (blt w _ hx162_1)).trans hx162_1
                replace hx162_2 := (HB.out.cell (blt w _ hx162_2)).trans hx162_2
                replace hx162_3 := (HB.out.cell (blt w _ hx162_3)).trans hx162_3
                replace hx162_4 := (HB.out.cell (blt w _ hx162_4)).trans hx162_4
                replace hx162_5 := (HB.out.cell (blt w _ hx162_5)).trans hx162_5
                replace p162 := eq_true p162
                replace q162 := eq_true q162
                go_wp2
                go_ret2
                exact ⟨by first | rfl | (simp [errW_none, errW_some] <;> rfl) | (simp [*, errW_none, errW_some] <;> rfl), by repeat (first | (with_reducible first | exact HB.out | apply ba | apply bn | apply bd | refine below_set ?_ GE150.out) | exact HB.out)⟩
              ·rw [if_neg c37] at H
               exact absurd H (by simp)
             ·rw [if_neg c36] at H
              exact absurd H (by simp)
            ·rw [if_neg c35] at H
             exact absurd H (by simp)
           ·rw [if_neg c34] at H
            exact absurd H (by simp)
          ·rw [if_neg c33] at H
           have c33b0 : decide (x38_1 < (t158.length : Int)) = false := decide_eq_false c33
           clear c33
           simp only [Option.some.injEq, Prod.mk.injEq] at H
           obtain ⟨rfl, rfl⟩ := H
           have hcz39_0 : wr.cell? ⟨gb150, 0, none⟩ = some (.int .i64 ((rd_T34 l0 ((rd_T34 l0 0).f4)).f0)) := (blk_cell BK150.out 0).trans rfl
           have hcz39_1 : wr.cell? ⟨gb150, 1, none⟩ = some (.int .i64 ((rd_T34 l0 ((rd_T34 l0 0).f4)).f1)) := (blk_cell BK150.out 1).trans rfl
           have hcz39_2 : wr.cell? ⟨gb150, 2, none⟩ = some (.int .i64 ((rd_T34 l0 ((rd_T34 l0 0).f4)).f2)) := (blk_cell BK150.out 2).trans rfl
           have hcz39_3 : wr.cell? ⟨gb150, 3, none⟩ = some (.int .i64 ((rd_T34 l0 ((rd_T34 l0 0).f4)).f3)) := (blk_cell BK150.out 3).trans rfl
           have hcz39_4 : wr.cell? ⟨gb150, 4, none⟩ = some (.int .i64 ((rd_T34 l0 ((rd_T34 l0 0).f4)).f4)) := (blk_cell BK150.out 4).trans rfl
           have hcz39_5 : wr.cell? ⟨gb150, 5, none⟩ = some (.int .i64 ((rd_T34 l0 ((rd_T34 l0 0).f4)).f5)) := (blk_cell BK150.out 5).trans rfl
           have hfz39_0 := blk_frozen BK150.out 0
           have hfz39_1 := blk_frozen BK150.out 1
           have hfz39_2 := blk_frozen BK150.out 2
           have hfz39_3 := blk_frozen BK150.out 3
           have hfz39_4 := blk_frozen BK150.out 4
           have hfz39_5 := blk_frozen BK150.out 5
           go_wp2
           go_ret2
           exact ⟨by first | rfl | (simp [errW_none, errW_some] <;> rfl) | (simp [*, errW_none, errW_some] <;> rfl), by repeat (first | (with_reducible first | exact HB.out | apply ba | apply bn | apply bd | refine below_set ?_ GE150.out) | exact HB.out)⟩
       ·replace c19 := Bool.eq_false_iff.mpr c19
        subst c19
        have H1 : (some (0, 3)) = some (r1, r2) := by rw [if_neg (show ¬ (false = true) by decide)] at H; exact H
        clear H
        have H := H1
        clear H1
        simp only [Option.some.injEq, Prod.mk.injEq] at H
        obtain ⟨rfl, rfl⟩ := H
        go_enter Try.func12, Try.ntmps12
        try go_wp2_with (first | ((with_reducible refine gate_callee (f := 41) rfl ?_); refine goesL_ (some 9) rfl rfl Try.func41 (by kernel_rfl) rfl #[.slice A0 l0.length c0] rfl (by (try simp only [List.map_toArray, List.map_cons, List.map_nil]); first | done | rfl | (simp only [List.length_drop, List.length_take]; rfl)) ?_; (with_reducible refine (table_Check.calls k _ _ l0 t145 _ ?side1 ?side2 A2.out).mono ?_); (case side1 => repeat (first | exact HR0.out | (with_reducible refine Kd.C_alloc ?_ _) | (with_reducible refine Kd.C_drewN ?_ _) | (with_reducible refine Kd.C_drew ?_))); (case side2 => exact HC0.out); rintro e w40 ⟨rfl, hb⟩; refine ⟨_, rfl, ?_⟩; have n0_ := Am (below_step (by repeat (first | (with_reducible first | exact HB.out | apply ba | apply bn | apply bd) | exact HB.out)) hb); clear HB; have HB := n0_; clear n0_; (try clear hb); (try clear hb2); (try clear hk); (try clear hi); have p146 : 0 ≤ (0 : Int) := (by omega); have q146 : 0 < (l0.length : Int) := of_decide_eq_true (by first | (with_reducible assumption) | assumption); obtain ⟨ad146, e146, hx146_0, hx146_1, hx146_2, hx146_3, hx146_4, hx146_5⟩ := at_T34 HR0.out 0 p146 q146; cases e146; have qi146 : (0 < l0.length) = True := eq_true (by omega); (try rw [show ((0 : Int)).toNat = 0 from rfl] at hx146_0); (try rw [show 0 * 6 = 0 from rfl] at hx146_0); (try rw [Addr.add_zero'] at hx146_0); (try rw [show ((0 : Int)).toNat = 0 from rfl] at hx146_1); (try rw [show 0 * 6 = 0 from rfl] at hx146_1); (try rw [Addr.add_zero'] at hx146_1); (try rw [show ((0 : Int)).toNat = 0 from rfl] at hx146_2); (try rw [show 0 * 6 = 0 from rfl] at hx146_2); (try rw [Addr.add_zero'] at hx146_2); (try rw [show ((0 : Int)).toNat = 0 from rfl] at hx146_3); (try rw [show 0 * 6 = 0 from rfl] at hx146_3); (try rw [Addr.add_zero'] at hx146_3); (try rw [show ((0 : Int)).toNat = 0 from rfl] at hx146_4); (try rw [show 0 * 6 = 0 from rfl] at hx146_4); (try rw [Addr.add_zero'] at hx146_4); (try rw [show ((0 : Int)).toNat = 0 from rfl] at hx146_5); (try rw [show 0 * 6 = 0 from rfl] at hx146_5); (try rw [Addr.add_zero'] at hx146_5); replace hx146_0 := (HB.out.cell (blt w _ hx146_0)).trans hx146_0; replace hx146_1 := (HB.out.cell (blt w _ hx146_1)).trans hx146_1; replace hx146_2 := (HB.out.cell (blt w _ hx146_2)).trans hx146_2; replace hx146_3 := (HB.out.cell (blt w _ hx146_3)).trans hx146_3; replace hx146_4 := (HB.out.cell (blt w _ hx146_4)).trans hx146_4; replace hx146_5 := (HB.out.cell (blt w _ hx146_5)).trans hx146_5; replace p146 := eq_true p146; replace q146 := eq_true q146) | ((with_reducible refine gate_callee (f := 42) rfl ?_); refine goesL_ (some 17) rfl rfl Try.func42 (by kernel_rfl) rfl #[.slice (some ad146) l0.length c0, .agg #[.int .i64 ((rd_T34 l0 0).f0), .int .i64 ((rd_T34 l0 0).f1), .int .i64 ((rd_T34 l0 0).f2), .int .i64 ((rd_T34 l0 0).f3), .int .i64 ((rd_T34 l0 0).f4), .int .i64 ((rd_T34 l0 0).f5)]] rfl (by (try simp only [List.map_toArray, List.map_cons, List.map_nil]); first | done | rfl | (simp only [List.length_drop, List.length_take]; rfl)) ?_; (with_reducible refine (table_crowned.calls _ _ l0 ((rd_T34 l0 0).f0) ((rd_T34 l0 0).f1) ((rd_T34 l0 0).f2) ((rd_T34 l0 0).f3) ((rd_T34 l0 0).f4) ((rd_T34 l0 0).f5) true _ ?side1 ?side2 A5.out).mono ?_); (case side1 => repeat (first | exact (Kd.C_below HR0.out HB.out) | (with_reducible refine Kd.C_alloc ?_ _) | (with_reducible refine Kd.C_drewN ?_ _) | (with_reducible refine Kd.C_drew ?_))); (case side2 => exact HC0.out); rintro e w41 ⟨rfl, hb⟩; refine ⟨_, rfl, ?_⟩; have n0_ := Am (below_step (by repeat (first | (with_reducible first | exact HB.out | apply ba | apply bn | apply bd) | exact HB.out)) hb); clear HB; have HB := n0_; clear n0_; (try clear hb); (try clear hb2); (try clear hk); (try clear hi); have p148 : 0 ≤ (0 : Int) := (by omega); have q148 : 0 < (l0.length : Int) := of_decide_eq_true (by first | (with_reducible assumption) | assumption); obtain ⟨ad148, e148, hx148_0, hx148_1, hx148_2, hx148_3, hx148_4, hx148_5⟩ := at_T34 HR0.out 0 p148 q148; obtain rfl : ad146 = ad148 := (by injection e148); have qi148 : (0 < l0.length) = True := eq_true (by omega); (try rw [show ((0 : Int)).toNat = 0 from rfl] at hx148_0); (try rw [show 0 * 6 = 0 from rfl] at hx148_0); (try rw [Addr.add_zero'] at hx148_0); (try rw [show ((0 : Int)).toNat = 0 from rfl] at hx148_1); (try rw [show 0 * 6 = 0 from rfl] at hx148_1); (try rw [Addr.add_zero'] at hx148_1); (try rw [show ((0 : Int)).toNat = 0 from rfl] at hx148_2); (try rw [show 0 * 6 = 0 from rfl] at hx148_2); (try rw [Addr.add_zero'] at hx148_2); (try rw [show ((0 : Int)).toNat = 0 from rfl] at hx148_3); (try rw [show 0 * 6 = 0 from rfl] at hx148_3); (try rw [Addr.add_zero'] at hx148_3); (try rw [show ((0 : Int)).toNat = 0 from rfl] at hx148_4); (try rw [show 0 * 6 = 0 from rfl] at hx148_4); (try rw [Addr.add_zero'] at hx148_4); (try rw [show ((0 : Int)).toNat = 0 from rfl] at hx148_5); (try rw [show 0 * 6 = 0 from rfl] at hx148_5); (try rw [Addr.add_zero'] at hx148_5); replace hx148_0 := (HB.out.cell (blt w _ hx148_0)).trans hx148_0; replace hx148_1 := (HB.out.cell (blt w _ hx148_1)).trans hx148_1; replace hx148_2 := (HB.out.cell (blt w _ hx148_2)).trans hx148_2; replace hx148_3 := (HB.out.cell (blt w _ hx148_3)).trans hx148_3; replace hx148_4 := (HB.out.cell (blt w _ hx148_4)).trans hx148_4; replace hx148_5 := (HB.out.cell (blt w _ hx148_5)).trans hx148_5; replace p148 := eq_true p148; replace q148 := eq_true q148; have p149 : 0 ≤ (((rd_T34 l0 0).f4) : Int) := of_decide_eq_true (by first | (with_reducible assumption) | assumption); have q149 : ((rd_T34 l0 0).f4) < (l0.length : Int) := of_decide_eq_true (by first | (with_reducible assumption) | assumption); obtain ⟨ad149, e149, hx149_0, hx149_1, hx149_2, hx149_3, hx149_4, hx149_5⟩ := at_T34 HR0.out ((rd_T34 l0 0).f4) p149 q149; obtain rfl : ad146 = ad149 := (by injection e149); replace hx149_0 := (HB.out.cell (blt w _ hx149_0)).trans hx149_0; replace hx149_1 := (HB.out.cell (blt w _ hx149_1)).trans hx149_1; replace hx149_2 := (HB.out.cell (blt w _ hx149_2)).trans hx149_2; replace hx149_3 := (HB.out.cell (blt w _ hx149_3)).trans hx149_3; replace hx149_4 := (HB.out.cell (blt w _ hx149_4)).trans hx149_4; replace hx149_5 := (HB.out.cell (blt w _ hx149_5)).trans hx149_5; replace p149 := eq_true p149; replace q149 := eq_true q149) | ((with_reducible refine gate_dst (N := 5) rfl ?_); refine box_event ?hg (N := 5) ?hd (cs := #[.int .i64 0, .int .i64 0, .int .i64 0, .int .i64 0, .int .i64 0, .int .i64 0]) (t := 34) ?hr ?_; (case hd => rfl); (case hg => rfl); (case hr => first | (go_simp; done) | (go_simp; rfl)); intro gb150 hg w42 hbox hb; have n0_ := Am (below_step (by repeat (first | (with_reducible first | exact HB.out | apply ba | apply bn | apply bd) | exact HB.out)) hb); have n1_ := Am (hbox); have n2_ := Am ((by rw [hg]; exact (below_size (by repeat (first | (with_reducible first | exact HB.out | apply ba | apply bn | apply bd) | exact HB.out))) : w.heap.size ≤ gb150)); have n3_ := Am ((by rw [hg]; exact (below_size (by repeat (first | (with_reducible first | exact HB.out | apply ba | apply bn | apply bd) | exact HB.out))) : w.heap.size ≤ gb150)); clear HB; have HB := n0_; have BK150 := n1_; have GW150 := n2_; have GE150 := n3_; clear n0_ n1_ n2_ n3_; clear hb hbox hg; have hcz43_0 : w42.cell? ⟨gb150, 0, none⟩ = some (.int .i64 0) := (blk_cell BK150.out 0).trans rfl; have hcz43_1 : w42.cell? ⟨gb150, 1, none⟩ = some (.int .i64 0) := (blk_cell BK150.out 1).trans rfl; have hcz43_2 : w42.cell? ⟨gb150, 2, none⟩ = some (.int .i64 0) := (blk_cell BK150.out 2).trans rfl; have hcz43_3 : w42.cell? ⟨gb150, 3, none⟩ = some (.int .i64 0) := (blk_cell BK150.out 3).trans rfl; have hcz43_4 : w42.cell? ⟨gb150, 4, none⟩ = some (.int .i64 0) := (blk_cell BK150.out 4).trans rfl; have hcz43_5 : w42.cell? ⟨gb150, 5, none⟩ = some (.int .i64 0) := (blk_cell BK150.out 5).trans rfl; have hfz43_0 := blk_frozen BK150.out 0; have hfz43_1 := blk_frozen BK150.out 1; have hfz43_2 := blk_frozen BK150.out 2; have hfz43_3 := blk_frozen BK150.out 3; have hfz43_4 := blk_frozen BK150.out 4; have hfz43_5 := blk_frozen BK150.out 5))
        have n0_ : Aside0 (((((((w42.setCell ⟨gb150, 0, none⟩ (.int .i64 ((rd_T34 l0 ((rd_T34 l0 0).f4)).f0))).setCell ⟨gb150, 1, none⟩ (.int .i64 ((rd_T34 l0 ((rd_T34 l0 0).f4)).f1))).setCell ⟨gb150, 2, none⟩ (.int .i64 ((rd_T34 l0 ((rd_T34 l0 0).f4)).f2))).setCell ⟨gb150, 3, none⟩ (.int .i64 ((rd_T34 l0 ((rd_T34 l0 0).f4)).f3))).setCell ⟨gb150, 4, none⟩ (.int .i64 ((rd_T34 l0 ((rd_T34 l0 0).f4)).f4))).setCell ⟨gb150, 5, none⟩ (.int .i64 ((rd_T34 l0 ((rd_T34 l0 0).f4)).f5))).heap[gb150]? = some (.cells #[.int .i64 ((rd_T34 l0 ((rd_T34 l0 0).f4)).f0), .int .i64 ((rd_T34 l0 ((rd_T34 l0 0).f4)).f1), .int .i64 ((rd_T34 l0 ((rd_T34 l0 0).f4)).f2), .int .i64 ((rd_T34 l0 ((rd_T34 l0 0).f4)).f3), .int .i64 ((rd_T34 l0 ((rd_T34 l0 0).f4)).f4), .int .i64 ((rd_T34 l0 ((rd_T34 l0 0).f4)).f5)] 34 (0, 0))) := ⟨by (with_reducible repeat (first | refine blk_drewN ?_ _ | refine blk_drew ?_ | refine blk_alloc ?_ _)); refine blk_put (cs := #[.int .i64 ((rd_T34 l0 ((rd_T34 l0 0).f4)).f0), .int .i64 ((rd_T34 l0 ((rd_T34 l0 0).f4)).f1), .int .i64 ((rd_T34 l0 ((rd_T34 l0 0).f4)).f2), .int .i64 ((rd_T34 l0 ((rd_T34 l0 0).f4)).f3), .int .i64 ((rd_T34 l0 ((rd_T34 l0 0).f4)).f4), .int .i64 0]) ?_ 5 _ rfl; (with_reducible repeat (first | refine blk_drewN ?_ _ | refine blk_drew ?_ | refine blk_alloc ?_ _)); refine blk_put (cs := #[.int .i64 ((rd_T34 l0 ((rd_T34 l0 0).f4)).f0), .int .i64 ((rd_T34 l0 ((rd_T34 l0 0).f4)).f1), .int .i64 ((rd_T34 l0 ((rd_T34 l0 0).f4)).f2), .int .i64 ((rd_T34 l0 ((rd_T34 l0 0).f4)).f3), .int .i64 0, .int .i64 0]) ?_ 4 _ rfl; (with_reducible repeat (first | refine blk_drewN ?_ _ | refine blk_drew ?_ | refine blk_alloc ?_ _)); refine blk_put (cs := #[.int .i64 ((rd_T34 l0 ((rd_T34 l0 0).f4)).f0), .int .i64 ((rd_T34 l0 ((rd_T34 l0 0).f4)).f1), .int .i64 ((rd_T34 l0 ((rd_T34 l0 0).f4)).f2), .int .i64 0, .int .i64 0, .int .i64 0]) ?_ 3 _ rfl; (with_reducible repeat (first | refine blk_drewN ?_ _ | refine blk_drew ?_ | refine blk_alloc ?_ _)); refine blk_put (cs := #[.int .i64 ((rd_T34 l0 ((rd_T34 l0 0).f4)).f0), .int .i64 ((rd_T34 l0 ((rd_T34 l0 0).f4)).f1), .int .i64 0, .int .i64 0, .int .i64 0, .int .i64 0]) ?_ 2 _ rfl; (with_reducible repeat (first | refine blk_drewN ?_ _ | refine blk_drew ?_ | refine blk_alloc ?_ _)); refine blk_put (cs := #[.int .i64 ((rd_T34 l0 ((rd_T34 l0 0).f4)).f0), .int .i64 0, .int .i64 0, .int .i64 0, .int .i64 0, .int .i64 0]) ?_ 1 _ rfl; (with_reducible repeat (first | refine blk_drewN ?_ _ | refine blk_drew ?_ | refine blk_alloc ?_ _)); refine blk_put (cs := #[.int .i64 0, .int .i64 0, .int .i64 0, .int .i64 0, .int .i64 0, .int .i64 0]) ?_ 0 _ rfl; (with_reducible repeat (first | refine blk_drewN ?_ _ | refine blk_drew ?_ | refine blk_alloc ?_ _)); exact BK150.out⟩
        have n1_ : Aside0 (Below w.heap.size w ((((((w42.setCell ⟨gb150, 0, none⟩ (.int .i64 ((rd_T34 l0 ((rd_T34 l0 0).f4)).f0))).setCell ⟨gb150, 1, none⟩ (.int .i64 ((rd_T34 l0 ((rd_T34 l0 0).f4)).f1))).setCell ⟨gb150, 2, none⟩ (.int .i64 ((rd_T34 l0 ((rd_T34 l0 0).f4)).f2))).setCell ⟨gb150, 3, none⟩ (.int .i64 ((rd_T34 l0 ((rd_T34 l0 0).f4)).f3))).setCell ⟨gb150, 4, none⟩ (.int .i64 ((rd_T34 l0 ((rd_T34 l0 0).f4)).f4))).setCell ⟨gb150, 5, none⟩ (.int .i64 ((rd_T34 l0 ((rd_T34 l0 0).f4)).f5)))) := ⟨by repeat (first | (with_reducible first | exact HB.out | apply ba | apply bn | apply bd | refine below_set ?_ GE150.out) | exact HB.out)⟩
        (try clear BK150)
        (try clear HB)
        generalize ((((((w42.setCell ⟨gb150, 0, none⟩ (.int .i64 ((rd_T34 l0 ((rd_T34 l0 0).f4)).f0))).setCell ⟨gb150, 1, none⟩ (.int .i64 ((rd_T34 l0 ((rd_T34 l0 0).f4)).f1))).setCell ⟨gb150, 2, none⟩ (.int .i64 ((rd_T34 l0 ((rd_T34 l0 0).f4)).f2))).setCell ⟨gb150, 3, none⟩ (.int .i64 ((rd_T34 l0 ((rd_T34 l0 0).f4)).f3))).setCell ⟨gb150, 4, none⟩ (.int .i64 ((rd_T34 l0 ((rd_T34 l0 0).f4)).f4))).setCell ⟨gb150, 5, none⟩ (.int .i64 ((rd_T34 l0 ((rd_T34 l0 0).f4)).f5))) = w44 at n0_ n1_ ⊢
        have BK150 := n0_
        have HB := n1_
        clear n0_ n1_
        have n0_ := Am (blk_drew BK150.out)
        have n1_ := Am (bd HB.out)
        clear BK150
        clear HB
        have BK150 := n0_
        have HB := n1_
        clear n0_ n1_
        refine start_ (n := 3) (S := fun w' => w'.cell? ⟨gb150, 0, none⟩ = some (.int .i64 ((rd_T34 l0 ((rd_T34 l0 0).f4)).f0)) ∧ w'.cell? ⟨gb150, 1, none⟩ = some (.int .i64 ((rd_T34 l0 ((rd_T34 l0 0).f4)).f1)) ∧ w'.cell? ⟨gb150, 2, none⟩ = some (.int .i64 ((rd_T34 l0 ((rd_T34 l0 0).f4)).f2)) ∧ w'.cell? ⟨gb150, 3, none⟩ = some (.int .i64 ((rd_T34 l0 ((rd_T34 l0 0).f4)).f3)) ∧ w'.cell? ⟨gb150, 4, none⟩ = some (.int .i64 ((rd_T34 l0 ((rd_T34 l0 0).f4)).f4)) ∧ w'.cell? ⟨gb150, 5, none⟩ = some (.int .i64 ((rd_T34 l0 ((rd_T34 l0 0).f4)).f5))) (ds := []) #[false, false, false] (by kernel_rfl) rfl rfl ⟨(blk_cell BK150.out 0).trans rfl, (blk_cell BK150.out 1).trans rfl, (blk_cell BK150.out 2).trans rfl, (blk_cell BK150.out 3).trans rfl, (blk_cell BK150.out 4).trans rfl, (blk_cell BK150.out 5).trans rfl⟩ (fun hHeld => ?_)
        generalize w44.drew = w45 at BK150 HB hHeld ⊢
        refine ta 0 26 hHeld ?_
        refine one_ (i := 1) (N := some 27) #[true, true, false] rfl rfl (by kernel_rfl) (by decide) (fun K hK => ?_)
        refine goes_ Try.func43 (by kernel_rfl) rfl #[] (by rfl) rfl rfl (by (try simp only [List.map_toArray, List.map_cons, List.map_nil]); first | done | rfl | (simp only [List.length_drop, List.length_take]; rfl)) ?_
        with_reducible refine (table_sentinel.calls  t151 t152 t153 t154 t155 t156 _ A9.out).mono ?_
        rintro e w46 ⟨rfl, hb⟩
        refine ⟨_, rfl, ?_⟩
        have n0_ := Am (blk_below (g := gb150) (o := .cells #[.int .i64 ((rd_T34 l0 ((rd_T34 l0 0).f4)).f0), .int .i64 ((rd_T34 l0 ((rd_T34 l0 0).f4)).f1), .int .i64 ((rd_T34 l0 ((rd_T34 l0 0).f4)).f2), .int .i64 ((rd_T34 l0 ((rd_T34 l0 0).f4)).f3), .int .i64 ((rd_T34 l0 ((rd_T34 l0 0).f4)).f4), .int .i64 ((rd_T34 l0 ((rd_T34 l0 0).f4)).f5)] 34 (0, 0)) (by (with_reducible repeat (first | refine blk_drewN ?_ _ | refine blk_drew ?_ | refine blk_alloc ?_ _)); exact BK150.out) hb)
        have n1_ := Am (below_step (by repeat (first | (with_reducible first | exact HB.out | apply ba | apply bn | apply bd | refine below_set ?_ GE150.out) | exact HB.out)) hb)
        clear BK150
        clear HB
        have BK150 := n0_
        have HB := n1_
        clear n0_ n1_
        (try clear hb)
        (try clear hb2)
        (try clear hk)
        (try clear hi)
        refine hK.out _ _ ⟨(blk_cell BK150.out 0).trans rfl, (blk_cell BK150.out 1).trans rfl, (blk_cell BK150.out 2).trans rfl, (blk_cell BK150.out 3).trans rfl, (blk_cell BK150.out 4).trans rfl, (blk_cell BK150.out 5).trans rfl⟩ (fun hHeld => ?_)
        clear hK K
        refine norm_ (a' := ?_) ?_ ?_
        rotate_left
        ·show Act.put _ (some 27) _ = _
         simp only [Act.put, sI, sZ, sS, i64_w, i32_w]
         rfl
        refine pu 2 28 ?_
        refine done_ (by kernel_rfl) ?_
        have hcz47_0 : w46.cell? ⟨gb150, 0, none⟩ = some (.int .i64 ((rd_T34 l0 ((rd_T34 l0 0).f4)).f0)) := (blk_cell BK150.out 0).trans rfl
        have hcz47_1 : w46.cell? ⟨gb150, 1, none⟩ = some (.int .i64 ((rd_T34 l0 ((rd_T34 l0 0).f4)).f1)) := (blk_cell BK150.out 1).trans rfl
        have hcz47_2 : w46.cell? ⟨gb150, 2, none⟩ = some (.int .i64 ((rd_T34 l0 ((rd_T34 l0 0).f4)).f2)) := (blk_cell BK150.out 2).trans rfl
        have hcz47_3 : w46.cell? ⟨gb150, 3, none⟩ = some (.int .i64 ((rd_T34 l0 ((rd_T34 l0 0).f4)).f3)) := (blk_cell BK150.out 3).trans rfl
        have hcz47_4 : w46.cell? ⟨gb150, 4, none⟩ = some (.int .i64 ((rd_T34 l0 ((rd_T34 l0 0).f4)).f4)) := (blk_cell BK150.out 4).trans rfl
        have hcz47_5 : w46.cell? ⟨gb150, 5, none⟩ = some (.int .i64 ((rd_T34 l0 ((rd_T34 l0 0).f4)).f5)) := (blk_cell BK150.out 5).trans rfl
        have hfz47_0 := blk_frozen BK150.out 0
        have hfz47_1 := blk_frozen BK150.out 1
        have hfz47_2 := blk_frozen BK150.out 2
        have hfz47_3 := blk_frozen BK150.out 3
        have hfz47_4 := blk_frozen BK150.out 4
        have hfz47_5 := blk_frozen BK150.out 5
        try go_wp2_with (first | ((with_reducible refine gate_callee (f := 42) rfl ?_); refine goesL_ (some 31) rfl rfl Try.func42 (by kernel_rfl) rfl #[.slice (some ad146) l0.length c0, .agg #[.int .i64 ((rd_T34 l0 ((rd_T34 l0 0).f4)).f0), .int .i64 ((rd_T34 l0 ((rd_T34 l0 0).f4)).f1), .int .i64 ((rd_T34 l0 ((rd_T34 l0 0).f4)).f2), .int .i64 ((rd_T34 l0 ((rd_T34 l0 0).f4)).f3), .int .i64 ((rd_T34 l0 ((rd_T34 l0 0).f4)).f4), .int .i64 ((rd_T34 l0 ((rd_T34 l0 0).f4)).f5)]] rfl (by (try simp only [List.map_toArray, List.map_cons, List.map_nil]); first | done | rfl | (simp only [List.length_drop, List.length_take]; rfl)) ?_; (with_reducible refine (table_crowned.calls _ _ l0 ((rd_T34 l0 ((rd_T34 l0 0).f4)).f0) ((rd_T34 l0 ((rd_T34 l0 0).f4)).f1) ((rd_T34 l0 ((rd_T34 l0 0).f4)).f2) ((rd_T34 l0 ((rd_T34 l0 0).f4)).f3) ((rd_T34 l0 ((rd_T34 l0 0).f4)).f4) ((rd_T34 l0 ((rd_T34 l0 0).f4)).f5) false _ ?side1 ?side2 A18.out).mono ?_); (case side1 => repeat (first | exact (Kd.C_below HR0.out HB.out) | (with_reducible refine Kd.C_alloc ?_ _) | (with_reducible refine Kd.C_drewN ?_ _) | (with_reducible refine Kd.C_drew ?_))); (case side2 => exact HC0.out); rintro e w48 ⟨rfl, hb⟩; refine ⟨_, rfl, ?_⟩; have n0_ := Am (blk_below (g := gb150) (o := .cells #[.int .i64 ((rd_T34 l0 ((rd_T34 l0 0).f4)).f0), .int .i64 ((rd_T34 l0 ((rd_T34 l0 0).f4)).f1), .int .i64 ((rd_T34 l0 ((rd_T34 l0 0).f4)).f2), .int .i64 ((rd_T34 l0 ((rd_T34 l0 0).f4)).f3), .int .i64 ((rd_T34 l0 ((rd_T34 l0 0).f4)).f4), .int .i64 ((rd_T34 l0 ((rd_T34 l0 0).f4)).f5)] 34 (0, 0)) (by (with_reducible repeat (first | refine blk_drewN ?_ _ | refine blk_drew ?_ | refine blk_alloc ?_ _)); exact BK150.out) hb); have n1_ := Am (below_step (by repeat (first | (with_reducible first | exact HB.out | apply ba | apply bn | apply bd | refine below_set ?_ GE150.out) | exact HB.out)) hb); clear BK150; clear HB; have BK150 := n0_; have HB := n1_; clear n0_ n1_; (try clear hb); (try clear hb2); (try clear hk); (try clear hi)))
        go_ret2
        exact ⟨by first | rfl | (simp [errW_none, errW_some] <;> rfl) | (simp [*, errW_none, errW_some] <;> rfl), by repeat (first | (with_reducible first | exact HB.out | apply ba | apply bn | apply bd | refine below_set ?_ GE150.out) | exact HB.out)⟩
     ·rw [if_neg c8] at H
      exact absurd H (by simp)
    ·rw [if_neg c7] at H
     exact absurd H (by simp)
   ·replace c6 := Bool.eq_false_iff.mpr c6
    subst c6
    have H1 : (some (0, 3)) = some (r1, r2) := by rw [if_neg (show ¬ (false = true) by decide)] at H; exact H
    clear H
    have H := H1
    clear H1
    simp only [Option.some.injEq, Prod.mk.injEq] at H
    obtain ⟨rfl, rfl⟩ := H
    go_enter Try.func12, Try.ntmps12
    go_wp2_with (first | ((with_reducible refine gate_callee (f := 41) rfl ?_); refine goesL_ (some 9) rfl rfl Try.func41 (by kernel_rfl) rfl #[.slice A0 l0.length c0] rfl (by (try simp only [List.map_toArray, List.map_cons, List.map_nil]); first | done | rfl | (simp only [List.length_drop, List.length_take]; rfl)) ?_; (with_reducible refine (table_Check.calls k _ _ l0 t145 _ ?side1 ?side2 A2.out).mono ?_); (case side1 => repeat (first | exact HR0.out | (with_reducible refine Kd.C_alloc ?_ _) | (with_reducible refine Kd.C_drewN ?_ _) | (with_reducible refine Kd.C_drew ?_))); (case side2 => exact HC0.out); rintro e w49 ⟨rfl, hb⟩; refine ⟨_, rfl, ?_⟩; have n0_ := Am (below_step (by repeat (first | (with_reducible first | exact HB.out | apply ba | apply bn | apply bd) | exact HB.out)) hb); clear HB; have HB := n0_; clear n0_; (try clear hb); (try clear hb2); (try clear hk); (try clear hi); have p146 : 0 ≤ (0 : Int) := (by omega); have q146 : 0 < (l0.length : Int) := of_decide_eq_true (by first | (with_reducible assumption) | assumption); obtain ⟨ad146, e146, hx146_0, hx146_1, hx146_2, hx146_3, hx146_4, hx146_5⟩ := at_T34 HR0.out 0 p146 q146; cases e146; have qi146 : (0 < l0.length) = True := eq_true (by omega); (try rw [show ((0 : Int)).toNat = 0 from rfl] at hx146_0); (try rw [show 0 * 6 = 0 from rfl] at hx146_0); (try rw [Addr.add_zero'] at hx146_0); (try rw [show ((0 : Int)).toNat = 0 from rfl] at hx146_1); (try rw [show 0 * 6 = 0 from rfl] at hx146_1); (try rw [Addr.add_zero'] at hx146_1); (try rw [show ((0 : Int)).toNat = 0 from rfl] at hx146_2); (try rw [show 0 * 6 = 0 from rfl] at hx146_2); (try rw [Addr.add_zero'] at hx146_2); (try rw [show ((0 : Int)).toNat = 0 from rfl] at hx146_3); (try rw [show 0 * 6 = 0 from rfl] at hx146_3); (try rw [Addr.add_zero'] at hx146_3); (try rw [show ((0 : Int)).toNat = 0 from rfl] at hx146_4); (try rw [show 0 * 6 = 0 from rfl] at hx146_4); (try rw [Addr.add_zero'] at hx146_4); (try rw [show ((0 : Int)).toNat = 0 from rfl] at hx146_5); (try rw [show 0 * 6 = 0 from rfl] at hx146_5); (try rw [Addr.add_zero'] at hx146_5); replace hx146_0 := (HB.out.cell (blt w _ hx146_0)).trans hx146_0; replace hx146_1 := (HB.out.cell (blt w _ hx146_1)).trans hx146_1; replace hx146_2 := (HB.out.cell (blt w _ hx146_2)).trans hx146_2; replace hx146_3 := (HB.out.cell (blt w _ hx146_3)).trans hx146_3; replace hx146_4 := (HB.out.cell (blt w _ hx146_4)).trans hx146_4; replace hx146_5 := (HB.out.cell (blt w _ hx146_5)).trans hx146_5; replace p146 := eq_true p146; replace q146 := eq_true q146) | ((with_reducible refine gate_callee (f := 42) rfl ?_); refine goesL_ (some 17) rfl rfl Try.func42 (by kernel_rfl) rfl #[.slice (some ad146) l0.length c0, .agg #[.int .i64 ((rd_T34 l0 0).f0), .int .i64 ((rd_T34 l0 0).f1), .int .i64 ((rd_T34 l0 0).f2), .int .i64 ((rd_T34 l0 0).f3), .int .i64 ((rd_T34 l0 0).f4), .int .i64 ((rd_T34 l0 0).f5)]] rfl (by (try simp only [List.map_toArray, List.map_cons, List.map_nil]); first | done | rfl | (simp only [List.length_drop, List.length_take]; rfl)) ?_; (with_reducible refine (table_crowned.calls _ _ l0 ((rd_T34 l0 0).f0) ((rd_T34 l0 0).f1) ((rd_T34 l0 0).f2) ((rd_T34 l0 0).f3) ((rd_T34 l0 0).f4) ((rd_T34 l0 0).f5) false _ ?side1 ?side2 A5.out).mono ?_); (case side1 => repeat (first | exact (Kd.C_below HR0.out HB.out) | (with_reducible refine Kd.C_alloc ?_ _) | (with_reducible refine Kd.C_drewN ?_ _) | (with_reducible refine Kd.C_drew ?_))); (case side2 => exact HC0.out); rintro e w50 ⟨rfl, hb⟩; refine ⟨_, rfl, ?_⟩; have n0_ := Am (below_step (by repeat (first | (with_reducible first | exact HB.out | apply ba | apply bn | apply bd) | exact HB.out)) hb); clear HB; have HB := n0_; clear n0_; (try clear hb); (try clear hb2); (try clear hk); (try clear hi)))
    go_ret2
    exact ⟨by first | rfl | (simp [errW_none, errW_some] <;> rfl) | (simp [*, errW_none, errW_some] <;> rfl), by repeat (first | (with_reducible first | exact HB.out | apply ba | apply bn | apply bd) | exact HB.out)⟩
  ·rw [if_neg c4] at H
   exact absurd H (by simp)
 ·rw [if_neg c3] at H
  have c3b0 : (t145 == 0) = false := beq_eq_false_iff_ne.mpr c3
  have c3b1 : (t145 != 0) = true := bne_iff_ne.mpr c3
  simp only [Option.some.injEq, Prod.mk.injEq] at H
  obtain ⟨rfl, rfl⟩ := H
  go_enter Try.func12, Try.ntmps12
  go_wp2_with (first | ((with_reducible refine gate_callee (f := 41) rfl ?_); refine goesL_ (some 9) rfl rfl Try.func41 (by kernel_rfl) rfl #[.slice A0 l0.length c0] rfl (by (try simp only [List.map_toArray, List.map_cons, List.map_nil]); first | done | rfl | (simp only [List.length_drop, List.length_take]; rfl)) ?_; (with_reducible refine (table_Check.calls k _ _ l0 t145 _ ?side1 ?side2 A2.out).mono ?_); (case side1 => repeat (first | exact HR0.out | (with_reducible refine Kd.C_alloc ?_ _) | (with_reducible refine Kd.C_drewN ?_ _) | (with_reducible refine Kd.C_drew ?_))); (case side2 => exact HC0.out); rintro e w51 ⟨rfl, hb⟩; refine ⟨_, rfl, ?_⟩; have n0_ := Am (below_step (by repeat (first | (with_reducible first | exact HB.out | apply ba | apply bn | apply bd) | exact HB.out)) hb); clear HB; have HB := n0_; clear n0_; (try clear hb); (try clear hb2); (try clear hk); (try clear hi)))
  go_ret2
  exact ⟨by first | rfl | (simp [errW_none, errW_some] <;> rfl) | (simp [*, errW_none, errW_some] <;> rfl), by repeat (first | (with_reducible first | exact HB.out | apply ba | apply bn | apply bd) | exact HB.out)⟩
end Go.Proofs.Ytgleaefhflamnaa.T
namespace Go.Proofs.Ytgleaefhflamnaa.T
open Go.RowKit Go.Proofs.YtgleaefhflamnaaW.PrintWords Go.Proofs.YtgleaefhflamnaaW.PrintLast Go.Proofs.YtgleaefhflamnaaW.PrintMore
attribute [local go_sem] max2_int min2_int max_two min_two max_three min_three max_four min_four   -- for this text's walks alone
set_option linter.unusedVariables false
set_option linter.unusedSimpArgs false
def steps_keys.l0 : Nat → List (S34) → Int → List Bool → List Int → Option (Int × List Bool × Int)
 | 0, _, _, _, _ => none
 | k + 1, x0, x5, x7, x8 => if (x8.length : Int) > 0 then (if 0 ≤ (wrap64 ((x8.length : Int) - 1)) then (if (wrap64 ((x8.length : Int) - 1)) < (x8.length : Int) then (if (wrap64 ((x8.length : Int) - 1)) ≤ (x8.length : Int) then ((some (x8.take ((wrap64 ((x8.length : Int) - 1)) : Int).toNat : List Int)).bind fun y172 => (if 0 ≤ (rd x8 (wrap64 ((x8.length : Int) - 1))) then (if (rd x8 (wrap64 ((x8.length : Int) - 1))) < (x7.length : Int) then ((some (x7.set ((rd x8 (wrap64 ((x8.length : Int) - 1))) : Int).toNat true : List Bool)).bind fun y175 => (if (rd x8 (wrap64 ((x8.length : Int) - 1))) < (x0.length : Int) then (if ((rd_T34 x0 (rd x8 (wrap64 ((x8.length : Int) - 1)))).f4) ≥ 0 then ((some (([(rd_T34 x0 (rd x8 (wrap64 ((x8.length : Int) - 1)))).f4, (rd_T34 x0 (rd x8 (wrap64 ((x8.length : Int) - 1)))).f5] : List Int) : List Int)).bind fun y179 => (if y172.length + y179.length < 17592186044416 then (steps_keys.l0 k x0 x5 y175 (y172 ++ y179)) else (none))) else (steps_keys.l0 k x0 x5 y175 y172)) else (none))) else (none)) else (none))) else (none)) else (none)) else (none)) else (some (x5, x7, 0))
def steps_keys.f (k : Nat) (l0 : List (S34)) : Option (Int × List Bool × Int) := (table_Root.f k l0).bind fun bt163 => (if bt163.2 = 0 then (if 0 ≤ (l0.length : Int) then (if ((l0.length : Int) : Int).toNat ≤ 281474976710656 then (steps_keys.l0 k l0 bt163.1 (List.replicate ((l0.length : Int) : Int).toNat false) (([bt163.1] : List Int))) else (none)) else (none)) else (some (0, ([] : List Bool), bt163.2)))
def steps_keys.T11 : Bool × List (List Nat × List Nat) := (true, [([], []), ([], []), ([], []), ([1, 2], [1, 2]), ([3], [3]), ([4], [4]), ([], []), ([], []), ([6, 7], [6, 7]), ([8], [8]), ([9], [9]), ([5, 10], [5, 10]), ([0, 11], [0, 11]), ([12, 12, 0, 1, 2, 3, 4, 5, 6, 7, 8, 9, 10, 11, 12], [0, 12])])
def steps_keys.B11 : List Nat := [0, 0, 0, 6, 14, 30, 0, 0, 192, 448, 960, 2046, 4095, 8191]
theorem steps_keys.tab11 : rtab .any (opsOf Try.f48 11) = steps_keys.T11 := by kernel_rfl
theorem steps_keys.bits11 : waitsOk steps_keys.T11.2 steps_keys.B11 = true := by kernel_rfl
set_option maxHeartbeats 8000000 in
set_option maxRecDepth 100000 in
theorem steps_keys.calls (k : Nat) (A0 : Option Addr) (c0 : Nat) (l0 : List (S34)) (r1 : Int) (r2 : List Bool) (r3 : Int) (w : World) (hr0 : Kd.C k34 w A0 l0.length l0) (hc0 : l0.length ≤ c0) (h : steps_keys.f k l0 = some (r1, r2, r3)) :
  Calls Try.prog 48 #[.slice A0 l0.length c0] w fun e w' => ∃ v1_ : Value, e = .returned (.tuple #[.int .i64 r1, v1_, .int .i64 r3]) ∧ Kd.R Kd.bool 4 w' w.heap.size (fun _ => True) v1_ r2 ∧ Below w.heap.size w w' := by
 have HR0 := Am hr0
 have HC0 := Am hc0
 clear hr0 hc0
 have HB := Am (Below.refl w.heap.size w)
 have H : ((table_Root.f k l0).bind fun bt163 => (if bt163.2 = 0 then (if 0 ≤ (l0.length : Int) then (if ((l0.length : Int) : Int).toNat ≤ 281474976710656 then (steps_keys.l0 k l0 bt163.1 (List.replicate ((l0.length : Int) : Int).toNat false) (([bt163.1] : List Int))) else (none)) else (none)) else (some (0, ([] : List Bool), bt163.2)))) = some (r1, r2, r3) := h
 clear h
 replace H := Option.bind_eq_some_iff.mp H
 obtain ⟨⟨t163, t164⟩, A20, H⟩ := H
 replace H : (if t164 = 0 then (if 0 ≤ (l0.length : Int) then (if ((l0.length : Int) : Int).toNat ≤ 281474976710656 then (steps_keys.l0 k l0 t163 (List.replicate ((l0.length : Int) : Int).toNat false) (([t163] : List Int))) else (none)) else (none)) else (some (0, ([] : List Bool), t164))) = some (r1, r2, r3) := H
 have A2 := Am A20
 clear A20
 by_cases c3 : t164 = 0
 ·rw [if_pos c3] at H
  have c3b0 : (t164 == 0) = true := beq_iff_eq.mpr c3
  have c3b1 : (t164 != 0) = false := bne_eq_false_iff_eq.mpr c3
  clear c3
  by_cases c4 : 0 ≤ (l0.length : Int)
  ·rw [if_pos c4] at H
   have c4b0 := eq_true c4
   have c4b1 : decide (0 ≤ (l0.length : Int)) = true := decide_eq_true c4
   clear c4
   by_cases c5 : ((l0.length : Int) : Int).toNat ≤ 281474976710656
   ·rw [if_pos c5] at H
    have c5b0 := eq_true c5
    have c5b1 : decide (((l0.length : Int) : Int).toNat ≤ 281474976710656) = true := decide_eq_true c5
    clear c5
    obtain ⟨y165, hy165⟩ : ∃ y_ : List Bool, y_ = (List.replicate ((l0.length : Int) : Int).toNat false) := ⟨_, rfl⟩
    replace H : (steps_keys.l0 k l0 t163 y165 (([t163] : List Int))) = some (r1, r2, r3) := by first | (rw [hy165]; with_reducible exact H) | (have H2_ := (Option.bind_some _ _).symm.trans H; rw [hy165]; with_reducible exact H2_) | (have H2_ := (Option.bind_some _ _).symm.trans H; with_reducible exact H2_) | with_reducible exact H | (rw [hy165]; exact H) | exact H
    have Ny165 := Am hy165
    clear hy165
    obtain ⟨y168, hy168⟩ : ∃ y_ : List Int, y_ = (([t163] : List Int)) := ⟨_, rfl⟩
    replace H : (steps_keys.l0 k l0 t163 y165 y168) = some (r1, r2, r3) := by first | (rw [hy168]; with_reducible exact H) | (have H2_ := (Option.bind_some _ _).symm.trans H; rw [hy168]; with_reducible exact H2_) | (have H2_ := (Option.bind_some _ _).symm.trans H; with_reducible exact H2_) | with_reducible exact H | (rw [hy168]; exact H) | exact H
    have Ny168 := Am hy168
    clear hy168
    have H' := Am H
    clear H
    go_enter Try.func48, Try.ntmps48
    go_wp2_with (first | ((with_reducible refine gate_callee (f := 12) rfl ?_); refine goesL_ (some 12) rfl rfl Try.func12 (by kernel_rfl) rfl #[.slice A0 l0.length c0] rfl (by (try simp only [List.map_toArray, List.map_cons, List.map_nil]); first | done | rfl | (simp only [List.length_drop, List.length_take]; rfl)) ?_; (with_reducible refine (table_Root.calls k _ _ l0 t163 t164 _ ?side1 ?side2 A2.out).mono ?_); (case side1 => repeat (first | exact HR0.out | (with_reducible refine Kd.C_alloc ?_ _) | (with_reducible refine Kd.C_drewN ?_ _) | (with_reducible refine Kd.C_drew ?_))); (case side2 => exact HC0.out); rintro e w6 ⟨rfl, hb⟩; refine ⟨_, rfl, ?_⟩; have n0_ := Am (below_step (by repeat (first | (with_reducible first | exact HB.out | apply ba | apply bn | apply bd) | exact HB.out)) hb); clear HB; have HB := n0_; clear n0_; (try clear hb); (try clear hb2); (try clear hk); (try clear hi)) | ((with_reducible refine gate_dst (N := 20) rfl ?_); refine Kd.R_make Kd.bool _ 4 rfl (N := 20) rfl 87 _ _ rfl (l0.length : Int) rfl rfl Try.underlying87 (.bool false) 1 info4 rfl (by decide) (by omega) false (ok := fun _ => True) (okp := fun _ => True) rfl (fun _ hk => hk) trivial (of_decide_eq_true (by first | (with_reducible assumption) | assumption)) (Nat.le_trans (Nat.mul_le_mul_right _ (of_decide_eq_true (by first | (with_reducible assumption) | assumption) : (l0.length : Int).toNat ≤ 281474976710656)) (by omega)) (Below.refl _ _) (Nat.le_refl _) ?_; intro v166 w7 ho8 hb hg_ hnew_; clear hg_ hnew_; (first | rw [← Ny165.out] at ho8 | (simp only [Int.reduceToNat] at ho8; rw [← Ny165.out] at ho8)); have n0_ := Am (Kd.R_lower ho8 (below_size (by repeat (first | (with_reducible first | exact HB.out | apply ba | apply bn | apply bd) | exact HB.out)))); have n1_ := Am (below_step (by repeat (first | (with_reducible first | exact HB.out | apply ba | apply bn | apply bd) | exact HB.out)) hb); clear HB; have HO167 := n0_; have HB := n1_; clear n0_ n1_; clear hb ho8) | ((with_reducible refine gate_dst (N := 22) rfl ?_); refine Kd.R_lit (Kd.int .i64) _ 3 ?hg (N := 22) ?hd (xs := ([t163] : List Int)) (inner := [.int .i64 t163]) (ok := fun _ => True) (okp := fun _ => True) ?hr ?hp (fun _ hk => hk) trivial (Below.refl _ _) (Nat.le_refl _) (by simp) ?_; (case hd => rfl); (case hg => rfl); (case hr => first | (go_simp; done) | (go_simp; rfl)); (case hp => exact (Reps.one (show Kd.M (Kd.int .i64) _ _ _ t163 [.int .i64 t163] from rfl) (Reps.none _ _))); intro v169 w9 ho10 hb hg_ hnew_; clear hg_ hnew_; (first | rw [← Ny168.out] at ho10 | (simp only [Int.reduceToNat] at ho10; rw [← Ny168.out] at ho10)); have n0_ := Am (Kd.R_below (by (with_reducible repeat (first | apply Kd.R_alloc | apply Kd.R_drewN | apply Kd.R_drew)); exact HO167.out) hb); have n1_ := Am (Kd.R_lower ho10 (below_size (by repeat (first | (with_reducible first | exact HB.out | apply ba | apply bn | apply bd) | exact HB.out)))); have n2_ := Am (below_step (by repeat (first | (with_reducible first | exact HB.out | apply ba | apply bn | apply bd) | exact HB.out)) hb); clear HO167; clear HB; have HO167 := n0_; have HO170 := n1_; have HB := n2_; clear n0_ n1_ n2_; clear hb ho10))
    go_loopg [8] k (fun kq v8 w' => ∃ (x7_1 : List Bool) (x8_1 : List Int), Aside0 (steps_keys.l0 kq l0 t163 x7_1 x8_1 = some (r1, r2, r3)) ∧ Aside0 (kq ≤ k) ∧ Aside0 (Kd.R Kd.bool 4 w' w.heap.size (fun _ => True) v166 x7_1) ∧ Aside0 (Kd.R (Kd.int .i64) 3 w' w.heap.size (fun _ => True) v8 x8_1) ∧ Aside0 (Below w.heap.size w w'))
    case atStart => exact ⟨(y165), (y168), H', ⟨Nat.le_refl _⟩, ⟨by (with_reducible repeat (first | apply Kd.R_alloc | apply Kd.R_drewN | apply Kd.R_drew)); exact HO167.out⟩, ⟨by (with_reducible repeat (first | apply Kd.R_alloc | apply Kd.R_drewN | apply Kd.R_drew)); exact HO170.out⟩, ⟨by repeat (first | (with_reducible first | exact HB.out | apply ba | apply bn | apply bd) | exact HB.out)⟩⟩
    case round =>
     clear H'
     try clear c1
     try clear p2
     try clear c3
     try clear c3b0
     try clear c3b1
     try clear c4
     try clear c4b0
     try clear c4b1
     try clear c5
     try clear c5b0
     try clear c5b1
     obtain ⟨x7_1, x8_1, HA, HK1, HO_7, HO_8, HB⟩ := hrel
     cases gk with
     | zero => exact absurd HA.out (by simp [steps_keys.l0])
     | succ k1 =>
      have H := HA.out
      clear HA
      simp only [steps_keys.l0] at H
      by_cases c11 : (x8_1.length : Int) > 0
      ·rw [if_pos c11] at H
       have c11b0 : decide (0 < (x8_1.length : Int)) = true := decide_eq_true c11
       have c11b1 : decide (0 < x8_1.length) = true := decide_eq_true (by omega)
       clear c11
       obtain ⟨ji12, hji12⟩ : ∃ j_ : Int, (wrap64 ((x8_1.length : Int) - 1)) = j_ := ⟨_, rfl⟩
       replace H : (if 0 ≤ (ji12) then (if (ji12) < (x8_1.length : Int) then (if (ji12) ≤ (x8_1.length : Int) then ((some (x8_1.take ((ji12) : Int).toNat : List Int)).bind fun y172 => (if 0 ≤ (rd x8_1 (ji12)) then (if (rd x8_1 (ji12)) < (x7_1.length : Int) then ((some (x7_1.set ((rd x8_1 (ji12)) : Int).toNat true : List Bool)).bind fun y175 => (if (rd x8_1 (ji12)) < (l0.length : Int) then (if ((rd_T34 l0 (rd x8_1 (ji12))).f4) ≥ 0 then ((some (([(rd_T34 l0 (rd x8_1 (ji12))).f4, (rd_T34 l0 (rd x8_1 (ji12))).f5] : List Int) : List Int)).bind fun y179 => (if y172.length + y179.length < 17592186044416 then (steps_keys.l0 k1 l0 t163 y175 (y172 ++ y179)) else (none))) else (steps_keys.l0 k1 l0 t163 y175 y172)) else (none))) else (none)) else (none))) else (none)) else (none)) else (none)) = some (r1, r2, r3) := by first | (rw [hji12] at H; exact H) | (simp only [hji12] at H ⊢; exact H)
       have hji12w : (IntKind.i64.wrap ((x8_1.length : Int) - 1)) = ji12 := (i64_w _).trans hji12
       by_cases c13 : 0 ≤ (ji12)
       ·rw [if_pos c13] at H
        have c13b0 : decide (0 ≤ (ji12)) = true := decide_eq_true c13
        clear c13
        by_cases c14 : (ji12) < (x8_1.length : Int)
        ·rw [if_pos c14] at H
         have c14b0 : decide ((ji12) < (x8_1.length : Int)) = true := decide_eq_true c14
         clear c14
         by_cases c15 : (ji12) ≤ (x8_1.length : Int)
         ·rw [if_pos c15] at H
          have c15b0 := eq_true c15
          have c15b1 : decide ((ji12) ≤ (x8_1.length : Int)) = true := decide_eq_true c15
          clear c15
          obtain ⟨y172, hy172⟩ : ∃ y_ : List Int, y_ = (x8_1.take ((ji12) : Int).toNat) := ⟨_, rfl⟩
          replace H : (if 0 ≤ (rd x8_1 (ji12)) then (if (rd x8_1 (ji12)) < (x7_1.length : Int) then ((some (x7_1.set ((rd x8_1 (ji12)) : Int).toNat true : List Bool)).bind fun y175 => (if (rd x8_1 (ji12)) < (l0.length : Int) then (if ((rd_T34 l0 (rd x8_1 (ji12))).f4) ≥ 0 then ((some (([(rd_T34 l0 (rd x8_1 (ji12))).f4, (rd_T34 l0 (rd x8_1 (ji12))).f5] : List Int) : List Int)).bind fun y179 => (if y172.length + y179.length < 17592186044416 then (steps_keys.l0 k1 l0 t163 y175 (y172 ++ y179)) else (none))) else (steps_keys.l0 k1 l0 t163 y175 y172)) else (none))) else (none)) else (none)) = some (r1, r2, r3) := by first | (rw [hy172]; with_reducible exact H) | (have H2_ := (Option.bind_some _ _).symm.trans H; rw [hy172]; with_reducible exact H2_) | (have H2_ := (Option.bind_some _ _).symm.trans H; with_reducible exact H2_) | with_reducible exact H | (rw [hy172]; exact H) | exact H
          have Ny172 := Am hy172
          clear hy172
          by_cases c16 : 0 ≤ (rd x8_1 (ji12))
          ·rw [if_pos c16] at H
           have c16b0 : decide (0 ≤ (rd x8_1 (ji12))) = true := decide_eq_true c16
           clear c16
           by_cases c17 : (rd x8_1 (ji12)) < (x7_1.length : Int)
           ·rw [if_pos c17] at H
            have c17b0 : decide ((rd x8_1 (ji12)) < (x7_1.length : Int)) = true := decide_eq_true c17
            clear c17
            obtain ⟨y175, hy175⟩ : ∃ y_ : List Bool, y_ = (x7_1.set ((rd x8_1 (ji12)) : Int).toNat true) := ⟨_, rfl⟩
            replace H : (if (rd x8_1 (ji12)) < (l0.length : Int) then (if ((rd_T34 l0 (rd x8_1 (ji12))).f4) ≥ 0 then ((some (([(rd_T34 l0 (rd x8_1 (ji12))).f4, (rd_T34 l0 (rd x8_1 (ji12))).f5] : List Int) : List Int)).bind fun y179 => (if y172.length + y179.length < 17592186044416 then (steps_keys.l0 k1 l0 t163 y175 (y172 ++ y179)) else (none))) else (steps_keys.l0 k1 l0 t163 y175 y172)) else (none)) = some (r1, r2, r3) := by first | (rw [hy175]; with_reducible exact H) | (have H2_ := (Option.bind_some _ _).symm.trans H; rw [hy175]; with_reducible exact H2_) | (have H2_ := (Option.bind_some _ _).symm.trans H; with_reducible exact H2_) | with_reducible exact H | (rw [hy175]; exact H) | exact H
            have Ny175 := Am hy175
            clear hy175
            by_cases c19 : (rd x8_1 (ji12)) < (l0.length : Int)
            ·rw [if_pos c19] at H
             have c19b0 : decide ((rd x8_1 (ji12)) < (l0.length : Int)) = true := decide_eq_true c19
             clear c19
             by_cases c20 : ((rd_T34 l0 (rd x8_1 (ji12))).f4) ≥ 0
             ·rw [if_pos c20] at H
              have c20b0 : decide (0 ≤ ((rd_T34 l0 (rd x8_1 (ji12))).f4)) = true := decide_eq_true c20
              clear c20
              obtain ⟨y179, hy179⟩ : ∃ y_ : List Int, y_ = (([(rd_T34 l0 (rd x8_1 (ji12))).f4, (rd_T34 l0 (rd x8_1 (ji12))).f5] : List Int)) := ⟨_, rfl⟩
              replace H : (if y172.length + y179.length < 17592186044416 then (steps_keys.l0 k1 l0 t163 y175 (y172 ++ y179)) else (none)) = some (r1, r2, r3) := by first | (rw [hy179]; with_reducible exact H) | (have H2_ := (Option.bind_some _ _).symm.trans H; rw [hy179]; with_reducible exact H2_) | (have H2_ := (Option.bind_some _ _).symm.trans H; with_reducible exact H2_) | with_reducible exact H | (rw [hy179]; exact H) | exact H
              have Ny179 := Am hy179
              clear hy179
              by_cases c21 : y172.length + y179.length < 17592186044416
              ·rw [if_pos c21] at H
               have LMc21 := Am c21
               clear c21
               obtain ⟨y182, hy182⟩ : ∃ y_ : List Int, y_ = (y172 ++ y179) := ⟨_, rfl⟩
               replace H : (steps_keys.l0 k1 l0 t163 y175 y182) = some (r1, r2, r3) := by first | (rw [hy182]; with_reducible exact H) | (have H2_ := (Option.bind_some _ _).symm.trans H; rw [hy182]; with_reducible exact H2_) | (have H2_ := (Option.bind_some _ _).symm.trans H; with_reducible exact H2_) | with_reducible exact H | (rw [hy182]; exact H) | exact H
               have Ny182 := Am hy182
               clear hy182
               have H' := Am H
               clear H
               obtain ⟨Ao22, co22, eo22⟩ := Kd.R_slice HO_8.out
               subst eo22
               have p171 : 0 ≤ ((ji12) : Int) := of_decide_eq_true (by first | (with_reducible assumption) | assumption)
               have q171 : (ji12) < (x8_1.length : Int) := of_decide_eq_true (by first | (with_reducible assumption) | assumption)
               obtain ⟨ad171, e171, hx171_0⟩ := Kd.at_int (Kd.R_reads' HO_8.out).2.2 (ji12) p171 q171
               cases e171
               replace p171 := eq_true p171
               replace q171 := eq_true q171
               have q23 : ((ji12) : Int) ≤ ((x8_1.length : Int) : Int) := of_decide_eq_true (by first | (with_reducible assumption) | assumption)
               obtain ⟨i023, hi023, _, hsz23, _⟩ := info_parts info3
               have hcut23 := cut_to (P := Try.prog) 31 3 .i64 Try.underlying31 hi023 (some ad171) x8_1.length co22 (ji12) (of_decide_eq_true (by first | (with_reducible assumption) | assumption)) q23 (Kd.R_reads' HO_8.out).2.1
               have hr23 := Kd.R_take (m := ((ji12) : Int).toNat) HO_8.out (by omega)
               have hy23 : y172.length = ((ji12) : Int).toNat := (by rw [Ny172.out, List.length_take]; omega)
               rw [← Ny172.out] at hr23
               rw [← hy23] at hr23 hcut23
               clear hy23 hi023 hsz23 HO_8
               have HO174 := Am hr23
               clear hr23
               replace q23 := eq_true q23
               have p18 : 0 ≤ ((rd x8_1 (ji12)) : Int) := of_decide_eq_true (by first | (with_reducible assumption) | assumption)
               have q18 : ((rd x8_1 (ji12)) : Int) < ((x7_1.length : Int) : Int) := of_decide_eq_true (by first | (with_reducible assumption) | assumption)
               obtain ⟨go18, co18, eo18, gb18, gl18, cl18, HG18⟩ := Kd.R_form HO_7.out (by omega)
               (first | cases eo18 | (injection eo18 with ea_ en_ ec_; (first | subst ea_ | (injection ea_ with ea_; subst ea_)); subst ec_; clear en_))
               have GB18 := Am gb18
               have GG18 := Am HG18
               clear gb18 gl18 HG18
               obtain ⟨hx18_0, hf18_0⟩ := Kd.R_celln false HO_7.out ((rd x8_1 (ji12)) : Int) p18 q18
               replace p18 := eq_true p18
               replace q18 := eq_true q18
               have HP24 := Kd.R_putg HO_7.out ((rd x8_1 (ji12)) : Int) true
               try go_wp2_with (first | ((with_reducible refine gate_store (t := 4) (p := 39) rfl ?_); refine store_event (t := 4) (p := 39) (v := ?vo_w25) (w1 := (wr.setCell ⟨go18, ((rd x8_1 (ji12)) : Int).toNat, none⟩ (.bool true))) ?hg ?ho ?hn ?hr ?_; (case ho => rfl); (case hg => rfl); (case hn => rfl); (case hr => first | (go_simp; done) | (go_simp; rfl)); intro w25 hw; have hg : wr.grownBy w25 (some go18) := (by rw [hw]; exact HP24.2); have hp_ : Kd.R Kd.bool 4 w25 w.heap.size (fun _ => True) (.slice (some ⟨go18, 0, none⟩) x7_1.length co18) y175 := (by rw [hw, Ny175.out]; exact HP24.1); clear HP24; have n0_ := Am (hp_); have n1_ := Am (Kd.R_over' (v := (.slice (some ⟨go18, 0, none⟩) x7_1.length co18)) (by (with_reducible repeat (first | apply Kd.R_alloc | apply Kd.R_drewN | apply Kd.R_drew)); exact HO174.out) (Kd.R_typed HO_7.out) (by decide) hg); have n2_ := Am ((by rw [hw]; exact below_set (HB.out) GB18.out : Below w.heap.size w w25)); clear HO_7; clear HO174; clear HB; have HO_7 := n0_; have HO174 := n1_; have HB := n2_; clear n0_ n1_ n2_; clear hg hw hp_; have p176 : 0 ≤ ((rd x8_1 (ji12)) : Int) := of_decide_eq_true (by first | (with_reducible assumption) | assumption); have q176 : (rd x8_1 (ji12)) < (l0.length : Int) := of_decide_eq_true (by first | (with_reducible assumption) | assumption); obtain ⟨ad176, e176, hx176_0, hx176_1, hx176_2, hx176_3, hx176_4, hx176_5⟩ := at_T34 HR0.out (rd x8_1 (ji12)) p176 q176; cases e176; replace hx176_0 := (HB.out.cell (blt w _ hx176_0)).trans hx176_0; replace hx176_1 := (HB.out.cell (blt w _ hx176_1)).trans hx176_1; replace hx176_2 := (HB.out.cell (blt w _ hx176_2)).trans hx176_2; replace hx176_3 := (HB.out.cell (blt w _ hx176_3)).trans hx176_3; replace hx176_4 := (HB.out.cell (blt w _ hx176_4)).trans hx176_4; replace hx176_5 := (HB.out.cell (blt w _ hx176_5)).trans hx176_5; replace p176 := eq_true p176; replace q176 := eq_true q176))
               have n0_ := Am (Kd.R_drew HO_7.out)
               have n1_ := Am (Kd.R_drew HO174.out)
               have n2_ := Am (bd HB.out)
               clear HO_7
               clear HO174
               clear HB
               have HO_7 := n0_
               have HO174 := n1_
               have HB := n2_
               clear n0_ n1_ n2_
               have p177 : 0 ≤ ((rd x8_1 (ji12)) : Int) := of_decide_eq_true (by first | (with_reducible assumption) | assumption)
               have q177 : (rd x8_1 (ji12)) < (l0.length : Int) := of_decide_eq_true (by first | (with_reducible assumption) | assumption)
               obtain ⟨ad177, e177, hx177_0, hx177_1, hx177_2, hx177_3, hx177_4, hx177_5⟩ := at_T34 HR0.out (rd x8_1 (ji12)) p177 q177
               have hw177_5 := hx177_5
               have hw177_4 := hx177_4
               have hw177_3 := hx177_3
               have hw177_2 := hx177_2
               have hw177_1 := hx177_1
               have hw177_0 := hx177_0
               obtain rfl : ad176 = ad177 := (by injection e177)
               replace hx177_0 := (HB.out.cell (blt w _ hx177_0)).trans hx177_0
               replace hx177_1 := (HB.out.cell (blt w _ hx177_1)).trans hx177_1
               replace hx177_2 := (HB.out.cell (blt w _ hx177_2)).trans hx177_2
               replace hx177_3 := (HB.out.cell (blt w _ hx177_3)).trans hx177_3
               replace hx177_4 := (HB.out.cell (blt w _ hx177_4)).trans hx177_4
               replace hx177_5 := (HB.out.cell (blt w _ hx177_5)).trans hx177_5
               replace p177 := eq_true p177
               replace q177 := eq_true q177
               have p178 : 0 ≤ ((rd x8_1 (ji12)) : Int) := of_decide_eq_true (by first | (with_reducible assumption) | assumption)
               have q178 : (rd x8_1 (ji12)) < (l0.length : Int) := of_decide_eq_true (by first | (with_reducible assumption) | assumption)
               obtain ⟨ad178, e178, hx178_0, hx178_1, hx178_2, hx178_3, hx178_4, hx178_5⟩ := at_T34 HR0.out (rd x8_1 (ji12)) p178 q178
               have hw178_5 := hx178_5
               have hw178_4 := hx178_4
               have hw178_3 := hx178_3
               have hw178_2 := hx178_2
               have hw178_1 := hx178_1
               have hw178_0 := hx178_0
               obtain rfl : ad176 = ad178 := (by injection e178)
               replace hx178_0 := (HB.out.cell (blt w _ hx178_0)).trans hx178_0
               replace hx178_1 := (HB.out.cell (blt w _ hx178_1)).trans hx178_1
               replace hx178_2 := (HB.out.cell (blt w _ hx178_2)).trans hx178_2
               replace hx178_3 := (HB.out.cell (blt w _ hx178_3)).trans hx178_3
               replace hx178_4 := (HB.out.cell (blt w _ hx178_4)).trans hx178_4
               replace hx178_5 := (HB.out.cell (blt w _ hx178_5)).trans hx178_5
               replace p178 := eq_true p178
               replace q178 := eq_true q178
               refine start_ (n := 14) (S := fun w' => w'.cell? (ad176.add (((rd x8_1 (ji12))).toNat * 6)) = some (.int .i64 ((rd_T34 l0 (rd x8_1 (ji12))).f0)) ∧ w'.cell? ⟨(ad176.add (((rd x8_1 (ji12))).toNat * 6)).block, (ad176.add (((rd x8_1 (ji12))).toNat * 6)).off + 1, none⟩ = some (.int .i64 ((rd_T34 l0 (rd x8_1 (ji12))).f1)) ∧ w'.cell? ⟨(ad176.add (((rd x8_1 (ji12))).toNat * 6)).block, (ad176.add (((rd x8_1 (ji12))).toNat * 6)).off + 2, none⟩ = some (.int .i64 ((rd_T34 l0 (rd x8_1 (ji12))).f2)) ∧ w'.cell? ⟨(ad176.add (((rd x8_1 (ji12))).toNat * 6)).block, (ad176.add (((rd x8_1 (ji12))).toNat * 6)).off + 3, none⟩ = some (.int .i64 ((rd_T34 l0 (rd x8_1 (ji12))).f3)) ∧ w'.cell? ⟨(ad176.add (((rd x8_1 (ji12))).toNat * 6)).block, (ad176.add (((rd x8_1 (ji12))).toNat * 6)).off + 4, none⟩ = some (.int .i64 ((rd_T34 l0 (rd x8_1 (ji12))).f4)) ∧ w'.cell? ⟨(ad176.add (((rd x8_1 (ji12))).toNat * 6)).block, (ad176.add (((rd x8_1 (ji12))).toNat * 6)).off + 5, none⟩ = some (.int .i64 ((rd_T34 l0 (rd x8_1 (ji12))).f5)) ∧ w'.cell? (ad176.add (((rd x8_1 (ji12))).toNat * 6)) = some (.int .i64 ((rd_T34 l0 (rd x8_1 (ji12))).f0)) ∧ w'.cell? ⟨(ad176.add (((rd x8_1 (ji12))).toNat * 6)).block, (ad176.add (((rd x8_1 (ji12))).toNat * 6)).off + 1, none⟩ = some (.int .i64 ((rd_T34 l0 (rd x8_1 (ji12))).f1)) ∧ w'.cell? ⟨(ad176.add (((rd x8_1 (ji12))).toNat * 6)).block, (ad176.add (((rd x8_1 (ji12))).toNat * 6)).off + 2, none⟩ = some (.int .i64 ((rd_T34 l0 (rd x8_1 (ji12))).f2)) ∧ w'.cell? ⟨(ad176.add (((rd x8_1 (ji12))).toNat * 6)).block, (ad176.add (((rd x8_1 (ji12))).toNat * 6)).off + 3, none⟩ = some (.int .i64 ((rd_T34 l0 (rd x8_1 (ji12))).f3)) ∧ w'.cell? ⟨(ad176.add (((rd x8_1 (ji12))).toNat * 6)).block, (ad176.add (((rd x8_1 (ji12))).toNat * 6)).off + 4, none⟩ = some (.int .i64 ((rd_T34 l0 (rd x8_1 (ji12))).f4)) ∧ w'.cell? ⟨(ad176.add (((rd x8_1 (ji12))).toNat * 6)).block, (ad176.add (((rd x8_1 (ji12))).toNat * 6)).off + 5, none⟩ = some (.int .i64 ((rd_T34 l0 (rd x8_1 (ji12))).f5))) (ds := []) #[false, false, false, false, false, false, false, false, false, false, false, false, false, false] (by kernel_rfl) rfl rfl ⟨((HB.out.cell (blt w _ hw177_0)).trans hw177_0), ((HB.out.cell (blt w _ hw177_1)).trans hw177_1), ((HB.out.cell (blt w _ hw177_2)).trans hw177_2), ((HB.out.cell (blt w _ hw177_3)).trans hw177_3), ((HB.out.cell (blt w _ hw177_4)).trans hw177_4), ((HB.out.cell (blt w _ hw177_5)).trans hw177_5), ((HB.out.cell (blt w _ hw178_0)).trans hw178_0), ((HB.out.cell (blt w _ hw178_1)).trans hw178_1), ((HB.out.cell (blt w _ hw178_2)).trans hw178_2), ((HB.out.cell (blt w _ hw178_3)).trans hw178_3), ((HB.out.cell (blt w _ hw178_4)).trans hw178_4), ((HB.out.cell (blt w _ hw178_5)).trans hw178_5)⟩ (fun hHeld => ?_); refine with_tabW steps_keys.tab11 steps_keys.bits11 (fun HT_ HW_ => ?_)
               generalize w25.drew = w26 at HO_7 HO174 HB hx177_0 hx177_1 hx177_2 hx177_3 hx177_4 hx177_5 hx178_0 hx178_1 hx178_2 hx178_3 hx178_4 hx178_5 hHeld ⊢
               refine pure_ (i := 0) (N := some 46) (v := ?_) (a' := ?_) #[true, false, false, false, false, false, false, false, false, false, false, false, false, false] rfl rfl (any_of HT_.out (by kernel_rfl)) (fun _ _ _ h => h) (Or.inl ⟨by rfl, ?_⟩) ?_ ?_
               rotate_left
               ·intro w'
                go_simp
                with_reducible rfl
               rotate_left
               ·simp only [Act.put, sI, sZ, sS, i64_w, i32_w]
                rfl
               refine pure_ (i := 1) (N := some 47) (v := ?_) (a' := ?_) #[true, true, false, false, false, false, false, false, false, false, false, false, false, false] rfl rfl (any_of HT_.out (by kernel_rfl)) (fun _ _ _ h => h) (Or.inl ⟨by rfl, ?_⟩) ?_ ?_
               rotate_left
               ·intro w'
                go_simp
                with_reducible rfl
               rotate_left
               ·simp only [Act.put, sI, sZ, sS, i64_w, i32_w]
                rfl
               refine pure_ (i := 2) (N := some 48) (v := ?_) (a' := ?_) #[true, true, true, false, false, false, false, false, false, false, false, false, false, false] rfl rfl (any_of HT_.out (by kernel_rfl)) (fun _ _ _ h => h) (Or.inl ⟨by rfl, ?_⟩) ?_ ?_
               rotate_left
               ·intro w'
                go_simp
                with_reducible rfl
               rotate_left
               ·simp only [Act.put, sI, sZ, sS, i64_w, i32_w]
                rfl
               refine pure_ (i := 3) (N := some 49) (v := ?_) (a' := ?_) #[true, true, true, true, false, false, false, false, false, false, false, false, false, false] rfl rfl (any_of HT_.out (by kernel_rfl)) (fun _ _ _ h => h) (Or.inl ⟨by rfl, ?_⟩) ?_ ?_
               rotate_left
               ·intro w'
                go_simp
                with_reducible rfl
               rotate_left
               ·simp only [Act.put, sI, sZ, sS, i64_w, i32_w]
                rfl
               refine pure_ (i := 4) (N := some 50) (v := ?_) (a' := ?_) #[true, true, true, true, true, false, false, false, false, false, false, false, false, false] rfl rfl (any_of HT_.out (by kernel_rfl)) (fun _ _ _ h => h) (Or.inl ⟨by rfl, ?_⟩) ?_ ?_
               rotate_left
               ·intro w'
                go_simp
                with_reducible rfl
               rotate_left
               ·simp only [Act.put, sI, sZ, sS, i64_w, i32_w]
                rfl
               refine pure_ (i := 6) (N := some 52) (v := ?_) (a' := ?_) #[true, true, true, true, true, false, true, false, false, false, false, false, false, false] rfl rfl (any_of HT_.out (by kernel_rfl)) (fun _ _ _ h => h) (Or.inl ⟨by rfl, ?_⟩) ?_ ?_
               rotate_left
               ·intro w'
                go_simp
                with_reducible rfl
               rotate_left
               ·simp only [Act.put, sI, sZ, sS, i64_w, i32_w]
                rfl
               refine pure_ (i := 7) (N := some 53) (v := ?_) (a' := ?_) #[true, true, true, true, true, false, true, true, false, false, false, false, false, false] rfl rfl (any_of HT_.out (by kernel_rfl)) (fun _ _ _ h => h) (Or.inl ⟨by rfl, ?_⟩) ?_ ?_
               rotate_left
               ·intro w'
                go_simp
                with_reducible rfl
               rotate_left
               ·simp only [Act.put, sI, sZ, sS, i64_w, i32_w]
                rfl
               refine pure_ (i := 8) (N := some 54) (v := ?_) (a' := ?_) #[true, true, true, true, true, false, true, true, true, false, false, false, false, false] rfl rfl (any_of HT_.out (by kernel_rfl)) (fun _ _ _ h => h) (Or.inl ⟨by rfl, ?_⟩) ?_ ?_
               rotate_left
               ·intro w'
                go_simp
                with_reducible rfl
               rotate_left
               ·simp only [Act.put, sI, sZ, sS, i64_w, i32_w]
                rfl
               refine pure_ (i := 9) (N := some 55) (v := ?_) (a' := ?_) #[true, true, true, true, true, false, true, true, true, true, false, false, false, false] rfl rfl (any_of HT_.out (by kernel_rfl)) (fun _ _ _ h => h) (Or.inl ⟨by rfl, ?_⟩) ?_ ?_
               rotate_left
               ·intro w'
                go_simp
                with_reducible rfl
               rotate_left
               ·simp only [Act.put, sI, sZ, sS, i64_w, i32_w]
                rfl
               refine take_ (i := 5) (N := some 51) (v := ?_) (a' := ?_) #[true, true, true, true, true, true, true, true, true, true, false, false, false, false] rfl rfl (take_ofW HT_.out HW_.out (by kernel_rfl)) (fun _ _ _ h => h) (Or.inl ⟨by rfl, ?_⟩) hHeld ?_ ?_
               rotate_left
               ·rintro w' ⟨s0, s1, s2, s3, s4, s5, s6, s7, s8, s9, s10, s11⟩
                go_simp
                with_reducible rfl
               rotate_left
               ·simp only [Act.put, sI, sZ, sS, i64_w, i32_w]
                rfl
               refine take_ (i := 10) (N := some 56) (v := ?_) (a' := ?_) #[true, true, true, true, true, true, true, true, true, true, true, false, false, false] rfl rfl (take_ofW HT_.out HW_.out (by kernel_rfl)) (fun _ _ _ h => h) (Or.inl ⟨by rfl, ?_⟩) hHeld ?_ ?_
               rotate_left
               ·rintro w' ⟨s0, s1, s2, s3, s4, s5, s6, s7, s8, s9, s10, s11⟩
                go_simp
                with_reducible rfl
               rotate_left
               ·simp only [Act.put, sI, sZ, sS, i64_w, i32_w]
                rfl
               refine one_ (i := 11) (N := some 57) #[true, true, true, true, true, true, true, true, true, true, true, true, false, false] rfl rfl (one_of HT_.out (by kernel_rfl)) (by decide) (fun K hK => ?_)
               refine Kd.R_lit_step (Kd.int .i64) _ 3 ?hg (N := 57) ?hd (xs := ([(rd_T34 l0 (rd x8_1 (ji12))).f4, (rd_T34 l0 (rd x8_1 (ji12))).f5] : List Int)) (inner := [.int .i64 ((rd_T34 l0 (rd x8_1 (ji12))).f4), .int .i64 ((rd_T34 l0 (rd x8_1 (ji12))).f5)]) (ok := fun _ => True) (okp := fun _ => True) ?hr ?hp (fun _ hk => hk) trivial (Below.refl _ _) (Nat.le_refl _) (by simp) ?_; (case hd => rfl); (case hg => rfl); (case hr => first | (go_simp; done) | (go_simp; rfl)); (case hp => exact (Reps.one (show Kd.M (Kd.int .i64) _ _ _ ((rd_T34 l0 (rd x8_1 (ji12))).f4) [.int .i64 ((rd_T34 l0 (rd x8_1 (ji12))).f4)] from rfl) (Reps.one (show Kd.M (Kd.int .i64) _ _ _ ((rd_T34 l0 (rd x8_1 (ji12))).f5) [.int .i64 ((rd_T34 l0 (rd x8_1 (ji12))).f5)] from rfl) (Reps.none _ _))))
               intro v180 w27 ho28 hb hg_ hnew_
               clear hg_ hnew_
               (first | rw [← Ny179.out] at ho28 | (simp only [Int.reduceToNat] at ho28; rw [← Ny179.out] at ho28))
               have n0_ := Am (Kd.R_below (by (with_reducible repeat (first | apply Kd.R_alloc | apply Kd.R_drewN | apply Kd.R_drew)); exact HO_7.out) hb)
               have n1_ := Am (Kd.R_elder' (by (with_reducible repeat (first | apply Kd.R_alloc | apply Kd.R_drewN | apply Kd.R_drew)); exact HO174.out) (Kd.R_base ho28) hb)
               have n2_ := Am (Kd.R_lower (Kd.R_new' ho28 (Kd.R_lt (by (with_reducible repeat (first | apply Kd.R_alloc | apply Kd.R_drewN | apply Kd.R_drew)); exact HO174.out))) (below_size (by repeat (first | (with_reducible first | exact HB.out | apply ba | apply bn | apply bd) | exact HB.out))))
               have n3_ := Am (below_step (by repeat (first | (with_reducible first | exact HB.out | apply ba | apply bn | apply bd) | exact HB.out)) hb)
               clear HO_7
               clear HO174
               clear HB
               have HO_7 := n0_
               have HO174 := n1_
               have HO181 := n2_
               have HB := n3_
               clear n0_ n1_ n2_ n3_
               clear hb ho28
               obtain ⟨Ao30, co30, eo30⟩ := Kd.R_slice HO181.out
               (first | subst eo30 | (injection eo30 with f1_ f2_ f3_; have f4_ := f1_.symm; have f5_ := f3_.symm; clear f1_ f2_ f3_; subst f4_; subst f5_))
               refine hK.out _ _ ⟨((HB.out.cell (blt w _ hw177_0)).trans hw177_0), ((HB.out.cell (blt w _ hw177_1)).trans hw177_1), ((HB.out.cell (blt w _ hw177_2)).trans hw177_2), ((HB.out.cell (blt w _ hw177_3)).trans hw177_3), ((HB.out.cell (blt w _ hw177_4)).trans hw177_4), ((HB.out.cell (blt w _ hw177_5)).trans hw177_5), ((HB.out.cell (blt w _ hw178_0)).trans hw178_0), ((HB.out.cell (blt w _ hw178_1)).trans hw178_1), ((HB.out.cell (blt w _ hw178_2)).trans hw178_2), ((HB.out.cell (blt w _ hw178_3)).trans hw178_3), ((HB.out.cell (blt w _ hw178_4)).trans hw178_4), ((HB.out.cell (blt w _ hw178_5)).trans hw178_5)⟩ (fun hHeld => ?_)
               clear hK K
               refine norm_ (a' := ?_) ?_ ?_
               rotate_left
               ·show Act.put _ (some 57) _ = _
                simp only [Act.put, sI, sZ, sS, i64_w, i32_w]
                rfl
               refine one_ (i := 12) (N := some 58) #[true, true, true, true, true, true, true, true, true, true, true, true, true, false] rfl rfl (one_of HT_.out (by kernel_rfl)) (by decide) (fun K hK => ?_)
               refine Kd.R_append_rows_step (Kd.int .i64) (w0 := w) w.heap.size (by rfl) (.tmp 46) (.tmp 57) 31 3 (.int .i64 0) 8 rfl Try.underlying31 info3 rfl (by decide) (by omega) (.slice (some ad171) y172.length co22) y172 y179 _ _ _ (fun k_ => some k_ ≠ (.slice Ao30 y179.length co30 : Value).ownBlock) (fun _ => False) rfl rfl ?aO ?aR (fun _ _ h => h) (fun _ h => h.elim) ?aF ?aB ?aS ?aL ?_
               (case aR => repeat (first | exact (Kd.R_reads' HO181.out).2.2 | (with_reducible refine Kd.C_alloc ?_ _) | (with_reducible refine Kd.C_drewN ?_ _) | (with_reducible refine Kd.C_drew ?_)))
               (case aB => exact (by repeat (first | (with_reducible first | exact HB.out | apply ba | apply bn | apply bd) | exact HB.out)))
               (case aF => exact (fun k_ hk => Kd.fresh' (Kd.R_lt (by (with_reducible repeat (first | apply Kd.R_alloc | apply Kd.R_drewN | apply Kd.R_drew)); exact HO181.out)) k_ hk))
               (case aO => exact (by (with_reducible repeat (first | apply Kd.R_alloc | apply Kd.R_drewN | apply Kd.R_drew)); exact Kd.R_mono HO174.out (fun _ hk => hk.2)))
               (case aS => exact (below_size (by repeat (first | (with_reducible first | exact HB.out | apply ba | apply bn | apply bd) | exact HB.out))))
               (case aL => have := LMc21.out; omega)
               intro v183 w29 ho hb hg hat
               rw [← Ny182.out] at ho
               have n0_ := Am (Kd.R_over' (by (with_reducible repeat (first | apply Kd.R_alloc | apply Kd.R_drewN | apply Kd.R_drew)); exact HO_7.out) (Kd.R_typed (by (with_reducible repeat (first | apply Kd.R_alloc | apply Kd.R_drewN | apply Kd.R_drew)); exact HO174.out)) (by decide) hg)
               have n1_ := Am (Kd.R_after (ok := (fun _ => True)) (by (with_reducible repeat (first | apply Kd.R_alloc | apply Kd.R_drewN | apply Kd.R_drew)); exact HO181.out) hg hat)
               have n2_ := Am (hb)
               have n3_ := Am (ho)
               clear HO_7
               clear HO181
               clear HB
               clear HO174
               have HO_7 := n0_
               have HO181 := n1_
               have HB := n2_
               have HO184 := n3_
               clear n0_ n1_ n2_ n3_
               clear ho hb hg hat
               refine hK.out _ _ ⟨((HB.out.cell (blt w _ hw177_0)).trans hw177_0), ((HB.out.cell (blt w _ hw177_1)).trans hw177_1), ((HB.out.cell (blt w _ hw177_2)).trans hw177_2), ((HB.out.cell (blt w _ hw177_3)).trans hw177_3), ((HB.out.cell (blt w _ hw177_4)).trans hw177_4), ((HB.out.cell (blt w _ hw177_5)).trans hw177_5), ((HB.out.cell (blt w _ hw178_0)).trans hw178_0), ((HB.out.cell (blt w _ hw178_1)).trans hw178_1), ((HB.out.cell (blt w _ hw178_2)).trans hw178_2), ((HB.out.cell (blt w _ hw178_3)).trans hw178_3), ((HB.out.cell (blt w _ hw178_4)).trans hw178_4), ((HB.out.cell (blt w _ hw178_5)).trans hw178_5)⟩ (fun hHeld => ?_)
               clear hK K
               refine norm_ (a' := ?_) ?_ ?_
               rotate_left
               ·show Act.put _ (some 58) _ = _
                simp only [Act.put, sI, sZ, sS, i64_w, i32_w]
                rfl
               refine pure_ (i := 13) (N := some 8) (v := ?_) (a' := ?_) #[true, true, true, true, true, true, true, true, true, true, true, true, true, true] rfl rfl (any_of HT_.out (by kernel_rfl)) (fun _ _ _ h => h) (Or.inl ⟨by rfl, ?_⟩) ?_ ?_
               rotate_left
               ·intro w'
                go_simp
                with_reducible rfl
               rotate_left
               ·simp only [Act.put, sI, sZ, sS, i64_w, i32_w]
                rfl
               refine done_ (done_of HT_.out (by kernel_rfl)) ?_
               try go_wp2
               go_roundg k1
               case measure => have := HK1.out; omega
               case rel => exact ⟨(y175), (y182), H', ⟨by have := HK1.out; omega⟩, ⟨by (with_reducible repeat (first | apply Kd.R_alloc | apply Kd.R_drewN | apply Kd.R_drew)); exact HO_7.out⟩, ⟨by (with_reducible repeat (first | apply Kd.R_alloc | apply Kd.R_drewN | apply Kd.R_drew)); exact Kd.R_mono HO184.out (fun _ hk => trivial)⟩, ⟨by repeat (first | (with_reducible first | exact HB.out | apply ba | apply bn | apply bd) | exact HB.out)⟩⟩
              ·rw [if_neg c21] at H
               exact absurd H (by simp)
             ·rw [if_neg c20] at H
              have c20b0 : decide (0 ≤ ((rd_T34 l0 (rd x8_1 (ji12))).f4)) = false := decide_eq_false c20
              clear c20
              have H' := Am H
              clear H
              obtain ⟨Ao31, co31, eo31⟩ := Kd.R_slice HO_8.out
              subst eo31
              have p171 : 0 ≤ ((ji12) : Int) := of_decide_eq_true (by first | (with_reducible assumption) | assumption)
              have q171 : (ji12) < (x8_1.length : Int) := of_decide_eq_true (by first | (with_reducible assumption) | assumption)
              obtain ⟨ad171, e171, hx171_0⟩ := Kd.at_int (Kd.R_reads' HO_8.out).2.2 (ji12) p171 q171
              cases e171
              replace p171 := eq_true p171
              replace q171 := eq_true q171
              have q32 : ((ji12) : Int) ≤ ((x8_1.length : Int) : Int) := of_decide_eq_true (by first | (with_reducible assumption) | assumption)
              obtain ⟨i032, hi032, _, hsz32, _⟩ := info_parts info3
              have hcut32 := cut_to (P := Try.prog) 31 3 .i64 Try.underlying31 hi032 (some ad171) x8_1.length co31 (ji12) (of_decide_eq_true (by first | (with_reducible assumption) | assumption)) q32 (Kd.R_reads' HO_8.out).2.1
              have hr32 := Kd.R_take (m := ((ji12) : Int).toNat) HO_8.out (by omega)
              have hy32 : y172.length = ((ji12) : Int).toNat := (by rw [Ny172.out, List.length_take]; omega)
              rw [← Ny172.out] at hr32
              rw [← hy32] at hr32 hcut32
              clear hy32 hi032 hsz32 HO_8
              have HO174 := Am hr32
              clear hr32
              replace q32 := eq_true q32
              have p18 : 0 ≤ ((rd x8_1 (ji12)) : Int) := of_decide_eq_true (by first | (with_reducible assumption) | assumption)
              have q18 : ((rd x8_1 (ji12)) : Int) < ((x7_1.length : Int) : Int) := of_decide_eq_true (by first | (with_reducible assumption) | assumption)
              obtain ⟨go18, co18, eo18, gb18, gl18, cl18, HG18⟩ := Kd.R_form HO_7.out (by omega)
              (first | cases eo18 | (injection eo18 with ea_ en_ ec_; (first | subst ea_ | (injection ea_ with ea_; subst ea_)); subst ec_; clear en_))
              have GB18 := Am gb18
              have GG18 := Am HG18
              clear gb18 gl18 HG18
              obtain ⟨hx18_0, hf18_0⟩ := Kd.R_celln false HO_7.out ((rd x8_1 (ji12)) : Int) p18 q18
              replace p18 := eq_true p18
              replace q18 := eq_true q18
              have HP33 := Kd.R_putg HO_7.out ((rd x8_1 (ji12)) : Int) true
              go_wp2_with (first | ((with_reducible refine gate_store (t := 4) (p := 39) rfl ?_); refine store_event (t := 4) (p := 39) (v := ?vo_w34) (w1 := (wr.setCell ⟨go18, ((rd x8_1 (ji12)) : Int).toNat, none⟩ (.bool true))) ?hg ?ho ?hn ?hr ?_; (case ho => rfl); (case hg => rfl); (case hn => rfl); (case hr => first | (go_simp; done) | (go_simp; rfl)); intro w34 hw; have hg : wr.grownBy w34 (some go18) := (by rw [hw]; exact HP33.2); have hp_ : Kd.R Kd.bool 4 w34 w.heap.size (fun _ => True) (.slice (some ⟨go18, 0, none⟩) x7_1.length co18) y175 := (by rw [hw, Ny175.out]; exact HP33.1); clear HP33; have n0_ := Am (hp_); have n1_ := Am (Kd.R_over' (v := (.slice (some ⟨go18, 0, none⟩) x7_1.length co18)) (by (with_reducible repeat (first | apply Kd.R_alloc | apply Kd.R_drewN | apply Kd.R_drew)); exact HO174.out) (Kd.R_typed HO_7.out) (by decide) hg); have n2_ := Am ((by rw [hw]; exact below_set (HB.out) GB18.out : Below w.heap.size w w34)); clear HO_7; clear HO174; clear HB; have HO_7 := n0_; have HO174 := n1_; have HB := n2_; clear n0_ n1_ n2_; clear hg hw hp_; have p176 : 0 ≤ ((rd x8_1 (ji12)) : Int) := of_decide_eq_true (by first | (with_reducible assumption) | assumption); have q176 : (rd x8_1 (ji12)) < (l0.length : Int) := of_decide_eq_true (by first | (with_reducible assumption) | assumption); obtain ⟨ad176, e176, hx176_0, hx176_1, hx176_2, hx176_3, hx176_4, hx176_5⟩ := at_T34 HR0.out (rd x8_1 (ji12)) p176 q176; cases e176; replace hx176_0 := (HB.out.cell (blt w _ hx176_0)).trans hx176_0; replace hx176_1 := (HB.out.cell (blt w _ hx176_1)).trans hx176_1; replace hx176_2 := (HB.out.cell (blt w _ hx176_2)).trans hx176_2; replace hx176_3 := (HB.out.cell (blt w _ hx176_3)).trans hx176_3; replace hx176_4 := (HB.out.cell (blt w _ hx176_4)).trans hx176_4; replace hx176_5 := (HB.out.cell (blt w _ hx176_5)).trans hx176_5; replace p176 := eq_true p176; replace q176 := eq_true q176))
              go_roundg k1
              case measure => have := HK1.out; omega
              case rel => exact ⟨(y175), (y172), H', ⟨by have := HK1.out; omega⟩, ⟨by (with_reducible repeat (first | apply Kd.R_alloc | apply Kd.R_drewN | apply Kd.R_drew)); exact HO_7.out⟩, ⟨by (with_reducible repeat (first | apply Kd.R_alloc | apply Kd.R_drewN | apply Kd.R_drew)); exact HO174.out⟩, ⟨by repeat (first | (with_reducible first | exact HB.out | apply ba | apply bn | apply bd) | exact HB.out)⟩⟩
            ·rw [if_neg c19] at H
             exact absurd H (by simp)
           ·rw [if_neg c17] at H
            exact absurd H (by simp)
          ·rw [if_neg c16] at H
           exact absurd H (by simp)
         ·rw [if_neg c15] at H
          exact absurd H (by simp)
        ·rw [if_neg c14] at H
         exact absurd H (by simp)
       ·rw [if_neg c13] at H
        exact absurd H (by simp)
      ·rw [if_neg c11] at H
       have c11b0 : decide (0 < (x8_1.length : Int)) = false := decide_eq_false c11
       have c11b1 : decide (0 < x8_1.length) = false := decide_eq_false (by omega)
       clear c11
       simp only [Option.some.injEq, Prod.mk.injEq] at H
       obtain ⟨rfl, rfl, rfl⟩ := H
       obtain ⟨Ao35, co35, eo35⟩ := Kd.R_slice HO_8.out
       subst eo35
       go_wp2
       go_ret3
       exact ⟨_, by first | rfl | (simp [errW_none, errW_some] <;> rfl) | (simp [*, errW_none, errW_some] <;> rfl), by (with_reducible repeat (first | apply Kd.R_alloc | apply Kd.R_drewN | apply Kd.R_drew)); exact HO_7.out, by repeat (first | (with_reducible first | exact HB.out | apply ba | apply bn | apply bd) | exact HB.out)⟩
   ·rw [if_neg c5] at H
    exact absurd H (by simp)
  ·rw [if_neg c4] at H
   exact absurd H (by simp)
 ·rw [if_neg c3] at H
  have c3b0 : (t164 == 0) = false := beq_eq_false_iff_ne.mpr c3
  have c3b1 : (t164 != 0) = true := bne_iff_ne.mpr c3
  simp only [Option.some.injEq, Prod.mk.injEq] at H
  obtain ⟨rfl, rfl, rfl⟩ := H
  go_enter Try.func48, Try.ntmps48
  go_wp2_with (first | ((with_reducible refine gate_callee (f := 12) rfl ?_); refine goesL_ (some 12) rfl rfl Try.func12 (by kernel_rfl) rfl #[.slice A0 l0.length c0] rfl (by (try simp only [List.map_toArray, List.map_cons, List.map_nil]); first | done | rfl | (simp only [List.length_drop, List.length_take]; rfl)) ?_; (with_reducible refine (table_Root.calls k _ _ l0 t163 t164 _ ?side1 ?side2 A2.out).mono ?_); (case side1 => repeat (first | exact HR0.out | (with_reducible refine Kd.C_alloc ?_ _) | (with_reducible refine Kd.C_drewN ?_ _) | (with_reducible refine Kd.C_drew ?_))); (case side2 => exact HC0.out); rintro e w36 ⟨rfl, hb⟩; refine ⟨_, rfl, ?_⟩; have n0_ := Am (below_step (by repeat (first | (with_reducible first | exact HB.out | apply ba | apply bn | apply bd) | exact HB.out)) hb); clear HB; have HB := n0_; clear n0_; (try clear hb); (try clear hb2); (try clear hk); (try clear hi)))
  go_ret3
  exact ⟨_, by first | rfl | (simp [errW_none, errW_some] <;> rfl) | (simp [*, errW_none, errW_some] <;> rfl), by first | exact Kd.R_nil _ _ _ _ _ | exact Kd.N_nil _ _ _ _ _ | exact Kd.V_nil _ _ _ _ _ | exact Kd.Q_nil _ _ _ _ _ | exact Kd.S_nil _ _ _ _ _, by repeat (first | (with_reducible first | exact HB.out | apply ba | apply bn | apply bd) | exact HB.out)⟩
-- NOT PRINTED: function 49 (steps_grow)
def steps_alone.f (a0 : Int) : Option (Bool) := if a0 = 1 then (some true) else (if a0 = 11 then (some true) else (some (a0 == 12)))
set_option maxHeartbeats 8000000 in
set_option maxRecDepth 100000 in
theorem steps_alone.calls (a0 : Int) (r : Bool) (w : World) (h : steps_alone.f a0 = some r) :
  Calls Try.prog 68 #[.int .i64 a0] w fun e w' => e = .returned (.bool r) ∧ Drawn0 w w' := by
 have H : (if a0 = 1 then (some true) else (if a0 = 11 then (some true) else (some (a0 == 12)))) = some r := h
 clear h
 by_cases c2 : a0 = 1
 ·rw [if_pos c2] at H
  have c2b0 : (a0 == 1) = true := beq_iff_eq.mpr c2
  have c2b1 : (a0 != 1) = false := bne_eq_false_iff_eq.mpr c2
  clear c2
  obtain rfl := Option.some.inj H
  go_enter Try.func68, Try.ntmps68
  go_wp2
  go_ret
  exact ⟨by first | rfl | (simp; done) | (simp [*]; done), by repeat (first | exact Drawn0.refl _ | apply Drawn0.step)⟩
 ·rw [if_neg c2] at H
  have c2b0 : (a0 == 1) = false := beq_eq_false_iff_ne.mpr c2
  have c2b1 : (a0 != 1) = true := bne_iff_ne.mpr c2
  by_cases c3 : a0 = 11
  ·rw [if_pos c3] at H
   have c3b0 : (a0 == 11) = true := beq_iff_eq.mpr c3
   have c3b1 : (a0 != 11) = false := bne_eq_false_iff_eq.mpr c3
   clear c3
   obtain rfl := Option.some.inj H
   go_enter Try.func68, Try.ntmps68
   go_wp2
   go_ret
   exact ⟨by first | rfl | (simp; done) | (simp [*]; done), by repeat (first | exact Drawn0.refl _ | apply Drawn0.step)⟩
  ·rw [if_neg c3] at H
   have c3b0 : (a0 == 11) = false := beq_eq_false_iff_ne.mpr c3
   have c3b1 : (a0 != 11) = true := bne_iff_ne.mpr c3
   obtain rfl := Option.some.inj H
   go_enter Try.func68, Try.ntmps68
   go_wp2
   go_ret
   exact ⟨by first | rfl | (simp; done) | (simp [*]; done), by repeat (first | exact Drawn0.refl _ | apply Drawn0.step)⟩
def steps_Move_is.f (a0_0 : Int) (a0_1 : Bool) : Option (Bool) := if a0_0 ≥ 1 then (if a0_0 ≤ 12 then (if a0_1 = true then ((steps_alone.f a0_0).bind fun t186 => (some (!t186))) else (some (!false))) else (some false)) else (some false)
set_option maxHeartbeats 8000000 in
set_option maxRecDepth 100000 in
theorem steps_Move_is.calls (a0_0 : Int) (a0_1 : Bool) (r : Bool) (w : World) (h : steps_Move_is.f a0_0 a0_1 = some r) :
  Calls Try.prog 84 #[.agg #[.int .i64 a0_0, .bool a0_1]] w fun e w' => e = .returned (.bool r) ∧ Below w.heap.size w w' := by
 have hu62 := Try.underlying62
 have HB := Am (Below.refl w.heap.size w)
 have H : (if a0_0 ≥ 1 then (if a0_0 ≤ 12 then (if a0_1 = true then ((steps_alone.f a0_0).bind fun t186 => (some (!t186))) else (some (!false))) else (some false)) else (some false)) = some r := h
 clear h
 by_cases c2 : a0_0 ≥ 1
 ·rw [if_pos c2] at H
  have c2b0 : decide (1 ≤ a0_0) = true := decide_eq_true c2
  clear c2
  by_cases c3 : a0_0 ≤ 12
  ·rw [if_pos c3] at H
   have c3b0 : decide (a0_0 ≤ 12) = true := decide_eq_true c3
   clear c3
   by_cases c4 : a0_1 = true
   ·subst c4
    have H1 : ((steps_alone.f a0_0).bind fun t186 => (some (!t186))) = some r := by rw [if_pos rfl] at H; exact H
    clear H
    have H := H1
    clear H1
    replace H := Option.bind_eq_some_iff.mp H
    obtain ⟨t186, A50, H⟩ := H
    replace H : (some (!t186)) = some r := H
    have A5 := Am A50
    clear A50
    obtain rfl := Option.some.inj H
    go_enter Try.func84, Try.ntmps84
    go_wp2_with (first | ((with_reducible refine gate_dst (N := 1) rfl ?_); refine box_event ?hg (N := 1) ?hd (cs := #[.int .i64 a0_0, .bool true]) (t := 62) ?hr ?_; (case hd => rfl); (case hg => rfl); (case hr => first | (go_simp; done) | (go_simp; rfl)); intro gb185 hg w6 hbox hb; have n0_ := Am (below_step (by repeat (first | (with_reducible first | exact HB.out | apply ba | apply bn | apply bd) | exact HB.out)) hb); have n1_ := Am (hbox); have n2_ := Am ((by rw [hg]; exact (below_size (by repeat (first | (with_reducible first | exact HB.out | apply ba | apply bn | apply bd) | exact HB.out))) : w.heap.size ≤ gb185)); have n3_ := Am ((by rw [hg]; exact (below_size (by repeat (first | (with_reducible first | exact HB.out | apply ba | apply bn | apply bd) | exact HB.out))) : w.heap.size ≤ gb185)); clear HB; have HB := n0_; have BK185 := n1_; have GW185 := n2_; have GE185 := n3_; clear n0_ n1_ n2_ n3_; clear hb hbox hg; have hcz7_0 : w6.cell? ⟨gb185, 0, none⟩ = some (.int .i64 a0_0) := (blk_cell BK185.out 0).trans rfl; have hcz7_1 : w6.cell? ⟨gb185, 1, none⟩ = some (.bool true) := (blk_cell BK185.out 1).trans rfl; have hfz7_0 := blk_frozen BK185.out 0; have hfz7_1 := blk_frozen BK185.out 1) | (go_at_call 68; (with_reducible refine (steps_alone.calls a0_0 t186 _ A5.out).mono ?_); rintro e w' ⟨rfl, ⟨nd, rfl⟩⟩))
    go_ret
    exact ⟨by first | rfl | (simp [errW_none, errW_some] <;> rfl) | (simp [*, errW_none, errW_some] <;> rfl), by repeat (first | (with_reducible first | exact HB.out | apply ba | apply bn | apply bd | refine below_set ?_ GE185.out) | exact HB.out)⟩
   ·replace c4 := Bool.eq_false_iff.mpr c4
    subst c4
    have H1 : (some (!false)) = some r := by rw [if_neg (show ¬ (false = true) by decide)] at H; exact H
    clear H
    have H := H1
    clear H1
    obtain rfl := Option.some.inj H
    go_enter Try.func84, Try.ntmps84
    go_wp2_with (first | ((with_reducible refine gate_dst (N := 1) rfl ?_); refine box_event ?hg (N := 1) ?hd (cs := #[.int .i64 a0_0, .bool false]) (t := 62) ?hr ?_; (case hd => rfl); (case hg => rfl); (case hr => first | (go_simp; done) | (go_simp; rfl)); intro gb185 hg w8 hbox hb; have n0_ := Am (below_step (by repeat (first | (with_reducible first | exact HB.out | apply ba | apply bn | apply bd) | exact HB.out)) hb); have n1_ := Am (hbox); have n2_ := Am ((by rw [hg]; exact (below_size (by repeat (first | (with_reducible first | exact HB.out | apply ba | apply bn | apply bd) | exact HB.out))) : w.heap.size ≤ gb185)); have n3_ := Am ((by rw [hg]; exact (below_size (by repeat (first | (with_reducible first | exact HB.out | apply ba | apply bn | apply bd) | exact HB.out))) : w.heap.size ≤ gb185)); clear HB; have HB := n0_; have BK185 := n1_; have GW185 := n2_; have GE185 := n3_; clear n0_ n1_ n2_ n3_; clear hb hbox hg; have hcz9_0 : w8.cell? ⟨gb185, 0, none⟩ = some (.int .i64 a0_0) := (blk_cell BK185.out 0).trans rfl; have hcz9_1 : w8.cell? ⟨gb185, 1, none⟩ = some (.bool false) := (blk_cell BK185.out 1).trans rfl; have hfz9_0 := blk_frozen BK185.out 0; have hfz9_1 := blk_frozen BK185.out 1))
    go_ret
    exact ⟨by first | rfl | (simp [errW_none, errW_some] <;> rfl) | (simp [*, errW_none, errW_some] <;> rfl), by repeat (first | (with_reducible first | exact HB.out | apply ba | apply bn | apply bd | refine below_set ?_ GE185.out) | exact HB.out)⟩
  ·rw [if_neg c3] at H
   have c3b0 : decide (a0_0 ≤ 12) = false := decide_eq_false c3
   clear c3
   obtain rfl := Option.some.inj H
   go_enter Try.func84, Try.ntmps84
   go_wp2_with (first | ((with_reducible refine gate_dst (N := 1) rfl ?_); refine box_event ?hg (N := 1) ?hd (cs := #[.int .i64 a0_0, .bool a0_1]) (t := 62) ?hr ?_; (case hd => rfl); (case hg => rfl); (case hr => first | (go_simp; done) | (go_simp; rfl)); intro gb185 hg w10 hbox hb; have n0_ := Am (below_step (by repeat (first | (with_reducible first | exact HB.out | apply ba | apply bn | apply bd) | exact HB.out)) hb); have n1_ := Am (hbox); have n2_ := Am ((by rw [hg]; exact (below_size (by repeat (first | (with_reducible first | exact HB.out | apply ba | apply bn | apply bd) | exact HB.out))) : w.heap.size ≤ gb185)); have n3_ := Am ((by rw [hg]; exact (below_size (by repeat (first | (with_reducible first | exact HB.out | apply ba | apply bn | apply bd) | exact HB.out))) : w.heap.size ≤ gb185)); clear HB; have HB := n0_; have BK185 := n1_; have GW185 := n2_; have GE185 := n3_; clear n0_ n1_ n2_ n3_; clear hb hbox hg; have hcz11_0 : w10.cell? ⟨gb185, 0, none⟩ = some (.int .i64 a0_0) := (blk_cell BK185.out 0).trans rfl; have hcz11_1 : w10.cell? ⟨gb185, 1, none⟩ = some (.bool a0_1) := (blk_cell BK185.out 1).trans rfl; have hfz11_0 := blk_frozen BK185.out 0; have hfz11_1 := blk_frozen BK185.out 1))
   go_ret
   exact ⟨by first | rfl | (simp [errW_none, errW_some] <;> rfl) | (simp [*, errW_none, errW_some] <;> rfl), by repeat (first | (with_reducible first | exact HB.out | apply ba | apply bn | apply bd | refine below_set ?_ GE185.out) | exact HB.out)⟩
 ·rw [if_neg c2] at H
  have c2b0 : decide (1 ≤ a0_0) = false := decide_eq_false c2
  clear c2
  obtain rfl := Option.some.inj H
  go_enter Try.func84, Try.ntmps84
  go_wp2_with (first | ((with_reducible refine gate_dst (N := 1) rfl ?_); refine box_event ?hg (N := 1) ?hd (cs := #[.int .i64 a0_0, .bool a0_1]) (t := 62) ?hr ?_; (case hd => rfl); (case hg => rfl); (case hr => first | (go_simp; done) | (go_simp; rfl)); intro gb185 hg w12 hbox hb; have n0_ := Am (below_step (by repeat (first | (with_reducible first | exact HB.out | apply ba | apply bn | apply bd) | exact HB.out)) hb); have n1_ := Am (hbox); have n2_ := Am ((by rw [hg]; exact (below_size (by repeat (first | (with_reducible first | exact HB.out | apply ba | apply bn | apply bd) | exact HB.out))) : w.heap.size ≤ gb185)); have n3_ := Am ((by rw [hg]; exact (below_size (by repeat (first | (with_reducible first | exact HB.out | apply ba | apply bn | apply bd) | exact HB.out))) : w.heap.size ≤ gb185)); clear HB; have HB := n0_; have BK185 := n1_; have GW185 := n2_; have GE185 := n3_; clear n0_ n1_ n2_ n3_; clear hb hbox hg; have hcz13_0 : w12.cell? ⟨gb185, 0, none⟩ = some (.int .i64 a0_0) := (blk_cell BK185.out 0).trans rfl; have hcz13_1 : w12.cell? ⟨gb185, 1, none⟩ = some (.bool a0_1) := (blk_cell BK185.out 1).trans rfl; have hfz13_0 := blk_frozen BK185.out 0; have hfz13_1 := blk_frozen BK185.out 1))
  go_ret
  exact ⟨by first | rfl | (simp [errW_none, errW_some] <;> rfl) | (simp [*, errW_none, errW_some] <;> rfl), by repeat (first | (with_reducible first | exact HB.out | apply ba | apply bn | apply bd | refine below_set ?_ GE185.out) | exact HB.out)⟩
-- NOT PRINTED: function 62 (steps_at)
-- NOT PRINTED: function 85 (steps_view_left)
-- NOT PRINTED: function 86 (steps_view_right)
-- NOT PRINTED: function 63 (steps_look)
-- NOT PRINTED: function 92 (steps_weight)
-- NOT PRINTED: function 87 (steps_red)
-- NOT PRINTED: function 88 (steps_black)
-- NOT PRINTED: function 89 (steps_inner)
-- NOT PRINTED: function 90 (steps_over)
-- NOT PRINTED: function 91 (steps_one)
-- NOT PRINTED: function 64 (steps_view_can)
-- NOT PRINTED: function 93 (steps_view_put)
-- NOT PRINTED: function 94 (steps_as)
-- NOT PRINTED: function 95 (steps_less)
-- NOT PRINTED: function 65 (steps_view_do)
-- NOT PRINTED: function 66 (steps_tree_flat)
end Go.Proofs.Ytgleaefhflamnaa.T
namespace Go.Proofs.Ytgleaefhflamnaa.T
open Go.RowKit Go.Proofs.YtgleaefhflamnaaW.PrintWords Go.Proofs.YtgleaefhflamnaaW.PrintLast Go.Proofs.YtgleaefhflamnaaW.PrintMore
def AtPost (w : World) (t : List S34) (root : Int) (e : Ending) (w' : World) : Prop :=
 ∃ wg : World, e = .returned (.tuple #[.slice (some ⟨wg.heap.size, 0, none⟩) t.length t.length, .int .i64 root, .int .i64 0]) ∧ Below w.heap.size w wg ∧ Forest wg w' t t.length t.length
theorem at_fin (w : World) (t : List S34) (root : Int) : ∀ wg w', Below w.heap.size w wg → Forest wg w' t t.length t.length → AtPost w t root (.returned (.tuple #[.slice (some ⟨wg.heap.size, 0, none⟩) t.length t.length, .int .i64 root, .int .i64 0])) w' := fun wg _ h1 h2 => ⟨wg, rfl, h1, h2⟩
set_option maxHeartbeats 4000000 in
set_option maxRecDepth 100000 in
theorem at_err1 (k : Nat) (A0 : Option Addr) (c0 : Nat) (l0 : List S34) (a1 kind : Int) (mir asked : Bool) (r1 : Int) (r2 : List Bool) (r3 : Int) (w : World) (hr0 : Kd.C k34 w A0 l0.length l0) (hc0 : l0.length ≤ c0)
  (h : steps_keys.f k l0 = some (r1, r2, r3)) (h3 : r3 ≠ 0) :
  Calls Try.prog 62 #[.slice A0 l0.length c0, .int .i64 a1, .agg #[.int .i64 kind, .bool mir], .bool asked] w fun e w' => e = .returned (.tuple #[.slice none 0 0, .int .i64 0, .int .i64 r3]) ∧ Below w.heap.size w w' := by
 have hu62 := Try.underlying62
 have HR := Am hr0
 have HC := Am hc0
 have H := Am h
 have d3 : (r3 != 0) = true := bne_iff_ne.mpr h3
 clear hr0 hc0 h h3
 go_enter Try.func62, Try.ntmps62
 go_wp2_with (fail)
 refine (steps_keys.calls k A0 c0 l0 r1 r2 r3 _ (Kd.C_below HR.out ((Below.refl _ _).alloc (Nat.le_refl _) _)) HC.out H.out).mono ?_
 rintro e w' ⟨v1, rfl, h1, h2⟩
 obtain ⟨Av, cv, rfl⟩ := Kd.R_slice h1
 have hb : Below w.heap.size w w' := ((Below.refl _ _).alloc (Nat.le_refl _) _).trans (h2.mono (by simp))
 have HB := Am hb
 clear h1 h2 hb
 go_wp2
 go_ret3
 exact ⟨rfl, HB.out⟩
set_option maxHeartbeats 4000000 in
set_option maxRecDepth 100000 in
theorem at_err2 (k : Nat) (A0 : Option Addr) (c0 : Nat) (l0 : List S34) (a1 kind : Int) (mir : Bool) (r1 : Int) (r2 : List Bool) (w : World) (hr0 : Kd.C k34 w A0 l0.length l0) (hc0 : l0.length ≤ c0)
  (h : steps_keys.f k l0 = some (r1, r2, 0)) (hm : steps_Move_is.f kind mir = some false) :
  Calls Try.prog 62 #[.slice A0 l0.length c0, .int .i64 a1, .agg #[.int .i64 kind, .bool mir], .bool true] w fun e w' => e = .returned (.tuple #[.slice none 0 0, .int .i64 0, .int .i64 5]) ∧ Below w.heap.size w w' := by
 have hu62 := Try.underlying62
 have HR := Am hr0
 have HC := Am hc0
 have H := Am h
 have HM := Am hm
 clear hr0 hc0 h hm
 go_enter Try.func62, Try.ntmps62
 go_wp2_with (fail)
 refine (steps_keys.calls k A0 c0 l0 r1 r2 0 _ (Kd.C_below HR.out ((Below.refl _ _).alloc (Nat.le_refl _) _)) HC.out H.out).mono ?_
 rintro e w' ⟨v1, rfl, h1, h2⟩
 obtain ⟨Av, cv, rfl⟩ := Kd.R_slice h1
 have hc6 : w'.cell? ⟨w.heap.size, 0, none⟩ = some (.int .i64 kind) := (h2.cell (p := ⟨w.heap.size, 0, none⟩) (by simp)).trans (World.cell?_alloc_at _ _ _ _ rfl)
 have hc7 : w'.cell? ⟨w.heap.size, 1, none⟩ = some (.bool mir) := (h2.cell (p := ⟨w.heap.size, 1, none⟩) (by simp)).trans (World.cell?_alloc_at _ _ _ _ rfl)
 have hb : Below w.heap.size w w' := ((Below.refl _ _).alloc (Nat.le_refl _) _).trans (h2.mono (by simp))
 have HB := Am hb
 clear h1 h2 hb
 go_wp2_with (fail)
 refine (steps_Move_is.calls kind mir false _ HM.out).mono ?_
 rintro e w2 ⟨rfl, h2⟩
 have HB2 := Am (HB.out.trans (h2.mono HB.out.size))
 clear h2
 go_wp2
 go_ret3
 exact ⟨rfl, HB2.out⟩
-- GENERATED
set_option maxHeartbeats 4000000 in
set_option maxRecDepth 100000 in
theorem at_err3t (k : Nat) (A0 : Option Addr) (c0 : Nat) (l0 : List S34) (a1 kind : Int) (mir : Bool) (r1 : Int) (r2 : List Bool) (w : World) (hr0 : Kd.C k34 w A0 l0.length l0) (hc0 : l0.length ≤ c0)
  (h : steps_keys.f k l0 = some (r1, r2, 0)) (hm : true = true → steps_Move_is.f kind mir = some true) (hp : a1 < 0 ∨ (l0.length : Int) ≤ a1) :
  Calls Try.prog 62 #[.slice A0 l0.length c0, .int .i64 a1, .agg #[.int .i64 kind, .bool mir], .bool true] w fun e w' => e = .returned (.tuple #[.slice none 0 0, .int .i64 0, .int .i64 1]) ∧ Below w.heap.size w w' := by
 have hu62 := Try.underlying62
 have HR := Am hr0
 have HC := Am hc0
 have H := Am h
 have HM := Am hm
 clear hr0 hc0 h hm
 by_cases hneg : a1 < 0
 ·have d0 : decide (a1 < 0) = true := decide_eq_true hneg
  clear hp hneg
  go_enter Try.func62, Try.ntmps62
  go_wp2_with (fail)
  refine (steps_keys.calls k A0 c0 l0 r1 r2 0 _ (Kd.C_below HR.out ((Below.refl _ _).alloc (Nat.le_refl _) _)) HC.out H.out).mono ?_
  rintro e w1 ⟨v1, rfl, h1, h2⟩
  obtain ⟨Av, cv, rfl⟩ := Kd.R_slice h1
  have hb : Below w.heap.size w w1 := ((Below.refl _ _).alloc (Nat.le_refl _) _).trans (h2.mono (by simp))
  have HB := Am hb
  have HV := Am h1
  have hc6 : w1.cell? ⟨w.heap.size, 0, none⟩ = some (.int .i64 kind) := (h2.cell (p := ⟨w.heap.size, 0, none⟩) (by simp)).trans (World.cell?_alloc_at _ _ _ _ rfl)
  have hc7 : w1.cell? ⟨w.heap.size, 1, none⟩ = some (.bool mir) := (h2.cell (p := ⟨w.heap.size, 1, none⟩) (by simp)).trans (World.cell?_alloc_at _ _ _ _ rfl)
  clear h1 h2 hb
  go_wp2_with (fail)
  refine (steps_Move_is.calls kind mir true _ (HM.out (by first | trivial | rfl))).mono ?_
  rintro e w2 ⟨rfl, h2⟩
  have HV2 := Am (Kd.R_below HV.out h2)
  have HB2 := Am (HB.out.trans (h2.mono HB.out.size))
  clear h2 HV HB
  go_wp2
  go_ret3
  exact ⟨rfl, HB2.out⟩
 ·have d0 : decide (a1 < 0) = false := decide_eq_false hneg
  have d1 : decide ((l0.length : Int) ≤ a1) = true := decide_eq_true (by omega)
  clear hp hneg
  go_enter Try.func62, Try.ntmps62
  go_wp2_with (fail)
  refine (steps_keys.calls k A0 c0 l0 r1 r2 0 _ (Kd.C_below HR.out ((Below.refl _ _).alloc (Nat.le_refl _) _)) HC.out H.out).mono ?_
  rintro e w1 ⟨v1, rfl, h1, h2⟩
  obtain ⟨Av, cv, rfl⟩ := Kd.R_slice h1
  have hb : Below w.heap.size w w1 := ((Below.refl _ _).alloc (Nat.le_refl _) _).trans (h2.mono (by simp))
  have HB := Am hb
  have HV := Am h1
  have hc6 : w1.cell? ⟨w.heap.size, 0, none⟩ = some (.int .i64 kind) := (h2.cell (p := ⟨w.heap.size, 0, none⟩) (by simp)).trans (World.cell?_alloc_at _ _ _ _ rfl)
  have hc7 : w1.cell? ⟨w.heap.size, 1, none⟩ = some (.bool mir) := (h2.cell (p := ⟨w.heap.size, 1, none⟩) (by simp)).trans (World.cell?_alloc_at _ _ _ _ rfl)
  clear h1 h2 hb
  go_wp2_with (fail)
  refine (steps_Move_is.calls kind mir true _ (HM.out (by first | trivial | rfl))).mono ?_
  rintro e w2 ⟨rfl, h2⟩
  have HV2 := Am (Kd.R_below HV.out h2)
  have HB2 := Am (HB.out.trans (h2.mono HB.out.size))
  clear h2 HV HB
  go_wp2
  go_ret3
  exact ⟨rfl, HB2.out⟩
set_option maxHeartbeats 4000000 in
set_option maxRecDepth 100000 in
theorem at_err4t (k : Nat) (A0 : Option Addr) (c0 : Nat) (l0 : List S34) (a1 kind : Int) (mir : Bool) (r1 : Int) (r2 : List Bool) (w : World) (hr0 : Kd.C k34 w A0 l0.length l0) (hc0 : l0.length ≤ c0)
  (h : steps_keys.f k l0 = some (r1, r2, 0)) (hm : true = true → steps_Move_is.f kind mir = some true) (hp0 : 0 ≤ a1) (hp1 : a1 < l0.length) (hp2 : a1 < r2.length) (hbel : rdOf false r2 a1 = false) :
  Calls Try.prog 62 #[.slice A0 l0.length c0, .int .i64 a1, .agg #[.int .i64 kind, .bool mir], .bool true] w fun e w' => e = .returned (.tuple #[.slice none 0 0, .int .i64 0, .int .i64 1]) ∧ Below w.heap.size w w' := by
 have hu62 := Try.underlying62
 have HR := Am hr0
 have HC := Am hc0
 have H := Am h
 have HM := Am hm
 clear hr0 hc0 h hm
 have d0 : decide (a1 < 0) = false := decide_eq_false (by omega)
 have d1 : decide ((l0.length : Int) ≤ a1) = false := decide_eq_false (by omega)
 go_enter Try.func62, Try.ntmps62
 go_wp2_with (fail)
 refine (steps_keys.calls k A0 c0 l0 r1 r2 0 _ (Kd.C_below HR.out ((Below.refl _ _).alloc (Nat.le_refl _) _)) HC.out H.out).mono ?_
 rintro e w1 ⟨v1, rfl, h1, h2⟩
 obtain ⟨Av, cv, rfl⟩ := Kd.R_slice h1
 have hb : Below w.heap.size w w1 := ((Below.refl _ _).alloc (Nat.le_refl _) _).trans (h2.mono (by simp))
 have HB := Am hb
 have HV := Am h1
 have hc6 : w1.cell? ⟨w.heap.size, 0, none⟩ = some (.int .i64 kind) := (h2.cell (p := ⟨w.heap.size, 0, none⟩) (by simp)).trans (World.cell?_alloc_at _ _ _ _ rfl)
 have hc7 : w1.cell? ⟨w.heap.size, 1, none⟩ = some (.bool mir) := (h2.cell (p := ⟨w.heap.size, 1, none⟩) (by simp)).trans (World.cell?_alloc_at _ _ _ _ rfl)
 clear h1 h2 hb
 go_wp2_with (fail)
 refine (steps_Move_is.calls kind mir true _ (HM.out (by first | trivial | rfl))).mono ?_
 rintro e w2 ⟨rfl, h2⟩
 have HV2 := Am (Kd.R_below HV.out h2)
 have HB2 := Am (HB.out.trans (h2.mono HB.out.size))
 clear h2 HV HB
 obtain ⟨adB, eB, hxB⟩ := Kd.at_bool (Kd.R_reads' HV2.out).2.2 a1 hp0 hp2
 cases eB
 rw [hbel] at hxB
 go_wp2
 go_ret3
 exact ⟨rfl, HB2.out⟩
set_option maxHeartbeats 4000000 in
set_option maxRecDepth 100000 in
theorem at_okt (k : Nat) (A0 : Option Addr) (c0 : Nat) (l0 : List S34) (a1 kind : Int) (mir : Bool) (r1 : Int) (r2 : List Bool) (w : World) (hr0 : Kd.C k34 w A0 l0.length l0) (hc0 : l0.length ≤ c0)
  (h : steps_keys.f k l0 = some (r1, r2, 0)) (hm : true = true → steps_Move_is.f kind mir = some true) (hp0 : 0 ≤ a1) (hp1 : a1 < l0.length) (hp2 : a1 < r2.length) (hbel : rdOf false r2 a1 = true) (hn : l0.length ≤ 1000000)
  (hc : ∀ i, i < l0.length → 0 ≤ (l0.getD i z34).f4 → (l0.getD i z34).f4 < l0.length ∧ 0 ≤ (l0.getD i z34).f5 ∧ (l0.getD i z34).f5 < l0.length) :
  Calls Try.prog 62 #[.slice A0 l0.length c0, .int .i64 a1, .agg #[.int .i64 kind, .bool mir], .bool true] w fun e w' => AtPost w l0 r1 e w' := by
 have hu62 := Try.underlying62
 have HR := Am hr0
 have HC := Am hc0
 have H := Am h
 have HM := Am hm
 clear hr0 hc0 h hm
 have HG := Am hc
 clear hc
 have d0 : decide (a1 < 0) = false := decide_eq_false (by omega)
 have d1 : decide ((l0.length : Int) ≤ a1) = false := decide_eq_false (by omega)
 have hfin := at_fin w l0 r1
 have HF := Am hfin
 clear hfin
 go_enter Try.func62, Try.ntmps62
 go_wp2_with (fail)
 refine (steps_keys.calls k A0 c0 l0 r1 r2 0 _ (Kd.C_below HR.out ((Below.refl _ _).alloc (Nat.le_refl _) _)) HC.out H.out).mono ?_
 rintro e w1 ⟨v1, rfl, h1, h2⟩
 obtain ⟨Av, cv, rfl⟩ := Kd.R_slice h1
 have hb : Below w.heap.size w w1 := ((Below.refl _ _).alloc (Nat.le_refl _) _).trans (h2.mono (by simp))
 have HB := Am hb
 have HV := Am h1
 have hc6 : w1.cell? ⟨w.heap.size, 0, none⟩ = some (.int .i64 kind) := (h2.cell (p := ⟨w.heap.size, 0, none⟩) (by simp)).trans (World.cell?_alloc_at _ _ _ _ rfl)
 have hc7 : w1.cell? ⟨w.heap.size, 1, none⟩ = some (.bool mir) := (h2.cell (p := ⟨w.heap.size, 1, none⟩) (by simp)).trans (World.cell?_alloc_at _ _ _ _ rfl)
 clear h1 h2 hb
 go_wp2_with (fail)
 refine (steps_Move_is.calls kind mir true _ (HM.out (by first | trivial | rfl))).mono ?_
 rintro e w2 ⟨rfl, h2⟩
 have HV2 := Am (Kd.R_below HV.out h2)
 have HB2 := Am (HB.out.trans (h2.mono HB.out.size))
 clear h2 HV HB
 obtain ⟨adB, eB, hxB⟩ := Kd.at_bool (Kd.R_reads' HV2.out).2.2 a1 hp0 hp2
 cases eB
 rw [hbel] at hxB
 go_wp2_with (fail)
 refine (grow_any A0 c0 l0 _ (Kd.C_below (Kd.C_below HR.out (Below.refl _ _)) HB2.out) hn HG.out).mono ?_
 rintro e w3 ⟨rfl, hfo⟩
 have HFO := Am hfo
 clear hfo
 go_wp2
 go_ret3
 exact HF.out _ _ HB2.out HFO.out
end Go.Proofs.Ytgleaefhflamnaa.T
namespace Go.Proofs.Ytgleaefhflamnaa.T
open Go.RowKit Go.Proofs.YtgleaefhflamnaaW.PrintWords Go.Proofs.YtgleaefhflamnaaW.PrintLast Go.Proofs.YtgleaefhflamnaaW.PrintMore
set_option linter.unusedVariables false
set_option linter.unusedSimpArgs false
variable {S : Nat → Prop}
theorem ch2 (a b : Bool) : (a = false) ∨ (a = true ∧ b = false) ∨ (a = true ∧ b = true) := by
 cases a <;> cases b <;> simp
theorem ch3 (a b c : Bool) : (a = false) ∨ (a = true ∧ b = false) ∨ (a = true ∧ b = true ∧ c = false) ∨ (a = true ∧ b = true ∧ c = true) := by
 cases a <;> cases b <;> cases c <;> simp
theorem ch4 (a b c d : Bool) : (a = false) ∨ (a = true ∧ b = false) ∨ (a = true ∧ b = true ∧ c = false) ∨ (a = true ∧ b = true ∧ c = true ∧ d = false) ∨ (a = true ∧ b = true ∧ c = true ∧ d = true) := by
 cases a <;> cases b <;> cases c <;> cases d <;> simp
theorem ch5 (a b c d e : Bool) : (a = false) ∨ (a = true ∧ b = false) ∨ (a = true ∧ b = true ∧ c = false) ∨ (a = true ∧ b = true ∧ c = true ∧ d = false) ∨ (a = true ∧ b = true ∧ c = true ∧ d = true ∧ e = false) ∨ (a = true ∧ b = true ∧ c = true ∧ d = true ∧ e = true) := by
 cases a <;> cases b <;> cases c <;> cases d <;> cases e <;> simp
theorem ch6 (a b c d e f : Bool) : (a = false) ∨ (a = true ∧ b = false) ∨ (a = true ∧ b = true ∧ c = false) ∨ (a = true ∧ b = true ∧ c = true ∧ d = false) ∨ (a = true ∧ b = true ∧ c = true ∧ d = true ∧ e = false) ∨ (a = true ∧ b = true ∧ c = true ∧ d = true ∧ e = true ∧ f = false) ∨ (a = true ∧ b = true ∧ c = true ∧ d = true ∧ e = true ∧ f = true) := by
 cases a <;> cases b <;> cases c <;> cases d <;> cases e <;> cases f <;> simp
theorem ch4' (a b c d : Bool) : a = true ∨ (a = false ∧ b = true) ∨ (a = false ∧ b = false ∧ c = true) ∨ (a = false ∧ b = false ∧ c = false ∧ d = true) ∨ (a = false ∧ b = false ∧ c = false ∧ d = false) := by
 revert a b c d
 decide
def can1 (m : Bool) (T : Tr) : Bool := (wt (lT m T) == 0) && (wt (rT m T) == 0) && (decide (0 < wt T)) && ((wt (lT m (lT m T)) == 0) || (wt (rT m (lT m T)) == 0) || (wt (lT m (rT m T)) == 0) || (wt (rT m (rT m T)) == 0))
set_option maxHeartbeats 16000000 in
set_option maxRecDepth 100000 in
theorem can1_any (m rt : Bool) (p pl pr pll plr prl prr pa pb : Option Addr) (T : Tr) (w : World) (Hl : Aside0 (Rep S w (.pointer pl) (lT m T))) (Hll : Aside0 (Rep S w (.pointer pll) (lT m (lT m T)))) (Hlr : Aside0 (Rep S w (.pointer plr) (rT m (lT m T)))) (Hr : Aside0 (Rep S w (.pointer pr) (rT m T))) (Hrl : Aside0 (Rep S w (.pointer prl) (lT m (rT m T)))) (Hrr : Aside0 (Rep S w (.pointer prr) (rT m (rT m T)))) (Hx : Aside0 (Rep S w (.pointer p) T)) :
  Calls Try.prog 64 #[.agg #[.bool m, .pointer p, .pointer pl, .pointer pr, .pointer pll, .pointer plr, .pointer prl, .pointer prr, .pointer pa, .pointer pb, .bool rt], .int .i64 1] w fun e w' => e = .returned (.bool (can1 m T)) ∧ Below w.heap.size w w' := by
 have hu111 := Try.underlying111
 obtain ⟨r, hr⟩ : ∃ r, can1 m T = r := ⟨_, rfl⟩
 rw [hr]
 have HR := Am hr
 clear hr
 rcases ch3 (wt (lT m T) == 0) (wt (rT m T) == 0) (decide (0 < wt T)) with h0 | ⟨h0, h1⟩ | ⟨h0, h1, h2⟩ | ⟨h0, h1, h2⟩
 rotate_left 3
 rcases ch4' (wt (lT m (lT m T)) == 0) (wt (rT m (lT m T)) == 0) (wt (lT m (rT m T)) == 0) (wt (rT m (rT m T)) == 0) with g0 | ⟨g0, g1⟩ | ⟨g0, g1, g2⟩ | ⟨g0, g1, g2, g3⟩ | ⟨g0, g1, g2, g3⟩
 all_goals
  go_enter Try.func64, Try.ntmps64
  go_wp2_with (first | (go_at_call 87; refine (red_any (S := S) _ _ _ (Rep.below (by first | exact Hl.out | exact Hll.out | exact Hlr.out | exact Hr.out | exact Hrl.out | exact Hrr.out | exact Hx.out) ((Below.refl _ _).alloc (Nat.le_refl _) _))).mono ?_; rintro e w' ⟨rfl, rfl⟩) | (go_at_call 88; refine (black_any (S := S) _ _ _ (Rep.below (by first | exact Hl.out | exact Hll.out | exact Hlr.out | exact Hr.out | exact Hrl.out | exact Hrr.out | exact Hx.out) ((Below.refl _ _).alloc (Nat.le_refl _) _))).mono ?_; rintro e w' ⟨rfl, rfl⟩))
  go_ret
  exact ⟨by rw [← HR.out]; simp only [can1]; simp [*], (Below.refl _ _).alloc (Nat.le_refl _) _⟩
def can2 (m : Bool) (T : Tr) : Bool := (decide (0 < wt T)) && (wt (lT m T) == 0) && (wt (lT m (lT m T)) == 0) && (decide (0 < wt (rT m T)))
set_option maxHeartbeats 16000000 in
set_option maxRecDepth 100000 in
theorem can2_any (m rt : Bool) (p pl pr pll plr prl prr pa pb : Option Addr) (T : Tr) (w : World) (Hl : Aside0 (Rep S w (.pointer pl) (lT m T))) (Hll : Aside0 (Rep S w (.pointer pll) (lT m (lT m T)))) (Hr : Aside0 (Rep S w (.pointer pr) (rT m T))) (Hx : Aside0 (Rep S w (.pointer p) T)) :
  Calls Try.prog 64 #[.agg #[.bool m, .pointer p, .pointer pl, .pointer pr, .pointer pll, .pointer plr, .pointer prl, .pointer prr, .pointer pa, .pointer pb, .bool rt], .int .i64 2] w fun e w' => e = .returned (.bool (can2 m T)) ∧ Below w.heap.size w w' := by
 have hu111 := Try.underlying111
 obtain ⟨r, hr⟩ : ∃ r, can2 m T = r := ⟨_, rfl⟩
 rw [hr]
 have HR := Am hr
 clear hr
 rcases ch4 (decide (0 < wt T)) (wt (lT m T) == 0) (wt (lT m (lT m T)) == 0) (decide (0 < wt (rT m T))) with h0 | ⟨h0, h1⟩ | ⟨h0, h1, h2⟩ | ⟨h0, h1, h2, h3⟩ | ⟨h0, h1, h2, h3⟩
 all_goals
  go_enter Try.func64, Try.ntmps64
  go_wp2_with (first | (go_at_call 88; refine (black_any (S := S) _ _ _ (Rep.below (by first | exact Hl.out | exact Hll.out | exact Hr.out | exact Hx.out) ((Below.refl _ _).alloc (Nat.le_refl _) _))).mono ?_; rintro e w' ⟨rfl, rfl⟩) | (go_at_call 87; refine (red_any (S := S) _ _ _ (Rep.below (by first | exact Hl.out | exact Hll.out | exact Hr.out | exact Hx.out) ((Below.refl _ _).alloc (Nat.le_refl _) _))).mono ?_; rintro e w' ⟨rfl, rfl⟩))
  go_ret
  exact ⟨by rw [← HR.out]; simp only [can2]; simp [*], (Below.refl _ _).alloc (Nat.le_refl _) _⟩
end Go.Proofs.Ytgleaefhflamnaa.T
namespace Go.Proofs.Ytgleaefhflamnaa.T
open Go.RowKit Go.Proofs.YtgleaefhflamnaaW.PrintWords Go.Proofs.YtgleaefhflamnaaW.PrintLast Go.Proofs.YtgleaefhflamnaaW.PrintMore
set_option linter.unusedVariables false
set_option linter.unusedSimpArgs false
variable {S : Nat → Prop}
def can3 (m : Bool) (T : Tr) : Bool := (decide (0 < wt T)) && (wt (lT m T) == 0) && (wt (rT m (lT m T)) == 0) && (innerB (rT m (lT m T))) && (decide (0 < wt (lT m (lT m T)))) && (decide (0 < wt (rT m T)))
set_option maxHeartbeats 16000000 in
set_option maxRecDepth 100000 in
theorem can3_any (m rt : Bool) (p pl pr pll plr prl prr pa pb : Option Addr) (T : Tr) (w : World) (Hl : Aside0 (Rep S w (.pointer pl) (lT m T))) (Hll : Aside0 (Rep S w (.pointer pll) (lT m (lT m T)))) (Hlr : Aside0 (Rep S w (.pointer plr) (rT m (lT m T)))) (Hr : Aside0 (Rep S w (.pointer pr) (rT m T))) (Hx : Aside0 (Rep S w (.pointer p) T)) :
  Calls Try.prog 64 #[.agg #[.bool m, .pointer p, .pointer pl, .pointer pr, .pointer pll, .pointer plr, .pointer prl, .pointer prr, .pointer pa, .pointer pb, .bool rt], .int .i64 3] w fun e w' => e = .returned (.bool (can3 m T)) ∧ Below w.heap.size w w' := by
 have hu111 := Try.underlying111
 obtain ⟨r, hr⟩ : ∃ r, can3 m T = r := ⟨_, rfl⟩
 rw [hr]
 have HR := Am hr
 clear hr
 rcases ch6 (decide (0 < wt T)) (wt (lT m T) == 0) (wt (rT m (lT m T)) == 0) (innerB (rT m (lT m T))) (decide (0 < wt (lT m (lT m T)))) (decide (0 < wt (rT m T))) with h0 | ⟨h0, h1⟩ | ⟨h0, h1, h2⟩ | ⟨h0, h1, h2, h3⟩ | ⟨h0, h1, h2, h3, h4⟩ | ⟨h0, h1, h2, h3, h4, h5⟩ | ⟨h0, h1, h2, h3, h4, h5⟩
 all_goals
  go_enter Try.func64, Try.ntmps64
  go_wp2_with (first | (go_at_call 88; refine (black_any (S := S) _ _ _ (Rep.below (by first | exact Hl.out | exact Hll.out | exact Hlr.out | exact Hr.out | exact Hx.out) ((Below.refl _ _).alloc (Nat.le_refl _) _))).mono ?_; rintro e w' ⟨rfl, rfl⟩) | (go_at_call 87; refine (red_any (S := S) _ _ _ (Rep.below (by first | exact Hl.out | exact Hll.out | exact Hlr.out | exact Hr.out | exact Hx.out) ((Below.refl _ _).alloc (Nat.le_refl _) _))).mono ?_; rintro e w' ⟨rfl, rfl⟩) | (go_at_call 89; refine (inner_any (S := S) _ _ _ (Rep.below (by first | exact Hl.out | exact Hll.out | exact Hlr.out | exact Hr.out | exact Hx.out) ((Below.refl _ _).alloc (Nat.le_refl _) _))).mono ?_; rintro e w' ⟨rfl, rfl⟩))
  go_ret
  exact ⟨by rw [← HR.out]; simp only [can3]; simp [*], (Below.refl _ _).alloc (Nat.le_refl _) _⟩
def can4 (m : Bool) (T : Tr) : Bool := (decide (1 < wt (lT m T))) && (wt (rT m T) == 1) && (decide (0 < wt (lT m (rT m T)))) && (decide (0 < wt (rT m (rT m T))))
set_option maxHeartbeats 16000000 in
set_option maxRecDepth 100000 in
theorem can4_any (m rt : Bool) (p pl pr pll plr prl prr pa pb : Option Addr) (T : Tr) (w : World) (Hl : Aside0 (Rep S w (.pointer pl) (lT m T))) (Hr : Aside0 (Rep S w (.pointer pr) (rT m T))) (Hrl : Aside0 (Rep S w (.pointer prl) (lT m (rT m T)))) (Hrr : Aside0 (Rep S w (.pointer prr) (rT m (rT m T)))) :
  Calls Try.prog 64 #[.agg #[.bool m, .pointer p, .pointer pl, .pointer pr, .pointer pll, .pointer plr, .pointer prl, .pointer prr, .pointer pa, .pointer pb, .bool rt], .int .i64 4] w fun e w' => e = .returned (.bool (can4 m T)) ∧ Below w.heap.size w w' := by
 have hu111 := Try.underlying111
 obtain ⟨r, hr⟩ : ∃ r, can4 m T = r := ⟨_, rfl⟩
 rw [hr]
 have HR := Am hr
 clear hr
 rcases ch4 (decide (1 < wt (lT m T))) (wt (rT m T) == 1) (decide (0 < wt (lT m (rT m T)))) (decide (0 < wt (rT m (rT m T)))) with h0 | ⟨h0, h1⟩ | ⟨h0, h1, h2⟩ | ⟨h0, h1, h2, h3⟩ | ⟨h0, h1, h2, h3⟩
 all_goals
  go_enter Try.func64, Try.ntmps64
  go_wp2_with (first | (go_at_call 90; refine (over_any (S := S) _ _ _ (Rep.below (by first | exact Hl.out | exact Hr.out | exact Hrl.out | exact Hrr.out) ((Below.refl _ _).alloc (Nat.le_refl _) _))).mono ?_; rintro e w' ⟨rfl, rfl⟩) | (go_at_call 91; refine (one_any (S := S) _ _ _ (Rep.below (by first | exact Hl.out | exact Hr.out | exact Hrl.out | exact Hrr.out) ((Below.refl _ _).alloc (Nat.le_refl _) _))).mono ?_; rintro e w' ⟨rfl, rfl⟩) | (go_at_call 88; refine (black_any (S := S) _ _ _ (Rep.below (by first | exact Hl.out | exact Hr.out | exact Hrl.out | exact Hrr.out) ((Below.refl _ _).alloc (Nat.le_refl _) _))).mono ?_; rintro e w' ⟨rfl, rfl⟩))
  go_ret
  exact ⟨by rw [← HR.out]; simp only [can4]; simp [*], (Below.refl _ _).alloc (Nat.le_refl _) _⟩
def can11 (m : Bool) (T : Tr) : Bool := (decide (1 < wt (lT m T))) && (decide (1 < wt (rT m T)))
set_option maxHeartbeats 16000000 in
set_option maxRecDepth 100000 in
theorem can11_any (m rt : Bool) (p pl pr pll plr prl prr pa pb : Option Addr) (T : Tr) (w : World) (Hl : Aside0 (Rep S w (.pointer pl) (lT m T))) (Hr : Aside0 (Rep S w (.pointer pr) (rT m T))) :
  Calls Try.prog 64 #[.agg #[.bool m, .pointer p, .pointer pl, .pointer pr, .pointer pll, .pointer plr, .pointer prl, .pointer prr, .pointer pa, .pointer pb, .bool rt], .int .i64 11] w fun e w' => e = .returned (.bool (can11 m T)) ∧ Below w.heap.size w w' := by
 have hu111 := Try.underlying111
 obtain ⟨r, hr⟩ : ∃ r, can11 m T = r := ⟨_, rfl⟩
 rw [hr]
 have HR := Am hr
 clear hr
 rcases ch2 (decide (1 < wt (lT m T))) (decide (1 < wt (rT m T))) with h0 | ⟨h0, h1⟩ | ⟨h0, h1⟩
 all_goals
  go_enter Try.func64, Try.ntmps64
  go_wp2_with (first | (go_at_call 90; refine (over_any (S := S) _ _ _ (Rep.below (by first | exact Hl.out | exact Hr.out) ((Below.refl _ _).alloc (Nat.le_refl _) _))).mono ?_; rintro e w' ⟨rfl, rfl⟩))
  go_ret
  exact ⟨by rw [← HR.out]; simp only [can11]; simp [*], (Below.refl _ _).alloc (Nat.le_refl _) _⟩
end Go.Proofs.Ytgleaefhflamnaa.T
namespace Go.Proofs.Ytgleaefhflamnaa.T
open Go.RowKit Go.Proofs.YtgleaefhflamnaaW.PrintWords Go.Proofs.YtgleaefhflamnaaW.PrintLast Go.Proofs.YtgleaefhflamnaaW.PrintMore
set_option linter.unusedVariables false
set_option linter.unusedSimpArgs false
variable {S : Nat → Prop}
def can9 (m : Bool) (T : Tr) : Bool := (decide (1 < wt (lT m T))) && (wt (rT m T) == 1) && (wt (rT m (rT m T)) == 0)
set_option maxHeartbeats 16000000 in
set_option maxRecDepth 100000 in
theorem can9_any (m rt : Bool) (p pl pr pll plr prl prr pa pb : Option Addr) (T : Tr) (w : World) (Hl : Aside0 (Rep S w (.pointer pl) (lT m T))) (Hr : Aside0 (Rep S w (.pointer pr) (rT m T))) (Hrr : Aside0 (Rep S w (.pointer prr) (rT m (rT m T)))) :
  Calls Try.prog 64 #[.agg #[.bool m, .pointer p, .pointer pl, .pointer pr, .pointer pll, .pointer plr, .pointer prl, .pointer prr, .pointer pa, .pointer pb, .bool rt], .int .i64 9] w fun e w' => e = .returned (.bool (can9 m T)) ∧ Below w.heap.size w w' := by
 have hu111 := Try.underlying111
 obtain ⟨r, hr⟩ : ∃ r, can9 m T = r := ⟨_, rfl⟩
 rw [hr]
 have HR := Am hr
 clear hr
 rcases ch3 (decide (1 < wt (lT m T))) (wt (rT m T) == 1) (wt (rT m (rT m T)) == 0) with h0 | ⟨h0, h1⟩ | ⟨h0, h1, h2⟩ | ⟨h0, h1, h2⟩
 all_goals
  go_enter Try.func64, Try.ntmps64
  go_wp2_with (first | (go_at_call 90; refine (over_any (S := S) _ _ _ (Rep.below (by first | exact Hl.out | exact Hr.out | exact Hrr.out) ((Below.refl _ _).alloc (Nat.le_refl _) _))).mono ?_; rintro e w' ⟨rfl, rfl⟩) | (go_at_call 91; refine (one_any (S := S) _ _ _ (Rep.below (by first | exact Hl.out | exact Hr.out | exact Hrr.out) ((Below.refl _ _).alloc (Nat.le_refl _) _))).mono ?_; rintro e w' ⟨rfl, rfl⟩) | (go_at_call 87; refine (red_any (S := S) _ _ _ (Rep.below (by first | exact Hl.out | exact Hr.out | exact Hrr.out) ((Below.refl _ _).alloc (Nat.le_refl _) _))).mono ?_; rintro e w' ⟨rfl, rfl⟩))
  go_ret
  exact ⟨by rw [← HR.out]; simp only [can9]; simp [*], (Below.refl _ _).alloc (Nat.le_refl _) _⟩
def can10 (m : Bool) (T : Tr) : Bool := (decide (1 < wt (lT m T))) && (wt (rT m T) == 1) && (wt (lT m (rT m T)) == 0) && (innerB (lT m (rT m T))) && (decide (0 < wt (rT m (rT m T))))
set_option maxHeartbeats 16000000 in
set_option maxRecDepth 100000 in
theorem can10_any (m rt : Bool) (p pl pr pll plr prl prr pa pb : Option Addr) (T : Tr) (w : World) (Hl : Aside0 (Rep S w (.pointer pl) (lT m T))) (Hr : Aside0 (Rep S w (.pointer pr) (rT m T))) (Hrl : Aside0 (Rep S w (.pointer prl) (lT m (rT m T)))) (Hrr : Aside0 (Rep S w (.pointer prr) (rT m (rT m T)))) :
  Calls Try.prog 64 #[.agg #[.bool m, .pointer p, .pointer pl, .pointer pr, .pointer pll, .pointer plr, .pointer prl, .pointer prr, .pointer pa, .pointer pb, .bool rt], .int .i64 10] w fun e w' => e = .returned (.bool (can10 m T)) ∧ Below w.heap.size w w' := by
 have hu111 := Try.underlying111
 obtain ⟨r, hr⟩ : ∃ r, can10 m T = r := ⟨_, rfl⟩
 rw [hr]
 have HR := Am hr
 clear hr
 rcases ch5 (decide (1 < wt (lT m T))) (wt (rT m T) == 1) (wt (lT m (rT m T)) == 0) (innerB (lT m (rT m T))) (decide (0 < wt (rT m (rT m T)))) with h0 | ⟨h0, h1⟩ | ⟨h0, h1, h2⟩ | ⟨h0, h1, h2, h3⟩ | ⟨h0, h1, h2, h3, h4⟩ | ⟨h0, h1, h2, h3, h4⟩
 all_goals
  go_enter Try.func64, Try.ntmps64
  go_wp2_with (first | (go_at_call 90; refine (over_any (S := S) _ _ _ (Rep.below (by first | exact Hl.out | exact Hr.out | exact Hrl.out | exact Hrr.out) ((Below.refl _ _).alloc (Nat.le_refl _) _))).mono ?_; rintro e w' ⟨rfl, rfl⟩) | (go_at_call 91; refine (one_any (S := S) _ _ _ (Rep.below (by first | exact Hl.out | exact Hr.out | exact Hrl.out | exact Hrr.out) ((Below.refl _ _).alloc (Nat.le_refl _) _))).mono ?_; rintro e w' ⟨rfl, rfl⟩) | (go_at_call 87; refine (red_any (S := S) _ _ _ (Rep.below (by first | exact Hl.out | exact Hr.out | exact Hrl.out | exact Hrr.out) ((Below.refl _ _).alloc (Nat.le_refl _) _))).mono ?_; rintro e w' ⟨rfl, rfl⟩) | (go_at_call 89; refine (inner_any (S := S) _ _ _ (Rep.below (by first | exact Hl.out | exact Hr.out | exact Hrl.out | exact Hrr.out) ((Below.refl _ _).alloc (Nat.le_refl _) _))).mono ?_; rintro e w' ⟨rfl, rfl⟩) | (go_at_call 88; refine (black_any (S := S) _ _ _ (Rep.below (by first | exact Hl.out | exact Hr.out | exact Hrl.out | exact Hrr.out) ((Below.refl _ _).alloc (Nat.le_refl _) _))).mono ?_; rintro e w' ⟨rfl, rfl⟩))
  go_ret
  exact ⟨by rw [← HR.out]; simp only [can10]; simp [*], (Below.refl _ _).alloc (Nat.le_refl _) _⟩
def can5 (m : Bool) (T : Tr) : Bool := (decide (1 < wt (lT m T))) && (wt (rT m T) == 0) && (decide (1 < wt (lT m (rT m T))))
set_option maxHeartbeats 16000000 in
set_option maxRecDepth 100000 in
theorem can5_any (m rt : Bool) (p pl pr pll plr prl prr pa pb : Option Addr) (T : Tr) (w : World) (Hl : Aside0 (Rep S w (.pointer pl) (lT m T))) (Hr : Aside0 (Rep S w (.pointer pr) (rT m T))) (Hrl : Aside0 (Rep S w (.pointer prl) (lT m (rT m T)))) :
  Calls Try.prog 64 #[.agg #[.bool m, .pointer p, .pointer pl, .pointer pr, .pointer pll, .pointer plr, .pointer prl, .pointer prr, .pointer pa, .pointer pb, .bool rt], .int .i64 5] w fun e w' => e = .returned (.bool (can5 m T)) ∧ Below w.heap.size w w' := by
 have hu111 := Try.underlying111
 obtain ⟨r, hr⟩ : ∃ r, can5 m T = r := ⟨_, rfl⟩
 rw [hr]
 have HR := Am hr
 clear hr
 rcases ch3 (decide (1 < wt (lT m T))) (wt (rT m T) == 0) (decide (1 < wt (lT m (rT m T)))) with h0 | ⟨h0, h1⟩ | ⟨h0, h1, h2⟩ | ⟨h0, h1, h2⟩
 all_goals
  go_enter Try.func64, Try.ntmps64
  go_wp2_with (first | (go_at_call 90; refine (over_any (S := S) _ _ _ (Rep.below (by first | exact Hl.out | exact Hr.out | exact Hrl.out) ((Below.refl _ _).alloc (Nat.le_refl _) _))).mono ?_; rintro e w' ⟨rfl, rfl⟩) | (go_at_call 87; refine (red_any (S := S) _ _ _ (Rep.below (by first | exact Hl.out | exact Hr.out | exact Hrl.out) ((Below.refl _ _).alloc (Nat.le_refl _) _))).mono ?_; rintro e w' ⟨rfl, rfl⟩))
  go_ret
  exact ⟨by rw [← HR.out]; simp only [can5]; simp [*], (Below.refl _ _).alloc (Nat.le_refl _) _⟩
end Go.Proofs.Ytgleaefhflamnaa.T
namespace Go.Proofs.Ytgleaefhflamnaa.T
open Go.RowKit Go.Proofs.YtgleaefhflamnaaW.PrintWords Go.Proofs.YtgleaefhflamnaaW.PrintLast Go.Proofs.YtgleaefhflamnaaW.PrintMore
set_option linter.unusedVariables false
set_option linter.unusedSimpArgs false
variable {S : Nat → Prop}
def can6 (m : Bool) (T : Tr) : Bool := (decide (1 < wt (lT m T))) && (wt (rT m T) == 0) && (wt (lT m (rT m T)) == 1) && (decide (0 < wt (lT m (lT m (rT m T))))) && (decide (0 < wt (rT m (lT m (rT m T)))))
set_option maxHeartbeats 16000000 in
set_option maxRecDepth 100000 in
theorem can6_any (m rt : Bool) (p pl pr pll plr prl prr pa pb : Option Addr) (T : Tr) (w : World) (Ha : Aside0 (Rep S w (.pointer pa) (lT m (lT m (rT m T))))) (Hb : Aside0 (Rep S w (.pointer pb) (rT m (lT m (rT m T))))) (Hl : Aside0 (Rep S w (.pointer pl) (lT m T))) (Hr : Aside0 (Rep S w (.pointer pr) (rT m T))) (Hrl : Aside0 (Rep S w (.pointer prl) (lT m (rT m T)))) :
  Calls Try.prog 64 #[.agg #[.bool m, .pointer p, .pointer pl, .pointer pr, .pointer pll, .pointer plr, .pointer prl, .pointer prr, .pointer pa, .pointer pb, .bool rt], .int .i64 6] w fun e w' => e = .returned (.bool (can6 m T)) ∧ Below w.heap.size w w' := by
 have hu111 := Try.underlying111
 obtain ⟨r, hr⟩ : ∃ r, can6 m T = r := ⟨_, rfl⟩
 rw [hr]
 have HR := Am hr
 clear hr
 rcases ch5 (decide (1 < wt (lT m T))) (wt (rT m T) == 0) (wt (lT m (rT m T)) == 1) (decide (0 < wt (lT m (lT m (rT m T))))) (decide (0 < wt (rT m (lT m (rT m T))))) with h0 | ⟨h0, h1⟩ | ⟨h0, h1, h2⟩ | ⟨h0, h1, h2, h3⟩ | ⟨h0, h1, h2, h3, h4⟩ | ⟨h0, h1, h2, h3, h4⟩
 all_goals
  go_enter Try.func64, Try.ntmps64
  go_wp2_with (first | (go_at_call 90; refine (over_any (S := S) _ _ _ (Rep.below (by first | exact Ha.out | exact Hb.out | exact Hl.out | exact Hr.out | exact Hrl.out) ((Below.refl _ _).alloc (Nat.le_refl _) _))).mono ?_; rintro e w' ⟨rfl, rfl⟩) | (go_at_call 87; refine (red_any (S := S) _ _ _ (Rep.below (by first | exact Ha.out | exact Hb.out | exact Hl.out | exact Hr.out | exact Hrl.out) ((Below.refl _ _).alloc (Nat.le_refl _) _))).mono ?_; rintro e w' ⟨rfl, rfl⟩) | (go_at_call 91; refine (one_any (S := S) _ _ _ (Rep.below (by first | exact Ha.out | exact Hb.out | exact Hl.out | exact Hr.out | exact Hrl.out) ((Below.refl _ _).alloc (Nat.le_refl _) _))).mono ?_; rintro e w' ⟨rfl, rfl⟩) | (go_at_call 88; refine (black_any (S := S) _ _ _ (Rep.below (by first | exact Ha.out | exact Hb.out | exact Hl.out | exact Hr.out | exact Hrl.out) ((Below.refl _ _).alloc (Nat.le_refl _) _))).mono ?_; rintro e w' ⟨rfl, rfl⟩))
  go_ret
  exact ⟨by rw [← HR.out]; simp only [can6]; simp [*], (Below.refl _ _).alloc (Nat.le_refl _) _⟩
def can7 (m : Bool) (T : Tr) : Bool := (decide (1 < wt (lT m T))) && (wt (rT m T) == 0) && (wt (lT m (rT m T)) == 1) && (wt (lT m (lT m (rT m T))) == 0) && (innerB (lT m (lT m (rT m T)))) && (decide (0 < wt (rT m (lT m (rT m T)))))
set_option maxHeartbeats 16000000 in
set_option maxRecDepth 100000 in
theorem can7_any (m rt : Bool) (p pl pr pll plr prl prr pa pb : Option Addr) (T : Tr) (w : World) (Ha : Aside0 (Rep S w (.pointer pa) (lT m (lT m (rT m T))))) (Hb : Aside0 (Rep S w (.pointer pb) (rT m (lT m (rT m T))))) (Hl : Aside0 (Rep S w (.pointer pl) (lT m T))) (Hr : Aside0 (Rep S w (.pointer pr) (rT m T))) (Hrl : Aside0 (Rep S w (.pointer prl) (lT m (rT m T)))) :
  Calls Try.prog 64 #[.agg #[.bool m, .pointer p, .pointer pl, .pointer pr, .pointer pll, .pointer plr, .pointer prl, .pointer prr, .pointer pa, .pointer pb, .bool rt], .int .i64 7] w fun e w' => e = .returned (.bool (can7 m T)) ∧ Below w.heap.size w w' := by
 have hu111 := Try.underlying111
 obtain ⟨r, hr⟩ : ∃ r, can7 m T = r := ⟨_, rfl⟩
 rw [hr]
 have HR := Am hr
 clear hr
 rcases ch6 (decide (1 < wt (lT m T))) (wt (rT m T) == 0) (wt (lT m (rT m T)) == 1) (wt (lT m (lT m (rT m T))) == 0) (innerB (lT m (lT m (rT m T)))) (decide (0 < wt (rT m (lT m (rT m T))))) with h0 | ⟨h0, h1⟩ | ⟨h0, h1, h2⟩ | ⟨h0, h1, h2, h3⟩ | ⟨h0, h1, h2, h3, h4⟩ | ⟨h0, h1, h2, h3, h4, h5⟩ | ⟨h0, h1, h2, h3, h4, h5⟩
 all_goals
  go_enter Try.func64, Try.ntmps64
  go_wp2_with (first | (go_at_call 90; refine (over_any (S := S) _ _ _ (Rep.below (by first | exact Ha.out | exact Hb.out | exact Hl.out | exact Hr.out | exact Hrl.out) ((Below.refl _ _).alloc (Nat.le_refl _) _))).mono ?_; rintro e w' ⟨rfl, rfl⟩) | (go_at_call 87; refine (red_any (S := S) _ _ _ (Rep.below (by first | exact Ha.out | exact Hb.out | exact Hl.out | exact Hr.out | exact Hrl.out) ((Below.refl _ _).alloc (Nat.le_refl _) _))).mono ?_; rintro e w' ⟨rfl, rfl⟩) | (go_at_call 91; refine (one_any (S := S) _ _ _ (Rep.below (by first | exact Ha.out | exact Hb.out | exact Hl.out | exact Hr.out | exact Hrl.out) ((Below.refl _ _).alloc (Nat.le_refl _) _))).mono ?_; rintro e w' ⟨rfl, rfl⟩) | (go_at_call 89; refine (inner_any (S := S) _ _ _ (Rep.below (by first | exact Ha.out | exact Hb.out | exact Hl.out | exact Hr.out | exact Hrl.out) ((Below.refl _ _).alloc (Nat.le_refl _) _))).mono ?_; rintro e w' ⟨rfl, rfl⟩) | (go_at_call 88; refine (black_any (S := S) _ _ _ (Rep.below (by first | exact Ha.out | exact Hb.out | exact Hl.out | exact Hr.out | exact Hrl.out) ((Below.refl _ _).alloc (Nat.le_refl _) _))).mono ?_; rintro e w' ⟨rfl, rfl⟩))
  go_ret
  exact ⟨by rw [← HR.out]; simp only [can7]; simp [*], (Below.refl _ _).alloc (Nat.le_refl _) _⟩
def can8 (m : Bool) (T : Tr) : Bool := (decide (1 < wt (lT m T))) && (wt (rT m T) == 0) && (wt (lT m (rT m T)) == 1) && (wt (rT m (lT m (rT m T))) == 0)
set_option maxHeartbeats 16000000 in
set_option maxRecDepth 100000 in
theorem can8_any (m rt : Bool) (p pl pr pll plr prl prr pa pb : Option Addr) (T : Tr) (w : World) (Hb : Aside0 (Rep S w (.pointer pb) (rT m (lT m (rT m T))))) (Hl : Aside0 (Rep S w (.pointer pl) (lT m T))) (Hr : Aside0 (Rep S w (.pointer pr) (rT m T))) (Hrl : Aside0 (Rep S w (.pointer prl) (lT m (rT m T)))) :
  Calls Try.prog 64 #[.agg #[.bool m, .pointer p, .pointer pl, .pointer pr, .pointer pll, .pointer plr, .pointer prl, .pointer prr, .pointer pa, .pointer pb, .bool rt], .int .i64 8] w fun e w' => e = .returned (.bool (can8 m T)) ∧ Below w.heap.size w w' := by
 have hu111 := Try.underlying111
 obtain ⟨r, hr⟩ : ∃ r, can8 m T = r := ⟨_, rfl⟩
 rw [hr]
 have HR := Am hr
 clear hr
 rcases ch4 (decide (1 < wt (lT m T))) (wt (rT m T) == 0) (wt (lT m (rT m T)) == 1) (wt (rT m (lT m (rT m T))) == 0) with h0 | ⟨h0, h1⟩ | ⟨h0, h1, h2⟩ | ⟨h0, h1, h2, h3⟩ | ⟨h0, h1, h2, h3⟩
 all_goals
  go_enter Try.func64, Try.ntmps64
  go_wp2_with (first | (go_at_call 90; refine (over_any (S := S) _ _ _ (Rep.below (by first | exact Hb.out | exact Hl.out | exact Hr.out | exact Hrl.out) ((Below.refl _ _).alloc (Nat.le_refl _) _))).mono ?_; rintro e w' ⟨rfl, rfl⟩) | (go_at_call 87; refine (red_any (S := S) _ _ _ (Rep.below (by first | exact Hb.out | exact Hl.out | exact Hr.out | exact Hrl.out) ((Below.refl _ _).alloc (Nat.le_refl _) _))).mono ?_; rintro e w' ⟨rfl, rfl⟩) | (go_at_call 91; refine (one_any (S := S) _ _ _ (Rep.below (by first | exact Hb.out | exact Hl.out | exact Hr.out | exact Hrl.out) ((Below.refl _ _).alloc (Nat.le_refl _) _))).mono ?_; rintro e w' ⟨rfl, rfl⟩))
  go_ret
  exact ⟨by rw [← HR.out]; simp only [can8]; simp [*], (Below.refl _ _).alloc (Nat.le_refl _) _⟩
end Go.Proofs.Ytgleaefhflamnaa.T
namespace Go.Proofs.Ytgleaefhflamnaa.T
open Go.RowKit Go.Proofs.YtgleaefhflamnaaW.PrintWords Go.Proofs.YtgleaefhflamnaaW.PrintLast Go.Proofs.YtgleaefhflamnaaW.PrintMore
variable {S : Nat → Prop}
def keyT : Tr → Int
 | .nil => 0
 | .node n _ _ _ => n.f0
def DoPost (S : Nat → Prop) (w : World) (R : Tr) (e : Ending) (w' : World) : Prop := ∃ q W, e = .returned (.pointer q) ∧ Below w.heap.size w W ∧ Below W.heap.size W w' ∧ TopRep S W w' (.pointer q) R
theorem do_fin (w : World) (R : Tr) : ∀ (q : Option Addr) (W w' : World), Below w.heap.size w W → Below W.heap.size W w' → TopRep S W w' (.pointer q) R → DoPost S w R (.returned (.pointer q)) w' := fun q W _ h1 h2 h3 => ⟨q, W, rfl, h1, h2, h3⟩
end Go.Proofs.Ytgleaefhflamnaa.T
namespace Go.Proofs.Ytgleaefhflamnaa.T
open Go.RowKit Go.Proofs.YtgleaefhflamnaaW.PrintWords Go.Proofs.YtgleaefhflamnaaW.PrintLast Go.Proofs.YtgleaefhflamnaaW.PrintMore
variable {S : Nat → Prop}
set_option maxHeartbeats 4000000 in
set_option maxRecDepth 100000 in
theorem do1_any (m rt : Bool) (p pl pr pll plr prl prr pa pb : Option Addr) {nx : S34} {qx : Int} {lx rx : Tr} {nl : S34} {ql : Int} {ll rl : Tr} {nr : S34} {qr : Int} {lr rr : Tr} {X : Tr} {L : Tr} {R : Tr} (w : World) (hS : ∀ k, w.heap.size ≤ k → S k) (ex : X = .node nx qx lx rx) (el : L = .node nl ql ll rl) (er : R = .node nr qr lr rr) (Hx : Aside0 (Rep S w (.pointer p) X)) (Hl : Aside0 (Rep S w (.pointer pl) L)) (Hr : Aside0 (Rep S w (.pointer pr) R)) :
  Calls Try.prog 65 #[.agg #[.bool m, .pointer p, .pointer pl, .pointer pr, .pointer pll, .pointer plr, .pointer prl, .pointer prr, .pointer pa, .pointer pb, .bool rt], .int .i64 1] w fun e w' => DoPost S w (putT m (keyT X) (wrap64 (wt X - 1)) (asT 1 L) (asT 1 R)) e w' := by
 have hu111 := Try.underlying111
 have Ex := Am ex
 clear ex
 have El := Am el
 clear el
 have Er := Am er
 clear er
 have HSS := Am hS
 clear hS
 have hfin := do_fin (S := S) w (putT m (keyT X) (wrap64 (wt X - 1)) (asT 1 L) (asT 1 R))
 have HF := Am hfin
 clear hfin
 go_enter Try.func65, Try.ntmps65
 go_wp2_with (fail)
 refine (weight_any _ _ _ (Hx.out.below ((Below.refl _ _).alloc (Nat.le_refl _) _))).mono ?_
 rintro e w' ⟨rfl, rfl⟩
 go_wp2
 have HB0 : Aside0 (Below w.heap.size w (w.alloc (.cells #[.bool m, .pointer p, .pointer pl, .pointer pr, .pointer pll, .pointer plr, .pointer prl, .pointer prr, .pointer pa, .pointer pb, .bool rt] 111))) := ⟨(Below.refl _ _).alloc (Nat.le_refl _) _⟩
 have HV0 : Aside0 ((w.alloc (.cells #[.bool m, .pointer p, .pointer pl, .pointer pr, .pointer pll, .pointer plr, .pointer prl, .pointer prr, .pointer pa, .pointer pb, .bool rt] 111)).heap[w.heap.size]? = some (.cells #[.bool m, .pointer p, .pointer pl, .pointer pr, .pointer pll, .pointer plr, .pointer prl, .pointer prr, .pointer pa, .pointer pb, .bool rt] 111 (0, 0))) := ⟨heap_alloc_new w _⟩
 generalize w.alloc (.cells #[.bool m, .pointer p, .pointer pl, .pointer pr, .pointer pll, .pointer plr, .pointer prl, .pointer prr, .pointer pa, .pointer pb, .bool rt] 111) = w1 at HB0 HV0 ⊢
 obtain ⟨g, hg⟩ : ∃ g, g = w.heap.size := ⟨_, rfl⟩
 rw [← hg] at HV0 ⊢
 clear hg
 have HB0_ := Am (bd HB0.out)
 have HV0_ : Aside0 (w1.drew.heap[g]? = some (.cells #[.bool m, .pointer p, .pointer pl, .pointer pr, .pointer pll, .pointer plr, .pointer prl, .pointer prr, .pointer pa, .pointer pb, .bool rt] 111 (0, 0))) := ⟨HV0.out⟩
 clear HB0 HV0 
 have HB0 := HB0_
 have HV0 := HV0_
 clear HB0_ HV0_
 refine start_ (n := 13) (S := fun w' => w'.cell? ⟨g, 0, none⟩ = some (.bool m) ∧ w'.cell? ⟨g, 1, none⟩ = some (.pointer p) ∧ w'.cell? ⟨g, 2, none⟩ = some (.pointer pl) ∧ w'.cell? ⟨g, 3, none⟩ = some (.pointer pr) ∧ w'.cell? ⟨g, 4, none⟩ = some (.pointer pll) ∧ w'.cell? ⟨g, 5, none⟩ = some (.pointer plr) ∧ w'.cell? ⟨g, 6, none⟩ = some (.pointer prl) ∧ w'.cell? ⟨g, 7, none⟩ = some (.pointer prr) ∧ w'.cell? ⟨g, 8, none⟩ = some (.pointer pa) ∧ w'.cell? ⟨g, 9, none⟩ = some (.pointer pb) ∧ w'.cell? ⟨g, 10, none⟩ = some (.bool rt)) (ds := []) #[false, false, false, false, false, false, false, false, false, false, false, false, false] (by kernel_rfl) rfl rfl ⟨(cell_of HV0.out 0).trans rfl, (cell_of HV0.out 1).trans rfl, (cell_of HV0.out 2).trans rfl, (cell_of HV0.out 3).trans rfl, (cell_of HV0.out 4).trans rfl, (cell_of HV0.out 5).trans rfl, (cell_of HV0.out 6).trans rfl, (cell_of HV0.out 7).trans rfl, (cell_of HV0.out 8).trans rfl, (cell_of HV0.out 9).trans rfl, (cell_of HV0.out 10).trans rfl⟩ (fun hHeld => ?_)
 refine pu 1 15 ?_
 refine pu 3 17 ?_
 refine pu 4 18 ?_
 refine pu 5 19 ?_
 refine pu 8 22 ?_
 refine ta 0 14 hHeld ?_
 refine ta 2 16 hHeld ?_
 refine ta 6 20 hHeld ?_
 refine ta 9 23 hHeld ?_
 refine one_ (i := 7) (N := some 21) #[true, true, true, true, true, true, true, true, true, true, false, false, false] rfl rfl (by kernel_rfl) (by decide) (fun K hK => ?_)
 refine goes_ Try.func94 (by kernel_rfl) rfl #[.pointer pl, .int .i64 1] (by rfl) rfl rfl (by (try simp only [List.map_toArray, List.map_cons, List.map_nil]); first | done | rfl) ?_
 with_reducible refine (as_any _ _ _ _ _ _ _ (fun k hk => HSS.out k (Nat.le_trans HB0.out.size hk)) (by rw [← El.out]; exact (Hl.out.below HB0.out))).mono ?_
 rw [← El.out]
 rintro e w1_ ⟨v', rfl, h1, h2⟩
 obtain ⟨q1, rfl⟩ := h1.ptr
 have HB1 := Am (HB0.out.trans (h2.mono HB0.out.size))
 have HNq1 := Am (TopRep.rep h1 h2)
 have HV1 := Am ((h2.block _ (Array.getElem?_eq_some_iff.1 HV0.out).1).trans HV0.out)
 clear h1 h2 HB0 HV0
 refine ⟨_, rfl, ?_⟩
 refine hK.out _ _ ⟨(cell_of HV1.out 0).trans rfl, (cell_of HV1.out 1).trans rfl, (cell_of HV1.out 2).trans rfl, (cell_of HV1.out 3).trans rfl, (cell_of HV1.out 4).trans rfl, (cell_of HV1.out 5).trans rfl, (cell_of HV1.out 6).trans rfl, (cell_of HV1.out 7).trans rfl, (cell_of HV1.out 8).trans rfl, (cell_of HV1.out 9).trans rfl, (cell_of HV1.out 10).trans rfl⟩ (fun hHeld => ?_)
 clear hK K
 refine norm_ (a' := ?_) ?_ ?_
 rotate_left
 ·show Act.put _ (some 21) _ = _
  simp only [Act.put, sI, sZ, sS, i64_w, i32_w]
  rfl
 refine one_ (i := 10) (N := some 24) #[true, true, true, true, true, true, true, true, true, true, true, false, false] rfl rfl (by kernel_rfl) (by decide) (fun K hK => ?_)
 refine goes_ Try.func94 (by kernel_rfl) rfl #[.pointer pr, .int .i64 1] (by rfl) rfl rfl (by (try simp only [List.map_toArray, List.map_cons, List.map_nil]); first | done | rfl) ?_
 with_reducible refine (as_any _ _ _ _ _ _ _ (fun k hk => HSS.out k (Nat.le_trans HB1.out.size hk)) (by rw [← Er.out]; exact (Hr.out.below HB1.out))).mono ?_
 rw [← Er.out]
 rintro e w2_ ⟨v', rfl, h1, h2⟩
 obtain ⟨q2, rfl⟩ := h1.ptr
 have HB2 := Am (HB1.out.trans (h2.mono HB1.out.size))
 have HNq2 := Am (TopRep.rep h1 h2)
 have HV2 := Am ((h2.block _ (Array.getElem?_eq_some_iff.1 HV1.out).1).trans HV1.out)
 have HNq1_ := Am (Rep.below HNq1.out h2)
 clear HNq1
 have HNq1 := HNq1_
 clear HNq1_
 clear h1 h2 HB1 HV1
 refine ⟨_, rfl, ?_⟩
 refine hK.out _ _ ⟨(cell_of HV2.out 0).trans rfl, (cell_of HV2.out 1).trans rfl, (cell_of HV2.out 2).trans rfl, (cell_of HV2.out 3).trans rfl, (cell_of HV2.out 4).trans rfl, (cell_of HV2.out 5).trans rfl, (cell_of HV2.out 6).trans rfl, (cell_of HV2.out 7).trans rfl, (cell_of HV2.out 8).trans rfl, (cell_of HV2.out 9).trans rfl, (cell_of HV2.out 10).trans rfl⟩ (fun hHeld => ?_)
 clear hK K
 refine norm_ (a' := ?_) ?_ ?_
 rotate_left
 ·show Act.put _ (some 24) _ = _
  simp only [Act.put, sI, sZ, sS, i64_w, i32_w]
  rfl
 refine one_ (i := 11) (N := some 25) #[true, true, true, true, true, true, true, true, true, true, true, true, false] rfl rfl (by kernel_rfl) (by decide) (fun K hK => ?_)
 refine goes_ Try.func93 (by kernel_rfl) rfl #[.agg #[.bool m, .pointer p, .pointer pl, .pointer pr, .pointer pll, .pointer plr, .pointer prl, .pointer prr, .pointer pa, .pointer pb, .bool rt], .pointer p, .int .i64 (wrap64 (wt X - 1)), .pointer q1, .pointer q2] (by rfl) rfl rfl (by (try simp only [List.map_toArray, List.map_cons, List.map_nil]); first | done | rfl) ?_
 with_reducible refine (put_any _ _ _ _ _ _ _ _ _ _ _ _ _ _ _ _ _ _ _ _ _ _ (fun k hk => HSS.out k (Nat.le_trans HB2.out.size hk)) (by rw [← Ex.out]; exact (Hx.out.below HB2.out)) HNq1.out HNq2.out).mono ?_
 rw [show nx.f0 = keyT X from by rw [Ex.out]; rfl]
 rintro e w3_ ⟨v', rfl, h1, h2⟩
 obtain ⟨q3, rfl⟩ := h1.ptr
 have HB3 := Am (HB2.out.trans (h2.mono HB2.out.size))
 have HNq3 := Am (TopRep.rep h1 h2)
 have HTOP := Am h1
 have HTB := Am h2
 have HTW := HB2
 have HV3 := Am ((h2.block _ (Array.getElem?_eq_some_iff.1 HV2.out).1).trans HV2.out)
 have HNq1_ := Am (Rep.below HNq1.out h2)
 clear HNq1
 have HNq1 := HNq1_
 clear HNq1_
 have HNq2_ := Am (Rep.below HNq2.out h2)
 clear HNq2
 have HNq2 := HNq2_
 clear HNq2_
 clear h1 h2 HB2 HV2
 refine ⟨_, rfl, ?_⟩
 refine hK.out _ _ ⟨(cell_of HV3.out 0).trans rfl, (cell_of HV3.out 1).trans rfl, (cell_of HV3.out 2).trans rfl, (cell_of HV3.out 3).trans rfl, (cell_of HV3.out 4).trans rfl, (cell_of HV3.out 5).trans rfl, (cell_of HV3.out 6).trans rfl, (cell_of HV3.out 7).trans rfl, (cell_of HV3.out 8).trans rfl, (cell_of HV3.out 9).trans rfl, (cell_of HV3.out 10).trans rfl⟩ (fun hHeld => ?_)
 clear hK K
 refine norm_ (a' := ?_) ?_ ?_
 rotate_left
 ·show Act.put _ (some 25) _ = _
  simp only [Act.put, sI, sZ, sS, i64_w, i32_w]
  rfl
 refine pu 12 4 ?_
 refine done_ (by kernel_rfl) ?_
 try clear hHeld
 go_wp2
 go_ret
 exact HF.out _ _ _ HTW.out HTB.out HTOP.out
set_option maxHeartbeats 4000000 in
set_option maxRecDepth 100000 in
theorem do12_any (m rt : Bool) (p pl pr pll plr prl prr pa pb : Option Addr) {nx : S34} {qx : Int} {lx rx : Tr} {X : Tr} (w : World) (hS : ∀ k, w.heap.size ≤ k → S k) (ex : X = .node nx qx lx rx) (Hx : Aside0 (Rep S w (.pointer p) X)) :
  Calls Try.prog 65 #[.agg #[.bool m, .pointer p, .pointer pl, .pointer pr, .pointer pll, .pointer plr, .pointer prl, .pointer prr, .pointer pa, .pointer pb, .bool rt], .int .i64 12] w fun e w' => DoPost S w (asT 1 X) e w' := by
 have hu111 := Try.underlying111
 have Ex := Am ex
 clear ex
 have HSS := Am hS
 clear hS
 have hfin := do_fin (S := S) w (asT 1 X)
 have HF := Am hfin
 clear hfin
 go_enter Try.func65, Try.ntmps65
 go_wp2_with (fail)
 refine (weight_any _ _ _ (Hx.out.below ((Below.refl _ _).alloc (Nat.le_refl _) _))).mono ?_
 rintro e w' ⟨rfl, rfl⟩
 go_wp2_with (fail)
 refine (as_any _ _ _ _ _ _ _ (fun k hk => HSS.out k (Nat.le_trans (by simp) hk)) (by rw [← Ex.out]; exact (Hx.out.below ((Below.refl _ _).alloc (Nat.le_refl _) _)))).mono ?_
 rw [← Ex.out]
 rintro e w2 ⟨v', rfl, h1, h2⟩
 obtain ⟨qr, rfl⟩ := h1.ptr
 have HN := Am h1
 have HB9 := Am h2
 clear h1 h2
 go_wp2
 go_ret
 exact HF.out _ _ _ ((Below.refl _ _).alloc (Nat.le_refl _) _) HB9.out HN.out
end Go.Proofs.Ytgleaefhflamnaa.T
namespace Go.Proofs.Ytgleaefhflamnaa.T
open Go.RowKit Go.Proofs.YtgleaefhflamnaaW.PrintWords Go.Proofs.YtgleaefhflamnaaW.PrintLast Go.Proofs.YtgleaefhflamnaaW.PrintMore
variable {S : Nat → Prop}
set_option maxHeartbeats 4000000 in
set_option maxRecDepth 100000 in
theorem do2_any (m rt : Bool) (p pl pr pll plr prl prr pa pb : Option Addr) {nx : S34} {qx : Int} {lx rx : Tr} {nl : S34} {ql : Int} {ll rl : Tr} {X : Tr} {L : Tr} {R : Tr} {LL : Tr} {LR : Tr} (w : World) (hS : ∀ k, w.heap.size ≤ k → S k) (ex : X = .node nx qx lx rx) (el : L = .node nl ql ll rl) (Hx : Aside0 (Rep S w (.pointer p) X)) (Hl : Aside0 (Rep S w (.pointer pl) L)) (Hr : Aside0 (Rep S w (.pointer pr) R)) (Hll : Aside0 (Rep S w (.pointer pll) LL)) (Hlr : Aside0 (Rep S w (.pointer plr) LR)) :
  Calls Try.prog 65 #[.agg #[.bool m, .pointer p, .pointer pl, .pointer pr, .pointer pll, .pointer plr, .pointer prl, .pointer prr, .pointer pa, .pointer pb, .bool rt], .int .i64 2] w fun e w' => DoPost S w (putT m (keyT L) (wt X) LL (putT m (keyT X) 0 LR R)) e w' := by
 have hu111 := Try.underlying111
 have Ex := Am ex
 clear ex
 have El := Am el
 clear el
 have HSS := Am hS
 clear hS
 have hfin := do_fin (S := S) w (putT m (keyT L) (wt X) LL (putT m (keyT X) 0 LR R))
 have HF := Am hfin
 clear hfin
 go_enter Try.func65, Try.ntmps65
 go_wp2_with (fail)
 refine (weight_any _ _ _ (Hx.out.below ((Below.refl _ _).alloc (Nat.le_refl _) _))).mono ?_
 rintro e w' ⟨rfl, rfl⟩
 go_wp2
 have HB0 : Aside0 (Below w.heap.size w (w.alloc (.cells #[.bool m, .pointer p, .pointer pl, .pointer pr, .pointer pll, .pointer plr, .pointer prl, .pointer prr, .pointer pa, .pointer pb, .bool rt] 111))) := ⟨(Below.refl _ _).alloc (Nat.le_refl _) _⟩
 have HV0 : Aside0 ((w.alloc (.cells #[.bool m, .pointer p, .pointer pl, .pointer pr, .pointer pll, .pointer plr, .pointer prl, .pointer prr, .pointer pa, .pointer pb, .bool rt] 111)).heap[w.heap.size]? = some (.cells #[.bool m, .pointer p, .pointer pl, .pointer pr, .pointer pll, .pointer plr, .pointer prl, .pointer prr, .pointer pa, .pointer pb, .bool rt] 111 (0, 0))) := ⟨heap_alloc_new w _⟩
 generalize w.alloc (.cells #[.bool m, .pointer p, .pointer pl, .pointer pr, .pointer pll, .pointer plr, .pointer prl, .pointer prr, .pointer pa, .pointer pb, .bool rt] 111) = w1 at HB0 HV0 ⊢
 obtain ⟨g, hg⟩ : ∃ g, g = w.heap.size := ⟨_, rfl⟩
 rw [← hg] at HV0 ⊢
 clear hg
 have HB0_ := Am (bd HB0.out)
 have HV0_ : Aside0 (w1.drew.heap[g]? = some (.cells #[.bool m, .pointer p, .pointer pl, .pointer pr, .pointer pll, .pointer plr, .pointer prl, .pointer prr, .pointer pa, .pointer pb, .bool rt] 111 (0, 0))) := ⟨HV0.out⟩
 clear HB0 HV0 
 have HB0 := HB0_
 have HV0 := HV0_
 clear HB0_ HV0_
 refine start_ (n := 16) (S := fun w' => w'.cell? ⟨g, 0, none⟩ = some (.bool m) ∧ w'.cell? ⟨g, 1, none⟩ = some (.pointer p) ∧ w'.cell? ⟨g, 2, none⟩ = some (.pointer pl) ∧ w'.cell? ⟨g, 3, none⟩ = some (.pointer pr) ∧ w'.cell? ⟨g, 4, none⟩ = some (.pointer pll) ∧ w'.cell? ⟨g, 5, none⟩ = some (.pointer plr) ∧ w'.cell? ⟨g, 6, none⟩ = some (.pointer prl) ∧ w'.cell? ⟨g, 7, none⟩ = some (.pointer prr) ∧ w'.cell? ⟨g, 8, none⟩ = some (.pointer pa) ∧ w'.cell? ⟨g, 9, none⟩ = some (.pointer pb) ∧ w'.cell? ⟨g, 10, none⟩ = some (.bool rt)) (ds := []) #[false, false, false, false, false, false, false, false, false, false, false, false, false, false, false, false] (by kernel_rfl) rfl rfl ⟨(cell_of HV0.out 0).trans rfl, (cell_of HV0.out 1).trans rfl, (cell_of HV0.out 2).trans rfl, (cell_of HV0.out 3).trans rfl, (cell_of HV0.out 4).trans rfl, (cell_of HV0.out 5).trans rfl, (cell_of HV0.out 6).trans rfl, (cell_of HV0.out 7).trans rfl, (cell_of HV0.out 8).trans rfl, (cell_of HV0.out 9).trans rfl, (cell_of HV0.out 10).trans rfl⟩ (fun hHeld => ?_)
 refine pu 1 29 ?_
 refine pu 3 31 ?_
 refine pu 4 32 ?_
 refine pu 7 35 ?_
 refine pu 9 37 ?_
 refine pu 11 39 ?_
 refine ta 0 28 hHeld ?_
 refine ta 2 30 hHeld ?_
 refine ta 5 33 hHeld ?_
 refine ta 6 34 hHeld ?_
 refine ta 8 36 hHeld ?_
 refine ta 10 38 hHeld ?_
 refine ta 12 40 hHeld ?_
 refine one_ (i := 13) (N := some 41) #[true, true, true, true, true, true, true, true, true, true, true, true, true, true, false, false] rfl rfl (by kernel_rfl) (by decide) (fun K hK => ?_)
 refine goes_ Try.func93 (by kernel_rfl) rfl #[.agg #[.bool m, .pointer p, .pointer pl, .pointer pr, .pointer pll, .pointer plr, .pointer prl, .pointer prr, .pointer pa, .pointer pb, .bool rt], .pointer p, .int .i64 0, .pointer plr, .pointer pr] (by rfl) rfl rfl (by (try simp only [List.map_toArray, List.map_cons, List.map_nil]); first | done | rfl) ?_
 with_reducible refine (put_any _ _ _ _ _ _ _ _ _ _ _ _ _ _ _ _ _ _ _ _ _ _ (fun k hk => HSS.out k (Nat.le_trans HB0.out.size hk)) (by rw [← Ex.out]; exact (Hx.out.below HB0.out)) (Hlr.out.below HB0.out) (Hr.out.below HB0.out)).mono ?_
 rw [show nx.f0 = keyT X from by rw [Ex.out]; rfl]
 rintro e w1_ ⟨v', rfl, h1, h2⟩
 obtain ⟨q1, rfl⟩ := h1.ptr
 have HB1 := Am (HB0.out.trans (h2.mono HB0.out.size))
 have HNq1 := Am (TopRep.rep h1 h2)
 have HV1 := Am ((h2.block _ (Array.getElem?_eq_some_iff.1 HV0.out).1).trans HV0.out)
 clear h1 h2 HB0 HV0
 refine ⟨_, rfl, ?_⟩
 refine hK.out _ _ ⟨(cell_of HV1.out 0).trans rfl, (cell_of HV1.out 1).trans rfl, (cell_of HV1.out 2).trans rfl, (cell_of HV1.out 3).trans rfl, (cell_of HV1.out 4).trans rfl, (cell_of HV1.out 5).trans rfl, (cell_of HV1.out 6).trans rfl, (cell_of HV1.out 7).trans rfl, (cell_of HV1.out 8).trans rfl, (cell_of HV1.out 9).trans rfl, (cell_of HV1.out 10).trans rfl⟩ (fun hHeld => ?_)
 clear hK K
 refine norm_ (a' := ?_) ?_ ?_
 rotate_left
 ·show Act.put _ (some 41) _ = _
  simp only [Act.put, sI, sZ, sS, i64_w, i32_w]
  rfl
 refine one_ (i := 14) (N := some 42) #[true, true, true, true, true, true, true, true, true, true, true, true, true, true, true, false] rfl rfl (by kernel_rfl) (by decide) (fun K hK => ?_)
 refine goes_ Try.func93 (by kernel_rfl) rfl #[.agg #[.bool m, .pointer p, .pointer pl, .pointer pr, .pointer pll, .pointer plr, .pointer prl, .pointer prr, .pointer pa, .pointer pb, .bool rt], .pointer pl, .int .i64 (wt X), .pointer pll, .pointer q1] (by rfl) rfl rfl (by (try simp only [List.map_toArray, List.map_cons, List.map_nil]); first | done | rfl) ?_
 with_reducible refine (put_any _ _ _ _ _ _ _ _ _ _ _ _ _ _ _ _ _ _ _ _ _ _ (fun k hk => HSS.out k (Nat.le_trans HB1.out.size hk)) (by rw [← El.out]; exact (Hl.out.below HB1.out)) (Hll.out.below HB1.out) HNq1.out).mono ?_
 rw [show nl.f0 = keyT L from by rw [El.out]; rfl]
 rintro e w2_ ⟨v', rfl, h1, h2⟩
 obtain ⟨q2, rfl⟩ := h1.ptr
 have HB2 := Am (HB1.out.trans (h2.mono HB1.out.size))
 have HNq2 := Am (TopRep.rep h1 h2)
 have HTOP := Am h1
 have HTB := Am h2
 have HTW := HB1
 have HV2 := Am ((h2.block _ (Array.getElem?_eq_some_iff.1 HV1.out).1).trans HV1.out)
 have HNq1_ := Am (Rep.below HNq1.out h2)
 clear HNq1
 have HNq1 := HNq1_
 clear HNq1_
 clear h1 h2 HB1 HV1
 refine ⟨_, rfl, ?_⟩
 refine hK.out _ _ ⟨(cell_of HV2.out 0).trans rfl, (cell_of HV2.out 1).trans rfl, (cell_of HV2.out 2).trans rfl, (cell_of HV2.out 3).trans rfl, (cell_of HV2.out 4).trans rfl, (cell_of HV2.out 5).trans rfl, (cell_of HV2.out 6).trans rfl, (cell_of HV2.out 7).trans rfl, (cell_of HV2.out 8).trans rfl, (cell_of HV2.out 9).trans rfl, (cell_of HV2.out 10).trans rfl⟩ (fun hHeld => ?_)
 clear hK K
 refine norm_ (a' := ?_) ?_ ?_
 rotate_left
 ·show Act.put _ (some 42) _ = _
  simp only [Act.put, sI, sZ, sS, i64_w, i32_w]
  rfl
 refine pu 15 4 ?_
 refine done_ (by kernel_rfl) ?_
 try clear hHeld
 go_wp2
 go_ret
 exact HF.out _ _ _ HTW.out HTB.out HTOP.out
set_option maxHeartbeats 4000000 in
set_option maxRecDepth 100000 in
theorem do4_any (m rt : Bool) (p pl pr pll plr prl prr pa pb : Option Addr) {nx : S34} {qx : Int} {lx rx : Tr} {nl : S34} {ql : Int} {ll rl : Tr} {nr : S34} {qr : Int} {lr rr : Tr} {X : Tr} {L : Tr} {R : Tr} (w : World) (hS : ∀ k, w.heap.size ≤ k → S k) (ex : X = .node nx qx lx rx) (el : L = .node nl ql ll rl) (er : R = .node nr qr lr rr) (Hx : Aside0 (Rep S w (.pointer p) X)) (Hl : Aside0 (Rep S w (.pointer pl) L)) (Hr : Aside0 (Rep S w (.pointer pr) R)) :
  Calls Try.prog 65 #[.agg #[.bool m, .pointer p, .pointer pl, .pointer pr, .pointer pll, .pointer plr, .pointer prl, .pointer prr, .pointer pa, .pointer pb, .bool rt], .int .i64 4] w fun e w' => DoPost S w (putT m (keyT X) (wrap64 (wt X + 1)) (lessT L) (asT 0 R)) e w' := by
 have hu111 := Try.underlying111
 have Ex := Am ex
 clear ex
 have El := Am el
 clear el
 have Er := Am er
 clear er
 have HSS := Am hS
 clear hS
 have hfin := do_fin (S := S) w (putT m (keyT X) (wrap64 (wt X + 1)) (lessT L) (asT 0 R))
 have HF := Am hfin
 clear hfin
 go_enter Try.func65, Try.ntmps65
 go_wp2_with (fail)
 refine (weight_any _ _ _ (Hx.out.below ((Below.refl _ _).alloc (Nat.le_refl _) _))).mono ?_
 rintro e w' ⟨rfl, rfl⟩
 go_wp2
 have HB0 : Aside0 (Below w.heap.size w (w.alloc (.cells #[.bool m, .pointer p, .pointer pl, .pointer pr, .pointer pll, .pointer plr, .pointer prl, .pointer prr, .pointer pa, .pointer pb, .bool rt] 111))) := ⟨(Below.refl _ _).alloc (Nat.le_refl _) _⟩
 have HV0 : Aside0 ((w.alloc (.cells #[.bool m, .pointer p, .pointer pl, .pointer pr, .pointer pll, .pointer plr, .pointer prl, .pointer prr, .pointer pa, .pointer pb, .bool rt] 111)).heap[w.heap.size]? = some (.cells #[.bool m, .pointer p, .pointer pl, .pointer pr, .pointer pll, .pointer plr, .pointer prl, .pointer prr, .pointer pa, .pointer pb, .bool rt] 111 (0, 0))) := ⟨heap_alloc_new w _⟩
 generalize w.alloc (.cells #[.bool m, .pointer p, .pointer pl, .pointer pr, .pointer pll, .pointer plr, .pointer prl, .pointer prr, .pointer pa, .pointer pb, .bool rt] 111) = w1 at HB0 HV0 ⊢
 obtain ⟨g, hg⟩ : ∃ g, g = w.heap.size := ⟨_, rfl⟩
 rw [← hg] at HV0 ⊢
 clear hg
 have HB0_ := Am (bd HB0.out)
 have HV0_ : Aside0 (w1.drew.heap[g]? = some (.cells #[.bool m, .pointer p, .pointer pl, .pointer pr, .pointer pll, .pointer plr, .pointer prl, .pointer prr, .pointer pa, .pointer pb, .bool rt] 111 (0, 0))) := ⟨HV0.out⟩
 clear HB0 HV0 
 have HB0 := HB0_
 have HV0 := HV0_
 clear HB0_ HV0_
 refine start_ (n := 13) (S := fun w' => w'.cell? ⟨g, 0, none⟩ = some (.bool m) ∧ w'.cell? ⟨g, 1, none⟩ = some (.pointer p) ∧ w'.cell? ⟨g, 2, none⟩ = some (.pointer pl) ∧ w'.cell? ⟨g, 3, none⟩ = some (.pointer pr) ∧ w'.cell? ⟨g, 4, none⟩ = some (.pointer pll) ∧ w'.cell? ⟨g, 5, none⟩ = some (.pointer plr) ∧ w'.cell? ⟨g, 6, none⟩ = some (.pointer prl) ∧ w'.cell? ⟨g, 7, none⟩ = some (.pointer prr) ∧ w'.cell? ⟨g, 8, none⟩ = some (.pointer pa) ∧ w'.cell? ⟨g, 9, none⟩ = some (.pointer pb) ∧ w'.cell? ⟨g, 10, none⟩ = some (.bool rt)) (ds := []) #[false, false, false, false, false, false, false, false, false, false, false, false, false] (by kernel_rfl) rfl rfl ⟨(cell_of HV0.out 0).trans rfl, (cell_of HV0.out 1).trans rfl, (cell_of HV0.out 2).trans rfl, (cell_of HV0.out 3).trans rfl, (cell_of HV0.out 4).trans rfl, (cell_of HV0.out 5).trans rfl, (cell_of HV0.out 6).trans rfl, (cell_of HV0.out 7).trans rfl, (cell_of HV0.out 8).trans rfl, (cell_of HV0.out 9).trans rfl, (cell_of HV0.out 10).trans rfl⟩ (fun hHeld => ?_)
 refine pu 1 73 ?_
 refine pu 3 75 ?_
 refine pu 4 76 ?_
 refine pu 5 77 ?_
 refine pu 8 80 ?_
 refine ta 0 72 hHeld ?_
 refine ta 2 74 hHeld ?_
 refine ta 6 78 hHeld ?_
 refine ta 9 81 hHeld ?_
 refine one_ (i := 7) (N := some 79) #[true, true, true, true, true, true, true, true, true, true, false, false, false] rfl rfl (by kernel_rfl) (by decide) (fun K hK => ?_)
 refine goes_ Try.func95 (by kernel_rfl) rfl #[.pointer pl] (by rfl) rfl rfl (by (try simp only [List.map_toArray, List.map_cons, List.map_nil]); first | done | rfl) ?_
 with_reducible refine (less_any _ _ _ _ _ _ (fun k hk => HSS.out k (Nat.le_trans HB0.out.size hk)) (by rw [← El.out]; exact (Hl.out.below HB0.out))).mono ?_
 rw [← El.out]
 rintro e w1_ ⟨v', rfl, h1, h2⟩
 obtain ⟨q1, rfl⟩ := h1.ptr
 have HB1 := Am (HB0.out.trans (h2.mono HB0.out.size))
 have HNq1 := Am (TopRep.rep h1 h2)
 have HV1 := Am ((h2.block _ (Array.getElem?_eq_some_iff.1 HV0.out).1).trans HV0.out)
 clear h1 h2 HB0 HV0
 refine ⟨_, rfl, ?_⟩
 refine hK.out _ _ ⟨(cell_of HV1.out 0).trans rfl, (cell_of HV1.out 1).trans rfl, (cell_of HV1.out 2).trans rfl, (cell_of HV1.out 3).trans rfl, (cell_of HV1.out 4).trans rfl, (cell_of HV1.out 5).trans rfl, (cell_of HV1.out 6).trans rfl, (cell_of HV1.out 7).trans rfl, (cell_of HV1.out 8).trans rfl, (cell_of HV1.out 9).trans rfl, (cell_of HV1.out 10).trans rfl⟩ (fun hHeld => ?_)
 clear hK K
 refine norm_ (a' := ?_) ?_ ?_
 rotate_left
 ·show Act.put _ (some 79) _ = _
  simp only [Act.put, sI, sZ, sS, i64_w, i32_w]
  rfl
 refine one_ (i := 10) (N := some 82) #[true, true, true, true, true, true, true, true, true, true, true, false, false] rfl rfl (by kernel_rfl) (by decide) (fun K hK => ?_)
 refine goes_ Try.func94 (by kernel_rfl) rfl #[.pointer pr, .int .i64 0] (by rfl) rfl rfl (by (try simp only [List.map_toArray, List.map_cons, List.map_nil]); first | done | rfl) ?_
 with_reducible refine (as_any _ _ _ _ _ _ _ (fun k hk => HSS.out k (Nat.le_trans HB1.out.size hk)) (by rw [← Er.out]; exact (Hr.out.below HB1.out))).mono ?_
 rw [← Er.out]
 rintro e w2_ ⟨v', rfl, h1, h2⟩
 obtain ⟨q2, rfl⟩ := h1.ptr
 have HB2 := Am (HB1.out.trans (h2.mono HB1.out.size))
 have HNq2 := Am (TopRep.rep h1 h2)
 have HV2 := Am ((h2.block _ (Array.getElem?_eq_some_iff.1 HV1.out).1).trans HV1.out)
 have HNq1_ := Am (Rep.below HNq1.out h2)
 clear HNq1
 have HNq1 := HNq1_
 clear HNq1_
 clear h1 h2 HB1 HV1
 refine ⟨_, rfl, ?_⟩
 refine hK.out _ _ ⟨(cell_of HV2.out 0).trans rfl, (cell_of HV2.out 1).trans rfl, (cell_of HV2.out 2).trans rfl, (cell_of HV2.out 3).trans rfl, (cell_of HV2.out 4).trans rfl, (cell_of HV2.out 5).trans rfl, (cell_of HV2.out 6).trans rfl, (cell_of HV2.out 7).trans rfl, (cell_of HV2.out 8).trans rfl, (cell_of HV2.out 9).trans rfl, (cell_of HV2.out 10).trans rfl⟩ (fun hHeld => ?_)
 clear hK K
 refine norm_ (a' := ?_) ?_ ?_
 rotate_left
 ·show Act.put _ (some 82) _ = _
  simp only [Act.put, sI, sZ, sS, i64_w, i32_w]
  rfl
 refine one_ (i := 11) (N := some 83) #[true, true, true, true, true, true, true, true, true, true, true, true, false] rfl rfl (by kernel_rfl) (by decide) (fun K hK => ?_)
 refine goes_ Try.func93 (by kernel_rfl) rfl #[.agg #[.bool m, .pointer p, .pointer pl, .pointer pr, .pointer pll, .pointer plr, .pointer prl, .pointer prr, .pointer pa, .pointer pb, .bool rt], .pointer p, .int .i64 (wrap64 (wt X + 1)), .pointer q1, .pointer q2] (by rfl) rfl rfl (by (try simp only [List.map_toArray, List.map_cons, List.map_nil]); first | done | rfl) ?_
 with_reducible refine (put_any _ _ _ _ _ _ _ _ _ _ _ _ _ _ _ _ _ _ _ _ _ _ (fun k hk => HSS.out k (Nat.le_trans HB2.out.size hk)) (by rw [← Ex.out]; exact (Hx.out.below HB2.out)) HNq1.out HNq2.out).mono ?_
 rw [show nx.f0 = keyT X from by rw [Ex.out]; rfl]
 rintro e w3_ ⟨v', rfl, h1, h2⟩
 obtain ⟨q3, rfl⟩ := h1.ptr
 have HB3 := Am (HB2.out.trans (h2.mono HB2.out.size))
 have HNq3 := Am (TopRep.rep h1 h2)
 have HTOP := Am h1
 have HTB := Am h2
 have HTW := HB2
 have HV3 := Am ((h2.block _ (Array.getElem?_eq_some_iff.1 HV2.out).1).trans HV2.out)
 have HNq1_ := Am (Rep.below HNq1.out h2)
 clear HNq1
 have HNq1 := HNq1_
 clear HNq1_
 have HNq2_ := Am (Rep.below HNq2.out h2)
 clear HNq2
 have HNq2 := HNq2_
 clear HNq2_
 clear h1 h2 HB2 HV2
 refine ⟨_, rfl, ?_⟩
 refine hK.out _ _ ⟨(cell_of HV3.out 0).trans rfl, (cell_of HV3.out 1).trans rfl, (cell_of HV3.out 2).trans rfl, (cell_of HV3.out 3).trans rfl, (cell_of HV3.out 4).trans rfl, (cell_of HV3.out 5).trans rfl, (cell_of HV3.out 6).trans rfl, (cell_of HV3.out 7).trans rfl, (cell_of HV3.out 8).trans rfl, (cell_of HV3.out 9).trans rfl, (cell_of HV3.out 10).trans rfl⟩ (fun hHeld => ?_)
 clear hK K
 refine norm_ (a' := ?_) ?_ ?_
 rotate_left
 ·show Act.put _ (some 83) _ = _
  simp only [Act.put, sI, sZ, sS, i64_w, i32_w]
  rfl
 refine pu 12 4 ?_
 refine done_ (by kernel_rfl) ?_
 try clear hHeld
 go_wp2
 go_ret
 exact HF.out _ _ _ HTW.out HTB.out HTOP.out
end Go.Proofs.Ytgleaefhflamnaa.T
namespace Go.Proofs.Ytgleaefhflamnaa.T
open Go.RowKit Go.Proofs.YtgleaefhflamnaaW.PrintWords Go.Proofs.YtgleaefhflamnaaW.PrintLast Go.Proofs.YtgleaefhflamnaaW.PrintMore
variable {S : Nat → Prop}
set_option maxHeartbeats 4000000 in
set_option maxRecDepth 100000 in
theorem do3_any (m rt : Bool) (p pl pr pll plr prl prr pa pb : Option Addr) {nx : S34} {qx : Int} {lx rx : Tr} {nl : S34} {ql : Int} {ll rl : Tr} {nlr : S34} {qlr : Int} {llr rlr : Tr} {X : Tr} {L : Tr} {R : Tr} {LL : Tr} {LR : Tr} (w : World) (hS : ∀ k, w.heap.size ≤ k → S k) (ex : X = .node nx qx lx rx) (el : L = .node nl ql ll rl) (elr : LR = .node nlr qlr llr rlr) (Hx : Aside0 (Rep S w (.pointer p) X)) (Hl : Aside0 (Rep S w (.pointer pl) L)) (Hr : Aside0 (Rep S w (.pointer pr) R)) (Hll : Aside0 (Rep S w (.pointer pll) LL)) (Hlr : Aside0 (Rep S w (.pointer plr) LR)) :
  Calls Try.prog 65 #[.agg #[.bool m, .pointer p, .pointer pl, .pointer pr, .pointer pll, .pointer plr, .pointer prl, .pointer prr, .pointer pa, .pointer pb, .bool rt], .int .i64 3] w fun e w' => DoPost S w (putT m (keyT LR) (wt X) (putT m (keyT L) 0 LL (lT m LR)) (putT m (keyT X) 0 (rT m LR) R)) e w' := by
 have hu111 := Try.underlying111
 have Ex := Am ex
 clear ex
 have El := Am el
 clear el
 have Elr := Am elr
 clear elr
 have HSS := Am hS
 clear hS
 have hfin := do_fin (S := S) w (putT m (keyT LR) (wt X) (putT m (keyT L) 0 LL (lT m LR)) (putT m (keyT X) 0 (rT m LR) R))
 have HF := Am hfin
 clear hfin
 go_enter Try.func65, Try.ntmps65
 go_wp2_with (fail)
 refine (weight_any _ _ _ (Hx.out.below ((Below.refl _ _).alloc (Nat.le_refl _) _))).mono ?_
 rintro e w' ⟨rfl, rfl⟩
 go_wp2
 have HB0 : Aside0 (Below w.heap.size w (w.alloc (.cells #[.bool m, .pointer p, .pointer pl, .pointer pr, .pointer pll, .pointer plr, .pointer prl, .pointer prr, .pointer pa, .pointer pb, .bool rt] 111))) := ⟨(Below.refl _ _).alloc (Nat.le_refl _) _⟩
 have HV0 : Aside0 ((w.alloc (.cells #[.bool m, .pointer p, .pointer pl, .pointer pr, .pointer pll, .pointer plr, .pointer prl, .pointer prr, .pointer pa, .pointer pb, .bool rt] 111)).heap[w.heap.size]? = some (.cells #[.bool m, .pointer p, .pointer pl, .pointer pr, .pointer pll, .pointer plr, .pointer prl, .pointer prr, .pointer pa, .pointer pb, .bool rt] 111 (0, 0))) := ⟨heap_alloc_new w _⟩
 generalize w.alloc (.cells #[.bool m, .pointer p, .pointer pl, .pointer pr, .pointer pll, .pointer plr, .pointer prl, .pointer prr, .pointer pa, .pointer pb, .bool rt] 111) = w1 at HB0 HV0 ⊢
 obtain ⟨g, hg⟩ : ∃ g, g = w.heap.size := ⟨_, rfl⟩
 rw [← hg] at HV0 ⊢
 clear hg
 have HB0_ := Am (bd HB0.out)
 have HV0_ : Aside0 (w1.drew.heap[g]? = some (.cells #[.bool m, .pointer p, .pointer pl, .pointer pr, .pointer pll, .pointer plr, .pointer prl, .pointer prr, .pointer pa, .pointer pb, .bool rt] 111 (0, 0))) := ⟨HV0.out⟩
 clear HB0 HV0 
 have HB0 := HB0_
 have HV0 := HV0_
 clear HB0_ HV0_
 refine start_ (n := 26) (S := fun w' => w'.cell? ⟨g, 0, none⟩ = some (.bool m) ∧ w'.cell? ⟨g, 1, none⟩ = some (.pointer p) ∧ w'.cell? ⟨g, 2, none⟩ = some (.pointer pl) ∧ w'.cell? ⟨g, 3, none⟩ = some (.pointer pr) ∧ w'.cell? ⟨g, 4, none⟩ = some (.pointer pll) ∧ w'.cell? ⟨g, 5, none⟩ = some (.pointer plr) ∧ w'.cell? ⟨g, 6, none⟩ = some (.pointer prl) ∧ w'.cell? ⟨g, 7, none⟩ = some (.pointer prr) ∧ w'.cell? ⟨g, 8, none⟩ = some (.pointer pa) ∧ w'.cell? ⟨g, 9, none⟩ = some (.pointer pb) ∧ w'.cell? ⟨g, 10, none⟩ = some (.bool rt)) (ds := []) #[false, false, false, false, false, false, false, false, false, false, false, false, false, false, false, false, false, false, false, false, false, false, false, false, false, false] (by kernel_rfl) rfl rfl ⟨(cell_of HV0.out 0).trans rfl, (cell_of HV0.out 1).trans rfl, (cell_of HV0.out 2).trans rfl, (cell_of HV0.out 3).trans rfl, (cell_of HV0.out 4).trans rfl, (cell_of HV0.out 5).trans rfl, (cell_of HV0.out 6).trans rfl, (cell_of HV0.out 7).trans rfl, (cell_of HV0.out 8).trans rfl, (cell_of HV0.out 9).trans rfl, (cell_of HV0.out 10).trans rfl⟩ (fun hHeld => ?_)
 refine pu 1 46 ?_
 refine pu 3 48 ?_
 refine pu 5 50 ?_
 refine pu 7 52 ?_
 refine pu 10 55 ?_
 refine pu 15 60 ?_
 refine pu 18 63 ?_
 refine pu 21 66 ?_
 refine ta 0 45 hHeld ?_
 refine ta 2 47 hHeld ?_
 refine ta 4 49 hHeld ?_
 refine ta 6 51 hHeld ?_
 refine ta 8 53 hHeld ?_
 refine ta 9 54 hHeld ?_
 refine ta 11 56 hHeld ?_
 refine ta 14 59 hHeld ?_
 refine ta 16 61 hHeld ?_
 refine ta 17 62 hHeld ?_
 refine ta 19 64 hHeld ?_
 refine ta 22 67 hHeld ?_
 refine one_ (i := 12) (N := some 57) #[true, true, true, true, true, true, true, true, true, true, true, true, true, false, true, true, true, true, true, true, false, true, true, false, false, false] rfl rfl (by kernel_rfl) (by decide) (fun K hK => ?_)
 refine goes_ Try.func85 (by kernel_rfl) rfl #[.agg #[.bool m, .pointer p, .pointer pl, .pointer pr, .pointer pll, .pointer plr, .pointer prl, .pointer prr, .pointer pa, .pointer pb, .bool rt], .pointer plr] (by rfl) rfl rfl (by (try simp only [List.map_toArray, List.map_cons, List.map_nil]); first | done | rfl) ?_
 with_reducible refine (left_any _ _ _ _ _ _ _ _ _ _ _ _ _ w _ Hlr.out HB0.out).mono ?_
 rintro e w1_ ⟨v', rfl, h1, h2⟩
 obtain ⟨q1, rfl⟩ := h1.ptr
 have HB1 := Am (HB0.out.trans (h2.mono HB0.out.size))
 have HNq1 := Am (Rep.below h1 HB1.out)
 have HV1 := Am ((h2.block _ (Array.getElem?_eq_some_iff.1 HV0.out).1).trans HV0.out)
 clear h1 h2 HB0 HV0
 refine ⟨_, rfl, ?_⟩
 refine hK.out _ _ ⟨(cell_of HV1.out 0).trans rfl, (cell_of HV1.out 1).trans rfl, (cell_of HV1.out 2).trans rfl, (cell_of HV1.out 3).trans rfl, (cell_of HV1.out 4).trans rfl, (cell_of HV1.out 5).trans rfl, (cell_of HV1.out 6).trans rfl, (cell_of HV1.out 7).trans rfl, (cell_of HV1.out 8).trans rfl, (cell_of HV1.out 9).trans rfl, (cell_of HV1.out 10).trans rfl⟩ (fun hHeld => ?_)
 clear hK K
 refine norm_ (a' := ?_) ?_ ?_
 rotate_left
 ·show Act.put _ (some 57) _ = _
  simp only [Act.put, sI, sZ, sS, i64_w, i32_w]
  rfl
 refine one_ (i := 13) (N := some 58) #[true, true, true, true, true, true, true, true, true, true, true, true, true, true, true, true, true, true, true, true, false, true, true, false, false, false] rfl rfl (by kernel_rfl) (by decide) (fun K hK => ?_)
 refine goes_ Try.func93 (by kernel_rfl) rfl #[.agg #[.bool m, .pointer p, .pointer pl, .pointer pr, .pointer pll, .pointer plr, .pointer prl, .pointer prr, .pointer pa, .pointer pb, .bool rt], .pointer pl, .int .i64 0, .pointer pll, .pointer q1] (by rfl) rfl rfl (by (try simp only [List.map_toArray, List.map_cons, List.map_nil]); first | done | rfl) ?_
 with_reducible refine (put_any _ _ _ _ _ _ _ _ _ _ _ _ _ _ _ _ _ _ _ _ _ _ (fun k hk => HSS.out k (Nat.le_trans HB1.out.size hk)) (by rw [← El.out]; exact (Hl.out.below HB1.out)) (Hll.out.below HB1.out) HNq1.out).mono ?_
 rw [show nl.f0 = keyT L from by rw [El.out]; rfl]
 rintro e w2_ ⟨v', rfl, h1, h2⟩
 obtain ⟨q2, rfl⟩ := h1.ptr
 have HB2 := Am (HB1.out.trans (h2.mono HB1.out.size))
 have HNq2 := Am (TopRep.rep h1 h2)
 have HV2 := Am ((h2.block _ (Array.getElem?_eq_some_iff.1 HV1.out).1).trans HV1.out)
 have HNq1_ := Am (Rep.below HNq1.out h2)
 clear HNq1
 have HNq1 := HNq1_
 clear HNq1_
 clear h1 h2 HB1 HV1
 refine ⟨_, rfl, ?_⟩
 refine hK.out _ _ ⟨(cell_of HV2.out 0).trans rfl, (cell_of HV2.out 1).trans rfl, (cell_of HV2.out 2).trans rfl, (cell_of HV2.out 3).trans rfl, (cell_of HV2.out 4).trans rfl, (cell_of HV2.out 5).trans rfl, (cell_of HV2.out 6).trans rfl, (cell_of HV2.out 7).trans rfl, (cell_of HV2.out 8).trans rfl, (cell_of HV2.out 9).trans rfl, (cell_of HV2.out 10).trans rfl⟩ (fun hHeld => ?_)
 clear hK K
 refine norm_ (a' := ?_) ?_ ?_
 rotate_left
 ·show Act.put _ (some 58) _ = _
  simp only [Act.put, sI, sZ, sS, i64_w, i32_w]
  rfl
 refine one_ (i := 20) (N := some 65) #[true, true, true, true, true, true, true, true, true, true, true, true, true, true, true, true, true, true, true, true, true, true, true, false, false, false] rfl rfl (by kernel_rfl) (by decide) (fun K hK => ?_)
 refine goes_ Try.func86 (by kernel_rfl) rfl #[.agg #[.bool m, .pointer p, .pointer pl, .pointer pr, .pointer pll, .pointer plr, .pointer prl, .pointer prr, .pointer pa, .pointer pb, .bool rt], .pointer plr] (by rfl) rfl rfl (by (try simp only [List.map_toArray, List.map_cons, List.map_nil]); first | done | rfl) ?_
 with_reducible refine (right_any _ _ _ _ _ _ _ _ _ _ _ _ _ w _ Hlr.out HB2.out).mono ?_
 rintro e w3_ ⟨v', rfl, h1, h2⟩
 obtain ⟨q3, rfl⟩ := h1.ptr
 have HB3 := Am (HB2.out.trans (h2.mono HB2.out.size))
 have HNq3 := Am (Rep.below h1 HB3.out)
 have HV3 := Am ((h2.block _ (Array.getElem?_eq_some_iff.1 HV2.out).1).trans HV2.out)
 have HNq1_ := Am (Rep.below HNq1.out h2)
 clear HNq1
 have HNq1 := HNq1_
 clear HNq1_
 have HNq2_ := Am (Rep.below HNq2.out h2)
 clear HNq2
 have HNq2 := HNq2_
 clear HNq2_
 clear h1 h2 HB2 HV2
 refine ⟨_, rfl, ?_⟩
 refine hK.out _ _ ⟨(cell_of HV3.out 0).trans rfl, (cell_of HV3.out 1).trans rfl, (cell_of HV3.out 2).trans rfl, (cell_of HV3.out 3).trans rfl, (cell_of HV3.out 4).trans rfl, (cell_of HV3.out 5).trans rfl, (cell_of HV3.out 6).trans rfl, (cell_of HV3.out 7).trans rfl, (cell_of HV3.out 8).trans rfl, (cell_of HV3.out 9).trans rfl, (cell_of HV3.out 10).trans rfl⟩ (fun hHeld => ?_)
 clear hK K
 refine norm_ (a' := ?_) ?_ ?_
 rotate_left
 ·show Act.put _ (some 65) _ = _
  simp only [Act.put, sI, sZ, sS, i64_w, i32_w]
  rfl
 refine one_ (i := 23) (N := some 68) #[true, true, true, true, true, true, true, true, true, true, true, true, true, true, true, true, true, true, true, true, true, true, true, true, false, false] rfl rfl (by kernel_rfl) (by decide) (fun K hK => ?_)
 refine goes_ Try.func93 (by kernel_rfl) rfl #[.agg #[.bool m, .pointer p, .pointer pl, .pointer pr, .pointer pll, .pointer plr, .pointer prl, .pointer prr, .pointer pa, .pointer pb, .bool rt], .pointer p, .int .i64 0, .pointer q3, .pointer pr] (by rfl) rfl rfl (by (try simp only [List.map_toArray, List.map_cons, List.map_nil]); first | done | rfl) ?_
 with_reducible refine (put_any _ _ _ _ _ _ _ _ _ _ _ _ _ _ _ _ _ _ _ _ _ _ (fun k hk => HSS.out k (Nat.le_trans HB3.out.size hk)) (by rw [← Ex.out]; exact (Hx.out.below HB3.out)) HNq3.out (Hr.out.below HB3.out)).mono ?_
 rw [show nx.f0 = keyT X from by rw [Ex.out]; rfl]
 rintro e w4_ ⟨v', rfl, h1, h2⟩
 obtain ⟨q4, rfl⟩ := h1.ptr
 have HB4 := Am (HB3.out.trans (h2.mono HB3.out.size))
 have HNq4 := Am (TopRep.rep h1 h2)
 have HV4 := Am ((h2.block _ (Array.getElem?_eq_some_iff.1 HV3.out).1).trans HV3.out)
 have HNq1_ := Am (Rep.below HNq1.out h2)
 clear HNq1
 have HNq1 := HNq1_
 clear HNq1_
 have HNq2_ := Am (Rep.below HNq2.out h2)
 clear HNq2
 have HNq2 := HNq2_
 clear HNq2_
 have HNq3_ := Am (Rep.below HNq3.out h2)
 clear HNq3
 have HNq3 := HNq3_
 clear HNq3_
 clear h1 h2 HB3 HV3
 refine ⟨_, rfl, ?_⟩
 refine hK.out _ _ ⟨(cell_of HV4.out 0).trans rfl, (cell_of HV4.out 1).trans rfl, (cell_of HV4.out 2).trans rfl, (cell_of HV4.out 3).trans rfl, (cell_of HV4.out 4).trans rfl, (cell_of HV4.out 5).trans rfl, (cell_of HV4.out 6).trans rfl, (cell_of HV4.out 7).trans rfl, (cell_of HV4.out 8).trans rfl, (cell_of HV4.out 9).trans rfl, (cell_of HV4.out 10).trans rfl⟩ (fun hHeld => ?_)
 clear hK K
 refine norm_ (a' := ?_) ?_ ?_
 rotate_left
 ·show Act.put _ (some 68) _ = _
  simp only [Act.put, sI, sZ, sS, i64_w, i32_w]
  rfl
 refine one_ (i := 24) (N := some 69) #[true, true, true, true, true, true, true, true, true, true, true, true, true, true, true, true, true, true, true, true, true, true, true, true, true, false] rfl rfl (by kernel_rfl) (by decide) (fun K hK => ?_)
 refine goes_ Try.func93 (by kernel_rfl) rfl #[.agg #[.bool m, .pointer p, .pointer pl, .pointer pr, .pointer pll, .pointer plr, .pointer prl, .pointer prr, .pointer pa, .pointer pb, .bool rt], .pointer plr, .int .i64 (wt X), .pointer q2, .pointer q4] (by rfl) rfl rfl (by (try simp only [List.map_toArray, List.map_cons, List.map_nil]); first | done | rfl) ?_
 with_reducible refine (put_any _ _ _ _ _ _ _ _ _ _ _ _ _ _ _ _ _ _ _ _ _ _ (fun k hk => HSS.out k (Nat.le_trans HB4.out.size hk)) (by rw [← Elr.out]; exact (Hlr.out.below HB4.out)) HNq2.out HNq4.out).mono ?_
 rw [show nlr.f0 = keyT LR from by rw [Elr.out]; rfl]
 rintro e w5_ ⟨v', rfl, h1, h2⟩
 obtain ⟨q5, rfl⟩ := h1.ptr
 have HB5 := Am (HB4.out.trans (h2.mono HB4.out.size))
 have HNq5 := Am (TopRep.rep h1 h2)
 have HTOP := Am h1
 have HTB := Am h2
 have HTW := HB4
 have HV5 := Am ((h2.block _ (Array.getElem?_eq_some_iff.1 HV4.out).1).trans HV4.out)
 have HNq1_ := Am (Rep.below HNq1.out h2)
 clear HNq1
 have HNq1 := HNq1_
 clear HNq1_
 have HNq2_ := Am (Rep.below HNq2.out h2)
 clear HNq2
 have HNq2 := HNq2_
 clear HNq2_
 have HNq3_ := Am (Rep.below HNq3.out h2)
 clear HNq3
 have HNq3 := HNq3_
 clear HNq3_
 have HNq4_ := Am (Rep.below HNq4.out h2)
 clear HNq4
 have HNq4 := HNq4_
 clear HNq4_
 clear h1 h2 HB4 HV4
 refine ⟨_, rfl, ?_⟩
 refine hK.out _ _ ⟨(cell_of HV5.out 0).trans rfl, (cell_of HV5.out 1).trans rfl, (cell_of HV5.out 2).trans rfl, (cell_of HV5.out 3).trans rfl, (cell_of HV5.out 4).trans rfl, (cell_of HV5.out 5).trans rfl, (cell_of HV5.out 6).trans rfl, (cell_of HV5.out 7).trans rfl, (cell_of HV5.out 8).trans rfl, (cell_of HV5.out 9).trans rfl, (cell_of HV5.out 10).trans rfl⟩ (fun hHeld => ?_)
 clear hK K
 refine norm_ (a' := ?_) ?_ ?_
 rotate_left
 ·show Act.put _ (some 69) _ = _
  simp only [Act.put, sI, sZ, sS, i64_w, i32_w]
  rfl
 refine pu 25 4 ?_
 refine done_ (by kernel_rfl) ?_
 try clear hHeld
 go_wp2
 go_ret
 exact HF.out _ _ _ HTW.out HTB.out HTOP.out
set_option maxHeartbeats 4000000 in
set_option maxRecDepth 100000 in
theorem do11_any (m rt : Bool) (p pl pr pll plr prl prr pa pb : Option Addr) {nx : S34} {qx : Int} {lx rx : Tr} {nl : S34} {ql : Int} {ll rl : Tr} {nr : S34} {qr : Int} {lr rr : Tr} {X : Tr} {L : Tr} {R : Tr} (w : World) (hS : ∀ k, w.heap.size ≤ k → S k) (ex : X = .node nx qx lx rx) (el : L = .node nl ql ll rl) (er : R = .node nr qr lr rr) (Hx : Aside0 (Rep S w (.pointer p) X)) (Hl : Aside0 (Rep S w (.pointer pl) L)) (Hr : Aside0 (Rep S w (.pointer pr) R)) :
  Calls Try.prog 65 #[.agg #[.bool m, .pointer p, .pointer pl, .pointer pr, .pointer pll, .pointer plr, .pointer prl, .pointer prr, .pointer pa, .pointer pb, .bool rt], .int .i64 11] w fun e w' => DoPost S w (putT m (keyT X) (wrap64 (wt X + 1)) (lessT L) (lessT R)) e w' := by
 have hu111 := Try.underlying111
 have Ex := Am ex
 clear ex
 have El := Am el
 clear el
 have Er := Am er
 clear er
 have HSS := Am hS
 clear hS
 have hfin := do_fin (S := S) w (putT m (keyT X) (wrap64 (wt X + 1)) (lessT L) (lessT R))
 have HF := Am hfin
 clear hfin
 go_enter Try.func65, Try.ntmps65
 go_wp2_with (fail)
 refine (weight_any _ _ _ (Hx.out.below ((Below.refl _ _).alloc (Nat.le_refl _) _))).mono ?_
 rintro e w' ⟨rfl, rfl⟩
 go_wp2
 have HB0 : Aside0 (Below w.heap.size w (w.alloc (.cells #[.bool m, .pointer p, .pointer pl, .pointer pr, .pointer pll, .pointer plr, .pointer prl, .pointer prr, .pointer pa, .pointer pb, .bool rt] 111))) := ⟨(Below.refl _ _).alloc (Nat.le_refl _) _⟩
 have HV0 : Aside0 ((w.alloc (.cells #[.bool m, .pointer p, .pointer pl, .pointer pr, .pointer pll, .pointer plr, .pointer prl, .pointer prr, .pointer pa, .pointer pb, .bool rt] 111)).heap[w.heap.size]? = some (.cells #[.bool m, .pointer p, .pointer pl, .pointer pr, .pointer pll, .pointer plr, .pointer prl, .pointer prr, .pointer pa, .pointer pb, .bool rt] 111 (0, 0))) := ⟨heap_alloc_new w _⟩
 generalize w.alloc (.cells #[.bool m, .pointer p, .pointer pl, .pointer pr, .pointer pll, .pointer plr, .pointer prl, .pointer prr, .pointer pa, .pointer pb, .bool rt] 111) = w1 at HB0 HV0 ⊢
 obtain ⟨g, hg⟩ : ∃ g, g = w.heap.size := ⟨_, rfl⟩
 rw [← hg] at HV0 ⊢
 clear hg
 have HB0_ := Am (bd HB0.out)
 have HV0_ : Aside0 (w1.drew.heap[g]? = some (.cells #[.bool m, .pointer p, .pointer pl, .pointer pr, .pointer pll, .pointer plr, .pointer prl, .pointer prr, .pointer pa, .pointer pb, .bool rt] 111 (0, 0))) := ⟨HV0.out⟩
 clear HB0 HV0 
 have HB0 := HB0_
 have HV0 := HV0_
 clear HB0_ HV0_
 refine start_ (n := 13) (S := fun w' => w'.cell? ⟨g, 0, none⟩ = some (.bool m) ∧ w'.cell? ⟨g, 1, none⟩ = some (.pointer p) ∧ w'.cell? ⟨g, 2, none⟩ = some (.pointer pl) ∧ w'.cell? ⟨g, 3, none⟩ = some (.pointer pr) ∧ w'.cell? ⟨g, 4, none⟩ = some (.pointer pll) ∧ w'.cell? ⟨g, 5, none⟩ = some (.pointer plr) ∧ w'.cell? ⟨g, 6, none⟩ = some (.pointer prl) ∧ w'.cell? ⟨g, 7, none⟩ = some (.pointer prr) ∧ w'.cell? ⟨g, 8, none⟩ = some (.pointer pa) ∧ w'.cell? ⟨g, 9, none⟩ = some (.pointer pb) ∧ w'.cell? ⟨g, 10, none⟩ = some (.bool rt)) (ds := []) #[false, false, false, false, false, false, false, false, false, false, false, false, false] (by kernel_rfl) rfl rfl ⟨(cell_of HV0.out 0).trans rfl, (cell_of HV0.out 1).trans rfl, (cell_of HV0.out 2).trans rfl, (cell_of HV0.out 3).trans rfl, (cell_of HV0.out 4).trans rfl, (cell_of HV0.out 5).trans rfl, (cell_of HV0.out 6).trans rfl, (cell_of HV0.out 7).trans rfl, (cell_of HV0.out 8).trans rfl, (cell_of HV0.out 9).trans rfl, (cell_of HV0.out 10).trans rfl⟩ (fun hHeld => ?_)
 refine pu 1 87 ?_
 refine pu 3 89 ?_
 refine pu 4 90 ?_
 refine pu 5 91 ?_
 refine pu 8 94 ?_
 refine ta 0 86 hHeld ?_
 refine ta 2 88 hHeld ?_
 refine ta 6 92 hHeld ?_
 refine ta 9 95 hHeld ?_
 refine one_ (i := 7) (N := some 93) #[true, true, true, true, true, true, true, true, true, true, false, false, false] rfl rfl (by kernel_rfl) (by decide) (fun K hK => ?_)
 refine goes_ Try.func95 (by kernel_rfl) rfl #[.pointer pl] (by rfl) rfl rfl (by (try simp only [List.map_toArray, List.map_cons, List.map_nil]); first | done | rfl) ?_
 with_reducible refine (less_any _ _ _ _ _ _ (fun k hk => HSS.out k (Nat.le_trans HB0.out.size hk)) (by rw [← El.out]; exact (Hl.out.below HB0.out))).mono ?_
 rw [← El.out]
 rintro e w1_ ⟨v', rfl, h1, h2⟩
 obtain ⟨q1, rfl⟩ := h1.ptr
 have HB1 := Am (HB0.out.trans (h2.mono HB0.out.size))
 have HNq1 := Am (TopRep.rep h1 h2)
 have HV1 := Am ((h2.block _ (Array.getElem?_eq_some_iff.1 HV0.out).1).trans HV0.out)
 clear h1 h2 HB0 HV0
 refine ⟨_, rfl, ?_⟩
 refine hK.out _ _ ⟨(cell_of HV1.out 0).trans rfl, (cell_of HV1.out 1).trans rfl, (cell_of HV1.out 2).trans rfl, (cell_of HV1.out 3).trans rfl, (cell_of HV1.out 4).trans rfl, (cell_of HV1.out 5).trans rfl, (cell_of HV1.out 6).trans rfl, (cell_of HV1.out 7).trans rfl, (cell_of HV1.out 8).trans rfl, (cell_of HV1.out 9).trans rfl, (cell_of HV1.out 10).trans rfl⟩ (fun hHeld => ?_)
 clear hK K
 refine norm_ (a' := ?_) ?_ ?_
 rotate_left
 ·show Act.put _ (some 93) _ = _
  simp only [Act.put, sI, sZ, sS, i64_w, i32_w]
  rfl
 refine one_ (i := 10) (N := some 96) #[true, true, true, true, true, true, true, true, true, true, true, false, false] rfl rfl (by kernel_rfl) (by decide) (fun K hK => ?_)
 refine goes_ Try.func95 (by kernel_rfl) rfl #[.pointer pr] (by rfl) rfl rfl (by (try simp only [List.map_toArray, List.map_cons, List.map_nil]); first | done | rfl) ?_
 with_reducible refine (less_any _ _ _ _ _ _ (fun k hk => HSS.out k (Nat.le_trans HB1.out.size hk)) (by rw [← Er.out]; exact (Hr.out.below HB1.out))).mono ?_
 rw [← Er.out]
 rintro e w2_ ⟨v', rfl, h1, h2⟩
 obtain ⟨q2, rfl⟩ := h1.ptr
 have HB2 := Am (HB1.out.trans (h2.mono HB1.out.size))
 have HNq2 := Am (TopRep.rep h1 h2)
 have HV2 := Am ((h2.block _ (Array.getElem?_eq_some_iff.1 HV1.out).1).trans HV1.out)
 have HNq1_ := Am (Rep.below HNq1.out h2)
 clear HNq1
 have HNq1 := HNq1_
 clear HNq1_
 clear h1 h2 HB1 HV1
 refine ⟨_, rfl, ?_⟩
 refine hK.out _ _ ⟨(cell_of HV2.out 0).trans rfl, (cell_of HV2.out 1).trans rfl, (cell_of HV2.out 2).trans rfl, (cell_of HV2.out 3).trans rfl, (cell_of HV2.out 4).trans rfl, (cell_of HV2.out 5).trans rfl, (cell_of HV2.out 6).trans rfl, (cell_of HV2.out 7).trans rfl, (cell_of HV2.out 8).trans rfl, (cell_of HV2.out 9).trans rfl, (cell_of HV2.out 10).trans rfl⟩ (fun hHeld => ?_)
 clear hK K
 refine norm_ (a' := ?_) ?_ ?_
 rotate_left
 ·show Act.put _ (some 96) _ = _
  simp only [Act.put, sI, sZ, sS, i64_w, i32_w]
  rfl
 refine one_ (i := 11) (N := some 97) #[true, true, true, true, true, true, true, true, true, true, true, true, false] rfl rfl (by kernel_rfl) (by decide) (fun K hK => ?_)
 refine goes_ Try.func93 (by kernel_rfl) rfl #[.agg #[.bool m, .pointer p, .pointer pl, .pointer pr, .pointer pll, .pointer plr, .pointer prl, .pointer prr, .pointer pa, .pointer pb, .bool rt], .pointer p, .int .i64 (wrap64 (wt X + 1)), .pointer q1, .pointer q2] (by rfl) rfl rfl (by (try simp only [List.map_toArray, List.map_cons, List.map_nil]); first | done | rfl) ?_
 with_reducible refine (put_any _ _ _ _ _ _ _ _ _ _ _ _ _ _ _ _ _ _ _ _ _ _ (fun k hk => HSS.out k (Nat.le_trans HB2.out.size hk)) (by rw [← Ex.out]; exact (Hx.out.below HB2.out)) HNq1.out HNq2.out).mono ?_
 rw [show nx.f0 = keyT X from by rw [Ex.out]; rfl]
 rintro e w3_ ⟨v', rfl, h1, h2⟩
 obtain ⟨q3, rfl⟩ := h1.ptr
 have HB3 := Am (HB2.out.trans (h2.mono HB2.out.size))
 have HNq3 := Am (TopRep.rep h1 h2)
 have HTOP := Am h1
 have HTB := Am h2
 have HTW := HB2
 have HV3 := Am ((h2.block _ (Array.getElem?_eq_some_iff.1 HV2.out).1).trans HV2.out)
 have HNq1_ := Am (Rep.below HNq1.out h2)
 clear HNq1
 have HNq1 := HNq1_
 clear HNq1_
 have HNq2_ := Am (Rep.below HNq2.out h2)
 clear HNq2
 have HNq2 := HNq2_
 clear HNq2_
 clear h1 h2 HB2 HV2
 refine ⟨_, rfl, ?_⟩
 refine hK.out _ _ ⟨(cell_of HV3.out 0).trans rfl, (cell_of HV3.out 1).trans rfl, (cell_of HV3.out 2).trans rfl, (cell_of HV3.out 3).trans rfl, (cell_of HV3.out 4).trans rfl, (cell_of HV3.out 5).trans rfl, (cell_of HV3.out 6).trans rfl, (cell_of HV3.out 7).trans rfl, (cell_of HV3.out 8).trans rfl, (cell_of HV3.out 9).trans rfl, (cell_of HV3.out 10).trans rfl⟩ (fun hHeld => ?_)
 clear hK K
 refine norm_ (a' := ?_) ?_ ?_
 rotate_left
 ·show Act.put _ (some 97) _ = _
  simp only [Act.put, sI, sZ, sS, i64_w, i32_w]
  rfl
 refine pu 12 4 ?_
 refine done_ (by kernel_rfl) ?_
 try clear hHeld
 go_wp2
 go_ret
 exact HF.out _ _ _ HTW.out HTB.out HTOP.out
end Go.Proofs.Ytgleaefhflamnaa.T
namespace Go.Proofs.Ytgleaefhflamnaa.T
open Go.RowKit Go.Proofs.YtgleaefhflamnaaW.PrintWords Go.Proofs.YtgleaefhflamnaaW.PrintLast Go.Proofs.YtgleaefhflamnaaW.PrintMore
variable {S : Nat → Prop}
set_option maxHeartbeats 4000000 in
set_option maxRecDepth 100000 in
theorem do9_any (m rt : Bool) (p pl pr pll plr prl prr pa pb : Option Addr) {nx : S34} {qx : Int} {lx rx : Tr} {nl : S34} {ql : Int} {ll rl : Tr} {nr : S34} {qr : Int} {lr rr : Tr} {nrr : S34} {qrr : Int} {lrr rrr : Tr} {X : Tr} {L : Tr} {R : Tr} {RL : Tr} {RR : Tr} (w : World) (hS : ∀ k, w.heap.size ≤ k → S k) (ex : X = .node nx qx lx rx) (el : L = .node nl ql ll rl) (er : R = .node nr qr lr rr) (err : RR = .node nrr qrr lrr rrr) (Hx : Aside0 (Rep S w (.pointer p) X)) (Hl : Aside0 (Rep S w (.pointer pl) L)) (Hr : Aside0 (Rep S w (.pointer pr) R)) (Hrl : Aside0 (Rep S w (.pointer prl) RL)) (Hrr : Aside0 (Rep S w (.pointer prr) RR)) :
  Calls Try.prog 65 #[.agg #[.bool m, .pointer p, .pointer pl, .pointer pr, .pointer pll, .pointer plr, .pointer prl, .pointer prr, .pointer pa, .pointer pb, .bool rt], .int .i64 9] w fun e w' => DoPost S w (putT m (keyT R) (wt X) (putT m (keyT X) 1 (lessT L) RL) (asT 1 RR)) e w' := by
 have hu111 := Try.underlying111
 have Ex := Am ex
 clear ex
 have El := Am el
 clear el
 have Er := Am er
 clear er
 have Err := Am err
 clear err
 have HSS := Am hS
 clear hS
 have hfin := do_fin (S := S) w (putT m (keyT R) (wt X) (putT m (keyT X) 1 (lessT L) RL) (asT 1 RR))
 have HF := Am hfin
 clear hfin
 go_enter Try.func65, Try.ntmps65
 go_wp2_with (fail)
 refine (weight_any _ _ _ (Hx.out.below ((Below.refl _ _).alloc (Nat.le_refl _) _))).mono ?_
 rintro e w' ⟨rfl, rfl⟩
 go_wp2
 have HB0 : Aside0 (Below w.heap.size w (w.alloc (.cells #[.bool m, .pointer p, .pointer pl, .pointer pr, .pointer pll, .pointer plr, .pointer prl, .pointer prr, .pointer pa, .pointer pb, .bool rt] 111))) := ⟨(Below.refl _ _).alloc (Nat.le_refl _) _⟩
 have HV0 : Aside0 ((w.alloc (.cells #[.bool m, .pointer p, .pointer pl, .pointer pr, .pointer pll, .pointer plr, .pointer prl, .pointer prr, .pointer pa, .pointer pb, .bool rt] 111)).heap[w.heap.size]? = some (.cells #[.bool m, .pointer p, .pointer pl, .pointer pr, .pointer pll, .pointer plr, .pointer prl, .pointer prr, .pointer pa, .pointer pb, .bool rt] 111 (0, 0))) := ⟨heap_alloc_new w _⟩
 generalize w.alloc (.cells #[.bool m, .pointer p, .pointer pl, .pointer pr, .pointer pll, .pointer plr, .pointer prl, .pointer prr, .pointer pa, .pointer pb, .bool rt] 111) = w1 at HB0 HV0 ⊢
 obtain ⟨g, hg⟩ : ∃ g, g = w.heap.size := ⟨_, rfl⟩
 rw [← hg] at HV0 ⊢
 clear hg
 have HB0_ := Am (bd HB0.out)
 have HV0_ : Aside0 (w1.drew.heap[g]? = some (.cells #[.bool m, .pointer p, .pointer pl, .pointer pr, .pointer pll, .pointer plr, .pointer prl, .pointer prr, .pointer pa, .pointer pb, .bool rt] 111 (0, 0))) := ⟨HV0.out⟩
 clear HB0 HV0 
 have HB0 := HB0_
 have HV0 := HV0_
 clear HB0_ HV0_
 refine start_ (n := 18) (S := fun w' => w'.cell? ⟨g, 0, none⟩ = some (.bool m) ∧ w'.cell? ⟨g, 1, none⟩ = some (.pointer p) ∧ w'.cell? ⟨g, 2, none⟩ = some (.pointer pl) ∧ w'.cell? ⟨g, 3, none⟩ = some (.pointer pr) ∧ w'.cell? ⟨g, 4, none⟩ = some (.pointer pll) ∧ w'.cell? ⟨g, 5, none⟩ = some (.pointer plr) ∧ w'.cell? ⟨g, 6, none⟩ = some (.pointer prl) ∧ w'.cell? ⟨g, 7, none⟩ = some (.pointer prr) ∧ w'.cell? ⟨g, 8, none⟩ = some (.pointer pa) ∧ w'.cell? ⟨g, 9, none⟩ = some (.pointer pb) ∧ w'.cell? ⟨g, 10, none⟩ = some (.bool rt)) (ds := []) #[false, false, false, false, false, false, false, false, false, false, false, false, false, false, false, false, false, false] (by kernel_rfl) rfl rfl ⟨(cell_of HV0.out 0).trans rfl, (cell_of HV0.out 1).trans rfl, (cell_of HV0.out 2).trans rfl, (cell_of HV0.out 3).trans rfl, (cell_of HV0.out 4).trans rfl, (cell_of HV0.out 5).trans rfl, (cell_of HV0.out 6).trans rfl, (cell_of HV0.out 7).trans rfl, (cell_of HV0.out 8).trans rfl, (cell_of HV0.out 9).trans rfl, (cell_of HV0.out 10).trans rfl⟩ (fun hHeld => ?_)
 refine pu 1 101 ?_
 refine pu 3 103 ?_
 refine pu 5 105 ?_
 refine pu 7 107 ?_
 refine pu 10 110 ?_
 refine pu 13 113 ?_
 refine ta 0 100 hHeld ?_
 refine ta 2 102 hHeld ?_
 refine ta 4 104 hHeld ?_
 refine ta 6 106 hHeld ?_
 refine ta 8 108 hHeld ?_
 refine ta 11 111 hHeld ?_
 refine ta 14 114 hHeld ?_
 refine one_ (i := 9) (N := some 109) #[true, true, true, true, true, true, true, true, true, true, true, true, false, true, true, false, false, false] rfl rfl (by kernel_rfl) (by decide) (fun K hK => ?_)
 refine goes_ Try.func95 (by kernel_rfl) rfl #[.pointer pl] (by rfl) rfl rfl (by (try simp only [List.map_toArray, List.map_cons, List.map_nil]); first | done | rfl) ?_
 with_reducible refine (less_any _ _ _ _ _ _ (fun k hk => HSS.out k (Nat.le_trans HB0.out.size hk)) (by rw [← El.out]; exact (Hl.out.below HB0.out))).mono ?_
 rw [← El.out]
 rintro e w1_ ⟨v', rfl, h1, h2⟩
 obtain ⟨q1, rfl⟩ := h1.ptr
 have HB1 := Am (HB0.out.trans (h2.mono HB0.out.size))
 have HNq1 := Am (TopRep.rep h1 h2)
 have HV1 := Am ((h2.block _ (Array.getElem?_eq_some_iff.1 HV0.out).1).trans HV0.out)
 clear h1 h2 HB0 HV0
 refine ⟨_, rfl, ?_⟩
 refine hK.out _ _ ⟨(cell_of HV1.out 0).trans rfl, (cell_of HV1.out 1).trans rfl, (cell_of HV1.out 2).trans rfl, (cell_of HV1.out 3).trans rfl, (cell_of HV1.out 4).trans rfl, (cell_of HV1.out 5).trans rfl, (cell_of HV1.out 6).trans rfl, (cell_of HV1.out 7).trans rfl, (cell_of HV1.out 8).trans rfl, (cell_of HV1.out 9).trans rfl, (cell_of HV1.out 10).trans rfl⟩ (fun hHeld => ?_)
 clear hK K
 refine norm_ (a' := ?_) ?_ ?_
 rotate_left
 ·show Act.put _ (some 109) _ = _
  simp only [Act.put, sI, sZ, sS, i64_w, i32_w]
  rfl
 refine one_ (i := 12) (N := some 112) #[true, true, true, true, true, true, true, true, true, true, true, true, true, true, true, false, false, false] rfl rfl (by kernel_rfl) (by decide) (fun K hK => ?_)
 refine goes_ Try.func93 (by kernel_rfl) rfl #[.agg #[.bool m, .pointer p, .pointer pl, .pointer pr, .pointer pll, .pointer plr, .pointer prl, .pointer prr, .pointer pa, .pointer pb, .bool rt], .pointer p, .int .i64 1, .pointer q1, .pointer prl] (by rfl) rfl rfl (by (try simp only [List.map_toArray, List.map_cons, List.map_nil]); first | done | rfl) ?_
 with_reducible refine (put_any _ _ _ _ _ _ _ _ _ _ _ _ _ _ _ _ _ _ _ _ _ _ (fun k hk => HSS.out k (Nat.le_trans HB1.out.size hk)) (by rw [← Ex.out]; exact (Hx.out.below HB1.out)) HNq1.out (Hrl.out.below HB1.out)).mono ?_
 rw [show nx.f0 = keyT X from by rw [Ex.out]; rfl]
 rintro e w2_ ⟨v', rfl, h1, h2⟩
 obtain ⟨q2, rfl⟩ := h1.ptr
 have HB2 := Am (HB1.out.trans (h2.mono HB1.out.size))
 have HNq2 := Am (TopRep.rep h1 h2)
 have HV2 := Am ((h2.block _ (Array.getElem?_eq_some_iff.1 HV1.out).1).trans HV1.out)
 have HNq1_ := Am (Rep.below HNq1.out h2)
 clear HNq1
 have HNq1 := HNq1_
 clear HNq1_
 clear h1 h2 HB1 HV1
 refine ⟨_, rfl, ?_⟩
 refine hK.out _ _ ⟨(cell_of HV2.out 0).trans rfl, (cell_of HV2.out 1).trans rfl, (cell_of HV2.out 2).trans rfl, (cell_of HV2.out 3).trans rfl, (cell_of HV2.out 4).trans rfl, (cell_of HV2.out 5).trans rfl, (cell_of HV2.out 6).trans rfl, (cell_of HV2.out 7).trans rfl, (cell_of HV2.out 8).trans rfl, (cell_of HV2.out 9).trans rfl, (cell_of HV2.out 10).trans rfl⟩ (fun hHeld => ?_)
 clear hK K
 refine norm_ (a' := ?_) ?_ ?_
 rotate_left
 ·show Act.put _ (some 112) _ = _
  simp only [Act.put, sI, sZ, sS, i64_w, i32_w]
  rfl
 refine one_ (i := 15) (N := some 115) #[true, true, true, true, true, true, true, true, true, true, true, true, true, true, true, true, false, false] rfl rfl (by kernel_rfl) (by decide) (fun K hK => ?_)
 refine goes_ Try.func94 (by kernel_rfl) rfl #[.pointer prr, .int .i64 1] (by rfl) rfl rfl (by (try simp only [List.map_toArray, List.map_cons, List.map_nil]); first | done | rfl) ?_
 with_reducible refine (as_any _ _ _ _ _ _ _ (fun k hk => HSS.out k (Nat.le_trans HB2.out.size hk)) (by rw [← Err.out]; exact (Hrr.out.below HB2.out))).mono ?_
 rw [← Err.out]
 rintro e w3_ ⟨v', rfl, h1, h2⟩
 obtain ⟨q3, rfl⟩ := h1.ptr
 have HB3 := Am (HB2.out.trans (h2.mono HB2.out.size))
 have HNq3 := Am (TopRep.rep h1 h2)
 have HV3 := Am ((h2.block _ (Array.getElem?_eq_some_iff.1 HV2.out).1).trans HV2.out)
 have HNq1_ := Am (Rep.below HNq1.out h2)
 clear HNq1
 have HNq1 := HNq1_
 clear HNq1_
 have HNq2_ := Am (Rep.below HNq2.out h2)
 clear HNq2
 have HNq2 := HNq2_
 clear HNq2_
 clear h1 h2 HB2 HV2
 refine ⟨_, rfl, ?_⟩
 refine hK.out _ _ ⟨(cell_of HV3.out 0).trans rfl, (cell_of HV3.out 1).trans rfl, (cell_of HV3.out 2).trans rfl, (cell_of HV3.out 3).trans rfl, (cell_of HV3.out 4).trans rfl, (cell_of HV3.out 5).trans rfl, (cell_of HV3.out 6).trans rfl, (cell_of HV3.out 7).trans rfl, (cell_of HV3.out 8).trans rfl, (cell_of HV3.out 9).trans rfl, (cell_of HV3.out 10).trans rfl⟩ (fun hHeld => ?_)
 clear hK K
 refine norm_ (a' := ?_) ?_ ?_
 rotate_left
 ·show Act.put _ (some 115) _ = _
  simp only [Act.put, sI, sZ, sS, i64_w, i32_w]
  rfl
 refine one_ (i := 16) (N := some 116) #[true, true, true, true, true, true, true, true, true, true, true, true, true, true, true, true, true, false] rfl rfl (by kernel_rfl) (by decide) (fun K hK => ?_)
 refine goes_ Try.func93 (by kernel_rfl) rfl #[.agg #[.bool m, .pointer p, .pointer pl, .pointer pr, .pointer pll, .pointer plr, .pointer prl, .pointer prr, .pointer pa, .pointer pb, .bool rt], .pointer pr, .int .i64 (wt X), .pointer q2, .pointer q3] (by rfl) rfl rfl (by (try simp only [List.map_toArray, List.map_cons, List.map_nil]); first | done | rfl) ?_
 with_reducible refine (put_any _ _ _ _ _ _ _ _ _ _ _ _ _ _ _ _ _ _ _ _ _ _ (fun k hk => HSS.out k (Nat.le_trans HB3.out.size hk)) (by rw [← Er.out]; exact (Hr.out.below HB3.out)) HNq2.out HNq3.out).mono ?_
 rw [show nr.f0 = keyT R from by rw [Er.out]; rfl]
 rintro e w4_ ⟨v', rfl, h1, h2⟩
 obtain ⟨q4, rfl⟩ := h1.ptr
 have HB4 := Am (HB3.out.trans (h2.mono HB3.out.size))
 have HNq4 := Am (TopRep.rep h1 h2)
 have HTOP := Am h1
 have HTB := Am h2
 have HTW := HB3
 have HV4 := Am ((h2.block _ (Array.getElem?_eq_some_iff.1 HV3.out).1).trans HV3.out)
 have HNq1_ := Am (Rep.below HNq1.out h2)
 clear HNq1
 have HNq1 := HNq1_
 clear HNq1_
 have HNq2_ := Am (Rep.below HNq2.out h2)
 clear HNq2
 have HNq2 := HNq2_
 clear HNq2_
 have HNq3_ := Am (Rep.below HNq3.out h2)
 clear HNq3
 have HNq3 := HNq3_
 clear HNq3_
 clear h1 h2 HB3 HV3
 refine ⟨_, rfl, ?_⟩
 refine hK.out _ _ ⟨(cell_of HV4.out 0).trans rfl, (cell_of HV4.out 1).trans rfl, (cell_of HV4.out 2).trans rfl, (cell_of HV4.out 3).trans rfl, (cell_of HV4.out 4).trans rfl, (cell_of HV4.out 5).trans rfl, (cell_of HV4.out 6).trans rfl, (cell_of HV4.out 7).trans rfl, (cell_of HV4.out 8).trans rfl, (cell_of HV4.out 9).trans rfl, (cell_of HV4.out 10).trans rfl⟩ (fun hHeld => ?_)
 clear hK K
 refine norm_ (a' := ?_) ?_ ?_
 rotate_left
 ·show Act.put _ (some 116) _ = _
  simp only [Act.put, sI, sZ, sS, i64_w, i32_w]
  rfl
 refine pu 17 4 ?_
 refine done_ (by kernel_rfl) ?_
 try clear hHeld
 go_wp2
 go_ret
 exact HF.out _ _ _ HTW.out HTB.out HTOP.out
set_option maxHeartbeats 4000000 in
set_option maxRecDepth 100000 in
theorem do10_any (m rt : Bool) (p pl pr pll plr prl prr pa pb : Option Addr) {nx : S34} {qx : Int} {lx rx : Tr} {nl : S34} {ql : Int} {ll rl : Tr} {nr : S34} {qr : Int} {lr rr : Tr} {nrl : S34} {qrl : Int} {lrl rrl : Tr} {X : Tr} {L : Tr} {R : Tr} {RL : Tr} {RR : Tr} {A : Tr} {B : Tr} (w : World) (hS : ∀ k, w.heap.size ≤ k → S k) (ex : X = .node nx qx lx rx) (el : L = .node nl ql ll rl) (er : R = .node nr qr lr rr) (erl : RL = .node nrl qrl lrl rrl) (Hx : Aside0 (Rep S w (.pointer p) X)) (Hl : Aside0 (Rep S w (.pointer pl) L)) (Hr : Aside0 (Rep S w (.pointer pr) R)) (Hrl : Aside0 (Rep S w (.pointer prl) RL)) (Hrr : Aside0 (Rep S w (.pointer prr) RR)) (Ha : Aside0 (Rep S w (.pointer pa) A)) (Hb : Aside0 (Rep S w (.pointer pb) B)) :
  Calls Try.prog 65 #[.agg #[.bool m, .pointer p, .pointer pl, .pointer pr, .pointer pll, .pointer plr, .pointer prl, .pointer prr, .pointer pa, .pointer pb, .bool rt], .int .i64 10] w fun e w' => DoPost S w (putT m (keyT RL) (wt X) (putT m (keyT X) 1 (lessT L) A) (putT m (keyT R) 1 B RR)) e w' := by
 have hu111 := Try.underlying111
 have Ex := Am ex
 clear ex
 have El := Am el
 clear el
 have Er := Am er
 clear er
 have Erl := Am erl
 clear erl
 have HSS := Am hS
 clear hS
 have hfin := do_fin (S := S) w (putT m (keyT RL) (wt X) (putT m (keyT X) 1 (lessT L) A) (putT m (keyT R) 1 B RR))
 have HF := Am hfin
 clear hfin
 go_enter Try.func65, Try.ntmps65
 go_wp2_with (fail)
 refine (weight_any _ _ _ (Hx.out.below ((Below.refl _ _).alloc (Nat.le_refl _) _))).mono ?_
 rintro e w' ⟨rfl, rfl⟩
 go_wp2
 have HB0 : Aside0 (Below w.heap.size w (w.alloc (.cells #[.bool m, .pointer p, .pointer pl, .pointer pr, .pointer pll, .pointer plr, .pointer prl, .pointer prr, .pointer pa, .pointer pb, .bool rt] 111))) := ⟨(Below.refl _ _).alloc (Nat.le_refl _) _⟩
 have HV0 : Aside0 ((w.alloc (.cells #[.bool m, .pointer p, .pointer pl, .pointer pr, .pointer pll, .pointer plr, .pointer prl, .pointer prr, .pointer pa, .pointer pb, .bool rt] 111)).heap[w.heap.size]? = some (.cells #[.bool m, .pointer p, .pointer pl, .pointer pr, .pointer pll, .pointer plr, .pointer prl, .pointer prr, .pointer pa, .pointer pb, .bool rt] 111 (0, 0))) := ⟨heap_alloc_new w _⟩
 generalize w.alloc (.cells #[.bool m, .pointer p, .pointer pl, .pointer pr, .pointer pll, .pointer plr, .pointer prl, .pointer prr, .pointer pa, .pointer pb, .bool rt] 111) = w1 at HB0 HV0 ⊢
 obtain ⟨g, hg⟩ : ∃ g, g = w.heap.size := ⟨_, rfl⟩
 rw [← hg] at HV0 ⊢
 clear hg
 have HB0_ := Am (bd HB0.out)
 have HV0_ : Aside0 (w1.drew.heap[g]? = some (.cells #[.bool m, .pointer p, .pointer pl, .pointer pr, .pointer pll, .pointer plr, .pointer prl, .pointer prr, .pointer pa, .pointer pb, .bool rt] 111 (0, 0))) := ⟨HV0.out⟩
 clear HB0 HV0 
 have HB0 := HB0_
 have HV0 := HV0_
 clear HB0_ HV0_
 refine start_ (n := 23) (S := fun w' => w'.cell? ⟨g, 0, none⟩ = some (.bool m) ∧ w'.cell? ⟨g, 1, none⟩ = some (.pointer p) ∧ w'.cell? ⟨g, 2, none⟩ = some (.pointer pl) ∧ w'.cell? ⟨g, 3, none⟩ = some (.pointer pr) ∧ w'.cell? ⟨g, 4, none⟩ = some (.pointer pll) ∧ w'.cell? ⟨g, 5, none⟩ = some (.pointer plr) ∧ w'.cell? ⟨g, 6, none⟩ = some (.pointer prl) ∧ w'.cell? ⟨g, 7, none⟩ = some (.pointer prr) ∧ w'.cell? ⟨g, 8, none⟩ = some (.pointer pa) ∧ w'.cell? ⟨g, 9, none⟩ = some (.pointer pb) ∧ w'.cell? ⟨g, 10, none⟩ = some (.bool rt)) (ds := []) #[false, false, false, false, false, false, false, false, false, false, false, false, false, false, false, false, false, false, false, false, false, false, false] (by kernel_rfl) rfl rfl ⟨(cell_of HV0.out 0).trans rfl, (cell_of HV0.out 1).trans rfl, (cell_of HV0.out 2).trans rfl, (cell_of HV0.out 3).trans rfl, (cell_of HV0.out 4).trans rfl, (cell_of HV0.out 5).trans rfl, (cell_of HV0.out 6).trans rfl, (cell_of HV0.out 7).trans rfl, (cell_of HV0.out 8).trans rfl, (cell_of HV0.out 9).trans rfl, (cell_of HV0.out 10).trans rfl⟩ (fun hHeld => ?_)
 refine pu 1 120 ?_
 refine pu 3 122 ?_
 refine pu 5 124 ?_
 refine pu 7 126 ?_
 refine pu 10 129 ?_
 refine pu 14 133 ?_
 refine pu 16 135 ?_
 refine pu 18 137 ?_
 refine ta 0 119 hHeld ?_
 refine ta 2 121 hHeld ?_
 refine ta 4 123 hHeld ?_
 refine ta 6 125 hHeld ?_
 refine ta 8 127 hHeld ?_
 refine ta 11 130 hHeld ?_
 refine ta 13 132 hHeld ?_
 refine ta 15 134 hHeld ?_
 refine ta 17 136 hHeld ?_
 refine ta 19 138 hHeld ?_
 refine one_ (i := 9) (N := some 128) #[true, true, true, true, true, true, true, true, true, true, true, true, false, true, true, true, true, true, true, true, false, false, false] rfl rfl (by kernel_rfl) (by decide) (fun K hK => ?_)
 refine goes_ Try.func95 (by kernel_rfl) rfl #[.pointer pl] (by rfl) rfl rfl (by (try simp only [List.map_toArray, List.map_cons, List.map_nil]); first | done | rfl) ?_
 with_reducible refine (less_any _ _ _ _ _ _ (fun k hk => HSS.out k (Nat.le_trans HB0.out.size hk)) (by rw [← El.out]; exact (Hl.out.below HB0.out))).mono ?_
 rw [← El.out]
 rintro e w1_ ⟨v', rfl, h1, h2⟩
 obtain ⟨q1, rfl⟩ := h1.ptr
 have HB1 := Am (HB0.out.trans (h2.mono HB0.out.size))
 have HNq1 := Am (TopRep.rep h1 h2)
 have HV1 := Am ((h2.block _ (Array.getElem?_eq_some_iff.1 HV0.out).1).trans HV0.out)
 clear h1 h2 HB0 HV0
 refine ⟨_, rfl, ?_⟩
 refine hK.out _ _ ⟨(cell_of HV1.out 0).trans rfl, (cell_of HV1.out 1).trans rfl, (cell_of HV1.out 2).trans rfl, (cell_of HV1.out 3).trans rfl, (cell_of HV1.out 4).trans rfl, (cell_of HV1.out 5).trans rfl, (cell_of HV1.out 6).trans rfl, (cell_of HV1.out 7).trans rfl, (cell_of HV1.out 8).trans rfl, (cell_of HV1.out 9).trans rfl, (cell_of HV1.out 10).trans rfl⟩ (fun hHeld => ?_)
 clear hK K
 refine norm_ (a' := ?_) ?_ ?_
 rotate_left
 ·show Act.put _ (some 128) _ = _
  simp only [Act.put, sI, sZ, sS, i64_w, i32_w]
  rfl
 refine one_ (i := 12) (N := some 131) #[true, true, true, true, true, true, true, true, true, true, true, true, true, true, true, true, true, true, true, true, false, false, false] rfl rfl (by kernel_rfl) (by decide) (fun K hK => ?_)
 refine goes_ Try.func93 (by kernel_rfl) rfl #[.agg #[.bool m, .pointer p, .pointer pl, .pointer pr, .pointer pll, .pointer plr, .pointer prl, .pointer prr, .pointer pa, .pointer pb, .bool rt], .pointer p, .int .i64 1, .pointer q1, .pointer pa] (by rfl) rfl rfl (by (try simp only [List.map_toArray, List.map_cons, List.map_nil]); first | done | rfl) ?_
 with_reducible refine (put_any _ _ _ _ _ _ _ _ _ _ _ _ _ _ _ _ _ _ _ _ _ _ (fun k hk => HSS.out k (Nat.le_trans HB1.out.size hk)) (by rw [← Ex.out]; exact (Hx.out.below HB1.out)) HNq1.out (Ha.out.below HB1.out)).mono ?_
 rw [show nx.f0 = keyT X from by rw [Ex.out]; rfl]
 rintro e w2_ ⟨v', rfl, h1, h2⟩
 obtain ⟨q2, rfl⟩ := h1.ptr
 have HB2 := Am (HB1.out.trans (h2.mono HB1.out.size))
 have HNq2 := Am (TopRep.rep h1 h2)
 have HV2 := Am ((h2.block _ (Array.getElem?_eq_some_iff.1 HV1.out).1).trans HV1.out)
 have HNq1_ := Am (Rep.below HNq1.out h2)
 clear HNq1
 have HNq1 := HNq1_
 clear HNq1_
 clear h1 h2 HB1 HV1
 refine ⟨_, rfl, ?_⟩
 refine hK.out _ _ ⟨(cell_of HV2.out 0).trans rfl, (cell_of HV2.out 1).trans rfl, (cell_of HV2.out 2).trans rfl, (cell_of HV2.out 3).trans rfl, (cell_of HV2.out 4).trans rfl, (cell_of HV2.out 5).trans rfl, (cell_of HV2.out 6).trans rfl, (cell_of HV2.out 7).trans rfl, (cell_of HV2.out 8).trans rfl, (cell_of HV2.out 9).trans rfl, (cell_of HV2.out 10).trans rfl⟩ (fun hHeld => ?_)
 clear hK K
 refine norm_ (a' := ?_) ?_ ?_
 rotate_left
 ·show Act.put _ (some 131) _ = _
  simp only [Act.put, sI, sZ, sS, i64_w, i32_w]
  rfl
 refine one_ (i := 20) (N := some 139) #[true, true, true, true, true, true, true, true, true, true, true, true, true, true, true, true, true, true, true, true, true, false, false] rfl rfl (by kernel_rfl) (by decide) (fun K hK => ?_)
 refine goes_ Try.func93 (by kernel_rfl) rfl #[.agg #[.bool m, .pointer p, .pointer pl, .pointer pr, .pointer pll, .pointer plr, .pointer prl, .pointer prr, .pointer pa, .pointer pb, .bool rt], .pointer pr, .int .i64 1, .pointer pb, .pointer prr] (by rfl) rfl rfl (by (try simp only [List.map_toArray, List.map_cons, List.map_nil]); first | done | rfl) ?_
 with_reducible refine (put_any _ _ _ _ _ _ _ _ _ _ _ _ _ _ _ _ _ _ _ _ _ _ (fun k hk => HSS.out k (Nat.le_trans HB2.out.size hk)) (by rw [← Er.out]; exact (Hr.out.below HB2.out)) (Hb.out.below HB2.out) (Hrr.out.below HB2.out)).mono ?_
 rw [show nr.f0 = keyT R from by rw [Er.out]; rfl]
 rintro e w3_ ⟨v', rfl, h1, h2⟩
 obtain ⟨q3, rfl⟩ := h1.ptr
 have HB3 := Am (HB2.out.trans (h2.mono HB2.out.size))
 have HNq3 := Am (TopRep.rep h1 h2)
 have HV3 := Am ((h2.block _ (Array.getElem?_eq_some_iff.1 HV2.out).1).trans HV2.out)
 have HNq1_ := Am (Rep.below HNq1.out h2)
 clear HNq1
 have HNq1 := HNq1_
 clear HNq1_
 have HNq2_ := Am (Rep.below HNq2.out h2)
 clear HNq2
 have HNq2 := HNq2_
 clear HNq2_
 clear h1 h2 HB2 HV2
 refine ⟨_, rfl, ?_⟩
 refine hK.out _ _ ⟨(cell_of HV3.out 0).trans rfl, (cell_of HV3.out 1).trans rfl, (cell_of HV3.out 2).trans rfl, (cell_of HV3.out 3).trans rfl, (cell_of HV3.out 4).trans rfl, (cell_of HV3.out 5).trans rfl, (cell_of HV3.out 6).trans rfl, (cell_of HV3.out 7).trans rfl, (cell_of HV3.out 8).trans rfl, (cell_of HV3.out 9).trans rfl, (cell_of HV3.out 10).trans rfl⟩ (fun hHeld => ?_)
 clear hK K
 refine norm_ (a' := ?_) ?_ ?_
 rotate_left
 ·show Act.put _ (some 139) _ = _
  simp only [Act.put, sI, sZ, sS, i64_w, i32_w]
  rfl
 refine one_ (i := 21) (N := some 140) #[true, true, true, true, true, true, true, true, true, true, true, true, true, true, true, true, true, true, true, true, true, true, false] rfl rfl (by kernel_rfl) (by decide) (fun K hK => ?_)
 refine goes_ Try.func93 (by kernel_rfl) rfl #[.agg #[.bool m, .pointer p, .pointer pl, .pointer pr, .pointer pll, .pointer plr, .pointer prl, .pointer prr, .pointer pa, .pointer pb, .bool rt], .pointer prl, .int .i64 (wt X), .pointer q2, .pointer q3] (by rfl) rfl rfl (by (try simp only [List.map_toArray, List.map_cons, List.map_nil]); first | done | rfl) ?_
 with_reducible refine (put_any _ _ _ _ _ _ _ _ _ _ _ _ _ _ _ _ _ _ _ _ _ _ (fun k hk => HSS.out k (Nat.le_trans HB3.out.size hk)) (by rw [← Erl.out]; exact (Hrl.out.below HB3.out)) HNq2.out HNq3.out).mono ?_
 rw [show nrl.f0 = keyT RL from by rw [Erl.out]; rfl]
 rintro e w4_ ⟨v', rfl, h1, h2⟩
 obtain ⟨q4, rfl⟩ := h1.ptr
 have HB4 := Am (HB3.out.trans (h2.mono HB3.out.size))
 have HNq4 := Am (TopRep.rep h1 h2)
 have HTOP := Am h1
 have HTB := Am h2
 have HTW := HB3
 have HV4 := Am ((h2.block _ (Array.getElem?_eq_some_iff.1 HV3.out).1).trans HV3.out)
 have HNq1_ := Am (Rep.below HNq1.out h2)
 clear HNq1
 have HNq1 := HNq1_
 clear HNq1_
 have HNq2_ := Am (Rep.below HNq2.out h2)
 clear HNq2
 have HNq2 := HNq2_
 clear HNq2_
 have HNq3_ := Am (Rep.below HNq3.out h2)
 clear HNq3
 have HNq3 := HNq3_
 clear HNq3_
 clear h1 h2 HB3 HV3
 refine ⟨_, rfl, ?_⟩
 refine hK.out _ _ ⟨(cell_of HV4.out 0).trans rfl, (cell_of HV4.out 1).trans rfl, (cell_of HV4.out 2).trans rfl, (cell_of HV4.out 3).trans rfl, (cell_of HV4.out 4).trans rfl, (cell_of HV4.out 5).trans rfl, (cell_of HV4.out 6).trans rfl, (cell_of HV4.out 7).trans rfl, (cell_of HV4.out 8).trans rfl, (cell_of HV4.out 9).trans rfl, (cell_of HV4.out 10).trans rfl⟩ (fun hHeld => ?_)
 clear hK K
 refine norm_ (a' := ?_) ?_ ?_
 rotate_left
 ·show Act.put _ (some 140) _ = _
  simp only [Act.put, sI, sZ, sS, i64_w, i32_w]
  rfl
 refine pu 22 4 ?_
 refine done_ (by kernel_rfl) ?_
 try clear hHeld
 go_wp2
 go_ret
 exact HF.out _ _ _ HTW.out HTB.out HTOP.out
end Go.Proofs.Ytgleaefhflamnaa.T
