-- Written by a program of this session (xprint), out of the translation. Not trusted: Lean checks it.
import Derived.Test.YtgkmagfajalnhaaTE0
namespace Go.Proofs.Ytgkmagfajalnhaa.E
open Go.RowKit Go.Proofs.YtgkmagfajalnhaaW.PrintWords Go.Proofs.YtgkmagfajalnhaaW.PrintLast Go.Proofs.YtgkmagfajalnhaaW.PrintMore
attribute [local go_sem] max2_int min2_int max_two min_two max_three min_three max_four min_four   -- for this text's walks alone
set_option linter.unusedVariables false
set_option linter.unusedSimpArgs false

/-! ### regcertref10_Start: function 55 -/
def regcertref10_Start.l0 : Nat → Int → Int → Int → List (S69) → Int → Int → Int → Int → List Int → List Int → Int → Option (Int × Int × Int × Int × List Int × List Int × List Int × Int)
 | 0, _, _, _, _, _, _, _, _, _, _, _ => none
 | k + 1, x221000, x221001, x221002, x221003, x232000, x232001, x232002, x232003, x232004, x232005, x232007 => if (x232005.length : Int) < x221002 then (if x232005.length < 17592186044416 then (regcertref10_Start.l0 k x221000 x221001 x221002 x221003 x232000 x232001 x232002 x232003 x232004 (x232005 ++ [0]) x232007) else (none)) else (some (x232000, x232001, x232002, x232003, x232004, x232005, ([] : List Int), x232007))
def regcertref10_Start.f (k : Nat) (a0_0 : Int) (a0_1 : Int) (a0_2 : Int) (l0_3 : List (S69)) (l1 : List Int) : Option (Int × Int × Int × Int × List Int × List Int × List Int × Int) := if 0 ≤ a0_1 then (if (a0_1 : Int).toNat ≤ 35184372088832 then ((some (([] : List Int) : List Int)).bind fun y225 => (if y225.length + l1.length < 17592186044416 then (regcertref10_Start.l0 k a0_0 a0_1 a0_2 l0_3 0 0 0 0 (List.replicate (a0_1 : Int).toNat 0) (y225 ++ l1) 0) else (none))) else (none)) else (none)
theorem regcertref10_Start.mono_l : ∀ k, (∀ y0 y1 y2 y3 y4 y5 y6 y7 y8 y9 y10, LeO (regcertref10_Start.l0 k y0 y1 y2 y3 y4 y5 y6 y7 y8 y9 y10) (regcertref10_Start.l0 (k + 1) y0 y1 y2 y3 y4 y5 y6 y7 y8 y9 y10))
 | 0 => fun _ _ _ _ _ _ _ _ _ _ _ r h => by simp [regcertref10_Start.l0] at h
 | k + 1 => by
  have ih0 := regcertref10_Start.mono_l k
  ·intro y0 y1 y2 y3 y4 y5 y6 y7 y8 y9 y10
   unfold regcertref10_Start.l0
   repeat' first
   | (with_reducible exact ih0 _ _ _ _ _ _ _ _ _ _ _)
   | (with_reducible exact LeO.refl _)
   | (with_reducible exact LeO.none _)
   | (with_reducible refine LeO.ite ?_ ?_)
   | (with_reducible refine LeO.bind ?_ (fun _ => ?_))
   | exact ih0 _ _ _ _ _ _ _ _ _ _ _
   | exact LeO.none _
   | refine LeO.ite ?_ ?_
   | refine LeO.bind ?_ (fun _ => ?_)
theorem regcertref10_Start.mono : ∀ a0 a1 a2 a3 a4 k, LeO (regcertref10_Start.f k a0 a1 a2 a3 a4) (regcertref10_Start.f (k + 1) a0 a1 a2 a3 a4) := by
 intro a0 a1 a2 a3 a4 k
 have ih0 := regcertref10_Start.mono_l k
 unfold regcertref10_Start.f
 repeat' first
   | (with_reducible exact ih0 _ _ _ _ _ _ _ _ _ _ _)
   | (with_reducible exact LeO.refl _)
   | (with_reducible exact LeO.none _)
   | (with_reducible refine LeO.ite ?_ ?_)
   | (with_reducible refine LeO.bind ?_ (fun _ => ?_))
   | exact ih0 _ _ _ _ _ _ _ _ _ _ _
   | exact LeO.none _
   | refine LeO.ite ?_ ?_
   | refine LeO.bind ?_ (fun _ => ?_)
def regcertref10_Start.T1 : Bool × List (List Nat × List Nat) := (true, [([], []), ([0], [0]), ([1, 1], [1]), ([], []), ([], []), ([3, 4], [3, 4]), ([2, 5], [2, 5]), ([], []), ([7, 6, 5, 0, 1, 2, 3, 4, 5, 6, 7], [6, 7])])
def regcertref10_Start.B1 : List Nat := [0, 1, 3, 0, 0, 24, 63, 0, 255]
theorem regcertref10_Start.tab1 : rtab .any (opsOf Try.f55 1) = regcertref10_Start.T1 := by kernel_rfl
theorem regcertref10_Start.bits1 : waitsOk regcertref10_Start.T1.2 regcertref10_Start.B1 = true := by kernel_rfl
set_option maxHeartbeats 8000000 in
set_option maxRecDepth 100000 in
theorem regcertref10_Start.calls (k : Nat) (a0_0 : Int) (a0_1 : Int) (a0_2 : Int) (A0_3 : Option Addr) (c0_3 : Nat) (l0_3 : List (S69)) (A1 : Option Addr) (c1 : Nat) (l1 : List Int) (r1 : Int) (r2 : Int) (r3 : Int) (r4 : Int) (r5 : List Int) (r6 : List Int) (r7 : List Int) (r8 : Int) (w : World) (hr0_3 : Kd.C k69 w A0_3 l0_3.length l0_3) (hc0_3 : l0_3.length ≤ c0_3) (hr1 : Kd.C (Kd.int .i64) w A1 l1.length l1) (hc1 : l1.length ≤ c1) (h : regcertref10_Start.f k a0_0 a0_1 a0_2 l0_3 l1 = some (r1, r2, r3, r4, r5, r6, r7, r8)) :
  Calls Try.prog 55 #[.agg #[.int .i64 a0_0, .int .i64 a0_1, .int .i64 a0_2, .slice A0_3 l0_3.length c0_3], .slice A1 l1.length c1] w fun e w' => ∃ v4_ v5_ v6_ : Value, e = .returned (.agg #[.int .i64 r1, .int .i64 r2, .int .i64 r3, .int .i64 r4, v4_, v5_, v6_, .int .i64 r8]) ∧ Kd.R (Kd.int .i64) 2 w' w.heap.size (fun k_ => some k_ ≠ (v5_ : Value).ownBlock ∧ some k_ ≠ (v6_ : Value).ownBlock) v4_ r5 ∧ Kd.R (Kd.int .i64) 2 w' w.heap.size (fun k_ => some k_ ≠ (v4_ : Value).ownBlock ∧ some k_ ≠ (v6_ : Value).ownBlock) v5_ r6 ∧ Kd.R (Kd.int .i64) 2 w' w.heap.size (fun k_ => some k_ ≠ (v4_ : Value).ownBlock ∧ some k_ ≠ (v5_ : Value).ownBlock) v6_ r7 ∧ Below w.heap.size w w' := by
 have hu63 := Try.underlying63
 have hu39 := Try.underlying39
 have HR0_3 := As0 hr0_3
 have HC0_3 := As0 hc0_3
 clear hr0_3 hc0_3
 have HR1 := As0 hr1
 have HC1 := As0 hc1
 clear hr1 hc1
 have HB := As0 (Below.refl w.heap.size w)
 have H : (if 0 ≤ a0_1 then (if (a0_1 : Int).toNat ≤ 35184372088832 then ((some (([] : List Int) : List Int)).bind fun y225 => (if y225.length + l1.length < 17592186044416 then (regcertref10_Start.l0 k a0_0 a0_1 a0_2 l0_3 0 0 0 0 (List.replicate (a0_1 : Int).toNat 0) (y225 ++ l1) 0) else (none))) else (none)) else (none)) = some (r1, r2, r3, r4, r5, r6, r7, r8) := h
 clear h
 by_cases c3 : 0 ≤ a0_1
 rotate_left
 ·rw [if_neg c3] at H
  exact absurd H (by simp)
 rw [if_pos c3] at H
 have c3b0 := eq_true c3
 have c3b1 : decide (0 ≤ a0_1) = true := decide_eq_true c3
 clear c3
 by_cases c4 : (a0_1 : Int).toNat ≤ 35184372088832
 rotate_left
 ·rw [if_neg c4] at H
  exact absurd H (by simp)
 rw [if_pos c4] at H
 have c4b0 := eq_true c4
 have c4b1 : decide ((a0_1 : Int).toNat ≤ 35184372088832) = true := decide_eq_true c4
 clear c4
 obtain ⟨y222, hy222⟩ : ∃ y_ : List Int, y_ = (List.replicate (a0_1 : Int).toNat 0) := ⟨_, rfl⟩
 replace H : ((some (([] : List Int) : List Int)).bind fun y225 => (if y225.length + l1.length < 17592186044416 then (regcertref10_Start.l0 k a0_0 a0_1 a0_2 l0_3 0 0 0 0 y222 (y225 ++ l1) 0) else (none))) = some (r1, r2, r3, r4, r5, r6, r7, r8) := by first | (rw [hy222]; with_reducible exact H) | (have H2_ := (Option.bind_some _ _).symm.trans H; rw [hy222]; with_reducible exact H2_) | (have H2_ := (Option.bind_some _ _).symm.trans H; with_reducible exact H2_) | with_reducible exact H | (rw [hy222]; exact H) | exact H
 have Ny222 := As0 hy222
 clear hy222
 obtain ⟨y225, hy225⟩ : ∃ y_ : List Int, y_ = (([] : List Int)) := ⟨_, rfl⟩
 replace H : (if y225.length + l1.length < 17592186044416 then (regcertref10_Start.l0 k a0_0 a0_1 a0_2 l0_3 0 0 0 0 y222 (y225 ++ l1) 0) else (none)) = some (r1, r2, r3, r4, r5, r6, r7, r8) := by first | (rw [hy225]; with_reducible exact H) | (have H2_ := (Option.bind_some _ _).symm.trans H; rw [hy225]; with_reducible exact H2_) | (have H2_ := (Option.bind_some _ _).symm.trans H; with_reducible exact H2_) | with_reducible exact H | (rw [hy225]; exact H) | exact H
 have Ny225 := As0 hy225
 clear hy225
 by_cases c5 : y225.length + l1.length < 17592186044416
 rotate_left
 ·rw [if_neg c5] at H
  exact absurd H (by simp)
 rw [if_pos c5] at H
 have LMc5 := As0 c5
 clear c5
 obtain ⟨y228, hy228⟩ : ∃ y_ : List Int, y_ = (y225 ++ l1) := ⟨_, rfl⟩
 replace H : (regcertref10_Start.l0 k a0_0 a0_1 a0_2 l0_3 0 0 0 0 y222 y228 0) = some (r1, r2, r3, r4, r5, r6, r7, r8) := by first | (rw [hy228]; with_reducible exact H) | (have H2_ := (Option.bind_some _ _).symm.trans H; rw [hy228]; with_reducible exact H2_) | (have H2_ := (Option.bind_some _ _).symm.trans H; with_reducible exact H2_) | with_reducible exact H | (rw [hy228]; exact H) | exact H
 have Ny228 := As0 hy228
 clear hy228
 have H' := As0 H
 clear H
 go_enter Try.func55, Try.ntmps55
 try go_wp2_with (first | ((with_reducible refine gate_dst (N := 2) rfl ?_); refine bX (N := 2) (cs := #[.int .i64 a0_0, .int .i64 a0_1, .int .i64 a0_2, .slice A0_3 l0_3.length c0_3]) (t := 63) ?_; intro gb220 hg w6 hbox hb; have BK220 := As0 (hbox); have GW220 := As0 ((by rw [hg]; exact (below_size (BU HB.out)) : w.heap.size ≤ gb220)); have GE220 := As0 ((by rw [hg]; exact (below_size (BU HB.out)) : w.heap.size ≤ gb220)); replace HB := As0 (below_step (BU HB.out) hb); clear hb hbox hg) | ((with_reducible refine gate_dst (N := 4) rfl ?_); refine bX (N := 4) (cs := #[.int .i64 0, .int .i64 0, .int .i64 0, .int .i64 0, .slice none 0 0, .slice none 0 0, .slice none 0 0, .int .i64 0]) (t := 39) ?_; intro gb221 hg w7 hbox hb; have BK221 := As0 (hbox); have GW221 := As0 ((by rw [hg]; exact (below_size (BU HB.out)) : w.heap.size ≤ gb221)); have GE221 := As0 ((by rw [hg]; exact (below_size (BU HB.out)) : w.heap.size ≤ gb221)); replace HB := As0 (below_step (BU HB.out) hb); have NB220_221 := As0 ((by rw [hg]; exact Nat.ne_of_lt (blk_lt (bU BK220.out)) : gb220 ≠ gb221)); have NB221_220 := As0 ((by rw [hg]; exact Nat.ne_of_gt (blk_lt (bU BK220.out)) : gb221 ≠ gb220)); replace BK220 := As0 (blk_below (bU BK220.out) hb); clear hb hbox hg))
 replace BK220 := As0 (blk_drew BK220.out)
 replace BK221 := As0 (blk_drew BK221.out)
 replace HB := As0 (bd1 HB.out)
 refine start_ (n := 9) (S := fun w' => w'.cell? ⟨gb220, 0, none⟩ = some (.int .i64 a0_0) ∧ w'.cell? ⟨gb220, 1, none⟩ = some (.int .i64 a0_1) ∧ w'.cell? ⟨gb220, 2, none⟩ = some (.int .i64 a0_2) ∧ w'.cell? ⟨gb220, 3, none⟩ = some (.slice A0_3 l0_3.length c0_3)) (ds := []) (bb 9 0) (by kernel_rfl) rfl rfl ⟨(blk_cell BK220.out 0).trans rfl, (blk_cell BK220.out 1).trans rfl, (blk_cell BK220.out 2).trans rfl, (blk_cell BK220.out 3).trans rfl⟩ (fun hHeld => ?_); refine with_tabW regcertref10_Start.tab1 regcertref10_Start.bits1 (fun HT_ HW_ => ?_)
 generalize w7.drew = w8 at BK220 BK221 HB hHeld ⊢
 refine pv HT_.out 0 6 (bb 9 1) ?_
 refine pv HT_.out 4 10 (bb 9 17) ?_
 refine tv hHeld HT_.out HW_.out 1 7 (bb 9 19) ?_
 refine join_ (σ := Value × Value × Value × Nat) 1 (bb 9 255) (fun s_ => [(8, s_.1), (9, s_.2.1), (11, s_.2.2.1), (5, .pointer (some ⟨s_.2.2.2, 0, none⟩)), (12, .agg #[.int .i64 0, .int .i64 0, .int .i64 0, .int .i64 0, s_.1, s_.2.2.1, .slice none 0 0, .int .i64 0])]) (fun s_ w' => (w'.cell? ⟨gb220, 0, none⟩ = some (.int .i64 a0_0) ∧ w'.cell? ⟨gb220, 1, none⟩ = some (.int .i64 a0_1) ∧ w'.cell? ⟨gb220, 2, none⟩ = some (.int .i64 a0_2) ∧ w'.cell? ⟨gb220, 3, none⟩ = some (.slice A0_3 l0_3.length c0_3)) ∧ (Kd.R (Kd.int .i64) 2 w' w.heap.size (fun k_ => some k_ ≠ (s_.2.2.1 : Value).ownBlock) s_.1 y222) ∧ (Kd.R (Kd.int .i64) 2 w' w.heap.size (fun k_ => some k_ ≠ (s_.1 : Value).ownBlock) s_.2.2.1 y228) ∧ (w'.heap[gb220]? = some (.cells #[.int .i64 a0_0, .int .i64 a0_1, .int .i64 a0_2, .slice A0_3 l0_3.length c0_3] 63 (0, 0))) ∧ (w'.heap[gb221]? = some (.cells #[.int .i64 0, .int .i64 0, .int .i64 0, .int .i64 0, .slice none 0 0, .slice none 0 0, .slice none 0 0, .int .i64 0] 39 (0, 0))) ∧ (w'.heap[s_.2.2.2]? = some (.cells #[.int .i64 0, .int .i64 0, .int .i64 0, .int .i64 0, .slice none 0 0, .slice none 0 0, .slice none 0 0, .int .i64 0] 39 (0, 0))) ∧ (w.heap.size ≤ s_.2.2.2) ∧ (w.heap.size ≤ s_.2.2.2) ∧ (gb220 ≠ s_.2.2.2) ∧ (s_.2.2.2 ≠ gb220) ∧ (gb221 ≠ s_.2.2.2) ∧ (s_.2.2.2 ≠ gb221) ∧ (Below w.heap.size w w')) ?_ ?_
 rotate_left
 ·intro hJ2_3_5_7
  refine join_ (σ := Value × Value × Value) 2 (bb 9 127) (fun s_ => [(8, s_.1), (9, s_.2.1), (11, s_.2.2), (12, .agg #[.int .i64 0, .int .i64 0, .int .i64 0, .int .i64 0, s_.1, s_.2.2, .slice none 0 0, .int .i64 0])]) (fun s_ w' => (w'.cell? ⟨gb220, 0, none⟩ = some (.int .i64 a0_0) ∧ w'.cell? ⟨gb220, 1, none⟩ = some (.int .i64 a0_1) ∧ w'.cell? ⟨gb220, 2, none⟩ = some (.int .i64 a0_2) ∧ w'.cell? ⟨gb220, 3, none⟩ = some (.slice A0_3 l0_3.length c0_3)) ∧ (Kd.R (Kd.int .i64) 2 w' w.heap.size (fun k_ => some k_ ≠ (s_.2.2 : Value).ownBlock) s_.1 y222) ∧ (Kd.R (Kd.int .i64) 2 w' w.heap.size (fun k_ => some k_ ≠ (s_.1 : Value).ownBlock) s_.2.2 y228) ∧ (w'.heap[gb220]? = some (.cells #[.int .i64 a0_0, .int .i64 a0_1, .int .i64 a0_2, .slice A0_3 l0_3.length c0_3] 63 (0, 0))) ∧ (w'.heap[gb221]? = some (.cells #[.int .i64 0, .int .i64 0, .int .i64 0, .int .i64 0, .slice none 0 0, .slice none 0 0, .slice none 0 0, .int .i64 0] 39 (0, 0))) ∧ (Below w.heap.size w w')) ?_ ?_
  rotate_left
  ·intro hJ2_3_5
   refine join_ (σ := Value × Value × Nat) 3 (bb 9 159) (fun s_ => [(8, s_.1), (9, s_.2.1), (5, .pointer (some ⟨s_.2.2, 0, none⟩))]) (fun s_ w' => (w'.cell? ⟨gb220, 0, none⟩ = some (.int .i64 a0_0) ∧ w'.cell? ⟨gb220, 1, none⟩ = some (.int .i64 a0_1) ∧ w'.cell? ⟨gb220, 2, none⟩ = some (.int .i64 a0_2) ∧ w'.cell? ⟨gb220, 3, none⟩ = some (.slice A0_3 l0_3.length c0_3)) ∧ (Kd.R (Kd.int .i64) 2 w' w.heap.size (fun k_ => some k_ ≠ (s_.2.1 : Value).ownBlock) s_.1 y222) ∧ (Kd.R (Kd.int .i64) 2 w' w.heap.size (fun k_ => some k_ ≠ (s_.1 : Value).ownBlock) s_.2.1 y225) ∧ (w'.heap[gb220]? = some (.cells #[.int .i64 a0_0, .int .i64 a0_1, .int .i64 a0_2, .slice A0_3 l0_3.length c0_3] 63 (0, 0))) ∧ (w'.heap[gb221]? = some (.cells #[.int .i64 0, .int .i64 0, .int .i64 0, .int .i64 0, .slice none 0 0, .slice none 0 0, .slice none 0 0, .int .i64 0] 39 (0, 0))) ∧ (w'.heap[s_.2.2]? = some (.cells #[.int .i64 0, .int .i64 0, .int .i64 0, .int .i64 0, .slice none 0 0, .slice none 0 0, .slice none 0 0, .int .i64 0] 39 (0, 0))) ∧ (w.heap.size ≤ s_.2.2) ∧ (w.heap.size ≤ s_.2.2) ∧ (gb220 ≠ s_.2.2) ∧ (s_.2.2 ≠ gb220) ∧ (gb221 ≠ s_.2.2) ∧ (s_.2.2 ≠ gb221) ∧ (Below w.heap.size w w')) ?_ ?_
   rotate_left
   ·intro hJ2_3_7
    refine join_ (σ := Value × Value × Nat) 3 (bb 9 187) (fun s_ => [(9, s_.1), (11, s_.2.1), (5, .pointer (some ⟨s_.2.2, 0, none⟩))]) (fun s_ w' => (w'.cell? ⟨gb220, 0, none⟩ = some (.int .i64 a0_0) ∧ w'.cell? ⟨gb220, 1, none⟩ = some (.int .i64 a0_1) ∧ w'.cell? ⟨gb220, 2, none⟩ = some (.int .i64 a0_2) ∧ w'.cell? ⟨gb220, 3, none⟩ = some (.slice A0_3 l0_3.length c0_3)) ∧ (Kd.R (Kd.int .i64) 2 w' w.heap.size (fun _ => True) s_.2.1 y228) ∧ (w'.heap[gb220]? = some (.cells #[.int .i64 a0_0, .int .i64 a0_1, .int .i64 a0_2, .slice A0_3 l0_3.length c0_3] 63 (0, 0))) ∧ (w'.heap[gb221]? = some (.cells #[.int .i64 0, .int .i64 0, .int .i64 0, .int .i64 0, .slice none 0 0, .slice none 0 0, .slice none 0 0, .int .i64 0] 39 (0, 0))) ∧ (w'.heap[s_.2.2]? = some (.cells #[.int .i64 0, .int .i64 0, .int .i64 0, .int .i64 0, .slice none 0 0, .slice none 0 0, .slice none 0 0, .int .i64 0] 39 (0, 0))) ∧ (w.heap.size ≤ s_.2.2) ∧ (w.heap.size ≤ s_.2.2) ∧ (gb220 ≠ s_.2.2) ∧ (s_.2.2 ≠ gb220) ∧ (gb221 ≠ s_.2.2) ∧ (s_.2.2 ≠ gb221) ∧ (Below w.heap.size w w')) ?_ ?_
    rotate_left
    ·intro hJ3_5_7
     refine join_ (σ := Value × Value) 4 (bb 9 31) (fun s_ => [(8, s_.1), (9, s_.2)]) (fun s_ w' => (w'.cell? ⟨gb220, 0, none⟩ = some (.int .i64 a0_0) ∧ w'.cell? ⟨gb220, 1, none⟩ = some (.int .i64 a0_1) ∧ w'.cell? ⟨gb220, 2, none⟩ = some (.int .i64 a0_2) ∧ w'.cell? ⟨gb220, 3, none⟩ = some (.slice A0_3 l0_3.length c0_3)) ∧ (Kd.R (Kd.int .i64) 2 w' w.heap.size (fun k_ => some k_ ≠ (s_.2 : Value).ownBlock) s_.1 y222) ∧ (Kd.R (Kd.int .i64) 2 w' w.heap.size (fun k_ => some k_ ≠ (s_.1 : Value).ownBlock) s_.2 y225) ∧ (w'.heap[gb220]? = some (.cells #[.int .i64 a0_0, .int .i64 a0_1, .int .i64 a0_2, .slice A0_3 l0_3.length c0_3] 63 (0, 0))) ∧ (w'.heap[gb221]? = some (.cells #[.int .i64 0, .int .i64 0, .int .i64 0, .int .i64 0, .slice none 0 0, .slice none 0 0, .slice none 0 0, .int .i64 0] 39 (0, 0))) ∧ (Below w.heap.size w w')) ?_ ?_
     rotate_left
     ·intro hJ2_3
      refine join_ (σ := Value × Nat) 4 (bb 9 151) (fun s_ => [(8, s_.1), (5, .pointer (some ⟨s_.2, 0, none⟩))]) (fun s_ w' => (w'.cell? ⟨gb220, 0, none⟩ = some (.int .i64 a0_0) ∧ w'.cell? ⟨gb220, 1, none⟩ = some (.int .i64 a0_1) ∧ w'.cell? ⟨gb220, 2, none⟩ = some (.int .i64 a0_2) ∧ w'.cell? ⟨gb220, 3, none⟩ = some (.slice A0_3 l0_3.length c0_3)) ∧ (Kd.R (Kd.int .i64) 2 w' w.heap.size (fun _ => True) s_.1 y222) ∧ (w'.heap[gb220]? = some (.cells #[.int .i64 a0_0, .int .i64 a0_1, .int .i64 a0_2, .slice A0_3 l0_3.length c0_3] 63 (0, 0))) ∧ (w'.heap[gb221]? = some (.cells #[.int .i64 0, .int .i64 0, .int .i64 0, .int .i64 0, .slice none 0 0, .slice none 0 0, .slice none 0 0, .int .i64 0] 39 (0, 0))) ∧ (w'.heap[s_.2]? = some (.cells #[.int .i64 0, .int .i64 0, .int .i64 0, .int .i64 0, .slice none 0 0, .slice none 0 0, .slice none 0 0, .int .i64 0] 39 (0, 0))) ∧ (w.heap.size ≤ s_.2) ∧ (w.heap.size ≤ s_.2) ∧ (gb220 ≠ s_.2) ∧ (s_.2 ≠ gb220) ∧ (gb221 ≠ s_.2) ∧ (s_.2 ≠ gb221) ∧ (Below w.heap.size w w')) ?_ ?_
      rotate_left
      ·intro hJ2_7
       refine join_ (σ := Value × Value) 4 (bb 9 59) (fun s_ => [(9, s_.1), (11, s_.2)]) (fun s_ w' => (w'.cell? ⟨gb220, 0, none⟩ = some (.int .i64 a0_0) ∧ w'.cell? ⟨gb220, 1, none⟩ = some (.int .i64 a0_1) ∧ w'.cell? ⟨gb220, 2, none⟩ = some (.int .i64 a0_2) ∧ w'.cell? ⟨gb220, 3, none⟩ = some (.slice A0_3 l0_3.length c0_3)) ∧ (Kd.R (Kd.int .i64) 2 w' w.heap.size (fun _ => True) s_.2 y228) ∧ (w'.heap[gb220]? = some (.cells #[.int .i64 a0_0, .int .i64 a0_1, .int .i64 a0_2, .slice A0_3 l0_3.length c0_3] 63 (0, 0))) ∧ (w'.heap[gb221]? = some (.cells #[.int .i64 0, .int .i64 0, .int .i64 0, .int .i64 0, .slice none 0 0, .slice none 0 0, .slice none 0 0, .int .i64 0] 39 (0, 0))) ∧ (Below w.heap.size w w')) ?_ ?_
       rotate_left
       ·intro hJ3_5
        refine join_ (σ := Value × Nat) 4 (bb 9 155) (fun s_ => [(9, s_.1), (5, .pointer (some ⟨s_.2, 0, none⟩))]) (fun s_ w' => (w'.cell? ⟨gb220, 0, none⟩ = some (.int .i64 a0_0) ∧ w'.cell? ⟨gb220, 1, none⟩ = some (.int .i64 a0_1) ∧ w'.cell? ⟨gb220, 2, none⟩ = some (.int .i64 a0_2) ∧ w'.cell? ⟨gb220, 3, none⟩ = some (.slice A0_3 l0_3.length c0_3)) ∧ (Kd.R (Kd.int .i64) 2 w' w.heap.size (fun _ => True) s_.1 y225) ∧ (w'.heap[gb220]? = some (.cells #[.int .i64 a0_0, .int .i64 a0_1, .int .i64 a0_2, .slice A0_3 l0_3.length c0_3] 63 (0, 0))) ∧ (w'.heap[gb221]? = some (.cells #[.int .i64 0, .int .i64 0, .int .i64 0, .int .i64 0, .slice none 0 0, .slice none 0 0, .slice none 0 0, .int .i64 0] 39 (0, 0))) ∧ (w'.heap[s_.2]? = some (.cells #[.int .i64 0, .int .i64 0, .int .i64 0, .int .i64 0, .slice none 0 0, .slice none 0 0, .slice none 0 0, .int .i64 0] 39 (0, 0))) ∧ (w.heap.size ≤ s_.2) ∧ (w.heap.size ≤ s_.2) ∧ (gb220 ≠ s_.2) ∧ (s_.2 ≠ gb220) ∧ (gb221 ≠ s_.2) ∧ (s_.2 ≠ gb221) ∧ (Below w.heap.size w w')) ?_ ?_
        rotate_left
        ·intro hJ3_7
         refine join_ (σ := Value) 5 (bb 9 23) (fun s_ => [(8, s_)]) (fun s_ w' => (w'.cell? ⟨gb220, 0, none⟩ = some (.int .i64 a0_0) ∧ w'.cell? ⟨gb220, 1, none⟩ = some (.int .i64 a0_1) ∧ w'.cell? ⟨gb220, 2, none⟩ = some (.int .i64 a0_2) ∧ w'.cell? ⟨gb220, 3, none⟩ = some (.slice A0_3 l0_3.length c0_3)) ∧ (Kd.R (Kd.int .i64) 2 w' w.heap.size (fun _ => True) s_ y222) ∧ (w'.heap[gb220]? = some (.cells #[.int .i64 a0_0, .int .i64 a0_1, .int .i64 a0_2, .slice A0_3 l0_3.length c0_3] 63 (0, 0))) ∧ (w'.heap[gb221]? = some (.cells #[.int .i64 0, .int .i64 0, .int .i64 0, .int .i64 0, .slice none 0 0, .slice none 0 0, .slice none 0 0, .int .i64 0] 39 (0, 0))) ∧ (Below w.heap.size w w')) ?_ ?_
         rotate_left
         ·intro hJ2
          refine join_ (σ := Value) 5 (bb 9 27) (fun s_ => [(9, s_)]) (fun s_ w' => (w'.cell? ⟨gb220, 0, none⟩ = some (.int .i64 a0_0) ∧ w'.cell? ⟨gb220, 1, none⟩ = some (.int .i64 a0_1) ∧ w'.cell? ⟨gb220, 2, none⟩ = some (.int .i64 a0_2) ∧ w'.cell? ⟨gb220, 3, none⟩ = some (.slice A0_3 l0_3.length c0_3)) ∧ (Kd.R (Kd.int .i64) 2 w' w.heap.size (fun _ => True) s_ y225) ∧ (w'.heap[gb220]? = some (.cells #[.int .i64 a0_0, .int .i64 a0_1, .int .i64 a0_2, .slice A0_3 l0_3.length c0_3] 63 (0, 0))) ∧ (w'.heap[gb221]? = some (.cells #[.int .i64 0, .int .i64 0, .int .i64 0, .int .i64 0, .slice none 0 0, .slice none 0 0, .slice none 0 0, .int .i64 0] 39 (0, 0))) ∧ (Below w.heap.size w w')) ?_ ?_
          rotate_left
          ·intro hJ3
           refine join_ (σ := Nat) 5 (bb 9 147) (fun s_ => [(5, .pointer (some ⟨s_, 0, none⟩))]) (fun s_ w' => (w'.cell? ⟨gb220, 0, none⟩ = some (.int .i64 a0_0) ∧ w'.cell? ⟨gb220, 1, none⟩ = some (.int .i64 a0_1) ∧ w'.cell? ⟨gb220, 2, none⟩ = some (.int .i64 a0_2) ∧ w'.cell? ⟨gb220, 3, none⟩ = some (.slice A0_3 l0_3.length c0_3)) ∧ (w'.heap[gb220]? = some (.cells #[.int .i64 a0_0, .int .i64 a0_1, .int .i64 a0_2, .slice A0_3 l0_3.length c0_3] 63 (0, 0))) ∧ (w'.heap[gb221]? = some (.cells #[.int .i64 0, .int .i64 0, .int .i64 0, .int .i64 0, .slice none 0 0, .slice none 0 0, .slice none 0 0, .int .i64 0] 39 (0, 0))) ∧ (w'.heap[s_]? = some (.cells #[.int .i64 0, .int .i64 0, .int .i64 0, .int .i64 0, .slice none 0 0, .slice none 0 0, .slice none 0 0, .int .i64 0] 39 (0, 0))) ∧ (w.heap.size ≤ s_) ∧ (w.heap.size ≤ s_) ∧ (gb220 ≠ s_) ∧ (s_ ≠ gb220) ∧ (gb221 ≠ s_) ∧ (s_ ≠ gb221) ∧ (Below w.heap.size w w')) ?_ ?_
           rotate_left
           ·intro hJ7
            refine three_ (i := 2) (j := 3) (k := 7) (Ni := some 8) (Nj := some 9) (Nk := some 5) (bb 9 23) (bb 9 27) (bb 9 147) rfl rfl rfl rfl rfl rfl (three_of HT_.out (by kernel_rfl)) (by decide) (by decide) (by decide) (fun K hK => ?_) (fun K hK => ?_) (fun K hK => ?_)
            ·skip
             refine Kd.R_make_step (Kd.int .i64) _ 2 (by rfl) (N := 8) rfl 35 _ _ rfl a0_1 rfl rfl Try.underlying35 (.int .i64 0) 8 info2 rfl (by decide) (by omega) 0 (ok := fun _ => True) (okp := fun _ => True) rfl (fun _ hk => hk) trivial (of_decide_eq_true (by first | (with_reducible assumption) | assumption)) (Nat.le_trans (Nat.mul_le_mul_right _ (of_decide_eq_true (by first | (with_reducible assumption) | assumption) : a0_1.toNat ≤ 35184372088832)) (by omega)) (Below.refl _ _) (Nat.le_refl _) ?_
             intro v223 w9 ho10 hb hg_ hnew_
             clear hg_ hnew_
             (first | rw [← Ny222.out] at ho10 | (simp only [Int.reduceToNat] at ho10; rw [← Ny222.out] at ho10))
             have HO224 := As0 (Kd.R_lower ho10 (below_size (BU HB.out)))
             replace BK220 := As0 (blk_below (bU BK220.out) hb)
             replace BK221 := As0 (blk_below (bU BK221.out) hb)
             replace HB := As0 (below_step (BU HB.out) hb)
             clear hb ho10
             refine hK.out _ _ ⟨(blk_cell BK220.out 0).trans rfl, (blk_cell BK220.out 1).trans rfl, (blk_cell BK220.out 2).trans rfl, (blk_cell BK220.out 3).trans rfl⟩ (fun hHeld => ?_)
             clear hK K
             refine norm_ (a' := ?_) ?_ ?_
             rotate_left
             ·show Act.put _ (some 8) _ = _
              simp only [Act.put, sL1, sL2, sL3, i64_w, i32_w]
              rfl
             exact norm_ (by first | (simp only [putAll, Act.put, sL1, sL2, sL3]; done) | (simp only [putAll, Act.put, sL1, sL2, sL3]; rfl)) (hJ2 (v223) _ ⟨hHeld, (RU HO224.out), (bU BK220.out), (bU BK221.out), (BU HB.out)⟩)
            ·skip
             refine Kd.R_lit_step (Kd.int .i64) _ 2 ?hg (N := 9) ?hd (xs := ([] : List Int)) (inner := []) (ok := fun _ => True) (okp := fun _ => True) ?hr ?hp (fun _ hk => hk) trivial (Below.refl _ _) (Nat.le_refl _) (by simp) ?_; (case hd => rfl); (case hg => rfl); (case hr => first | (go_simp; done) | (go_simp; rfl)); (case hp => exact (Reps.none _ _))
             intro v226 w9 ho10 hb hg_ hnew_
             clear hg_ hnew_
             (first | rw [← Ny225.out] at ho10 | (simp only [Int.reduceToNat] at ho10; rw [← Ny225.out] at ho10))
             have HO227 := As0 (Kd.R_lower ho10 (below_size (BU HB.out)))
             replace BK220 := As0 (blk_below (bU BK220.out) hb)
             replace BK221 := As0 (blk_below (bU BK221.out) hb)
             replace HB := As0 (below_step (BU HB.out) hb)
             clear hb ho10
             refine hK.out _ _ ⟨(blk_cell BK220.out 0).trans rfl, (blk_cell BK220.out 1).trans rfl, (blk_cell BK220.out 2).trans rfl, (blk_cell BK220.out 3).trans rfl⟩ (fun hHeld => ?_)
             clear hK K
             refine norm_ (a' := ?_) ?_ ?_
             rotate_left
             ·show Act.put _ (some 9) _ = _
              simp only [Act.put, sL1, sL2, sL3, i64_w, i32_w]
              rfl
             exact norm_ (by first | (simp only [putAll, Act.put, sL1, sL2, sL3]; done) | (simp only [putAll, Act.put, sL1, sL2, sL3]; rfl)) (hJ3 (v226) _ ⟨hHeld, (RU HO227.out), (bU BK220.out), (bU BK221.out), (BU HB.out)⟩)
            ·skip
             refine box_step ?hg (N := 5) ?hd (cs := #[.int .i64 0, .int .i64 0, .int .i64 0, .int .i64 0, .slice none 0 0, .slice none 0 0, .slice none 0 0, .int .i64 0]) (t := 39) ?hr ?_; (case hd => rfl); (case hg => rfl); (case hr => first | (go_simp; done) | (go_simp; rfl))
             intro gb231 hg w9 hbox hb
             have BK231 := As0 (hbox)
             have GW231 := As0 ((by rw [hg]; exact (below_size (BU HB.out)) : w.heap.size ≤ gb231))
             have GE231 := As0 ((by rw [hg]; exact (below_size (BU HB.out)) : w.heap.size ≤ gb231))
             replace HB := As0 (below_step (BU HB.out) hb)
             have NB220_231 := As0 ((by rw [hg]; exact Nat.ne_of_lt (blk_lt (bU BK220.out)) : gb220 ≠ gb231))
             have NB231_220 := As0 ((by rw [hg]; exact Nat.ne_of_gt (blk_lt (bU BK220.out)) : gb231 ≠ gb220))
             replace BK220 := As0 (blk_below (bU BK220.out) hb)
             have NB221_231 := As0 ((by rw [hg]; exact Nat.ne_of_lt (blk_lt (bU BK221.out)) : gb221 ≠ gb231))
             have NB231_221 := As0 ((by rw [hg]; exact Nat.ne_of_gt (blk_lt (bU BK221.out)) : gb231 ≠ gb221))
             replace BK221 := As0 (blk_below (bU BK221.out) hb)
             clear hb hbox hg
             refine hK.out _ _ ⟨(blk_cell BK220.out 0).trans rfl, (blk_cell BK220.out 1).trans rfl, (blk_cell BK220.out 2).trans rfl, (blk_cell BK220.out 3).trans rfl⟩ (fun hHeld => ?_)
             clear hK K
             refine norm_ (a' := ?_) ?_ ?_
             rotate_left
             ·show Act.put _ (some 5) _ = _
              simp only [Act.put, sL1, sL2, sL3, i64_w, i32_w]
              rfl
             exact norm_ (by first | (simp only [putAll, Act.put, sL1, sL2, sL3]; done) | (simp only [putAll, Act.put, sL1, sL2, sL3]; rfl)) (hJ7 (gb231) _ ⟨hHeld, (bU BK220.out), (bU BK221.out), (bU BK231.out), GW231.out, GE231.out, NB220_231.out, NB231_220.out, NB221_231.out, NB231_221.out, (BU HB.out)⟩)
           ·skip
            rintro gb231 w10 ⟨hS_, h0_, h1_, h2_, h3_, h4_, h5_, h6_, h7_, h8_, h9_⟩
            replace BK220 : Aside0 (w10.heap[gb220]? = some (.cells #[.int .i64 a0_0, .int .i64 a0_1, .int .i64 a0_2, .slice A0_3 l0_3.length c0_3] 63 (0, 0))) := ⟨h0_⟩
            replace BK221 : Aside0 (w10.heap[gb221]? = some (.cells #[.int .i64 0, .int .i64 0, .int .i64 0, .int .i64 0, .slice none 0 0, .slice none 0 0, .slice none 0 0, .int .i64 0] 39 (0, 0))) := ⟨h1_⟩
            have BK231 : Aside0 (w10.heap[gb231]? = some (.cells #[.int .i64 0, .int .i64 0, .int .i64 0, .int .i64 0, .slice none 0 0, .slice none 0 0, .slice none 0 0, .int .i64 0] 39 (0, 0))) := ⟨h2_⟩
            have GW231 : Aside0 (w.heap.size ≤ gb231) := ⟨h3_⟩
            have GE231 : Aside0 (w.heap.size ≤ gb231) := ⟨h4_⟩
            have NB220_231 : Aside0 (gb220 ≠ gb231) := ⟨h5_⟩
            have NB231_220 : Aside0 (gb231 ≠ gb220) := ⟨h6_⟩
            have NB221_231 : Aside0 (gb221 ≠ gb231) := ⟨h7_⟩
            have NB231_221 : Aside0 (gb231 ≠ gb221) := ⟨h8_⟩
            replace HB : Aside0 (Below w.heap.size w w10) := ⟨h9_⟩
            clear h0_ h1_ h2_ h3_ h4_ h5_ h6_ h7_ h8_ h9_
            have hHeld : w10.cell? ⟨gb220, 0, none⟩ = some (.int .i64 a0_0) ∧ w10.cell? ⟨gb220, 1, none⟩ = some (.int .i64 a0_1) ∧ w10.cell? ⟨gb220, 2, none⟩ = some (.int .i64 a0_2) ∧ w10.cell? ⟨gb220, 3, none⟩ = some (.slice A0_3 l0_3.length c0_3) := hS_
            refine norm_ (a' := ?_) ?_ ?_
            rotate_left
            ·simp only [putAll, Act.put, sL1, sL2, sL3]
             rfl
            refine two_ (i := 2) (j := 3) (Ni := some 8) (Nj := some 9) (bb 9 151) (bb 9 155) rfl rfl rfl rfl (two_of HT_.out (by kernel_rfl)) (by decide) (by decide) (fun K hK => ?_) (fun K hK => ?_)
            ·skip
             refine Kd.R_make_step (Kd.int .i64) _ 2 (by rfl) (N := 8) rfl 35 _ _ rfl a0_1 rfl rfl Try.underlying35 (.int .i64 0) 8 info2 rfl (by decide) (by omega) 0 (ok := fun _ => True) (okp := fun _ => True) rfl (fun _ hk => hk) trivial (of_decide_eq_true (by first | (with_reducible assumption) | assumption)) (Nat.le_trans (Nat.mul_le_mul_right _ (of_decide_eq_true (by first | (with_reducible assumption) | assumption) : a0_1.toNat ≤ 35184372088832)) (by omega)) (Below.refl _ _) (Nat.le_refl _) ?_
             intro v223 w11 ho12 hb hg_ hnew_
             clear hg_ hnew_
             (first | rw [← Ny222.out] at ho12 | (simp only [Int.reduceToNat] at ho12; rw [← Ny222.out] at ho12))
             have HO224 := As0 (Kd.R_lower ho12 (below_size (BU HB.out)))
             replace BK220 := As0 (blk_below (bU BK220.out) hb)
             replace BK221 := As0 (blk_below (bU BK221.out) hb)
             replace BK231 := As0 (blk_below (bU BK231.out) hb)
             replace HB := As0 (below_step (BU HB.out) hb)
             clear hb ho12
             refine hK.out _ _ ⟨(blk_cell BK220.out 0).trans rfl, (blk_cell BK220.out 1).trans rfl, (blk_cell BK220.out 2).trans rfl, (blk_cell BK220.out 3).trans rfl⟩ (fun hHeld => ?_)
             clear hK K
             refine norm_ (a' := ?_) ?_ ?_
             rotate_left
             ·show Act.put _ (some 8) _ = _
              simp only [Act.put, sL1, sL2, sL3, i64_w, i32_w]
              rfl
             exact norm_ (by first | (simp only [putAll, Act.put, sL1, sL2, sL3]; done) | (simp only [putAll, Act.put, sL1, sL2, sL3]; rfl)) (hJ2_7 (v223, gb231) _ ⟨hHeld, (RU HO224.out), (bU BK220.out), (bU BK221.out), (bU BK231.out), GW231.out, GE231.out, NB220_231.out, NB231_220.out, NB221_231.out, NB231_221.out, (BU HB.out)⟩)
            ·skip
             refine Kd.R_lit_step (Kd.int .i64) _ 2 ?hg (N := 9) ?hd (xs := ([] : List Int)) (inner := []) (ok := fun _ => True) (okp := fun _ => True) ?hr ?hp (fun _ hk => hk) trivial (Below.refl _ _) (Nat.le_refl _) (by simp) ?_; (case hd => rfl); (case hg => rfl); (case hr => first | (go_simp; done) | (go_simp; rfl)); (case hp => exact (Reps.none _ _))
             intro v226 w11 ho12 hb hg_ hnew_
             clear hg_ hnew_
             (first | rw [← Ny225.out] at ho12 | (simp only [Int.reduceToNat] at ho12; rw [← Ny225.out] at ho12))
             have HO227 := As0 (Kd.R_lower ho12 (below_size (BU HB.out)))
             replace BK220 := As0 (blk_below (bU BK220.out) hb)
             replace BK221 := As0 (blk_below (bU BK221.out) hb)
             replace BK231 := As0 (blk_below (bU BK231.out) hb)
             replace HB := As0 (below_step (BU HB.out) hb)
             clear hb ho12
             refine hK.out _ _ ⟨(blk_cell BK220.out 0).trans rfl, (blk_cell BK220.out 1).trans rfl, (blk_cell BK220.out 2).trans rfl, (blk_cell BK220.out 3).trans rfl⟩ (fun hHeld => ?_)
             clear hK K
             refine norm_ (a' := ?_) ?_ ?_
             rotate_left
             ·show Act.put _ (some 9) _ = _
              simp only [Act.put, sL1, sL2, sL3, i64_w, i32_w]
              rfl
             exact norm_ (by first | (simp only [putAll, Act.put, sL1, sL2, sL3]; done) | (simp only [putAll, Act.put, sL1, sL2, sL3]; rfl)) (hJ3_7 (v226, gb231) _ ⟨hHeld, (RU HO227.out), (bU BK220.out), (bU BK221.out), (bU BK231.out), GW231.out, GE231.out, NB220_231.out, NB231_220.out, NB221_231.out, NB231_221.out, (BU HB.out)⟩)
          ·skip
           rintro v226 w11 ⟨hS_, h0_, h1_, h2_, h3_⟩
           have HO227 : Aside0 (Kd.R (Kd.int .i64) 2 w11 w.heap.size (fun _ => True) v226 y225) := ⟨h0_⟩
           replace BK220 : Aside0 (w11.heap[gb220]? = some (.cells #[.int .i64 a0_0, .int .i64 a0_1, .int .i64 a0_2, .slice A0_3 l0_3.length c0_3] 63 (0, 0))) := ⟨h1_⟩
           replace BK221 : Aside0 (w11.heap[gb221]? = some (.cells #[.int .i64 0, .int .i64 0, .int .i64 0, .int .i64 0, .slice none 0 0, .slice none 0 0, .slice none 0 0, .int .i64 0] 39 (0, 0))) := ⟨h2_⟩
           replace HB : Aside0 (Below w.heap.size w w11) := ⟨h3_⟩
           clear h0_ h1_ h2_ h3_
           have hHeld : w11.cell? ⟨gb220, 0, none⟩ = some (.int .i64 a0_0) ∧ w11.cell? ⟨gb220, 1, none⟩ = some (.int .i64 a0_1) ∧ w11.cell? ⟨gb220, 2, none⟩ = some (.int .i64 a0_2) ∧ w11.cell? ⟨gb220, 3, none⟩ = some (.slice A0_3 l0_3.length c0_3) := hS_
           refine norm_ (a' := ?_) ?_ ?_
           rotate_left
           ·simp only [putAll, Act.put, sL1, sL2, sL3]
            rfl
           refine three_ (i := 2) (j := 5) (k := 7) (Ni := some 8) (Nj := some 11) (Nk := some 5) (bb 9 31) (bb 9 59) (bb 9 155) rfl rfl rfl rfl rfl rfl (three_of HT_.out (by kernel_rfl)) (by decide) (by decide) (by decide) (fun K hK => ?_) (fun K hK => ?_) (fun K hK => ?_)
           ·skip
            refine Kd.R_make_step (Kd.int .i64) _ 2 (by rfl) (N := 8) rfl 35 _ _ rfl a0_1 rfl rfl Try.underlying35 (.int .i64 0) 8 info2 rfl (by decide) (by omega) 0 (ok := fun _ => True) (okp := fun _ => True) rfl (fun _ hk => hk) trivial (of_decide_eq_true (by first | (with_reducible assumption) | assumption)) (Nat.le_trans (Nat.mul_le_mul_right _ (of_decide_eq_true (by first | (with_reducible assumption) | assumption) : a0_1.toNat ≤ 35184372088832)) (by omega)) (Below.refl _ _) (Nat.le_refl _) ?_
            intro v223 w12 ho13 hb hg_ hnew_
            clear hg_ hnew_
            (first | rw [← Ny222.out] at ho13 | (simp only [Int.reduceToNat] at ho13; rw [← Ny222.out] at ho13))
            have HO224 := As0 (Kd.R_lower (Kd.R_new' ho13 (Kd.R_lt (RU HO227.out))) (below_size (BU HB.out)))
            replace HO227 := As0 (Kd.R_elder' (RU HO227.out) (Kd.R_base ho13) hb)
            replace BK220 := As0 (blk_below (bU BK220.out) hb)
            replace BK221 := As0 (blk_below (bU BK221.out) hb)
            replace HB := As0 (below_step (BU HB.out) hb)
            clear hb ho13
            refine hK.out _ _ ⟨(blk_cell BK220.out 0).trans rfl, (blk_cell BK220.out 1).trans rfl, (blk_cell BK220.out 2).trans rfl, (blk_cell BK220.out 3).trans rfl⟩ (fun hHeld => ?_)
            clear hK K
            refine norm_ (a' := ?_) ?_ ?_
            rotate_left
            ·show Act.put _ (some 8) _ = _
             simp only [Act.put, sL1, sL2, sL3, i64_w, i32_w]
             rfl
            exact norm_ (by first | (simp only [putAll, Act.put, sL1, sL2, sL3]; done) | (simp only [putAll, Act.put, sL1, sL2, sL3]; rfl)) (hJ2_3 (v223, v226) _ ⟨hHeld, (RU (Kd.R_mono HO224.out (fun _ hk => hk.2))), (RU (Kd.R_mono HO227.out (fun _ hk => hk.2))), (bU BK220.out), (bU BK221.out), (BU HB.out)⟩)
           ·skip
            refine Kd.R_append_rows_step (Kd.int .i64) (w0 := w) w.heap.size (by rfl) (.tmp 9) (.tmp 10) 35 2 (.int .i64 0) 8 rfl Try.underlying35 info2 rfl (by decide) (by omega) v226 y225 l1 _ _ _ (fun _ => True) (fun _ => False) rfl rfl ?aO ?aR (fun _ _ h => h) (fun _ h => h.elim) ?aF ?aB ?aS ?aL ?_
            (case aR => repeat (first | exact (Kd.C_below HR1.out HB.out) | (with_reducible refine Kd.C_alloc ?_ _) | (with_reducible refine Kd.C_drewN ?_ _) | (with_reducible refine Kd.C_drew ?_)))
            (case aB => exact (BU HB.out))
            (case aF => exact (fun _ _ => trivial))
            (case aO => exact (RU HO227.out))
            (case aS => exact (below_size (BU HB.out)))
            (case aL => have := LMc5.out; omega)
            intro v229 w12 ho hb hg hat
            rw [← Ny228.out] at ho
            replace BK220 := As0 (blk_grown (bU BK220.out) hg (Kd.R_ne HO227.out BK220.out (by decide)))
            replace BK221 := As0 (blk_grown (bU BK221.out) hg (Kd.R_ne HO227.out BK221.out (by decide)))
            replace HB := As0 (hb)
            have HO230 := As0 (ho)
            clear HO227 ho hb hg hat
            refine hK.out _ _ ⟨(blk_cell BK220.out 0).trans rfl, (blk_cell BK220.out 1).trans rfl, (blk_cell BK220.out 2).trans rfl, (blk_cell BK220.out 3).trans rfl⟩ (fun hHeld => ?_)
            clear hK K
            refine norm_ (a' := ?_) ?_ ?_
            rotate_left
            ·show Act.put _ (some 11) _ = _
             simp only [Act.put, sL1, sL2, sL3, i64_w, i32_w]
             rfl
            exact norm_ (by first | (simp only [putAll, Act.put, sL1, sL2, sL3]; done) | (simp only [putAll, Act.put, sL1, sL2, sL3]; rfl)) (hJ3_5 (v226, v229) _ ⟨hHeld, (RU HO230.out), (bU BK220.out), (bU BK221.out), (BU HB.out)⟩)
           ·skip
            refine box_step ?hg (N := 5) ?hd (cs := #[.int .i64 0, .int .i64 0, .int .i64 0, .int .i64 0, .slice none 0 0, .slice none 0 0, .slice none 0 0, .int .i64 0]) (t := 39) ?hr ?_; (case hd => rfl); (case hg => rfl); (case hr => first | (go_simp; done) | (go_simp; rfl))
            intro gb231 hg w12 hbox hb
            replace HO227 := As0 (Kd.R_below (RU HO227.out) hb)
            have BK231 := As0 (hbox)
            have GW231 := As0 ((by rw [hg]; exact (below_size (BU HB.out)) : w.heap.size ≤ gb231))
            have GE231 := As0 ((by rw [hg]; exact (below_size (BU HB.out)) : w.heap.size ≤ gb231))
            replace HB := As0 (below_step (BU HB.out) hb)
            have NB220_231 := As0 ((by rw [hg]; exact Nat.ne_of_lt (blk_lt (bU BK220.out)) : gb220 ≠ gb231))
            have NB231_220 := As0 ((by rw [hg]; exact Nat.ne_of_gt (blk_lt (bU BK220.out)) : gb231 ≠ gb220))
            replace BK220 := As0 (blk_below (bU BK220.out) hb)
            have NB221_231 := As0 ((by rw [hg]; exact Nat.ne_of_lt (blk_lt (bU BK221.out)) : gb221 ≠ gb231))
            have NB231_221 := As0 ((by rw [hg]; exact Nat.ne_of_gt (blk_lt (bU BK221.out)) : gb231 ≠ gb221))
            replace BK221 := As0 (blk_below (bU BK221.out) hb)
            clear hb hbox hg
            refine hK.out _ _ ⟨(blk_cell BK220.out 0).trans rfl, (blk_cell BK220.out 1).trans rfl, (blk_cell BK220.out 2).trans rfl, (blk_cell BK220.out 3).trans rfl⟩ (fun hHeld => ?_)
            clear hK K
            refine norm_ (a' := ?_) ?_ ?_
            rotate_left
            ·show Act.put _ (some 5) _ = _
             simp only [Act.put, sL1, sL2, sL3, i64_w, i32_w]
             rfl
            exact norm_ (by first | (simp only [putAll, Act.put, sL1, sL2, sL3]; done) | (simp only [putAll, Act.put, sL1, sL2, sL3]; rfl)) (hJ3_7 (v226, gb231) _ ⟨hHeld, (RU HO227.out), (bU BK220.out), (bU BK221.out), (bU BK231.out), GW231.out, GE231.out, NB220_231.out, NB231_220.out, NB221_231.out, NB231_221.out, (BU HB.out)⟩)
         ·skip
          rintro v223 w11 ⟨hS_, h0_, h1_, h2_, h3_⟩
          have HO224 : Aside0 (Kd.R (Kd.int .i64) 2 w11 w.heap.size (fun _ => True) v223 y222) := ⟨h0_⟩
          replace BK220 : Aside0 (w11.heap[gb220]? = some (.cells #[.int .i64 a0_0, .int .i64 a0_1, .int .i64 a0_2, .slice A0_3 l0_3.length c0_3] 63 (0, 0))) := ⟨h1_⟩
          replace BK221 : Aside0 (w11.heap[gb221]? = some (.cells #[.int .i64 0, .int .i64 0, .int .i64 0, .int .i64 0, .slice none 0 0, .slice none 0 0, .slice none 0 0, .int .i64 0] 39 (0, 0))) := ⟨h2_⟩
          replace HB : Aside0 (Below w.heap.size w w11) := ⟨h3_⟩
          clear h0_ h1_ h2_ h3_
          have hHeld : w11.cell? ⟨gb220, 0, none⟩ = some (.int .i64 a0_0) ∧ w11.cell? ⟨gb220, 1, none⟩ = some (.int .i64 a0_1) ∧ w11.cell? ⟨gb220, 2, none⟩ = some (.int .i64 a0_2) ∧ w11.cell? ⟨gb220, 3, none⟩ = some (.slice A0_3 l0_3.length c0_3) := hS_
          refine norm_ (a' := ?_) ?_ ?_
          rotate_left
          ·simp only [putAll, Act.put, sL1, sL2, sL3]
           rfl
          refine two_ (i := 3) (j := 7) (Ni := some 9) (Nj := some 5) (bb 9 31) (bb 9 151) rfl rfl rfl rfl (two_of HT_.out (by kernel_rfl)) (by decide) (by decide) (fun K hK => ?_) (fun K hK => ?_)
          ·skip
           refine Kd.R_lit_step (Kd.int .i64) _ 2 ?hg (N := 9) ?hd (xs := ([] : List Int)) (inner := []) (ok := fun _ => True) (okp := fun _ => True) ?hr ?hp (fun _ hk => hk) trivial (Below.refl _ _) (Nat.le_refl _) (by simp) ?_; (case hd => rfl); (case hg => rfl); (case hr => first | (go_simp; done) | (go_simp; rfl)); (case hp => exact (Reps.none _ _))
           intro v226 w12 ho13 hb hg_ hnew_
           clear hg_ hnew_
           (first | rw [← Ny225.out] at ho13 | (simp only [Int.reduceToNat] at ho13; rw [← Ny225.out] at ho13))
           have HO227 := As0 (Kd.R_lower (Kd.R_new' ho13 (Kd.R_lt (RU HO224.out))) (below_size (BU HB.out)))
           replace HO224 := As0 (Kd.R_elder' (RU HO224.out) (Kd.R_base ho13) hb)
           replace BK220 := As0 (blk_below (bU BK220.out) hb)
           replace BK221 := As0 (blk_below (bU BK221.out) hb)
           replace HB := As0 (below_step (BU HB.out) hb)
           clear hb ho13
           refine hK.out _ _ ⟨(blk_cell BK220.out 0).trans rfl, (blk_cell BK220.out 1).trans rfl, (blk_cell BK220.out 2).trans rfl, (blk_cell BK220.out 3).trans rfl⟩ (fun hHeld => ?_)
           clear hK K
           refine norm_ (a' := ?_) ?_ ?_
           rotate_left
           ·show Act.put _ (some 9) _ = _
            simp only [Act.put, sL1, sL2, sL3, i64_w, i32_w]
            rfl
           exact norm_ (by first | (simp only [putAll, Act.put, sL1, sL2, sL3]; done) | (simp only [putAll, Act.put, sL1, sL2, sL3]; rfl)) (hJ2_3 (v223, v226) _ ⟨hHeld, (RU (Kd.R_mono HO224.out (fun _ hk => hk.2))), (RU (Kd.R_mono HO227.out (fun _ hk => hk.2))), (bU BK220.out), (bU BK221.out), (BU HB.out)⟩)
          ·skip
           refine box_step ?hg (N := 5) ?hd (cs := #[.int .i64 0, .int .i64 0, .int .i64 0, .int .i64 0, .slice none 0 0, .slice none 0 0, .slice none 0 0, .int .i64 0]) (t := 39) ?hr ?_; (case hd => rfl); (case hg => rfl); (case hr => first | (go_simp; done) | (go_simp; rfl))
           intro gb231 hg w12 hbox hb
           replace HO224 := As0 (Kd.R_below (RU HO224.out) hb)
           have BK231 := As0 (hbox)
           have GW231 := As0 ((by rw [hg]; exact (below_size (BU HB.out)) : w.heap.size ≤ gb231))
           have GE231 := As0 ((by rw [hg]; exact (below_size (BU HB.out)) : w.heap.size ≤ gb231))
           replace HB := As0 (below_step (BU HB.out) hb)
           have NB220_231 := As0 ((by rw [hg]; exact Nat.ne_of_lt (blk_lt (bU BK220.out)) : gb220 ≠ gb231))
           have NB231_220 := As0 ((by rw [hg]; exact Nat.ne_of_gt (blk_lt (bU BK220.out)) : gb231 ≠ gb220))
           replace BK220 := As0 (blk_below (bU BK220.out) hb)
           have NB221_231 := As0 ((by rw [hg]; exact Nat.ne_of_lt (blk_lt (bU BK221.out)) : gb221 ≠ gb231))
           have NB231_221 := As0 ((by rw [hg]; exact Nat.ne_of_gt (blk_lt (bU BK221.out)) : gb231 ≠ gb221))
           replace BK221 := As0 (blk_below (bU BK221.out) hb)
           clear hb hbox hg
           refine hK.out _ _ ⟨(blk_cell BK220.out 0).trans rfl, (blk_cell BK220.out 1).trans rfl, (blk_cell BK220.out 2).trans rfl, (blk_cell BK220.out 3).trans rfl⟩ (fun hHeld => ?_)
           clear hK K
           refine norm_ (a' := ?_) ?_ ?_
           rotate_left
           ·show Act.put _ (some 5) _ = _
            simp only [Act.put, sL1, sL2, sL3, i64_w, i32_w]
            rfl
           exact norm_ (by first | (simp only [putAll, Act.put, sL1, sL2, sL3]; done) | (simp only [putAll, Act.put, sL1, sL2, sL3]; rfl)) (hJ2_7 (v223, gb231) _ ⟨hHeld, (RU HO224.out), (bU BK220.out), (bU BK221.out), (bU BK231.out), GW231.out, GE231.out, NB220_231.out, NB231_220.out, NB221_231.out, NB231_221.out, (BU HB.out)⟩)
        ·skip
         rintro ⟨v226, gb231⟩ w12 ⟨hS_, h0_, h1_, h2_, h3_, h4_, h5_, h6_, h7_, h8_, h9_, h10_⟩
         have HO227 : Aside0 (Kd.R (Kd.int .i64) 2 w12 w.heap.size (fun _ => True) v226 y225) := ⟨h0_⟩
         replace BK220 : Aside0 (w12.heap[gb220]? = some (.cells #[.int .i64 a0_0, .int .i64 a0_1, .int .i64 a0_2, .slice A0_3 l0_3.length c0_3] 63 (0, 0))) := ⟨h1_⟩
         replace BK221 : Aside0 (w12.heap[gb221]? = some (.cells #[.int .i64 0, .int .i64 0, .int .i64 0, .int .i64 0, .slice none 0 0, .slice none 0 0, .slice none 0 0, .int .i64 0] 39 (0, 0))) := ⟨h2_⟩
         have BK231 : Aside0 (w12.heap[gb231]? = some (.cells #[.int .i64 0, .int .i64 0, .int .i64 0, .int .i64 0, .slice none 0 0, .slice none 0 0, .slice none 0 0, .int .i64 0] 39 (0, 0))) := ⟨h3_⟩
         have GW231 : Aside0 (w.heap.size ≤ gb231) := ⟨h4_⟩
         have GE231 : Aside0 (w.heap.size ≤ gb231) := ⟨h5_⟩
         have NB220_231 : Aside0 (gb220 ≠ gb231) := ⟨h6_⟩
         have NB231_220 : Aside0 (gb231 ≠ gb220) := ⟨h7_⟩
         have NB221_231 : Aside0 (gb221 ≠ gb231) := ⟨h8_⟩
         have NB231_221 : Aside0 (gb231 ≠ gb221) := ⟨h9_⟩
         replace HB : Aside0 (Below w.heap.size w w12) := ⟨h10_⟩
         clear h0_ h1_ h2_ h3_ h4_ h5_ h6_ h7_ h8_ h9_ h10_
         have hHeld : w12.cell? ⟨gb220, 0, none⟩ = some (.int .i64 a0_0) ∧ w12.cell? ⟨gb220, 1, none⟩ = some (.int .i64 a0_1) ∧ w12.cell? ⟨gb220, 2, none⟩ = some (.int .i64 a0_2) ∧ w12.cell? ⟨gb220, 3, none⟩ = some (.slice A0_3 l0_3.length c0_3) := hS_
         refine norm_ (a' := ?_) ?_ ?_
         rotate_left
         ·simp only [putAll, Act.put, sL1, sL2, sL3]
          rfl
         refine two_ (i := 2) (j := 5) (Ni := some 8) (Nj := some 11) (bb 9 159) (bb 9 187) rfl rfl rfl rfl (two_of HT_.out (by kernel_rfl)) (by decide) (by decide) (fun K hK => ?_) (fun K hK => ?_)
         ·skip
          refine Kd.R_make_step (Kd.int .i64) _ 2 (by rfl) (N := 8) rfl 35 _ _ rfl a0_1 rfl rfl Try.underlying35 (.int .i64 0) 8 info2 rfl (by decide) (by omega) 0 (ok := fun _ => True) (okp := fun _ => True) rfl (fun _ hk => hk) trivial (of_decide_eq_true (by first | (with_reducible assumption) | assumption)) (Nat.le_trans (Nat.mul_le_mul_right _ (of_decide_eq_true (by first | (with_reducible assumption) | assumption) : a0_1.toNat ≤ 35184372088832)) (by omega)) (Below.refl _ _) (Nat.le_refl _) ?_
          intro v223 w13 ho14 hb hg_ hnew_
          clear hg_ hnew_
          (first | rw [← Ny222.out] at ho14 | (simp only [Int.reduceToNat] at ho14; rw [← Ny222.out] at ho14))
          have HO224 := As0 (Kd.R_lower (Kd.R_new' ho14 (Kd.R_lt (RU HO227.out))) (below_size (BU HB.out)))
          replace HO227 := As0 (Kd.R_elder' (RU HO227.out) (Kd.R_base ho14) hb)
          replace BK220 := As0 (blk_below (bU BK220.out) hb)
          replace BK221 := As0 (blk_below (bU BK221.out) hb)
          replace BK231 := As0 (blk_below (bU BK231.out) hb)
          replace HB := As0 (below_step (BU HB.out) hb)
          clear hb ho14
          refine hK.out _ _ ⟨(blk_cell BK220.out 0).trans rfl, (blk_cell BK220.out 1).trans rfl, (blk_cell BK220.out 2).trans rfl, (blk_cell BK220.out 3).trans rfl⟩ (fun hHeld => ?_)
          clear hK K
          refine norm_ (a' := ?_) ?_ ?_
          rotate_left
          ·show Act.put _ (some 8) _ = _
           simp only [Act.put, sL1, sL2, sL3, i64_w, i32_w]
           rfl
          exact norm_ (by first | (simp only [putAll, Act.put, sL1, sL2, sL3]; done) | (simp only [putAll, Act.put, sL1, sL2, sL3]; rfl)) (hJ2_3_7 (v223, v226, gb231) _ ⟨hHeld, (RU (Kd.R_mono HO224.out (fun _ hk => hk.2))), (RU (Kd.R_mono HO227.out (fun _ hk => hk.2))), (bU BK220.out), (bU BK221.out), (bU BK231.out), GW231.out, GE231.out, NB220_231.out, NB231_220.out, NB221_231.out, NB231_221.out, (BU HB.out)⟩)
         ·skip
          refine Kd.R_append_rows_step (Kd.int .i64) (w0 := w) w.heap.size (by rfl) (.tmp 9) (.tmp 10) 35 2 (.int .i64 0) 8 rfl Try.underlying35 info2 rfl (by decide) (by omega) v226 y225 l1 _ _ _ (fun _ => True) (fun _ => False) rfl rfl ?aO ?aR (fun _ _ h => h) (fun _ h => h.elim) ?aF ?aB ?aS ?aL ?_
          (case aR => repeat (first | exact (Kd.C_below HR1.out HB.out) | (with_reducible refine Kd.C_alloc ?_ _) | (with_reducible refine Kd.C_drewN ?_ _) | (with_reducible refine Kd.C_drew ?_)))
          (case aB => exact (BU HB.out))
          (case aF => exact (fun _ _ => trivial))
          (case aO => exact (RU HO227.out))
          (case aS => exact (below_size (BU HB.out)))
          (case aL => have := LMc5.out; omega)
          intro v229 w13 ho hb hg hat
          rw [← Ny228.out] at ho
          replace BK220 := As0 (blk_grown (bU BK220.out) hg (Kd.R_ne HO227.out BK220.out (by decide)))
          replace BK221 := As0 (blk_grown (bU BK221.out) hg (Kd.R_ne HO227.out BK221.out (by decide)))
          replace BK231 := As0 (blk_grown (bU BK231.out) hg (Kd.R_ne HO227.out BK231.out (by decide)))
          replace HB := As0 (hb)
          have HO230 := As0 (ho)
          clear HO227 ho hb hg hat
          refine hK.out _ _ ⟨(blk_cell BK220.out 0).trans rfl, (blk_cell BK220.out 1).trans rfl, (blk_cell BK220.out 2).trans rfl, (blk_cell BK220.out 3).trans rfl⟩ (fun hHeld => ?_)
          clear hK K
          refine norm_ (a' := ?_) ?_ ?_
          rotate_left
          ·show Act.put _ (some 11) _ = _
           simp only [Act.put, sL1, sL2, sL3, i64_w, i32_w]
           rfl
          exact norm_ (by first | (simp only [putAll, Act.put, sL1, sL2, sL3]; done) | (simp only [putAll, Act.put, sL1, sL2, sL3]; rfl)) (hJ3_5_7 (v226, v229, gb231) _ ⟨hHeld, (RU HO230.out), (bU BK220.out), (bU BK221.out), (bU BK231.out), GW231.out, GE231.out, NB220_231.out, NB231_220.out, NB221_231.out, NB231_221.out, (BU HB.out)⟩)
       ·skip
        rintro ⟨v226, v229⟩ w12 ⟨hS_, h0_, h1_, h2_, h3_⟩
        have HO230 : Aside0 (Kd.R (Kd.int .i64) 2 w12 w.heap.size (fun _ => True) v229 y228) := ⟨h0_⟩
        replace BK220 : Aside0 (w12.heap[gb220]? = some (.cells #[.int .i64 a0_0, .int .i64 a0_1, .int .i64 a0_2, .slice A0_3 l0_3.length c0_3] 63 (0, 0))) := ⟨h1_⟩
        replace BK221 : Aside0 (w12.heap[gb221]? = some (.cells #[.int .i64 0, .int .i64 0, .int .i64 0, .int .i64 0, .slice none 0 0, .slice none 0 0, .slice none 0 0, .int .i64 0] 39 (0, 0))) := ⟨h2_⟩
        replace HB : Aside0 (Below w.heap.size w w12) := ⟨h3_⟩
        clear h0_ h1_ h2_ h3_
        have hHeld : w12.cell? ⟨gb220, 0, none⟩ = some (.int .i64 a0_0) ∧ w12.cell? ⟨gb220, 1, none⟩ = some (.int .i64 a0_1) ∧ w12.cell? ⟨gb220, 2, none⟩ = some (.int .i64 a0_2) ∧ w12.cell? ⟨gb220, 3, none⟩ = some (.slice A0_3 l0_3.length c0_3) := hS_
        refine norm_ (a' := ?_) ?_ ?_
        rotate_left
        ·simp only [putAll, Act.put, sL1, sL2, sL3]
         rfl
        refine two_ (i := 2) (j := 7) (Ni := some 8) (Nj := some 5) (bb 9 63) (bb 9 187) rfl rfl rfl rfl (two_of HT_.out (by kernel_rfl)) (by decide) (by decide) (fun K hK => ?_) (fun K hK => ?_)
        ·skip
         refine Kd.R_make_step (Kd.int .i64) _ 2 (by rfl) (N := 8) rfl 35 _ _ rfl a0_1 rfl rfl Try.underlying35 (.int .i64 0) 8 info2 rfl (by decide) (by omega) 0 (ok := fun _ => True) (okp := fun _ => True) rfl (fun _ hk => hk) trivial (of_decide_eq_true (by first | (with_reducible assumption) | assumption)) (Nat.le_trans (Nat.mul_le_mul_right _ (of_decide_eq_true (by first | (with_reducible assumption) | assumption) : a0_1.toNat ≤ 35184372088832)) (by omega)) (Below.refl _ _) (Nat.le_refl _) ?_
         intro v223 w13 ho14 hb hg_ hnew_
         clear hg_ hnew_
         (first | rw [← Ny222.out] at ho14 | (simp only [Int.reduceToNat] at ho14; rw [← Ny222.out] at ho14))
         have HO224 := As0 (Kd.R_lower (Kd.R_new' ho14 (Kd.R_lt (RU HO230.out))) (below_size (BU HB.out)))
         replace HO230 := As0 (Kd.R_elder' (RU HO230.out) (Kd.R_base ho14) hb)
         replace BK220 := As0 (blk_below (bU BK220.out) hb)
         replace BK221 := As0 (blk_below (bU BK221.out) hb)
         replace HB := As0 (below_step (BU HB.out) hb)
         clear hb ho14
         obtain ⟨Ao15, co15, eo15⟩ := Kd.R_slice HO230.out
         (first | subst eo15 | (injection eo15 with f1_ f2_ f3_; have f4_ := f1_.symm; have f5_ := f3_.symm; clear f1_ f2_ f3_; subst f4_; subst f5_))
         obtain ⟨Ao16, co16, eo16⟩ := Kd.R_slice HO224.out
         (first | subst eo16 | (injection eo16 with f1_ f2_ f3_; have f4_ := f1_.symm; have f5_ := f3_.symm; clear f1_ f2_ f3_; subst f4_; subst f5_))
         refine hK.out _ _ ⟨(blk_cell BK220.out 0).trans rfl, (blk_cell BK220.out 1).trans rfl, (blk_cell BK220.out 2).trans rfl, (blk_cell BK220.out 3).trans rfl⟩ (fun hHeld => ?_)
         clear hK K
         refine norm_ (a' := ?_) ?_ ?_
         rotate_left
         ·show Act.put _ (some 8) _ = _
          simp only [Act.put, sL1, sL2, sL3, i64_w, i32_w]
          rfl
         refine pv HT_.out 6 12 (bb 9 127) ?_
         exact norm_ (by first | (simp only [putAll, Act.put, sL1, sL2, sL3]; done) | (simp only [putAll, Act.put, sL1, sL2, sL3]; rfl)) (hJ2_3_5 (.slice Ao16 y222.length co16, v226, .slice Ao15 y228.length co15) _ ⟨hHeld, (RU (Kd.R_mono HO224.out (fun _ hk => hk.2))), (RU (Kd.R_mono HO230.out (fun _ hk => hk.2))), (bU BK220.out), (bU BK221.out), (BU HB.out)⟩)
        ·skip
         refine box_step ?hg (N := 5) ?hd (cs := #[.int .i64 0, .int .i64 0, .int .i64 0, .int .i64 0, .slice none 0 0, .slice none 0 0, .slice none 0 0, .int .i64 0]) (t := 39) ?hr ?_; (case hd => rfl); (case hg => rfl); (case hr => first | (go_simp; done) | (go_simp; rfl))
         intro gb231 hg w13 hbox hb
         replace HO230 := As0 (Kd.R_below (RU HO230.out) hb)
         have BK231 := As0 (hbox)
         have GW231 := As0 ((by rw [hg]; exact (below_size (BU HB.out)) : w.heap.size ≤ gb231))
         have GE231 := As0 ((by rw [hg]; exact (below_size (BU HB.out)) : w.heap.size ≤ gb231))
         replace HB := As0 (below_step (BU HB.out) hb)
         have NB220_231 := As0 ((by rw [hg]; exact Nat.ne_of_lt (blk_lt (bU BK220.out)) : gb220 ≠ gb231))
         have NB231_220 := As0 ((by rw [hg]; exact Nat.ne_of_gt (blk_lt (bU BK220.out)) : gb231 ≠ gb220))
         replace BK220 := As0 (blk_below (bU BK220.out) hb)
         have NB221_231 := As0 ((by rw [hg]; exact Nat.ne_of_lt (blk_lt (bU BK221.out)) : gb221 ≠ gb231))
         have NB231_221 := As0 ((by rw [hg]; exact Nat.ne_of_gt (blk_lt (bU BK221.out)) : gb231 ≠ gb221))
         replace BK221 := As0 (blk_below (bU BK221.out) hb)
         clear hb hbox hg
         refine hK.out _ _ ⟨(blk_cell BK220.out 0).trans rfl, (blk_cell BK220.out 1).trans rfl, (blk_cell BK220.out 2).trans rfl, (blk_cell BK220.out 3).trans rfl⟩ (fun hHeld => ?_)
         clear hK K
         refine norm_ (a' := ?_) ?_ ?_
         rotate_left
         ·show Act.put _ (some 5) _ = _
          simp only [Act.put, sL1, sL2, sL3, i64_w, i32_w]
          rfl
         exact norm_ (by first | (simp only [putAll, Act.put, sL1, sL2, sL3]; done) | (simp only [putAll, Act.put, sL1, sL2, sL3]; rfl)) (hJ3_5_7 (v226, v229, gb231) _ ⟨hHeld, (RU HO230.out), (bU BK220.out), (bU BK221.out), (bU BK231.out), GW231.out, GE231.out, NB220_231.out, NB231_220.out, NB221_231.out, NB231_221.out, (BU HB.out)⟩)
      ·skip
       rintro ⟨v223, gb231⟩ w12 ⟨hS_, h0_, h1_, h2_, h3_, h4_, h5_, h6_, h7_, h8_, h9_, h10_⟩
       have HO224 : Aside0 (Kd.R (Kd.int .i64) 2 w12 w.heap.size (fun _ => True) v223 y222) := ⟨h0_⟩
       replace BK220 : Aside0 (w12.heap[gb220]? = some (.cells #[.int .i64 a0_0, .int .i64 a0_1, .int .i64 a0_2, .slice A0_3 l0_3.length c0_3] 63 (0, 0))) := ⟨h1_⟩
       replace BK221 : Aside0 (w12.heap[gb221]? = some (.cells #[.int .i64 0, .int .i64 0, .int .i64 0, .int .i64 0, .slice none 0 0, .slice none 0 0, .slice none 0 0, .int .i64 0] 39 (0, 0))) := ⟨h2_⟩
       have BK231 : Aside0 (w12.heap[gb231]? = some (.cells #[.int .i64 0, .int .i64 0, .int .i64 0, .int .i64 0, .slice none 0 0, .slice none 0 0, .slice none 0 0, .int .i64 0] 39 (0, 0))) := ⟨h3_⟩
       have GW231 : Aside0 (w.heap.size ≤ gb231) := ⟨h4_⟩
       have GE231 : Aside0 (w.heap.size ≤ gb231) := ⟨h5_⟩
       have NB220_231 : Aside0 (gb220 ≠ gb231) := ⟨h6_⟩
       have NB231_220 : Aside0 (gb231 ≠ gb220) := ⟨h7_⟩
       have NB221_231 : Aside0 (gb221 ≠ gb231) := ⟨h8_⟩
       have NB231_221 : Aside0 (gb231 ≠ gb221) := ⟨h9_⟩
       replace HB : Aside0 (Below w.heap.size w w12) := ⟨h10_⟩
       clear h0_ h1_ h2_ h3_ h4_ h5_ h6_ h7_ h8_ h9_ h10_
       have hHeld : w12.cell? ⟨gb220, 0, none⟩ = some (.int .i64 a0_0) ∧ w12.cell? ⟨gb220, 1, none⟩ = some (.int .i64 a0_1) ∧ w12.cell? ⟨gb220, 2, none⟩ = some (.int .i64 a0_2) ∧ w12.cell? ⟨gb220, 3, none⟩ = some (.slice A0_3 l0_3.length c0_3) := hS_
       refine norm_ (a' := ?_) ?_ ?_
       rotate_left
       ·simp only [putAll, Act.put, sL1, sL2, sL3]
        rfl
       refine one_ (i := 3) (N := some 9) (bb 9 159) rfl rfl (one_of HT_.out (by kernel_rfl)) (by decide) (fun K hK => ?_)
       refine Kd.R_lit_step (Kd.int .i64) _ 2 ?hg (N := 9) ?hd (xs := ([] : List Int)) (inner := []) (ok := fun _ => True) (okp := fun _ => True) ?hr ?hp (fun _ hk => hk) trivial (Below.refl _ _) (Nat.le_refl _) (by simp) ?_; (case hd => rfl); (case hg => rfl); (case hr => first | (go_simp; done) | (go_simp; rfl)); (case hp => exact (Reps.none _ _))
       intro v226 w13 ho14 hb hg_ hnew_
       clear hg_ hnew_
       (first | rw [← Ny225.out] at ho14 | (simp only [Int.reduceToNat] at ho14; rw [← Ny225.out] at ho14))
       have HO227 := As0 (Kd.R_lower (Kd.R_new' ho14 (Kd.R_lt (RU HO224.out))) (below_size (BU HB.out)))
       replace HO224 := As0 (Kd.R_elder' (RU HO224.out) (Kd.R_base ho14) hb)
       replace BK220 := As0 (blk_below (bU BK220.out) hb)
       replace BK221 := As0 (blk_below (bU BK221.out) hb)
       replace BK231 := As0 (blk_below (bU BK231.out) hb)
       replace HB := As0 (below_step (BU HB.out) hb)
       clear hb ho14
       refine hK.out _ _ ⟨(blk_cell BK220.out 0).trans rfl, (blk_cell BK220.out 1).trans rfl, (blk_cell BK220.out 2).trans rfl, (blk_cell BK220.out 3).trans rfl⟩ (fun hHeld => ?_)
       clear hK K
       refine norm_ (a' := ?_) ?_ ?_
       rotate_left
       ·show Act.put _ (some 9) _ = _
        simp only [Act.put, sL1, sL2, sL3, i64_w, i32_w]
        rfl
       exact norm_ (by first | (simp only [putAll, Act.put, sL1, sL2, sL3]; done) | (simp only [putAll, Act.put, sL1, sL2, sL3]; rfl)) (hJ2_3_7 (v223, v226, gb231) _ ⟨hHeld, (RU (Kd.R_mono HO224.out (fun _ hk => hk.2))), (RU (Kd.R_mono HO227.out (fun _ hk => hk.2))), (bU BK220.out), (bU BK221.out), (bU BK231.out), GW231.out, GE231.out, NB220_231.out, NB231_220.out, NB221_231.out, NB231_221.out, (BU HB.out)⟩)
     ·skip
      rintro ⟨v223, v226⟩ w13 ⟨hS_, h0_, h1_, h2_, h3_, h4_⟩
      have HO224 : Aside0 (Kd.R (Kd.int .i64) 2 w13 w.heap.size (fun k_ => some k_ ≠ (v226 : Value).ownBlock) v223 y222) := ⟨h0_⟩
      have HO227 : Aside0 (Kd.R (Kd.int .i64) 2 w13 w.heap.size (fun k_ => some k_ ≠ (v223 : Value).ownBlock) v226 y225) := ⟨h1_⟩
      replace BK220 : Aside0 (w13.heap[gb220]? = some (.cells #[.int .i64 a0_0, .int .i64 a0_1, .int .i64 a0_2, .slice A0_3 l0_3.length c0_3] 63 (0, 0))) := ⟨h2_⟩
      replace BK221 : Aside0 (w13.heap[gb221]? = some (.cells #[.int .i64 0, .int .i64 0, .int .i64 0, .int .i64 0, .slice none 0 0, .slice none 0 0, .slice none 0 0, .int .i64 0] 39 (0, 0))) := ⟨h3_⟩
      replace HB : Aside0 (Below w.heap.size w w13) := ⟨h4_⟩
      clear h0_ h1_ h2_ h3_ h4_
      have hHeld : w13.cell? ⟨gb220, 0, none⟩ = some (.int .i64 a0_0) ∧ w13.cell? ⟨gb220, 1, none⟩ = some (.int .i64 a0_1) ∧ w13.cell? ⟨gb220, 2, none⟩ = some (.int .i64 a0_2) ∧ w13.cell? ⟨gb220, 3, none⟩ = some (.slice A0_3 l0_3.length c0_3) := hS_
      refine norm_ (a' := ?_) ?_ ?_
      rotate_left
      ·simp only [putAll, Act.put, sL1, sL2, sL3]
       rfl
      refine two_ (i := 5) (j := 7) (Ni := some 11) (Nj := some 5) (bb 9 63) (bb 9 159) rfl rfl rfl rfl (two_of HT_.out (by kernel_rfl)) (by decide) (by decide) (fun K hK => ?_) (fun K hK => ?_)
      ·skip
       refine Kd.R_append_rows_step (Kd.int .i64) (w0 := w) w.heap.size (by rfl) (.tmp 9) (.tmp 10) 35 2 (.int .i64 0) 8 rfl Try.underlying35 info2 rfl (by decide) (by omega) v226 y225 l1 _ _ _ (fun k_ => some k_ ≠ (v223 : Value).ownBlock) (fun _ => False) rfl rfl ?aO ?aR (fun _ _ h => h) (fun _ h => h.elim) ?aF ?aB ?aS ?aL ?_
       (case aR => repeat (first | exact (Kd.C_below HR1.out HB.out) | (with_reducible refine Kd.C_alloc ?_ _) | (with_reducible refine Kd.C_drewN ?_ _) | (with_reducible refine Kd.C_drew ?_)))
       (case aB => exact (BU HB.out))
       (case aF => exact (fun k_ hk => Kd.fresh' (Kd.R_lt (RU HO224.out)) k_ hk))
       (case aO => exact (RU HO227.out))
       (case aS => exact (below_size (BU HB.out)))
       (case aL => have := LMc5.out; omega)
       intro v229 w14 ho hb hg hat
       rw [← Ny228.out] at ho
       replace BK220 := As0 (blk_grown (bU BK220.out) hg (Kd.R_ne HO227.out BK220.out (by decide)))
       replace BK221 := As0 (blk_grown (bU BK221.out) hg (Kd.R_ne HO227.out BK221.out (by decide)))
       replace HO224 := As0 (Kd.R_after (ok := (fun _ => True)) (RU (Kd.R_mono HO224.out (fun _ hk => ⟨trivial, hk⟩))) hg hat)
       replace HB := As0 (hb)
       have HO230 := As0 (ho)
       clear HO227 ho hb hg hat
       obtain ⟨Ao15, co15, eo15⟩ := Kd.R_slice HO230.out
       (first | subst eo15 | (injection eo15 with f1_ f2_ f3_; have f4_ := f1_.symm; have f5_ := f3_.symm; clear f1_ f2_ f3_; subst f4_; subst f5_))
       obtain ⟨Ao16, co16, eo16⟩ := Kd.R_slice HO224.out
       (first | subst eo16 | (injection eo16 with f1_ f2_ f3_; have f4_ := f1_.symm; have f5_ := f3_.symm; clear f1_ f2_ f3_; subst f4_; subst f5_))
       refine hK.out _ _ ⟨(blk_cell BK220.out 0).trans rfl, (blk_cell BK220.out 1).trans rfl, (blk_cell BK220.out 2).trans rfl, (blk_cell BK220.out 3).trans rfl⟩ (fun hHeld => ?_)
       clear hK K
       refine norm_ (a' := ?_) ?_ ?_
       rotate_left
       ·show Act.put _ (some 11) _ = _
        simp only [Act.put, sL1, sL2, sL3, i64_w, i32_w]
        rfl
       refine pv HT_.out 6 12 (bb 9 127) ?_
       exact norm_ (by first | (simp only [putAll, Act.put, sL1, sL2, sL3]; done) | (simp only [putAll, Act.put, sL1, sL2, sL3]; rfl)) (hJ2_3_5 (.slice Ao16 y222.length co16, v226, .slice Ao15 y228.length co15) _ ⟨hHeld, (RU (Kd.R_mono HO224.out (fun _ hk => hk.2))), (RU HO230.out), (bU BK220.out), (bU BK221.out), (BU HB.out)⟩)
      ·skip
       refine box_step ?hg (N := 5) ?hd (cs := #[.int .i64 0, .int .i64 0, .int .i64 0, .int .i64 0, .slice none 0 0, .slice none 0 0, .slice none 0 0, .int .i64 0]) (t := 39) ?hr ?_; (case hd => rfl); (case hg => rfl); (case hr => first | (go_simp; done) | (go_simp; rfl))
       intro gb231 hg w14 hbox hb
       replace HO224 := As0 (Kd.R_below (RU HO224.out) hb)
       replace HO227 := As0 (Kd.R_below (RU HO227.out) hb)
       have BK231 := As0 (hbox)
       have GW231 := As0 ((by rw [hg]; exact (below_size (BU HB.out)) : w.heap.size ≤ gb231))
       have GE231 := As0 ((by rw [hg]; exact (below_size (BU HB.out)) : w.heap.size ≤ gb231))
       replace HB := As0 (below_step (BU HB.out) hb)
       have NB220_231 := As0 ((by rw [hg]; exact Nat.ne_of_lt (blk_lt (bU BK220.out)) : gb220 ≠ gb231))
       have NB231_220 := As0 ((by rw [hg]; exact Nat.ne_of_gt (blk_lt (bU BK220.out)) : gb231 ≠ gb220))
       replace BK220 := As0 (blk_below (bU BK220.out) hb)
       have NB221_231 := As0 ((by rw [hg]; exact Nat.ne_of_lt (blk_lt (bU BK221.out)) : gb221 ≠ gb231))
       have NB231_221 := As0 ((by rw [hg]; exact Nat.ne_of_gt (blk_lt (bU BK221.out)) : gb231 ≠ gb221))
       replace BK221 := As0 (blk_below (bU BK221.out) hb)
       clear hb hbox hg
       refine hK.out _ _ ⟨(blk_cell BK220.out 0).trans rfl, (blk_cell BK220.out 1).trans rfl, (blk_cell BK220.out 2).trans rfl, (blk_cell BK220.out 3).trans rfl⟩ (fun hHeld => ?_)
       clear hK K
       refine norm_ (a' := ?_) ?_ ?_
       rotate_left
       ·show Act.put _ (some 5) _ = _
        simp only [Act.put, sL1, sL2, sL3, i64_w, i32_w]
        rfl
       exact norm_ (by first | (simp only [putAll, Act.put, sL1, sL2, sL3]; done) | (simp only [putAll, Act.put, sL1, sL2, sL3]; rfl)) (hJ2_3_7 (v223, v226, gb231) _ ⟨hHeld, (RU HO224.out), (RU HO227.out), (bU BK220.out), (bU BK221.out), (bU BK231.out), GW231.out, GE231.out, NB220_231.out, NB231_220.out, NB221_231.out, NB231_221.out, (BU HB.out)⟩)
    ·skip
     rintro ⟨v226, v229, gb231⟩ w13 ⟨hS_, h0_, h1_, h2_, h3_, h4_, h5_, h6_, h7_, h8_, h9_, h10_⟩
     have HO230 : Aside0 (Kd.R (Kd.int .i64) 2 w13 w.heap.size (fun _ => True) v229 y228) := ⟨h0_⟩
     replace BK220 : Aside0 (w13.heap[gb220]? = some (.cells #[.int .i64 a0_0, .int .i64 a0_1, .int .i64 a0_2, .slice A0_3 l0_3.length c0_3] 63 (0, 0))) := ⟨h1_⟩
     replace BK221 : Aside0 (w13.heap[gb221]? = some (.cells #[.int .i64 0, .int .i64 0, .int .i64 0, .int .i64 0, .slice none 0 0, .slice none 0 0, .slice none 0 0, .int .i64 0] 39 (0, 0))) := ⟨h2_⟩
     have BK231 : Aside0 (w13.heap[gb231]? = some (.cells #[.int .i64 0, .int .i64 0, .int .i64 0, .int .i64 0, .slice none 0 0, .slice none 0 0, .slice none 0 0, .int .i64 0] 39 (0, 0))) := ⟨h3_⟩
     have GW231 : Aside0 (w.heap.size ≤ gb231) := ⟨h4_⟩
     have GE231 : Aside0 (w.heap.size ≤ gb231) := ⟨h5_⟩
     have NB220_231 : Aside0 (gb220 ≠ gb231) := ⟨h6_⟩
     have NB231_220 : Aside0 (gb231 ≠ gb220) := ⟨h7_⟩
     have NB221_231 : Aside0 (gb221 ≠ gb231) := ⟨h8_⟩
     have NB231_221 : Aside0 (gb231 ≠ gb221) := ⟨h9_⟩
     replace HB : Aside0 (Below w.heap.size w w13) := ⟨h10_⟩
     clear h0_ h1_ h2_ h3_ h4_ h5_ h6_ h7_ h8_ h9_ h10_
     have hHeld : w13.cell? ⟨gb220, 0, none⟩ = some (.int .i64 a0_0) ∧ w13.cell? ⟨gb220, 1, none⟩ = some (.int .i64 a0_1) ∧ w13.cell? ⟨gb220, 2, none⟩ = some (.int .i64 a0_2) ∧ w13.cell? ⟨gb220, 3, none⟩ = some (.slice A0_3 l0_3.length c0_3) := hS_
     refine norm_ (a' := ?_) ?_ ?_
     rotate_left
     ·simp only [putAll, Act.put, sL1, sL2, sL3]
      rfl
     refine one_ (i := 2) (N := some 8) (bb 9 191) rfl rfl (one_of HT_.out (by kernel_rfl)) (by decide) (fun K hK => ?_)
     refine Kd.R_make_step (Kd.int .i64) _ 2 (by rfl) (N := 8) rfl 35 _ _ rfl a0_1 rfl rfl Try.underlying35 (.int .i64 0) 8 info2 rfl (by decide) (by omega) 0 (ok := fun _ => True) (okp := fun _ => True) rfl (fun _ hk => hk) trivial (of_decide_eq_true (by first | (with_reducible assumption) | assumption)) (Nat.le_trans (Nat.mul_le_mul_right _ (of_decide_eq_true (by first | (with_reducible assumption) | assumption) : a0_1.toNat ≤ 35184372088832)) (by omega)) (Below.refl _ _) (Nat.le_refl _) ?_
     intro v223 w14 ho15 hb hg_ hnew_
     clear hg_ hnew_
     (first | rw [← Ny222.out] at ho15 | (simp only [Int.reduceToNat] at ho15; rw [← Ny222.out] at ho15))
     have HO224 := As0 (Kd.R_lower (Kd.R_new' ho15 (Kd.R_lt (RU HO230.out))) (below_size (BU HB.out)))
     replace HO230 := As0 (Kd.R_elder' (RU HO230.out) (Kd.R_base ho15) hb)
     replace BK220 := As0 (blk_below (bU BK220.out) hb)
     replace BK221 := As0 (blk_below (bU BK221.out) hb)
     replace BK231 := As0 (blk_below (bU BK231.out) hb)
     replace HB := As0 (below_step (BU HB.out) hb)
     clear hb ho15
     obtain ⟨Ao16, co16, eo16⟩ := Kd.R_slice HO230.out
     (first | subst eo16 | (injection eo16 with f1_ f2_ f3_; have f4_ := f1_.symm; have f5_ := f3_.symm; clear f1_ f2_ f3_; subst f4_; subst f5_))
     obtain ⟨Ao17, co17, eo17⟩ := Kd.R_slice HO224.out
     (first | subst eo17 | (injection eo17 with f1_ f2_ f3_; have f4_ := f1_.symm; have f5_ := f3_.symm; clear f1_ f2_ f3_; subst f4_; subst f5_))
     refine hK.out _ _ ⟨(blk_cell BK220.out 0).trans rfl, (blk_cell BK220.out 1).trans rfl, (blk_cell BK220.out 2).trans rfl, (blk_cell BK220.out 3).trans rfl⟩ (fun hHeld => ?_)
     clear hK K
     refine norm_ (a' := ?_) ?_ ?_
     rotate_left
     ·show Act.put _ (some 8) _ = _
      simp only [Act.put, sL1, sL2, sL3, i64_w, i32_w]
      rfl
     refine pv HT_.out 6 12 (bb 9 255) ?_
     exact norm_ (by first | (simp only [putAll, Act.put, sL1, sL2, sL3]; done) | (simp only [putAll, Act.put, sL1, sL2, sL3]; rfl)) (hJ2_3_5_7 (.slice Ao17 y222.length co17, v226, .slice Ao16 y228.length co16, gb231) _ ⟨hHeld, (RU (Kd.R_mono HO224.out (fun _ hk => hk.2))), (RU (Kd.R_mono HO230.out (fun _ hk => hk.2))), (bU BK220.out), (bU BK221.out), (bU BK231.out), GW231.out, GE231.out, NB220_231.out, NB231_220.out, NB221_231.out, NB231_221.out, (BU HB.out)⟩)
   ·skip
    rintro ⟨v223, v226, gb231⟩ w14 ⟨hS_, h0_, h1_, h2_, h3_, h4_, h5_, h6_, h7_, h8_, h9_, h10_, h11_⟩
    have HO224 : Aside0 (Kd.R (Kd.int .i64) 2 w14 w.heap.size (fun k_ => some k_ ≠ (v226 : Value).ownBlock) v223 y222) := ⟨h0_⟩
    have HO227 : Aside0 (Kd.R (Kd.int .i64) 2 w14 w.heap.size (fun k_ => some k_ ≠ (v223 : Value).ownBlock) v226 y225) := ⟨h1_⟩
    replace BK220 : Aside0 (w14.heap[gb220]? = some (.cells #[.int .i64 a0_0, .int .i64 a0_1, .int .i64 a0_2, .slice A0_3 l0_3.length c0_3] 63 (0, 0))) := ⟨h2_⟩
    replace BK221 : Aside0 (w14.heap[gb221]? = some (.cells #[.int .i64 0, .int .i64 0, .int .i64 0, .int .i64 0, .slice none 0 0, .slice none 0 0, .slice none 0 0, .int .i64 0] 39 (0, 0))) := ⟨h3_⟩
    have BK231 : Aside0 (w14.heap[gb231]? = some (.cells #[.int .i64 0, .int .i64 0, .int .i64 0, .int .i64 0, .slice none 0 0, .slice none 0 0, .slice none 0 0, .int .i64 0] 39 (0, 0))) := ⟨h4_⟩
    have GW231 : Aside0 (w.heap.size ≤ gb231) := ⟨h5_⟩
    have GE231 : Aside0 (w.heap.size ≤ gb231) := ⟨h6_⟩
    have NB220_231 : Aside0 (gb220 ≠ gb231) := ⟨h7_⟩
    have NB231_220 : Aside0 (gb231 ≠ gb220) := ⟨h8_⟩
    have NB221_231 : Aside0 (gb221 ≠ gb231) := ⟨h9_⟩
    have NB231_221 : Aside0 (gb231 ≠ gb221) := ⟨h10_⟩
    replace HB : Aside0 (Below w.heap.size w w14) := ⟨h11_⟩
    clear h0_ h1_ h2_ h3_ h4_ h5_ h6_ h7_ h8_ h9_ h10_ h11_
    have hHeld : w14.cell? ⟨gb220, 0, none⟩ = some (.int .i64 a0_0) ∧ w14.cell? ⟨gb220, 1, none⟩ = some (.int .i64 a0_1) ∧ w14.cell? ⟨gb220, 2, none⟩ = some (.int .i64 a0_2) ∧ w14.cell? ⟨gb220, 3, none⟩ = some (.slice A0_3 l0_3.length c0_3) := hS_
    refine norm_ (a' := ?_) ?_ ?_
    rotate_left
    ·simp only [putAll, Act.put, sL1, sL2, sL3]
     rfl
    refine one_ (i := 5) (N := some 11) (bb 9 191) rfl rfl (one_of HT_.out (by kernel_rfl)) (by decide) (fun K hK => ?_)
    refine Kd.R_append_rows_step (Kd.int .i64) (w0 := w) w.heap.size (by rfl) (.tmp 9) (.tmp 10) 35 2 (.int .i64 0) 8 rfl Try.underlying35 info2 rfl (by decide) (by omega) v226 y225 l1 _ _ _ (fun k_ => some k_ ≠ (v223 : Value).ownBlock) (fun _ => False) rfl rfl ?aO ?aR (fun _ _ h => h) (fun _ h => h.elim) ?aF ?aB ?aS ?aL ?_
    (case aR => repeat (first | exact (Kd.C_below HR1.out HB.out) | (with_reducible refine Kd.C_alloc ?_ _) | (with_reducible refine Kd.C_drewN ?_ _) | (with_reducible refine Kd.C_drew ?_)))
    (case aB => exact (BU HB.out))
    (case aF => exact (fun k_ hk => Kd.fresh' (Kd.R_lt (RU HO224.out)) k_ hk))
    (case aO => exact (RU HO227.out))
    (case aS => exact (below_size (BU HB.out)))
    (case aL => have := LMc5.out; omega)
    intro v229 w15 ho hb hg hat
    rw [← Ny228.out] at ho
    replace BK220 := As0 (blk_grown (bU BK220.out) hg (Kd.R_ne HO227.out BK220.out (by decide)))
    replace BK221 := As0 (blk_grown (bU BK221.out) hg (Kd.R_ne HO227.out BK221.out (by decide)))
    replace HO224 := As0 (Kd.R_after (ok := (fun _ => True)) (RU (Kd.R_mono HO224.out (fun _ hk => ⟨trivial, hk⟩))) hg hat)
    replace BK231 := As0 (blk_grown (bU BK231.out) hg (Kd.R_ne HO227.out BK231.out (by decide)))
    replace HB := As0 (hb)
    have HO230 := As0 (ho)
    clear HO227 ho hb hg hat
    obtain ⟨Ao16, co16, eo16⟩ := Kd.R_slice HO230.out
    (first | subst eo16 | (injection eo16 with f1_ f2_ f3_; have f4_ := f1_.symm; have f5_ := f3_.symm; clear f1_ f2_ f3_; subst f4_; subst f5_))
    obtain ⟨Ao17, co17, eo17⟩ := Kd.R_slice HO224.out
    (first | subst eo17 | (injection eo17 with f1_ f2_ f3_; have f4_ := f1_.symm; have f5_ := f3_.symm; clear f1_ f2_ f3_; subst f4_; subst f5_))
    refine hK.out _ _ ⟨(blk_cell BK220.out 0).trans rfl, (blk_cell BK220.out 1).trans rfl, (blk_cell BK220.out 2).trans rfl, (blk_cell BK220.out 3).trans rfl⟩ (fun hHeld => ?_)
    clear hK K
    refine norm_ (a' := ?_) ?_ ?_
    rotate_left
    ·show Act.put _ (some 11) _ = _
     simp only [Act.put, sL1, sL2, sL3, i64_w, i32_w]
     rfl
    refine pv HT_.out 6 12 (bb 9 255) ?_
    exact norm_ (by first | (simp only [putAll, Act.put, sL1, sL2, sL3]; done) | (simp only [putAll, Act.put, sL1, sL2, sL3]; rfl)) (hJ2_3_5_7 (.slice Ao17 y222.length co17, v226, .slice Ao16 y228.length co16, gb231) _ ⟨hHeld, (RU (Kd.R_mono HO224.out (fun _ hk => hk.2))), (RU HO230.out), (bU BK220.out), (bU BK221.out), (bU BK231.out), GW231.out, GE231.out, NB220_231.out, NB231_220.out, NB221_231.out, NB231_221.out, (BU HB.out)⟩)
  ·skip
   rintro ⟨v223, v226, v229⟩ w16 ⟨hS_, h0_, h1_, h2_, h3_, h4_⟩
   have HO224 : Aside0 (Kd.R (Kd.int .i64) 2 w16 w.heap.size (fun k_ => some k_ ≠ (v229 : Value).ownBlock) v223 y222) := ⟨h0_⟩
   have HO230 : Aside0 (Kd.R (Kd.int .i64) 2 w16 w.heap.size (fun k_ => some k_ ≠ (v223 : Value).ownBlock) v229 y228) := ⟨h1_⟩
   replace BK220 : Aside0 (w16.heap[gb220]? = some (.cells #[.int .i64 a0_0, .int .i64 a0_1, .int .i64 a0_2, .slice A0_3 l0_3.length c0_3] 63 (0, 0))) := ⟨h2_⟩
   replace BK221 : Aside0 (w16.heap[gb221]? = some (.cells #[.int .i64 0, .int .i64 0, .int .i64 0, .int .i64 0, .slice none 0 0, .slice none 0 0, .slice none 0 0, .int .i64 0] 39 (0, 0))) := ⟨h3_⟩
   replace HB : Aside0 (Below w.heap.size w w16) := ⟨h4_⟩
   clear h0_ h1_ h2_ h3_ h4_
   have hHeld : w16.cell? ⟨gb220, 0, none⟩ = some (.int .i64 a0_0) ∧ w16.cell? ⟨gb220, 1, none⟩ = some (.int .i64 a0_1) ∧ w16.cell? ⟨gb220, 2, none⟩ = some (.int .i64 a0_2) ∧ w16.cell? ⟨gb220, 3, none⟩ = some (.slice A0_3 l0_3.length c0_3) := hS_
   obtain ⟨Ao17, co17, eo17⟩ := Kd.R_slice HO230.out
   (first | subst eo17 | (injection eo17 with f1_ f2_ f3_; have f4_ := f1_.symm; have f5_ := f3_.symm; clear f1_ f2_ f3_; subst f4_; subst f5_))
   obtain ⟨Ao18, co18, eo18⟩ := Kd.R_slice HO224.out
   (first | subst eo18 | (injection eo18 with f1_ f2_ f3_; have f4_ := f1_.symm; have f5_ := f3_.symm; clear f1_ f2_ f3_; subst f4_; subst f5_))
   refine norm_ (a' := ?_) ?_ ?_
   rotate_left
   ·simp only [putAll, Act.put, sL1, sL2, sL3]
    rfl
   refine one_ (i := 7) (N := some 5) (bb 9 255) rfl rfl (one_of HT_.out (by kernel_rfl)) (by decide) (fun K hK => ?_)
   refine box_step ?hg (N := 5) ?hd (cs := #[.int .i64 0, .int .i64 0, .int .i64 0, .int .i64 0, .slice none 0 0, .slice none 0 0, .slice none 0 0, .int .i64 0]) (t := 39) ?hr ?_; (case hd => rfl); (case hg => rfl); (case hr => first | (go_simp; done) | (go_simp; rfl))
   intro gb231 hg w19 hbox hb
   replace HO224 := As0 (Kd.R_below (RU HO224.out) hb)
   replace HO230 := As0 (Kd.R_below (RU HO230.out) hb)
   have BK231 := As0 (hbox)
   have GW231 := As0 ((by rw [hg]; exact (below_size (BU HB.out)) : w.heap.size ≤ gb231))
   have GE231 := As0 ((by rw [hg]; exact (below_size (BU HB.out)) : w.heap.size ≤ gb231))
   replace HB := As0 (below_step (BU HB.out) hb)
   have NB220_231 := As0 ((by rw [hg]; exact Nat.ne_of_lt (blk_lt (bU BK220.out)) : gb220 ≠ gb231))
   have NB231_220 := As0 ((by rw [hg]; exact Nat.ne_of_gt (blk_lt (bU BK220.out)) : gb231 ≠ gb220))
   replace BK220 := As0 (blk_below (bU BK220.out) hb)
   have NB221_231 := As0 ((by rw [hg]; exact Nat.ne_of_lt (blk_lt (bU BK221.out)) : gb221 ≠ gb231))
   have NB231_221 := As0 ((by rw [hg]; exact Nat.ne_of_gt (blk_lt (bU BK221.out)) : gb231 ≠ gb221))
   replace BK221 := As0 (blk_below (bU BK221.out) hb)
   clear hb hbox hg
   refine hK.out _ _ ⟨(blk_cell BK220.out 0).trans rfl, (blk_cell BK220.out 1).trans rfl, (blk_cell BK220.out 2).trans rfl, (blk_cell BK220.out 3).trans rfl⟩ (fun hHeld => ?_)
   clear hK K
   refine norm_ (a' := ?_) ?_ ?_
   rotate_left
   ·show Act.put _ (some 5) _ = _
    simp only [Act.put, sL1, sL2, sL3, i64_w, i32_w]
    rfl
   exact norm_ (by first | (simp only [putAll, Act.put, sL1, sL2, sL3]; done) | (simp only [putAll, Act.put, sL1, sL2, sL3]; rfl)) (hJ2_3_5_7 (.slice Ao18 y222.length co18, v226, .slice Ao17 y228.length co17, gb231) _ ⟨hHeld, (RU HO224.out), (RU HO230.out), (bU BK220.out), (bU BK221.out), (bU BK231.out), GW231.out, GE231.out, NB220_231.out, NB231_220.out, NB221_231.out, NB231_221.out, (BU HB.out)⟩)
 rintro ⟨v223, v226, v229, gb231⟩ w17 ⟨hS_, h0_, h1_, h2_, h3_, h4_, h5_, h6_, h7_, h8_, h9_, h10_, h11_⟩
 have HO224 : Aside0 (Kd.R (Kd.int .i64) 2 w17 w.heap.size (fun k_ => some k_ ≠ (v229 : Value).ownBlock) v223 y222) := ⟨h0_⟩
 have HO230 : Aside0 (Kd.R (Kd.int .i64) 2 w17 w.heap.size (fun k_ => some k_ ≠ (v223 : Value).ownBlock) v229 y228) := ⟨h1_⟩
 replace BK220 : Aside0 (w17.heap[gb220]? = some (.cells #[.int .i64 a0_0, .int .i64 a0_1, .int .i64 a0_2, .slice A0_3 l0_3.length c0_3] 63 (0, 0))) := ⟨h2_⟩
 replace BK221 : Aside0 (w17.heap[gb221]? = some (.cells #[.int .i64 0, .int .i64 0, .int .i64 0, .int .i64 0, .slice none 0 0, .slice none 0 0, .slice none 0 0, .int .i64 0] 39 (0, 0))) := ⟨h3_⟩
 have BK231 : Aside0 (w17.heap[gb231]? = some (.cells #[.int .i64 0, .int .i64 0, .int .i64 0, .int .i64 0, .slice none 0 0, .slice none 0 0, .slice none 0 0, .int .i64 0] 39 (0, 0))) := ⟨h4_⟩
 have GW231 : Aside0 (w.heap.size ≤ gb231) := ⟨h5_⟩
 have GE231 : Aside0 (w.heap.size ≤ gb231) := ⟨h6_⟩
 have NB220_231 : Aside0 (gb220 ≠ gb231) := ⟨h7_⟩
 have NB231_220 : Aside0 (gb231 ≠ gb220) := ⟨h8_⟩
 have NB221_231 : Aside0 (gb221 ≠ gb231) := ⟨h9_⟩
 have NB231_221 : Aside0 (gb231 ≠ gb221) := ⟨h10_⟩
 replace HB : Aside0 (Below w.heap.size w w17) := ⟨h11_⟩
 clear h0_ h1_ h2_ h3_ h4_ h5_ h6_ h7_ h8_ h9_ h10_ h11_
 have hHeld : w17.cell? ⟨gb220, 0, none⟩ = some (.int .i64 a0_0) ∧ w17.cell? ⟨gb220, 1, none⟩ = some (.int .i64 a0_1) ∧ w17.cell? ⟨gb220, 2, none⟩ = some (.int .i64 a0_2) ∧ w17.cell? ⟨gb220, 3, none⟩ = some (.slice A0_3 l0_3.length c0_3) := hS_
 obtain ⟨Ao18, co18, eo18⟩ := Kd.R_slice HO230.out
 (first | subst eo18 | (injection eo18 with f1_ f2_ f3_; have f4_ := f1_.symm; have f5_ := f3_.symm; clear f1_ f2_ f3_; subst f4_; subst f5_))
 obtain ⟨Ao19, co19, eo19⟩ := Kd.R_slice HO224.out
 (first | subst eo19 | (injection eo19 with f1_ f2_ f3_; have f4_ := f1_.symm; have f5_ := f3_.symm; clear f1_ f2_ f3_; subst f4_; subst f5_))
 refine norm_ (a' := ?_) ?_ ?_
 rotate_left
 ·simp only [putAll, Act.put, sL1, sL2, sL3]
  rfl
 refine one_ (i := 8) (N := none) (bb 9 511) rfl rfl (one_of HT_.out (by kernel_rfl)) (by decide) (fun K hK => ?_)
 have hs20 : w17.cell? ⟨gb231, 0, none⟩ = some (.int .i64 0) := (blk_cell BK231.out 0).trans rfl
 have hfs20 := blk_frozen BK231.out 0
 have hns20_0 := NB220_231.out
 have hns20_1 := NB221_231.out
 have hms20_0 := NB231_220.out
 have hms20_1 := NB231_221.out
 have hs21 : w17.cell? ⟨gb231, 1, none⟩ = some (.int .i64 0) := (blk_cell BK231.out 1).trans rfl
 have hfs21 := blk_frozen BK231.out 1
 have hns21_0 := NB220_231.out
 have hns21_1 := NB221_231.out
 have hms21_0 := NB231_220.out
 have hms21_1 := NB231_221.out
 have hs22 : w17.cell? ⟨gb231, 2, none⟩ = some (.int .i64 0) := (blk_cell BK231.out 2).trans rfl
 have hfs22 := blk_frozen BK231.out 2
 have hns22_0 := NB220_231.out
 have hns22_1 := NB221_231.out
 have hms22_0 := NB231_220.out
 have hms22_1 := NB231_221.out
 have hs23 : w17.cell? ⟨gb231, 3, none⟩ = some (.int .i64 0) := (blk_cell BK231.out 3).trans rfl
 have hfs23 := blk_frozen BK231.out 3
 have hns23_0 := NB220_231.out
 have hns23_1 := NB221_231.out
 have hms23_0 := NB231_220.out
 have hms23_1 := NB231_221.out
 have hs24 : w17.cell? ⟨gb231, 4, none⟩ = some (.slice none 0 0) := (blk_cell BK231.out 4).trans rfl
 have hfs24 := blk_frozen BK231.out 4
 have hns24_0 := NB220_231.out
 have hns24_1 := NB221_231.out
 have hms24_0 := NB231_220.out
 have hms24_1 := NB231_221.out
 have hs25 : w17.cell? ⟨gb231, 5, none⟩ = some (.slice none 0 0) := (blk_cell BK231.out 5).trans rfl
 have hfs25 := blk_frozen BK231.out 5
 have hns25_0 := NB220_231.out
 have hns25_1 := NB221_231.out
 have hms25_0 := NB231_220.out
 have hms25_1 := NB231_221.out
 have hs26 : w17.cell? ⟨gb231, 6, none⟩ = some (.slice none 0 0) := (blk_cell BK231.out 6).trans rfl
 have hfs26 := blk_frozen BK231.out 6
 have hns26_0 := NB220_231.out
 have hns26_1 := NB221_231.out
 have hms26_0 := NB231_220.out
 have hms26_1 := NB231_221.out
 have hs27 : w17.cell? ⟨gb231, 7, none⟩ = some (.int .i64 0) := (blk_cell BK231.out 7).trans rfl
 have hfs27 := blk_frozen BK231.out 7
 have hns27_0 := NB220_231.out
 have hns27_1 := NB221_231.out
 have hms27_0 := NB231_220.out
 have hms27_1 := NB231_221.out
 refine skip_ (w1 := ?_) (by rfl) rfl ?_ ?_
 rotate_left
 ·go_simp
  rfl
 refine hK.out _ _ ⟨((cell_far (p := ⟨gb231, _, none⟩) NB220_231.out _).trans (((cell_far (p := ⟨gb231, _, none⟩) NB220_231.out _).trans (((cell_far (p := ⟨gb231, _, none⟩) NB220_231.out _).trans (((cell_far (p := ⟨gb231, _, none⟩) NB220_231.out _).trans (((cell_far (p := ⟨gb231, _, none⟩) NB220_231.out _).trans (((cell_far (p := ⟨gb231, _, none⟩) NB220_231.out _).trans (((cell_far (p := ⟨gb231, _, none⟩) NB220_231.out _).trans (((cell_far (p := ⟨gb231, _, none⟩) NB220_231.out _).trans (hHeld.1)))))))))))))))), ((cell_far (p := ⟨gb231, _, none⟩) NB220_231.out _).trans (((cell_far (p := ⟨gb231, _, none⟩) NB220_231.out _).trans (((cell_far (p := ⟨gb231, _, none⟩) NB220_231.out _).trans (((cell_far (p := ⟨gb231, _, none⟩) NB220_231.out _).trans (((cell_far (p := ⟨gb231, _, none⟩) NB220_231.out _).trans (((cell_far (p := ⟨gb231, _, none⟩) NB220_231.out _).trans (((cell_far (p := ⟨gb231, _, none⟩) NB220_231.out _).trans (((cell_far (p := ⟨gb231, _, none⟩) NB220_231.out _).trans (hHeld.2.1)))))))))))))))), ((cell_far (p := ⟨gb231, _, none⟩) NB220_231.out _).trans (((cell_far (p := ⟨gb231, _, none⟩) NB220_231.out _).trans (((cell_far (p := ⟨gb231, _, none⟩) NB220_231.out _).trans (((cell_far (p := ⟨gb231, _, none⟩) NB220_231.out _).trans (((cell_far (p := ⟨gb231, _, none⟩) NB220_231.out _).trans (((cell_far (p := ⟨gb231, _, none⟩) NB220_231.out _).trans (((cell_far (p := ⟨gb231, _, none⟩) NB220_231.out _).trans (((cell_far (p := ⟨gb231, _, none⟩) NB220_231.out _).trans (hHeld.2.2.1)))))))))))))))), ((cell_far (p := ⟨gb231, _, none⟩) NB220_231.out _).trans (((cell_far (p := ⟨gb231, _, none⟩) NB220_231.out _).trans (((cell_far (p := ⟨gb231, _, none⟩) NB220_231.out _).trans (((cell_far (p := ⟨gb231, _, none⟩) NB220_231.out _).trans (((cell_far (p := ⟨gb231, _, none⟩) NB220_231.out _).trans (((cell_far (p := ⟨gb231, _, none⟩) NB220_231.out _).trans (((cell_far (p := ⟨gb231, _, none⟩) NB220_231.out _).trans (((cell_far (p := ⟨gb231, _, none⟩) NB220_231.out _).trans (hHeld.2.2.2))))))))))))))))⟩ (fun hHeld => ?_)
 clear hK K
 refine done_ (done_of HT_.out (by kernel_rfl)) ?_
 try go_wp2
 go_loopg [] k (fun kq w' => ∃ (x232005_1 : List Int) (u232005 : Value), Aside0 (regcertref10_Start.l0 kq a0_0 a0_1 a0_2 l0_3 0 0 0 0 y222 x232005_1 0 = some (r1, r2, r3, r4, r5, r6, r7, r8)) ∧ Aside0 (kq ≤ k) ∧ Aside0 (Kd.R (Kd.int .i64) 2 w' w.heap.size (fun k_ => some k_ ≠ (u232005 : Value).ownBlock) (.slice Ao19 y222.length co19) y222) ∧ Aside0 (Kd.R (Kd.int .i64) 2 w' w.heap.size (fun k_ => some k_ ≠ ((.slice Ao19 y222.length co19) : Value).ownBlock) u232005 x232005_1) ∧ Aside0 (w'.heap[gb220]? = some (.cells #[.int .i64 a0_0, .int .i64 a0_1, .int .i64 a0_2, (.slice A0_3 l0_3.length c0_3)] 63 (0, 0))) ∧ Aside0 (w'.heap[gb221]? = some (.cells #[.int .i64 0, .int .i64 0, .int .i64 0, .int .i64 0, (.slice none 0 0), (.slice none 0 0), (.slice none 0 0), .int .i64 0] 39 (0, 0))) ∧ Aside0 (w'.heap[gb231]? = some (.cells #[.int .i64 0, .int .i64 0, .int .i64 0, .int .i64 0, (.slice Ao19 y222.length co19), u232005, (.slice none 0 0), .int .i64 0] 39 (0, 0))) ∧ Aside0 (Below w.heap.size w w'))
 case atStart => exact ⟨(y228), (.slice Ao18 y228.length co18), H', ⟨Nat.le_refl _⟩, ⟨RU (Kd.R_mono (R8 (Kd.R_types HO224.out BK231.out (by decide))) (fun _ hk => hk.1))⟩, ⟨RU (Kd.R_mono (R8 (Kd.R_types HO230.out BK231.out (by decide))) (fun _ hk => hk.1))⟩, ⟨by (with_reducible repeat (first | refine bN ?_ _ | refine bD ?_ | refine bA ?_ _)); refine blk_far ?_ NB220_231.out _; (with_reducible repeat (first | refine bN ?_ _ | refine bD ?_ | refine bA ?_ _)); refine blk_far ?_ NB220_231.out _; (with_reducible repeat (first | refine bN ?_ _ | refine bD ?_ | refine bA ?_ _)); refine blk_far ?_ NB220_231.out _; (with_reducible repeat (first | refine bN ?_ _ | refine bD ?_ | refine bA ?_ _)); refine blk_far ?_ NB220_231.out _; (with_reducible repeat (first | refine bN ?_ _ | refine bD ?_ | refine bA ?_ _)); refine blk_far ?_ NB220_231.out _; (with_reducible repeat (first | refine bN ?_ _ | refine bD ?_ | refine bA ?_ _)); refine blk_far ?_ NB220_231.out _; (with_reducible repeat (first | refine bN ?_ _ | refine bD ?_ | refine bA ?_ _)); refine blk_far ?_ NB220_231.out _; (with_reducible repeat (first | refine bN ?_ _ | refine bD ?_ | refine bA ?_ _)); refine blk_far ?_ NB220_231.out _; (with_reducible repeat (first | refine bN ?_ _ | refine bD ?_ | refine bA ?_ _)); exact BK220.out⟩, ⟨by (with_reducible repeat (first | refine bN ?_ _ | refine bD ?_ | refine bA ?_ _)); refine blk_far ?_ NB221_231.out _; (with_reducible repeat (first | refine bN ?_ _ | refine bD ?_ | refine bA ?_ _)); refine blk_far ?_ NB221_231.out _; (with_reducible repeat (first | refine bN ?_ _ | refine bD ?_ | refine bA ?_ _)); refine blk_far ?_ NB221_231.out _; (with_reducible repeat (first | refine bN ?_ _ | refine bD ?_ | refine bA ?_ _)); refine blk_far ?_ NB221_231.out _; (with_reducible repeat (first | refine bN ?_ _ | refine bD ?_ | refine bA ?_ _)); refine blk_far ?_ NB221_231.out _; (with_reducible repeat (first | refine bN ?_ _ | refine bD ?_ | refine bA ?_ _)); refine blk_far ?_ NB221_231.out _; (with_reducible repeat (first | refine bN ?_ _ | refine bD ?_ | refine bA ?_ _)); refine blk_far ?_ NB221_231.out _; (with_reducible repeat (first | refine bN ?_ _ | refine bD ?_ | refine bA ?_ _)); refine blk_far ?_ NB221_231.out _; (with_reducible repeat (first | refine bN ?_ _ | refine bD ?_ | refine bA ?_ _)); exact BK221.out⟩, ⟨by (with_reducible repeat (first | refine bN ?_ _ | refine bD ?_ | refine bA ?_ _)); refine blk_put (cs := #[.int .i64 0, .int .i64 0, .int .i64 0, .int .i64 0, .slice Ao19 y222.length co19, .slice Ao18 y228.length co18, .slice none 0 0, .int .i64 0]) ?_ 7 _ rfl; (with_reducible repeat (first | refine bN ?_ _ | refine bD ?_ | refine bA ?_ _)); refine blk_put (cs := #[.int .i64 0, .int .i64 0, .int .i64 0, .int .i64 0, .slice Ao19 y222.length co19, .slice Ao18 y228.length co18, .slice none 0 0, .int .i64 0]) ?_ 6 _ rfl; (with_reducible repeat (first | refine bN ?_ _ | refine bD ?_ | refine bA ?_ _)); refine blk_put (cs := #[.int .i64 0, .int .i64 0, .int .i64 0, .int .i64 0, .slice Ao19 y222.length co19, .slice none 0 0, .slice none 0 0, .int .i64 0]) ?_ 5 _ rfl; (with_reducible repeat (first | refine bN ?_ _ | refine bD ?_ | refine bA ?_ _)); refine blk_put (cs := #[.int .i64 0, .int .i64 0, .int .i64 0, .int .i64 0, .slice none 0 0, .slice none 0 0, .slice none 0 0, .int .i64 0]) ?_ 4 _ rfl; (with_reducible repeat (first | refine bN ?_ _ | refine bD ?_ | refine bA ?_ _)); refine blk_put (cs := #[.int .i64 0, .int .i64 0, .int .i64 0, .int .i64 0, .slice none 0 0, .slice none 0 0, .slice none 0 0, .int .i64 0]) ?_ 3 _ rfl; (with_reducible repeat (first | refine bN ?_ _ | refine bD ?_ | refine bA ?_ _)); refine blk_put (cs := #[.int .i64 0, .int .i64 0, .int .i64 0, .int .i64 0, .slice none 0 0, .slice none 0 0, .slice none 0 0, .int .i64 0]) ?_ 2 _ rfl; (with_reducible repeat (first | refine bN ?_ _ | refine bD ?_ | refine bA ?_ _)); refine blk_put (cs := #[.int .i64 0, .int .i64 0, .int .i64 0, .int .i64 0, .slice none 0 0, .slice none 0 0, .slice none 0 0, .int .i64 0]) ?_ 1 _ rfl; (with_reducible repeat (first | refine bN ?_ _ | refine bD ?_ | refine bA ?_ _)); refine blk_put (cs := #[.int .i64 0, .int .i64 0, .int .i64 0, .int .i64 0, .slice none 0 0, .slice none 0 0, .slice none 0 0, .int .i64 0]) ?_ 0 _ rfl; (with_reducible repeat (first | refine bN ?_ _ | refine bD ?_ | refine bA ?_ _)); exact BK231.out⟩, ⟨BU HB.out⟩⟩
 case round =>
  clear H'
  try clear p2
  try clear c5
  obtain ⟨x232005_1, u232005, HA, HK1, HO_232004, HO_232005, BK220, BK221, BK231, HB⟩ := hrel
  cases gk with
  | zero => exact absurd HA.out (by simp [regcertref10_Start.l0])
  | succ k1 =>
   have H := HA.out
   clear HA
   simp only [regcertref10_Start.l0] at H
   by_cases c28 : (x232005_1.length : Int) < a0_2
   ·rw [if_pos c28] at H
    have c28b0 : decide ((x232005_1.length : Int) < a0_2) = true := decide_eq_true c28
    clear c28
    by_cases c29 : x232005_1.length < 17592186044416
    rotate_left
    ·rw [if_neg c29] at H
     exact absurd H (by simp)
    rw [if_pos c29] at H
    have LMc29 := As0 c29
    clear c29
    obtain ⟨y232, hy232⟩ : ∃ y_ : List Int, y_ = (x232005_1 ++ [0]) := ⟨_, rfl⟩
    replace H : (regcertref10_Start.l0 k1 a0_0 a0_1 a0_2 l0_3 0 0 0 0 y222 y232 0) = some (r1, r2, r3, r4, r5, r6, r7, r8) := by first | (rw [hy232]; with_reducible exact H) | (have H2_ := (Option.bind_some _ _).symm.trans H; rw [hy232]; with_reducible exact H2_) | (have H2_ := (Option.bind_some _ _).symm.trans H; with_reducible exact H2_) | with_reducible exact H | (rw [hy232]; exact H) | exact H
    have Ny232 := As0 hy232
    clear hy232
    have H' := As0 H
    clear H
    have hnb30 := NB231_220.out
    have hnc30 := NB220_231.out
    have hnb31 := NB231_221.out
    have hnc31 := NB221_231.out
    obtain ⟨hcz32_0, hcz32_1, hcz32_2, hcz32_3, hcz32_4, hcz32_5, hcz32_6, hcz32_7, hfz32_0, hfz32_1, hfz32_2, hfz32_3, hfz32_4, hfz32_5, hfz32_6, hfz32_7⟩ := cN8 BK231.out
    obtain ⟨Ao33, co33, eo33⟩ := Kd.R_slice HO_232005.out
    subst eo33
    have hnb34 := NB220_221.out
    have hnc34 := NB221_220.out
    obtain ⟨hcz35_0, hcz35_1, hcz35_2, hcz35_3, hfz35_0, hfz35_1, hfz35_2, hfz35_3⟩ := cN4 BK220.out
    go_wp2_with (first | ((with_reducible refine gate_builtin (b := .append) (xs := #[.tmp 20, .tmp 21]) rfl ?_); at_builtin; refine Kd.R_append (Kd.int .i64) (w0 := w) w.heap.size rfl (.tmp 20) (.tmp 21) 35 2 (.int .i64 0) 8 rfl Try.underlying35 info2 rfl (by decide) (by omega) (.slice Ao33 x232005_1.length co33) x232005_1 0 [.int .i64 0] (fun k_ => some k_ ≠ (.slice Ao19 y222.length co19 : Value).ownBlock) (fun _ => False) rfl rfl ?aP (fun _ hk => hk.elim) ?aF ?aO ?aB ?aS ?aL ?_; (case aP => exact rfl); (case aB => exact (BU HB.out)); (case aF => exact (fun k_ hk => Kd.fresh' (Kd.R_lt (RU HO_232004.out)) k_ hk)); (case aO => exact (RU HO_232005.out)); (case aS => exact (below_size (BU HB.out))); (case aL => have := LMc29.out; omega); intro v233 w36 ho hb hg hat; rw [← Ny232.out] at ho; replace HO_232004 := As0 (Kd.R_after (ok := (fun _ => True)) (RU (Kd.R_mono HO_232004.out (fun _ hk => ⟨trivial, hk⟩))) hg hat); replace BK220 := As0 (blk_grown (bU BK220.out) hg (Kd.R_ne HO_232005.out BK220.out (by decide))); replace BK221 := As0 (blk_grown (bU BK221.out) hg (Kd.R_ne HO_232005.out BK221.out (by decide))); replace BK231 := As0 (blk_grown (bU BK231.out) hg (Kd.R_ne HO_232005.out BK231.out (by decide))); replace HB := As0 (hb); have HO234 := As0 (ho); clear HO_232005 ho hb hg hat; obtain ⟨Ao37, co37, eo37⟩ := Kd.R_slice HO234.out; subst eo37; obtain ⟨hcz38_0, hcz38_1, hcz38_2, hcz38_3, hcz38_4, hcz38_5, hcz38_6, hcz38_7, hfz38_0, hfz38_1, hfz38_2, hfz38_3, hfz38_4, hfz38_5, hfz38_6, hfz38_7⟩ := cN8 BK231.out))
    go_roundg k1
    case measure => have := HK1.out; omega
    case rel => exact ⟨(y232), (.slice Ao37 y232.length co37), H', ⟨by have := HK1.out; omega⟩, ⟨RU (Kd.R_mono (RF gb231 5 (Kd.R_types HO_232004.out BK231.out (by decide)) (.slice Ao37 y232.length co37)) (fun _ hk => hk.1.2))⟩, ⟨RU (Kd.R_mono (RF gb231 5 (Kd.R_types HO234.out BK231.out (by decide)) (.slice Ao37 y232.length co37)) (fun _ hk => hk.1))⟩, ⟨by (with_reducible repeat (first | refine bN ?_ _ | refine bD ?_ | refine bA ?_ _)); refine blk_far ?_ NB220_231.out _; (with_reducible repeat (first | refine bN ?_ _ | refine bD ?_ | refine bA ?_ _)); exact BK220.out⟩, ⟨by (with_reducible repeat (first | refine bN ?_ _ | refine bD ?_ | refine bA ?_ _)); refine blk_far ?_ NB221_231.out _; (with_reducible repeat (first | refine bN ?_ _ | refine bD ?_ | refine bA ?_ _)); exact BK221.out⟩, ⟨by (with_reducible repeat (first | refine bN ?_ _ | refine bD ?_ | refine bA ?_ _)); refine blk_put (cs := #[.int .i64 0, .int .i64 0, .int .i64 0, .int .i64 0, .slice Ao19 y222.length co19, .slice Ao33 x232005_1.length co33, .slice none 0 0, .int .i64 0]) ?_ 5 _ rfl; (with_reducible repeat (first | refine bN ?_ _ | refine bD ?_ | refine bA ?_ _)); exact BK231.out⟩, ⟨BU HB.out⟩⟩
   rw [if_neg c28] at H
   have c28b0 : decide ((x232005_1.length : Int) < a0_2) = false := decide_eq_false c28
   clear c28
   simp only [Option.some.injEq, Prod.mk.injEq] at H
   obtain ⟨rfl, rfl, rfl, rfl, rfl, rfl, rfl, rfl⟩ := H
   have hnb39 := NB231_220.out
   have hnc39 := NB220_231.out
   have hnb40 := NB231_221.out
   have hnc40 := NB221_231.out
   obtain ⟨hcz41_0, hcz41_1, hcz41_2, hcz41_3, hcz41_4, hcz41_5, hcz41_6, hcz41_7, hfz41_0, hfz41_1, hfz41_2, hfz41_3, hfz41_4, hfz41_5, hfz41_6, hfz41_7⟩ := cN8 BK231.out
   obtain ⟨Ao42, co42, eo42⟩ := Kd.R_slice HO_232005.out
   subst eo42
   have hnb43 := NB220_221.out
   have hnc43 := NB221_220.out
   obtain ⟨hcz44_0, hcz44_1, hcz44_2, hcz44_3, hfz44_0, hfz44_1, hfz44_2, hfz44_3⟩ := cN4 BK220.out
   obtain ⟨hcz45_0, hcz45_1, hcz45_2, hcz45_3, hcz45_4, hcz45_5, hcz45_6, hcz45_7, hfz45_0, hfz45_1, hfz45_2, hfz45_3, hfz45_4, hfz45_5, hfz45_6, hfz45_7⟩ := cN8 BK221.out
   go_wp2
   refine bodyPost_ret (results_cell_row rfl _ _ gb221 39 #[.int .i64 0, .int .i64 0, .int .i64 0, .int .i64 0, .slice Ao19 y222.length co19, .slice Ao42 x232005_1.length co42, .slice none 0 0, .int .i64 0] (0, 0) _ rfl (by (with_reducible repeat (first | refine bN ?_ _ | refine bD ?_ | refine bA ?_ _)); refine blk_put (cs := #[.int .i64 0, .int .i64 0, .int .i64 0, .int .i64 0, .slice Ao19 y222.length co19, .slice Ao42 x232005_1.length co42, .slice none 0 0, .int .i64 0]) ?_ 7 _ rfl; (with_reducible repeat (first | refine bN ?_ _ | refine bD ?_ | refine bA ?_ _)); refine blk_put (cs := #[.int .i64 0, .int .i64 0, .int .i64 0, .int .i64 0, .slice Ao19 y222.length co19, .slice Ao42 x232005_1.length co42, .slice none 0 0, .int .i64 0]) ?_ 6 _ rfl; (with_reducible repeat (first | refine bN ?_ _ | refine bD ?_ | refine bA ?_ _)); refine blk_put (cs := #[.int .i64 0, .int .i64 0, .int .i64 0, .int .i64 0, .slice Ao19 y222.length co19, .slice none 0 0, .slice none 0 0, .int .i64 0]) ?_ 5 _ rfl; (with_reducible repeat (first | refine bN ?_ _ | refine bD ?_ | refine bA ?_ _)); refine blk_put (cs := #[.int .i64 0, .int .i64 0, .int .i64 0, .int .i64 0, .slice none 0 0, .slice none 0 0, .slice none 0 0, .int .i64 0]) ?_ 4 _ rfl; (with_reducible repeat (first | refine bN ?_ _ | refine bD ?_ | refine bA ?_ _)); refine blk_put (cs := #[.int .i64 0, .int .i64 0, .int .i64 0, .int .i64 0, .slice none 0 0, .slice none 0 0, .slice none 0 0, .int .i64 0]) ?_ 3 _ rfl; (with_reducible repeat (first | refine bN ?_ _ | refine bD ?_ | refine bA ?_ _)); refine blk_put (cs := #[.int .i64 0, .int .i64 0, .int .i64 0, .int .i64 0, .slice none 0 0, .slice none 0 0, .slice none 0 0, .int .i64 0]) ?_ 2 _ rfl; (with_reducible repeat (first | refine bN ?_ _ | refine bD ?_ | refine bA ?_ _)); refine blk_put (cs := #[.int .i64 0, .int .i64 0, .int .i64 0, .int .i64 0, .slice none 0 0, .slice none 0 0, .slice none 0 0, .int .i64 0]) ?_ 1 _ rfl; (with_reducible repeat (first | refine bN ?_ _ | refine bD ?_ | refine bA ?_ _)); refine blk_put (cs := #[.int .i64 0, .int .i64 0, .int .i64 0, .int .i64 0, .slice none 0 0, .slice none 0 0, .slice none 0 0, .int .i64 0]) ?_ 0 _ rfl; (with_reducible repeat (first | refine bN ?_ _ | refine bD ?_ | refine bA ?_ _)); exact BK221.out) Try.underlying39 rfl (by kernel_rfl)) rfl ?_
   exact ⟨_, _, _, by first | rfl | (simp [errW_none, errW_some] <;> rfl) | (simp [*, errW_none, errW_some] <;> rfl), RU (Kd.R_mono (R8 (Kd.R_types HO_232004.out BK221.out (by decide))) (fun _ hk => ⟨hk.1, (by simp [Value.ownBlock])⟩)), RU (Kd.R_mono (R8 (Kd.R_types HO_232005.out BK221.out (by decide))) (fun _ hk => ⟨hk.1, (by simp [Value.ownBlock])⟩)), by first | exact Kd.R_nil _ _ _ _ _ | exact Kd.N_nil _ _ _ _ _ | exact Kd.V_nil _ _ _ _ _ | exact Kd.Q_nil _ _ _ _ _ | exact Kd.S_nil _ _ _ _ _, BU HB.out⟩

end Go.Proofs.Ytgkmagfajalnhaa.E
