-- Written by a program of this session (xprint), out of the translation. Not trusted: Lean checks it.
import Derived.Test.YtgkmagfajalnhaaMY0
import Derived.Test.YtgkmagfajalnhaaMYIRefStep
namespace Go.Proofs.Ytgkmagfajalnhaa.Y
open Go.RowKit Go.Proofs.YtgkmagfajalnhaaW.PrintWords Go.Proofs.YtgkmagfajalnhaaW.PrintLast Go.Proofs.YtgkmagfajalnhaaW.PrintMore
attribute [local go_sem] max2_int min2_int max_two min_two max_three min_three max_four min_four   -- for this text's walks alone
set_option linter.unusedVariables false
set_option linter.unusedSimpArgs false

/-! ### regcertref09_Start: function 42 -/
def regcertref09_Start.l0 : Nat → Int → Int → List (S50) → Int → Int → Int → Int → List Int → Int → Option (Int × Int × Int × Int × List Int × List Int × List Int × Int)
 | 0, _, _, _, _, _, _, _, _, _ => none
 | k + 1, x202000, x202001, x202002, x210000, x210001, x210002, x210003, x210004, x210007 => if (x210004.length : Int) < x202001 then (if x210004.length < 17592186044416 then (regcertref09_Start.l0 k x202000 x202001 x202002 x210000 x210001 x210002 x210003 (x210004 ++ [0]) x210007) else (none)) else (some (x210000, x210001, x210002, x210003, x210004, ([] : List Int), ([] : List Int), x210007))
def regcertref09_Start.f (k : Nat) (a0_0 : Int) (a0_1 : Int) (l0_2 : List (S50)) (l1 : List Int) : Option (Int × Int × Int × Int × List Int × List Int × List Int × Int) := (some (([] : List Int) : List Int)).bind fun y203 => (if y203.length + l1.length < 17592186044416 then (regcertref09_Start.l0 k a0_0 a0_1 l0_2 0 0 0 0 (y203 ++ l1) 0) else (none))
theorem regcertref09_Start.mono_l : ∀ k, (∀ y0 y1 y2 y3 y4 y5 y6 y7 y8, LeO (regcertref09_Start.l0 k y0 y1 y2 y3 y4 y5 y6 y7 y8) (regcertref09_Start.l0 (k + 1) y0 y1 y2 y3 y4 y5 y6 y7 y8))
 | 0 => fun _ _ _ _ _ _ _ _ _ r h => by simp [regcertref09_Start.l0] at h
 | k + 1 => by
  have ih0 := regcertref09_Start.mono_l k
  ·intro y0 y1 y2 y3 y4 y5 y6 y7 y8
   unfold regcertref09_Start.l0
   repeat' first
   | (with_reducible exact ih0 _ _ _ _ _ _ _ _ _)
   | (with_reducible exact LeO.refl _)
   | (with_reducible exact LeO.none _)
   | (with_reducible refine LeO.ite ?_ ?_)
   | (with_reducible refine LeO.bind ?_ (fun _ => ?_))
   | exact ih0 _ _ _ _ _ _ _ _ _
   | exact LeO.none _
   | refine LeO.ite ?_ ?_
   | refine LeO.bind ?_ (fun _ => ?_)
theorem regcertref09_Start.mono : ∀ a0 a1 a2 a3 k, LeO (regcertref09_Start.f k a0 a1 a2 a3) (regcertref09_Start.f (k + 1) a0 a1 a2 a3) := by
 intro a0 a1 a2 a3 k
 have ih0 := regcertref09_Start.mono_l k
 unfold regcertref09_Start.f
 repeat' first
   | (with_reducible exact ih0 _ _ _ _ _ _ _ _ _)
   | (with_reducible exact LeO.refl _)
   | (with_reducible exact LeO.none _)
   | (with_reducible refine LeO.ite ?_ ?_)
   | (with_reducible refine LeO.bind ?_ (fun _ => ?_))
   | exact ih0 _ _ _ _ _ _ _ _ _
   | exact LeO.none _
   | refine LeO.ite ?_ ?_
   | refine LeO.bind ?_ (fun _ => ?_)
set_option maxHeartbeats 8000000 in
set_option maxRecDepth 100000 in
theorem regcertref09_Start.calls (k : Nat) (a0_0 : Int) (a0_1 : Int) (A0_2 : Option Addr) (c0_2 : Nat) (l0_2 : List (S50)) (A1 : Option Addr) (c1 : Nat) (l1 : List Int) (r1 : Int) (r2 : Int) (r3 : Int) (r4 : Int) (r5 : List Int) (r6 : List Int) (r7 : List Int) (r8 : Int) (w : World) (hr0_2 : Kd.C k50 w A0_2 l0_2.length l0_2) (hc0_2 : l0_2.length ≤ c0_2) (hr1 : Kd.C (Kd.int .i64) w A1 l1.length l1) (hc1 : l1.length ≤ c1) (h : regcertref09_Start.f k a0_0 a0_1 l0_2 l1 = some (r1, r2, r3, r4, r5, r6, r7, r8)) :
  Calls Try.prog 42 #[.agg #[.int .i64 a0_0, .int .i64 a0_1, .slice A0_2 l0_2.length c0_2], .slice A1 l1.length c1] w fun e w' => ∃ v4_ v5_ v6_ : Value, e = .returned (.agg #[.int .i64 r1, .int .i64 r2, .int .i64 r3, .int .i64 r4, v4_, v5_, v6_, .int .i64 r8]) ∧ Kd.R (Kd.int .i64) 2 w' w.heap.size (fun k_ => some k_ ≠ (v5_ : Value).ownBlock ∧ some k_ ≠ (v6_ : Value).ownBlock) v4_ r5 ∧ Kd.R (Kd.int .i64) 2 w' w.heap.size (fun k_ => some k_ ≠ (v4_ : Value).ownBlock ∧ some k_ ≠ (v6_ : Value).ownBlock) v5_ r6 ∧ Kd.R (Kd.int .i64) 2 w' w.heap.size (fun k_ => some k_ ≠ (v4_ : Value).ownBlock ∧ some k_ ≠ (v5_ : Value).ownBlock) v6_ r7 ∧ Below w.heap.size w w' := by
 have hu34 := Try.underlying34
 have hu39 := Try.underlying39
 have HR0_2 := As0 hr0_2
 have HC0_2 := As0 hc0_2
 clear hr0_2 hc0_2
 have HR1 := As0 hr1
 have HC1 := As0 hc1
 clear hr1 hc1
 have HB := As0 (Below.refl w.heap.size w)
 have H : ((some (([] : List Int) : List Int)).bind fun y203 => (if y203.length + l1.length < 17592186044416 then (regcertref09_Start.l0 k a0_0 a0_1 l0_2 0 0 0 0 (y203 ++ l1) 0) else (none))) = some (r1, r2, r3, r4, r5, r6, r7, r8) := h
 clear h
 obtain ⟨y203, hy203⟩ : ∃ y_ : List Int, y_ = (([] : List Int)) := ⟨_, rfl⟩
 replace H : (if y203.length + l1.length < 17592186044416 then (regcertref09_Start.l0 k a0_0 a0_1 l0_2 0 0 0 0 (y203 ++ l1) 0) else (none)) = some (r1, r2, r3, r4, r5, r6, r7, r8) := by first | (rw [hy203]; with_reducible exact H) | (have H2_ := (Option.bind_some _ _).symm.trans H; rw [hy203]; with_reducible exact H2_) | (have H2_ := (Option.bind_some _ _).symm.trans H; with_reducible exact H2_) | with_reducible exact H | (rw [hy203]; exact H) | exact H
 have Ny203 := As0 hy203
 clear hy203
 by_cases c3 : y203.length + l1.length < 17592186044416
 ·rw [if_pos c3] at H
  have LMc3 := As0 c3
  clear c3
  obtain ⟨y206, hy206⟩ : ∃ y_ : List Int, y_ = (y203 ++ l1) := ⟨_, rfl⟩
  replace H : (regcertref09_Start.l0 k a0_0 a0_1 l0_2 0 0 0 0 y206 0) = some (r1, r2, r3, r4, r5, r6, r7, r8) := by first | (rw [hy206]; with_reducible exact H) | (have H2_ := (Option.bind_some _ _).symm.trans H; rw [hy206]; with_reducible exact H2_) | (have H2_ := (Option.bind_some _ _).symm.trans H; with_reducible exact H2_) | with_reducible exact H | (rw [hy206]; exact H) | exact H
  have Ny206 := As0 hy206
  clear hy206
  have H' := As0 H
  clear H
  go_enter Try.func42, Try.ntmps42
  go_wp2_with (first | ((with_reducible refine gate_dst (N := 2) rfl ?_); refine box_event ?hg (N := 2) ?hd (cs := #[.int .i64 a0_0, .int .i64 a0_1, .slice A0_2 l0_2.length c0_2]) (t := 34) ?hr ?_; (case hd => rfl); (case hg => rfl); (case hr => first | (go_simp; done) | (go_simp; rfl)); intro gb201 hg w4 hbox hb; have n0_ := As0 (below_step (by repeat (first | (with_reducible first | exact HB.out | apply below_alloc | apply bdN | apply bd1) | exact HB.out)) hb); have n1_ := As0 (hbox); have n2_ := As0 ((by rw [hg]; exact (below_size (by repeat (first | (with_reducible first | exact HB.out | apply below_alloc | apply bdN | apply bd1) | exact HB.out))) : w.heap.size ≤ gb201)); have n3_ := As0 ((by rw [hg]; exact (below_size (by repeat (first | (with_reducible first | exact HB.out | apply below_alloc | apply bdN | apply bd1) | exact HB.out))) : w.heap.size ≤ gb201)); clear HB; have HB := n0_; have BK201 := n1_; have GW201 := n2_; have GE201 := n3_; clear n0_ n1_ n2_ n3_ hb hbox hg) | ((with_reducible refine gate_dst (N := 4) rfl ?_); refine box_event ?hg (N := 4) ?hd (cs := #[.int .i64 0, .int .i64 0, .int .i64 0, .int .i64 0, .slice none 0 0, .slice none 0 0, .slice none 0 0, .int .i64 0]) (t := 39) ?hr ?_; (case hd => rfl); (case hg => rfl); (case hr => first | (go_simp; done) | (go_simp; rfl)); intro gb202 hg w5 hbox hb; have n0_ := As0 (blk_below (g := gb201) (o := .cells #[.int .i64 a0_0, .int .i64 a0_1, .slice A0_2 l0_2.length c0_2] 34 (0, 0)) (by (with_reducible repeat (first | refine blk_drewN ?_ _ | refine blk_drew ?_ | refine blk_alloc ?_ _)); exact BK201.out) hb); have n1_ := As0 (below_step (by repeat (first | (with_reducible first | exact HB.out | apply below_alloc | apply bdN | apply bd1 | refine below_set ?_ GE201.out) | exact HB.out)) hb); have n2_ := As0 (hbox); have n3_ := As0 ((by rw [hg]; exact (below_size (by repeat (first | (with_reducible first | exact HB.out | apply below_alloc | apply bdN | apply bd1 | refine below_set ?_ GE201.out) | exact HB.out))) : w.heap.size ≤ gb202)); have n4_ := As0 ((by rw [hg]; exact (below_size (by repeat (first | (with_reducible first | exact HB.out | apply below_alloc | apply bdN | apply bd1 | refine below_set ?_ GE201.out) | exact HB.out))) : w.heap.size ≤ gb202)); have n5_ := As0 ((by rw [hg]; exact Nat.ne_of_lt (blk_lt (g := gb201) (o := .cells #[.int .i64 a0_0, .int .i64 a0_1, .slice A0_2 l0_2.length c0_2] 34 (0, 0)) (by (with_reducible repeat (first | refine blk_drewN ?_ _ | refine blk_drew ?_ | refine blk_alloc ?_ _)); exact BK201.out)) : gb201 ≠ gb202)); have n6_ := As0 ((by rw [hg]; exact Nat.ne_of_gt (blk_lt (g := gb201) (o := .cells #[.int .i64 a0_0, .int .i64 a0_1, .slice A0_2 l0_2.length c0_2] 34 (0, 0)) (by (with_reducible repeat (first | refine blk_drewN ?_ _ | refine blk_drew ?_ | refine blk_alloc ?_ _)); exact BK201.out)) : gb202 ≠ gb201)); clear BK201 HB; have BK201 := n0_; have HB := n1_; have BK202 := n2_; have GW202 := n3_; have GE202 := n4_; have NB201_202 := n5_; have NB202_201 := n6_; clear n0_ n1_ n2_ n3_ n4_ n5_ n6_ hb hbox hg) | ((with_reducible refine gate_dst (N := 6) rfl ?_); refine Kd.R_lit (Kd.int .i64) _ 2 ?hg (N := 6) ?hd (xs := ([] : List Int)) (inner := []) (ok := fun _ => True) (okp := fun _ => True) ?hr ?hp (fun _ hk => hk) trivial (Below.refl _ _) (Nat.le_refl _) (by simp) ?_; (case hd => rfl); (case hg => rfl); (case hr => first | (go_simp; done) | (go_simp; rfl)); (case hp => exact (Reps.none _ _)); intro v204 w6 ho7 hb hg_ hnew_; clear hg_ hnew_; (first | rw [← Ny203.out] at ho7 | (simp only [Int.reduceToNat] at ho7; rw [← Ny203.out] at ho7)); have n0_ := As0 (Kd.R_lower ho7 (below_size (by repeat (first | (with_reducible first | exact HB.out | apply below_alloc | apply bdN | apply bd1 | refine below_set ?_ GE201.out | refine below_set ?_ GE202.out) | exact HB.out)))); have n1_ := As0 (blk_below (g := gb201) (o := .cells #[.int .i64 a0_0, .int .i64 a0_1, .slice A0_2 l0_2.length c0_2] 34 (0, 0)) (by (with_reducible repeat (first | refine blk_drewN ?_ _ | refine blk_drew ?_ | refine blk_alloc ?_ _)); exact BK201.out) hb); have n2_ := As0 (blk_below (g := gb202) (o := .cells #[.int .i64 0, .int .i64 0, .int .i64 0, .int .i64 0, .slice none 0 0, .slice none 0 0, .slice none 0 0, .int .i64 0] 39 (0, 0)) (by (with_reducible repeat (first | refine blk_drewN ?_ _ | refine blk_drew ?_ | refine blk_alloc ?_ _)); exact BK202.out) hb); have n3_ := As0 (below_step (by repeat (first | (with_reducible first | exact HB.out | apply below_alloc | apply bdN | apply bd1 | refine below_set ?_ GE201.out | refine below_set ?_ GE202.out) | exact HB.out)) hb); clear BK201 BK202 HB; have HO205 := n0_; have BK201 := n1_; have BK202 := n2_; have HB := n3_; clear n0_ n1_ n2_ n3_ hb ho7) | ((with_reducible refine gate_builtin (b := .append) (xs := #[.tmp 6, .tmp 7]) rfl ?_); at_builtin; refine Kd.R_append_rows (Kd.int .i64) (w0 := w) w.heap.size rfl (.tmp 6) (.tmp 7) 35 2 (.int .i64 0) 8 rfl Try.underlying35 info2 rfl (by decide) (by omega) v204 y203 l1 _ _ _ (fun _ => True) (fun _ => False) rfl rfl ?aO ?aR (fun _ _ h => h) (fun _ h => h.elim) ?aF ?aB ?aS ?aL ?_; (case aR => repeat (first | exact (Kd.C_below HR1.out HB.out) | (with_reducible refine Kd.C_alloc ?_ _) | (with_reducible refine Kd.C_drewN ?_ _) | (with_reducible refine Kd.C_drew ?_))); (case aB => exact (by repeat (first | (with_reducible first | exact HB.out | apply below_alloc | apply bdN | apply bd1 | refine below_set ?_ GE201.out | refine below_set ?_ GE202.out) | exact HB.out))); (case aF => exact (fun _ _ => trivial)); (case aO => exact (by (with_reducible repeat (first | apply Kd.R_alloc | apply Kd.R_drewN | apply Kd.R_drew)); exact HO205.out)); (case aS => exact (below_size (by repeat (first | (with_reducible first | exact HB.out | apply below_alloc | apply bdN | apply bd1 | refine below_set ?_ GE201.out | refine below_set ?_ GE202.out) | exact HB.out)))); (case aL => have := LMc3.out; omega); intro v207 w8 ho hb hg hat; rw [← Ny206.out] at ho; have n0_ := As0 (blk_grown (g := gb201) (o := .cells #[.int .i64 a0_0, .int .i64 a0_1, .slice A0_2 l0_2.length c0_2] 34 (0, 0)) (by (with_reducible repeat (first | refine blk_drewN ?_ _ | refine blk_drew ?_ | refine blk_alloc ?_ _)); exact BK201.out) hg (Kd.R_ne HO205.out BK201.out (by decide))); have n1_ := As0 (blk_grown (g := gb202) (o := .cells #[.int .i64 0, .int .i64 0, .int .i64 0, .int .i64 0, .slice none 0 0, .slice none 0 0, .slice none 0 0, .int .i64 0] 39 (0, 0)) (by (with_reducible repeat (first | refine blk_drewN ?_ _ | refine blk_drew ?_ | refine blk_alloc ?_ _)); exact BK202.out) hg (Kd.R_ne HO205.out BK202.out (by decide))); have n2_ := As0 (hb); have n3_ := As0 (ho); clear BK201 BK202 HB HO205; have BK201 := n0_; have BK202 := n1_; have HB := n2_; have HO208 := n3_; clear n0_ n1_ n2_ n3_ ho hb hg hat; obtain ⟨Ao9, co9, eo9⟩ := Kd.R_slice HO208.out; subst eo9) | ((with_reducible refine gate_dst (N := 5) rfl ?_); refine box_event ?hg (N := 5) ?hd (cs := #[.int .i64 0, .int .i64 0, .int .i64 0, .int .i64 0, .slice none 0 0, .slice none 0 0, .slice none 0 0, .int .i64 0]) (t := 39) ?hr ?_; (case hd => rfl); (case hg => rfl); (case hr => first | (go_simp; done) | (go_simp; rfl)); intro gb209 hg w10 hbox hb; have n0_ := As0 (Kd.R_below (by (with_reducible repeat (first | apply Kd.R_alloc | apply Kd.R_drewN | apply Kd.R_drew)); exact HO208.out) hb); have n1_ := As0 (blk_below (g := gb201) (o := .cells #[.int .i64 a0_0, .int .i64 a0_1, .slice A0_2 l0_2.length c0_2] 34 (0, 0)) (by (with_reducible repeat (first | refine blk_drewN ?_ _ | refine blk_drew ?_ | refine blk_alloc ?_ _)); exact BK201.out) hb); have n2_ := As0 (blk_below (g := gb202) (o := .cells #[.int .i64 0, .int .i64 0, .int .i64 0, .int .i64 0, .slice none 0 0, .slice none 0 0, .slice none 0 0, .int .i64 0] 39 (0, 0)) (by (with_reducible repeat (first | refine blk_drewN ?_ _ | refine blk_drew ?_ | refine blk_alloc ?_ _)); exact BK202.out) hb); have n3_ := As0 (below_step (by repeat (first | (with_reducible first | exact HB.out | apply below_alloc | apply bdN | apply bd1 | refine below_set ?_ GE201.out | refine below_set ?_ GE202.out) | exact HB.out)) hb); have n4_ := As0 (hbox); have n5_ := As0 ((by rw [hg]; exact (below_size (by repeat (first | (with_reducible first | exact HB.out | apply below_alloc | apply bdN | apply bd1 | refine below_set ?_ GE201.out | refine below_set ?_ GE202.out) | exact HB.out))) : w.heap.size ≤ gb209)); have n6_ := As0 ((by rw [hg]; exact (below_size (by repeat (first | (with_reducible first | exact HB.out | apply below_alloc | apply bdN | apply bd1 | refine below_set ?_ GE201.out | refine below_set ?_ GE202.out) | exact HB.out))) : w.heap.size ≤ gb209)); have n7_ := As0 ((by rw [hg]; exact Nat.ne_of_lt (blk_lt (g := gb201) (o := .cells #[.int .i64 a0_0, .int .i64 a0_1, .slice A0_2 l0_2.length c0_2] 34 (0, 0)) (by (with_reducible repeat (first | refine blk_drewN ?_ _ | refine blk_drew ?_ | refine blk_alloc ?_ _)); exact BK201.out)) : gb201 ≠ gb209)); have n8_ := As0 ((by rw [hg]; exact Nat.ne_of_gt (blk_lt (g := gb201) (o := .cells #[.int .i64 a0_0, .int .i64 a0_1, .slice A0_2 l0_2.length c0_2] 34 (0, 0)) (by (with_reducible repeat (first | refine blk_drewN ?_ _ | refine blk_drew ?_ | refine blk_alloc ?_ _)); exact BK201.out)) : gb209 ≠ gb201)); have n9_ := As0 ((by rw [hg]; exact Nat.ne_of_lt (blk_lt (g := gb202) (o := .cells #[.int .i64 0, .int .i64 0, .int .i64 0, .int .i64 0, .slice none 0 0, .slice none 0 0, .slice none 0 0, .int .i64 0] 39 (0, 0)) (by (with_reducible repeat (first | refine blk_drewN ?_ _ | refine blk_drew ?_ | refine blk_alloc ?_ _)); exact BK202.out)) : gb202 ≠ gb209)); have n10_ := As0 ((by rw [hg]; exact Nat.ne_of_gt (blk_lt (g := gb202) (o := .cells #[.int .i64 0, .int .i64 0, .int .i64 0, .int .i64 0, .slice none 0 0, .slice none 0 0, .slice none 0 0, .int .i64 0] 39 (0, 0)) (by (with_reducible repeat (first | refine blk_drewN ?_ _ | refine blk_drew ?_ | refine blk_alloc ?_ _)); exact BK202.out)) : gb209 ≠ gb202)); clear HO208 BK201 BK202 HB; have HO208 := n0_; have BK201 := n1_; have BK202 := n2_; have HB := n3_; have BK209 := n4_; have GW209 := n5_; have GE209 := n6_; have NB201_209 := n7_; have NB209_201 := n8_; have NB202_209 := n9_; have NB209_202 := n10_; clear n0_ n1_ n2_ n3_ n4_ n5_ n6_ n7_ n8_ n9_ n10_ hb hbox hg; have hnb11 := NB209_201.out; have hnc11 := NB201_209.out; have hnb12 := NB209_202.out; have hnc12 := NB202_209.out; have hcz13_0 : w10.cell? ⟨gb209, 0, none⟩ = some (.int .i64 0) := (blk_cell BK209.out 0).trans rfl; have hcz13_1 : w10.cell? ⟨gb209, 1, none⟩ = some (.int .i64 0) := (blk_cell BK209.out 1).trans rfl; have hcz13_2 : w10.cell? ⟨gb209, 2, none⟩ = some (.int .i64 0) := (blk_cell BK209.out 2).trans rfl; have hcz13_3 : w10.cell? ⟨gb209, 3, none⟩ = some (.int .i64 0) := (blk_cell BK209.out 3).trans rfl; have hcz13_4 : w10.cell? ⟨gb209, 4, none⟩ = some (.slice none 0 0) := (blk_cell BK209.out 4).trans rfl; have hcz13_5 : w10.cell? ⟨gb209, 5, none⟩ = some (.slice none 0 0) := (blk_cell BK209.out 5).trans rfl; have hcz13_6 : w10.cell? ⟨gb209, 6, none⟩ = some (.slice none 0 0) := (blk_cell BK209.out 6).trans rfl; have hcz13_7 : w10.cell? ⟨gb209, 7, none⟩ = some (.int .i64 0) := (blk_cell BK209.out 7).trans rfl; have hfz13_0 := blk_frozen BK209.out 0; have hfz13_1 := blk_frozen BK209.out 1; have hfz13_2 := blk_frozen BK209.out 2; have hfz13_3 := blk_frozen BK209.out 3; have hfz13_4 := blk_frozen BK209.out 4; have hfz13_5 := blk_frozen BK209.out 5; have hfz13_6 := blk_frozen BK209.out 6; have hfz13_7 := blk_frozen BK209.out 7))
  go_loopg [] k (fun kq w' => ∃ (x210004_1 : List Int) (u210004 : Value), Aside0 (regcertref09_Start.l0 kq a0_0 a0_1 l0_2 0 0 0 0 x210004_1 0 = some (r1, r2, r3, r4, r5, r6, r7, r8)) ∧ Aside0 (kq ≤ k) ∧ Aside0 (Kd.R (Kd.int .i64) 2 w' w.heap.size (fun _ => True) u210004 x210004_1) ∧ Aside0 (w'.heap[gb201]? = some (.cells #[.int .i64 a0_0, .int .i64 a0_1, (.slice A0_2 l0_2.length c0_2)] 34 (0, 0))) ∧ Aside0 (w'.heap[gb202]? = some (.cells #[.int .i64 0, .int .i64 0, .int .i64 0, .int .i64 0, (.slice none 0 0), (.slice none 0 0), (.slice none 0 0), .int .i64 0] 39 (0, 0))) ∧ Aside0 (w'.heap[gb209]? = some (.cells #[.int .i64 0, .int .i64 0, .int .i64 0, .int .i64 0, u210004, (.slice none 0 0), (.slice none 0 0), .int .i64 0] 39 (0, 0))) ∧ Aside0 (Below w.heap.size w w'))
  case atStart => exact ⟨(y206), (.slice Ao9 y206.length co9), H', ⟨Nat.le_refl _⟩, ⟨by (with_reducible repeat (first | apply Kd.R_alloc | apply Kd.R_drewN | apply Kd.R_drew)); exact Kd.R_mono (RF gb209 7 (RF gb209 6 (RF gb209 5 (RF gb209 4 (RF gb209 3 (RF gb209 2 (RF gb209 1 (RF gb209 0 (Kd.R_types HO208.out BK209.out (by decide)) (.int .i64 0)) (.int .i64 0)) (.int .i64 0)) (.int .i64 0)) (.slice Ao9 y206.length co9)) (.slice none 0 0)) (.slice none 0 0)) (.int .i64 0)) (fun _ hk => trivial)⟩, ⟨by (with_reducible repeat (first | refine blk_drewN ?_ _ | refine blk_drew ?_ | refine blk_alloc ?_ _)); refine blk_far ?_ NB201_209.out _; (with_reducible repeat (first | refine blk_drewN ?_ _ | refine blk_drew ?_ | refine blk_alloc ?_ _)); refine blk_far ?_ NB201_209.out _; (with_reducible repeat (first | refine blk_drewN ?_ _ | refine blk_drew ?_ | refine blk_alloc ?_ _)); refine blk_far ?_ NB201_209.out _; (with_reducible repeat (first | refine blk_drewN ?_ _ | refine blk_drew ?_ | refine blk_alloc ?_ _)); refine blk_far ?_ NB201_209.out _; (with_reducible repeat (first | refine blk_drewN ?_ _ | refine blk_drew ?_ | refine blk_alloc ?_ _)); refine blk_far ?_ NB201_209.out _; (with_reducible repeat (first | refine blk_drewN ?_ _ | refine blk_drew ?_ | refine blk_alloc ?_ _)); refine blk_far ?_ NB201_209.out _; (with_reducible repeat (first | refine blk_drewN ?_ _ | refine blk_drew ?_ | refine blk_alloc ?_ _)); refine blk_far ?_ NB201_209.out _; (with_reducible repeat (first | refine blk_drewN ?_ _ | refine blk_drew ?_ | refine blk_alloc ?_ _)); refine blk_far ?_ NB201_209.out _; (with_reducible repeat (first | refine blk_drewN ?_ _ | refine blk_drew ?_ | refine blk_alloc ?_ _)); exact BK201.out⟩, ⟨by (with_reducible repeat (first | refine blk_drewN ?_ _ | refine blk_drew ?_ | refine blk_alloc ?_ _)); refine blk_far ?_ NB202_209.out _; (with_reducible repeat (first | refine blk_drewN ?_ _ | refine blk_drew ?_ | refine blk_alloc ?_ _)); refine blk_far ?_ NB202_209.out _; (with_reducible repeat (first | refine blk_drewN ?_ _ | refine blk_drew ?_ | refine blk_alloc ?_ _)); refine blk_far ?_ NB202_209.out _; (with_reducible repeat (first | refine blk_drewN ?_ _ | refine blk_drew ?_ | refine blk_alloc ?_ _)); refine blk_far ?_ NB202_209.out _; (with_reducible repeat (first | refine blk_drewN ?_ _ | refine blk_drew ?_ | refine blk_alloc ?_ _)); refine blk_far ?_ NB202_209.out _; (with_reducible repeat (first | refine blk_drewN ?_ _ | refine blk_drew ?_ | refine blk_alloc ?_ _)); refine blk_far ?_ NB202_209.out _; (with_reducible repeat (first | refine blk_drewN ?_ _ | refine blk_drew ?_ | refine blk_alloc ?_ _)); refine blk_far ?_ NB202_209.out _; (with_reducible repeat (first | refine blk_drewN ?_ _ | refine blk_drew ?_ | refine blk_alloc ?_ _)); refine blk_far ?_ NB202_209.out _; (with_reducible repeat (first | refine blk_drewN ?_ _ | refine blk_drew ?_ | refine blk_alloc ?_ _)); exact BK202.out⟩, ⟨by (with_reducible repeat (first | refine blk_drewN ?_ _ | refine blk_drew ?_ | refine blk_alloc ?_ _)); refine blk_put (cs := #[.int .i64 0, .int .i64 0, .int .i64 0, .int .i64 0, .slice Ao9 y206.length co9, .slice none 0 0, .slice none 0 0, .int .i64 0]) ?_ 7 _ rfl; (with_reducible repeat (first | refine blk_drewN ?_ _ | refine blk_drew ?_ | refine blk_alloc ?_ _)); refine blk_put (cs := #[.int .i64 0, .int .i64 0, .int .i64 0, .int .i64 0, .slice Ao9 y206.length co9, .slice none 0 0, .slice none 0 0, .int .i64 0]) ?_ 6 _ rfl; (with_reducible repeat (first | refine blk_drewN ?_ _ | refine blk_drew ?_ | refine blk_alloc ?_ _)); refine blk_put (cs := #[.int .i64 0, .int .i64 0, .int .i64 0, .int .i64 0, .slice Ao9 y206.length co9, .slice none 0 0, .slice none 0 0, .int .i64 0]) ?_ 5 _ rfl; (with_reducible repeat (first | refine blk_drewN ?_ _ | refine blk_drew ?_ | refine blk_alloc ?_ _)); refine blk_put (cs := #[.int .i64 0, .int .i64 0, .int .i64 0, .int .i64 0, .slice none 0 0, .slice none 0 0, .slice none 0 0, .int .i64 0]) ?_ 4 _ rfl; (with_reducible repeat (first | refine blk_drewN ?_ _ | refine blk_drew ?_ | refine blk_alloc ?_ _)); refine blk_put (cs := #[.int .i64 0, .int .i64 0, .int .i64 0, .int .i64 0, .slice none 0 0, .slice none 0 0, .slice none 0 0, .int .i64 0]) ?_ 3 _ rfl; (with_reducible repeat (first | refine blk_drewN ?_ _ | refine blk_drew ?_ | refine blk_alloc ?_ _)); refine blk_put (cs := #[.int .i64 0, .int .i64 0, .int .i64 0, .int .i64 0, .slice none 0 0, .slice none 0 0, .slice none 0 0, .int .i64 0]) ?_ 2 _ rfl; (with_reducible repeat (first | refine blk_drewN ?_ _ | refine blk_drew ?_ | refine blk_alloc ?_ _)); refine blk_put (cs := #[.int .i64 0, .int .i64 0, .int .i64 0, .int .i64 0, .slice none 0 0, .slice none 0 0, .slice none 0 0, .int .i64 0]) ?_ 1 _ rfl; (with_reducible repeat (first | refine blk_drewN ?_ _ | refine blk_drew ?_ | refine blk_alloc ?_ _)); refine blk_put (cs := #[.int .i64 0, .int .i64 0, .int .i64 0, .int .i64 0, .slice none 0 0, .slice none 0 0, .slice none 0 0, .int .i64 0]) ?_ 0 _ rfl; (with_reducible repeat (first | refine blk_drewN ?_ _ | refine blk_drew ?_ | refine blk_alloc ?_ _)); exact BK209.out⟩, ⟨by repeat (first | (with_reducible first | exact HB.out | apply below_alloc | apply bdN | apply bd1 | refine below_set ?_ GE201.out | refine below_set ?_ GE202.out | refine below_set ?_ GE209.out) | exact HB.out)⟩⟩
  case round =>
   clear H'
   try clear c1
   try clear p2
   try clear c3
   try clear c4
   try clear c11
   try clear c12
   try clear hcz13_0
   try clear hcz13_1
   try clear hcz13_2
   try clear hcz13_3
   try clear hcz13_4
   try clear hcz13_5
   try clear hcz13_6
   try clear hcz13_7
   try clear hfz13_0
   try clear hfz13_1
   try clear hfz13_2
   try clear hfz13_3
   try clear hfz13_4
   try clear hfz13_5
   try clear hfz13_6
   try clear hfz13_7
   obtain ⟨x210004_1, u210004, HA, HK1, HO_210004, BK201, BK202, BK209, HB⟩ := hrel
   cases gk with
   | zero => exact absurd HA.out (by simp [regcertref09_Start.l0])
   | succ k1 =>
    have H := HA.out
    clear HA
    simp only [regcertref09_Start.l0] at H
    by_cases c14 : (x210004_1.length : Int) < a0_1
    ·rw [if_pos c14] at H
     have c14b0 : decide ((x210004_1.length : Int) < a0_1) = true := decide_eq_true c14
     clear c14
     by_cases c15 : x210004_1.length < 17592186044416
     ·rw [if_pos c15] at H
      have LMc15 := As0 c15
      clear c15
      obtain ⟨y210, hy210⟩ : ∃ y_ : List Int, y_ = (x210004_1 ++ [0]) := ⟨_, rfl⟩
      replace H : (regcertref09_Start.l0 k1 a0_0 a0_1 l0_2 0 0 0 0 y210 0) = some (r1, r2, r3, r4, r5, r6, r7, r8) := by first | (rw [hy210]; with_reducible exact H) | (have H2_ := (Option.bind_some _ _).symm.trans H; rw [hy210]; with_reducible exact H2_) | (have H2_ := (Option.bind_some _ _).symm.trans H; with_reducible exact H2_) | with_reducible exact H | (rw [hy210]; exact H) | exact H
      have Ny210 := As0 hy210
      clear hy210
      have H' := As0 H
      clear H
      have hnb16 := NB209_201.out
      have hnc16 := NB201_209.out
      have hnb17 := NB209_202.out
      have hnc17 := NB202_209.out
      have hcz18_0 : wr.cell? ⟨gb209, 0, none⟩ = some (.int .i64 0) := (blk_cell BK209.out 0).trans rfl
      have hcz18_1 : wr.cell? ⟨gb209, 1, none⟩ = some (.int .i64 0) := (blk_cell BK209.out 1).trans rfl
      have hcz18_2 : wr.cell? ⟨gb209, 2, none⟩ = some (.int .i64 0) := (blk_cell BK209.out 2).trans rfl
      have hcz18_3 : wr.cell? ⟨gb209, 3, none⟩ = some (.int .i64 0) := (blk_cell BK209.out 3).trans rfl
      have hcz18_4 : wr.cell? ⟨gb209, 4, none⟩ = some (u210004) := (blk_cell BK209.out 4).trans rfl
      have hcz18_5 : wr.cell? ⟨gb209, 5, none⟩ = some (.slice none 0 0) := (blk_cell BK209.out 5).trans rfl
      have hcz18_6 : wr.cell? ⟨gb209, 6, none⟩ = some (.slice none 0 0) := (blk_cell BK209.out 6).trans rfl
      have hcz18_7 : wr.cell? ⟨gb209, 7, none⟩ = some (.int .i64 0) := (blk_cell BK209.out 7).trans rfl
      have hfz18_0 := blk_frozen BK209.out 0
      have hfz18_1 := blk_frozen BK209.out 1
      have hfz18_2 := blk_frozen BK209.out 2
      have hfz18_3 := blk_frozen BK209.out 3
      have hfz18_4 := blk_frozen BK209.out 4
      have hfz18_5 := blk_frozen BK209.out 5
      have hfz18_6 := blk_frozen BK209.out 6
      have hfz18_7 := blk_frozen BK209.out 7
      obtain ⟨Ao19, co19, eo19⟩ := Kd.R_slice HO_210004.out
      subst eo19
      have hnb20 := NB201_202.out
      have hnc20 := NB202_201.out
      have hcz21_0 : wr.cell? ⟨gb201, 0, none⟩ = some (.int .i64 a0_0) := (blk_cell BK201.out 0).trans rfl
      have hcz21_1 : wr.cell? ⟨gb201, 1, none⟩ = some (.int .i64 a0_1) := (blk_cell BK201.out 1).trans rfl
      have hcz21_2 : wr.cell? ⟨gb201, 2, none⟩ = some (.slice A0_2 l0_2.length c0_2) := (blk_cell BK201.out 2).trans rfl
      have hfz21_0 := blk_frozen BK201.out 0
      have hfz21_1 := blk_frozen BK201.out 1
      have hfz21_2 := blk_frozen BK201.out 2
      go_wp2_with (first | ((with_reducible refine gate_builtin (b := .append) (xs := #[.tmp 17, .tmp 18]) rfl ?_); at_builtin; refine Kd.R_append (Kd.int .i64) (w0 := w) w.heap.size rfl (.tmp 17) (.tmp 18) 35 2 (.int .i64 0) 8 rfl Try.underlying35 info2 rfl (by decide) (by omega) (.slice Ao19 x210004_1.length co19) x210004_1 0 [.int .i64 0] (fun _ => True) (fun _ => False) rfl rfl ?aP (fun _ hk => hk.elim) ?aF ?aO ?aB ?aS ?aL ?_; (case aP => exact rfl); (case aB => exact (by repeat (first | (with_reducible first | exact HB.out | apply below_alloc | apply bdN | apply bd1 | refine below_set ?_ GE201.out | refine below_set ?_ GE202.out | refine below_set ?_ GE209.out) | exact HB.out))); (case aF => exact (fun _ _ => trivial)); (case aO => exact (by (with_reducible repeat (first | apply Kd.R_alloc | apply Kd.R_drewN | apply Kd.R_drew)); exact HO_210004.out)); (case aS => exact (below_size (by repeat (first | (with_reducible first | exact HB.out | apply below_alloc | apply bdN | apply bd1 | refine below_set ?_ GE201.out | refine below_set ?_ GE202.out | refine below_set ?_ GE209.out) | exact HB.out)))); (case aL => have := LMc15.out; omega); intro v211 w22 ho hb hg hat; rw [← Ny210.out] at ho; have n0_ := As0 (blk_grown (g := gb201) (o := .cells #[.int .i64 a0_0, .int .i64 a0_1, .slice A0_2 l0_2.length c0_2] 34 (0, 0)) (by (with_reducible repeat (first | refine blk_drewN ?_ _ | refine blk_drew ?_ | refine blk_alloc ?_ _)); exact BK201.out) hg (Kd.R_ne HO_210004.out BK201.out (by decide))); have n1_ := As0 (blk_grown (g := gb202) (o := .cells #[.int .i64 0, .int .i64 0, .int .i64 0, .int .i64 0, .slice none 0 0, .slice none 0 0, .slice none 0 0, .int .i64 0] 39 (0, 0)) (by (with_reducible repeat (first | refine blk_drewN ?_ _ | refine blk_drew ?_ | refine blk_alloc ?_ _)); exact BK202.out) hg (Kd.R_ne HO_210004.out BK202.out (by decide))); have n2_ := As0 (blk_grown (g := gb209) (o := .cells #[.int .i64 0, .int .i64 0, .int .i64 0, .int .i64 0, .slice Ao19 x210004_1.length co19, .slice none 0 0, .slice none 0 0, .int .i64 0] 39 (0, 0)) (by (with_reducible repeat (first | refine blk_drewN ?_ _ | refine blk_drew ?_ | refine blk_alloc ?_ _)); exact BK209.out) hg (Kd.R_ne HO_210004.out BK209.out (by decide))); have n3_ := As0 (hb); have n4_ := As0 (ho); clear BK201 BK202 BK209 HB HO_210004; have BK201 := n0_; have BK202 := n1_; have BK209 := n2_; have HB := n3_; have HO212 := n4_; clear n0_ n1_ n2_ n3_ n4_ ho hb hg hat; obtain ⟨Ao23, co23, eo23⟩ := Kd.R_slice HO212.out; subst eo23; have hcz24_0 : w22.cell? ⟨gb209, 0, none⟩ = some (.int .i64 0) := (blk_cell BK209.out 0).trans rfl; have hcz24_1 : w22.cell? ⟨gb209, 1, none⟩ = some (.int .i64 0) := (blk_cell BK209.out 1).trans rfl; have hcz24_2 : w22.cell? ⟨gb209, 2, none⟩ = some (.int .i64 0) := (blk_cell BK209.out 2).trans rfl; have hcz24_3 : w22.cell? ⟨gb209, 3, none⟩ = some (.int .i64 0) := (blk_cell BK209.out 3).trans rfl; have hcz24_4 : w22.cell? ⟨gb209, 4, none⟩ = some (.slice Ao19 x210004_1.length co19) := (blk_cell BK209.out 4).trans rfl; have hcz24_5 : w22.cell? ⟨gb209, 5, none⟩ = some (.slice none 0 0) := (blk_cell BK209.out 5).trans rfl; have hcz24_6 : w22.cell? ⟨gb209, 6, none⟩ = some (.slice none 0 0) := (blk_cell BK209.out 6).trans rfl; have hcz24_7 : w22.cell? ⟨gb209, 7, none⟩ = some (.int .i64 0) := (blk_cell BK209.out 7).trans rfl; have hfz24_0 := blk_frozen BK209.out 0; have hfz24_1 := blk_frozen BK209.out 1; have hfz24_2 := blk_frozen BK209.out 2; have hfz24_3 := blk_frozen BK209.out 3; have hfz24_4 := blk_frozen BK209.out 4; have hfz24_5 := blk_frozen BK209.out 5; have hfz24_6 := blk_frozen BK209.out 6; have hfz24_7 := blk_frozen BK209.out 7))
      go_roundg k1
      case measure => have := HK1.out; omega
      case rel => exact ⟨(y210), (.slice Ao23 y210.length co23), H', ⟨by have := HK1.out; omega⟩, ⟨by (with_reducible repeat (first | apply Kd.R_alloc | apply Kd.R_drewN | apply Kd.R_drew)); exact Kd.R_mono (RF gb209 4 (Kd.R_types HO212.out BK209.out (by decide)) (.slice Ao23 y210.length co23)) (fun _ hk => trivial)⟩, ⟨by (with_reducible repeat (first | refine blk_drewN ?_ _ | refine blk_drew ?_ | refine blk_alloc ?_ _)); refine blk_far ?_ NB201_209.out _; (with_reducible repeat (first | refine blk_drewN ?_ _ | refine blk_drew ?_ | refine blk_alloc ?_ _)); exact BK201.out⟩, ⟨by (with_reducible repeat (first | refine blk_drewN ?_ _ | refine blk_drew ?_ | refine blk_alloc ?_ _)); refine blk_far ?_ NB202_209.out _; (with_reducible repeat (first | refine blk_drewN ?_ _ | refine blk_drew ?_ | refine blk_alloc ?_ _)); exact BK202.out⟩, ⟨by (with_reducible repeat (first | refine blk_drewN ?_ _ | refine blk_drew ?_ | refine blk_alloc ?_ _)); refine blk_put (cs := #[.int .i64 0, .int .i64 0, .int .i64 0, .int .i64 0, .slice Ao19 x210004_1.length co19, .slice none 0 0, .slice none 0 0, .int .i64 0]) ?_ 4 _ rfl; (with_reducible repeat (first | refine blk_drewN ?_ _ | refine blk_drew ?_ | refine blk_alloc ?_ _)); exact BK209.out⟩, ⟨by repeat (first | (with_reducible first | exact HB.out | apply below_alloc | apply bdN | apply bd1 | refine below_set ?_ GE201.out | refine below_set ?_ GE202.out | refine below_set ?_ GE209.out) | exact HB.out)⟩⟩
     ·rw [if_neg c15] at H
      exact absurd H (by simp)
    ·rw [if_neg c14] at H
     have c14b0 : decide ((x210004_1.length : Int) < a0_1) = false := decide_eq_false c14
     clear c14
     simp only [Option.some.injEq, Prod.mk.injEq] at H
     obtain ⟨rfl, rfl, rfl, rfl, rfl, rfl, rfl, rfl⟩ := H
     have hnb25 := NB209_201.out
     have hnc25 := NB201_209.out
     have hnb26 := NB209_202.out
     have hnc26 := NB202_209.out
     have hcz27_0 : wr.cell? ⟨gb209, 0, none⟩ = some (.int .i64 0) := (blk_cell BK209.out 0).trans rfl
     have hcz27_1 : wr.cell? ⟨gb209, 1, none⟩ = some (.int .i64 0) := (blk_cell BK209.out 1).trans rfl
     have hcz27_2 : wr.cell? ⟨gb209, 2, none⟩ = some (.int .i64 0) := (blk_cell BK209.out 2).trans rfl
     have hcz27_3 : wr.cell? ⟨gb209, 3, none⟩ = some (.int .i64 0) := (blk_cell BK209.out 3).trans rfl
     have hcz27_4 : wr.cell? ⟨gb209, 4, none⟩ = some (u210004) := (blk_cell BK209.out 4).trans rfl
     have hcz27_5 : wr.cell? ⟨gb209, 5, none⟩ = some (.slice none 0 0) := (blk_cell BK209.out 5).trans rfl
     have hcz27_6 : wr.cell? ⟨gb209, 6, none⟩ = some (.slice none 0 0) := (blk_cell BK209.out 6).trans rfl
     have hcz27_7 : wr.cell? ⟨gb209, 7, none⟩ = some (.int .i64 0) := (blk_cell BK209.out 7).trans rfl
     have hfz27_0 := blk_frozen BK209.out 0
     have hfz27_1 := blk_frozen BK209.out 1
     have hfz27_2 := blk_frozen BK209.out 2
     have hfz27_3 := blk_frozen BK209.out 3
     have hfz27_4 := blk_frozen BK209.out 4
     have hfz27_5 := blk_frozen BK209.out 5
     have hfz27_6 := blk_frozen BK209.out 6
     have hfz27_7 := blk_frozen BK209.out 7
     obtain ⟨Ao28, co28, eo28⟩ := Kd.R_slice HO_210004.out
     subst eo28
     have hnb29 := NB201_202.out
     have hnc29 := NB202_201.out
     have hcz30_0 : wr.cell? ⟨gb201, 0, none⟩ = some (.int .i64 a0_0) := (blk_cell BK201.out 0).trans rfl
     have hcz30_1 : wr.cell? ⟨gb201, 1, none⟩ = some (.int .i64 a0_1) := (blk_cell BK201.out 1).trans rfl
     have hcz30_2 : wr.cell? ⟨gb201, 2, none⟩ = some (.slice A0_2 l0_2.length c0_2) := (blk_cell BK201.out 2).trans rfl
     have hfz30_0 := blk_frozen BK201.out 0
     have hfz30_1 := blk_frozen BK201.out 1
     have hfz30_2 := blk_frozen BK201.out 2
     have hcz31_0 : wr.cell? ⟨gb202, 0, none⟩ = some (.int .i64 0) := (blk_cell BK202.out 0).trans rfl
     have hcz31_1 : wr.cell? ⟨gb202, 1, none⟩ = some (.int .i64 0) := (blk_cell BK202.out 1).trans rfl
     have hcz31_2 : wr.cell? ⟨gb202, 2, none⟩ = some (.int .i64 0) := (blk_cell BK202.out 2).trans rfl
     have hcz31_3 : wr.cell? ⟨gb202, 3, none⟩ = some (.int .i64 0) := (blk_cell BK202.out 3).trans rfl
     have hcz31_4 : wr.cell? ⟨gb202, 4, none⟩ = some (.slice none 0 0) := (blk_cell BK202.out 4).trans rfl
     have hcz31_5 : wr.cell? ⟨gb202, 5, none⟩ = some (.slice none 0 0) := (blk_cell BK202.out 5).trans rfl
     have hcz31_6 : wr.cell? ⟨gb202, 6, none⟩ = some (.slice none 0 0) := (blk_cell BK202.out 6).trans rfl
     have hcz31_7 : wr.cell? ⟨gb202, 7, none⟩ = some (.int .i64 0) := (blk_cell BK202.out 7).trans rfl
     have hfz31_0 := blk_frozen BK202.out 0
     have hfz31_1 := blk_frozen BK202.out 1
     have hfz31_2 := blk_frozen BK202.out 2
     have hfz31_3 := blk_frozen BK202.out 3
     have hfz31_4 := blk_frozen BK202.out 4
     have hfz31_5 := blk_frozen BK202.out 5
     have hfz31_6 := blk_frozen BK202.out 6
     have hfz31_7 := blk_frozen BK202.out 7
     go_wp2
     refine bodyPost_ret (results_cell_row rfl _ _ gb202 39 #[.int .i64 0, .int .i64 0, .int .i64 0, .int .i64 0, .slice Ao28 x210004_1.length co28, .slice none 0 0, .slice none 0 0, .int .i64 0] (0, 0) _ rfl (by (with_reducible repeat (first | refine blk_drewN ?_ _ | refine blk_drew ?_ | refine blk_alloc ?_ _)); refine blk_put (cs := #[.int .i64 0, .int .i64 0, .int .i64 0, .int .i64 0, .slice Ao28 x210004_1.length co28, .slice none 0 0, .slice none 0 0, .int .i64 0]) ?_ 7 _ rfl; (with_reducible repeat (first | refine blk_drewN ?_ _ | refine blk_drew ?_ | refine blk_alloc ?_ _)); refine blk_put (cs := #[.int .i64 0, .int .i64 0, .int .i64 0, .int .i64 0, .slice Ao28 x210004_1.length co28, .slice none 0 0, .slice none 0 0, .int .i64 0]) ?_ 6 _ rfl; (with_reducible repeat (first | refine blk_drewN ?_ _ | refine blk_drew ?_ | refine blk_alloc ?_ _)); refine blk_put (cs := #[.int .i64 0, .int .i64 0, .int .i64 0, .int .i64 0, .slice Ao28 x210004_1.length co28, .slice none 0 0, .slice none 0 0, .int .i64 0]) ?_ 5 _ rfl; (with_reducible repeat (first | refine blk_drewN ?_ _ | refine blk_drew ?_ | refine blk_alloc ?_ _)); refine blk_put (cs := #[.int .i64 0, .int .i64 0, .int .i64 0, .int .i64 0, .slice none 0 0, .slice none 0 0, .slice none 0 0, .int .i64 0]) ?_ 4 _ rfl; (with_reducible repeat (first | refine blk_drewN ?_ _ | refine blk_drew ?_ | refine blk_alloc ?_ _)); refine blk_put (cs := #[.int .i64 0, .int .i64 0, .int .i64 0, .int .i64 0, .slice none 0 0, .slice none 0 0, .slice none 0 0, .int .i64 0]) ?_ 3 _ rfl; (with_reducible repeat (first | refine blk_drewN ?_ _ | refine blk_drew ?_ | refine blk_alloc ?_ _)); refine blk_put (cs := #[.int .i64 0, .int .i64 0, .int .i64 0, .int .i64 0, .slice none 0 0, .slice none 0 0, .slice none 0 0, .int .i64 0]) ?_ 2 _ rfl; (with_reducible repeat (first | refine blk_drewN ?_ _ | refine blk_drew ?_ | refine blk_alloc ?_ _)); refine blk_put (cs := #[.int .i64 0, .int .i64 0, .int .i64 0, .int .i64 0, .slice none 0 0, .slice none 0 0, .slice none 0 0, .int .i64 0]) ?_ 1 _ rfl; (with_reducible repeat (first | refine blk_drewN ?_ _ | refine blk_drew ?_ | refine blk_alloc ?_ _)); refine blk_put (cs := #[.int .i64 0, .int .i64 0, .int .i64 0, .int .i64 0, .slice none 0 0, .slice none 0 0, .slice none 0 0, .int .i64 0]) ?_ 0 _ rfl; (with_reducible repeat (first | refine blk_drewN ?_ _ | refine blk_drew ?_ | refine blk_alloc ?_ _)); exact BK202.out) Try.underlying39 rfl (by kernel_rfl)) rfl ?_
     exact ⟨_, _, _, by first | rfl | (simp [errW_none, errW_some] <;> rfl) | (simp [*, errW_none, errW_some] <;> rfl), by (with_reducible repeat (first | apply Kd.R_alloc | apply Kd.R_drewN | apply Kd.R_drew)); exact Kd.R_mono (RF gb202 7 (RF gb202 6 (RF gb202 5 (RF gb202 4 (RF gb202 3 (RF gb202 2 (RF gb202 1 (RF gb202 0 (Kd.R_types HO_210004.out BK202.out (by decide)) (.int .i64 0)) (.int .i64 0)) (.int .i64 0)) (.int .i64 0)) (.slice Ao28 x210004_1.length co28)) (.slice none 0 0)) (.slice none 0 0)) (.int .i64 0)) (fun _ hk => ⟨(by simp [Value.ownBlock]), (by simp [Value.ownBlock])⟩), by first | exact Kd.R_nil _ _ _ _ _ | exact Kd.N_nil _ _ _ _ _ | exact Kd.V_nil _ _ _ _ _ | exact Kd.Q_nil _ _ _ _ _ | exact Kd.S_nil _ _ _ _ _, by first | exact Kd.R_nil _ _ _ _ _ | exact Kd.N_nil _ _ _ _ _ | exact Kd.V_nil _ _ _ _ _ | exact Kd.Q_nil _ _ _ _ _ | exact Kd.S_nil _ _ _ _ _, by repeat (first | (with_reducible first | exact HB.out | apply below_alloc | apply bdN | apply bd1 | refine below_set ?_ GE201.out | refine below_set ?_ GE202.out | refine below_set ?_ GE209.out) | exact HB.out)⟩
 ·rw [if_neg c3] at H
  exact absurd H (by simp)

/-! ### regcertref09_Exec: function 41 -/
mutual
def regcertref09_Exec.l0 : Nat → Int → Int → Int → List (S50) → Int → Int → Int → Int → List Int → List Int → List Int → Int → Option (Int × Int × Int × Int × List Int × List Int × List Int × Int)
 | 0, _, _, _, _, _, _, _, _, _, _, _, _ => none
 | k + 1, x2, x253000, x253001, x253002, x269000, x269001, x269002, x269003, x269004, x269005, x269006, x269007 => if x269000 = 0 then (regcertref09_Exec.j1 k x2 (decide (x269007 < x2)) x253000 x253001 x253002 x269000 x269001 x269002 x269003 x269004 x269005 x269006 x269007) else (regcertref09_Exec.j1 k x2 false x253000 x253001 x253002 x269000 x269001 x269002 x269003 x269004 x269005 x269006 x269007)
def regcertref09_Exec.j1 : Nat → Int → Bool → Int → Int → List (S50) → Int → Int → Int → Int → List Int → List Int → List Int → Int → Option (Int × Int × Int × Int × List Int × List Int × List Int × Int)
 | 0, _, _, _, _, _, _, _, _, _, _, _, _, _ => none
 | k + 1, x2, x19, x253000, x253001, x253002, x269000, x269001, x269002, x269003, x269004, x269005, x269006, x269007 => if x19 = true then ((regcertref09_Step.f x253000 x253001 x253002 x269000 x269001 x269002 x269003 x269004 x269005 x269006 x269007).bind fun bt269 => (regcertref09_Exec.l0 k x2 x253000 x253001 x253002 bt269.1 bt269.2.1 bt269.2.2.1 bt269.2.2.2.1 bt269.2.2.2.2.1 bt269.2.2.2.2.2.1 bt269.2.2.2.2.2.2.1 bt269.2.2.2.2.2.2.2)) else (some (x269000, x269001, x269002, x269003, x269004, x269005, x269006, x269007))
end
def regcertref09_Exec.f (k : Nat) (a0_0 : Int) (a0_1 : Int) (l0_2 : List (S50)) (l1 : List Int) (a2 : Int) : Option (Int × Int × Int × Int × List Int × List Int × List Int × Int) := (regcertref09_Start.f k a0_0 a0_1 l0_2 l1).bind fun bt254 => (regcertref09_Exec.l0 k a2 a0_0 a0_1 l0_2 bt254.1 bt254.2.1 bt254.2.2.1 bt254.2.2.2.1 bt254.2.2.2.2.1 bt254.2.2.2.2.2.1 bt254.2.2.2.2.2.2.1 bt254.2.2.2.2.2.2.2)
theorem regcertref09_Exec.mono_l : ∀ k, (∀ y0 y1 y2 y3 y4 y5 y6 y7 y8 y9 y10 y11, LeO (regcertref09_Exec.l0 k y0 y1 y2 y3 y4 y5 y6 y7 y8 y9 y10 y11) (regcertref09_Exec.l0 (k + 1) y0 y1 y2 y3 y4 y5 y6 y7 y8 y9 y10 y11)) ∧ (∀ y0 y1 y2 y3 y4 y5 y6 y7 y8 y9 y10 y11 y12, LeO (regcertref09_Exec.j1 k y0 y1 y2 y3 y4 y5 y6 y7 y8 y9 y10 y11 y12) (regcertref09_Exec.j1 (k + 1) y0 y1 y2 y3 y4 y5 y6 y7 y8 y9 y10 y11 y12))
 | 0 => ⟨fun _ _ _ _ _ _ _ _ _ _ _ _ r h => by simp [regcertref09_Exec.l0] at h, fun _ _ _ _ _ _ _ _ _ _ _ _ _ r h => by simp [regcertref09_Exec.j1] at h⟩
 | k + 1 => by
  obtain ⟨ih0, ih1⟩ := regcertref09_Exec.mono_l k
  refine ⟨?_, ?_⟩
  ·intro y0 y1 y2 y3 y4 y5 y6 y7 y8 y9 y10 y11
   unfold regcertref09_Exec.l0
   repeat' first
   | (with_reducible exact ih0 _ _ _ _ _ _ _ _ _ _ _ _)
   | (with_reducible exact ih1 _ _ _ _ _ _ _ _ _ _ _ _ _)
   | (with_reducible exact regcertref09_Start.mono _ _ _ _ _)
   | (with_reducible exact LeO.refl _)
   | (with_reducible exact LeO.none _)
   | (with_reducible refine LeO.ite ?_ ?_)
   | (with_reducible refine LeO.bind ?_ (fun _ => ?_))
   | exact ih0 _ _ _ _ _ _ _ _ _ _ _ _
   | exact ih1 _ _ _ _ _ _ _ _ _ _ _ _ _
   | exact regcertref09_Start.mono _ _ _ _ _
   | exact LeO.none _
   | refine LeO.ite ?_ ?_
   | refine LeO.bind ?_ (fun _ => ?_)
  ·intro y0 y1 y2 y3 y4 y5 y6 y7 y8 y9 y10 y11 y12
   unfold regcertref09_Exec.j1
   repeat' first
   | (with_reducible exact ih0 _ _ _ _ _ _ _ _ _ _ _ _)
   | (with_reducible exact ih1 _ _ _ _ _ _ _ _ _ _ _ _ _)
   | (with_reducible exact regcertref09_Start.mono _ _ _ _ _)
   | (with_reducible exact LeO.refl _)
   | (with_reducible exact LeO.none _)
   | (with_reducible refine LeO.ite ?_ ?_)
   | (with_reducible refine LeO.bind ?_ (fun _ => ?_))
   | exact ih0 _ _ _ _ _ _ _ _ _ _ _ _
   | exact ih1 _ _ _ _ _ _ _ _ _ _ _ _ _
   | exact regcertref09_Start.mono _ _ _ _ _
   | exact LeO.none _
   | refine LeO.ite ?_ ?_
   | refine LeO.bind ?_ (fun _ => ?_)
theorem regcertref09_Exec.mono : ∀ a0 a1 a2 a3 a4 k, LeO (regcertref09_Exec.f k a0 a1 a2 a3 a4) (regcertref09_Exec.f (k + 1) a0 a1 a2 a3 a4) := by
 intro a0 a1 a2 a3 a4 k
 obtain ⟨ih0, ih1⟩ := regcertref09_Exec.mono_l k
 unfold regcertref09_Exec.f
 repeat' first
   | (with_reducible exact ih0 _ _ _ _ _ _ _ _ _ _ _ _)
   | (with_reducible exact ih1 _ _ _ _ _ _ _ _ _ _ _ _ _)
   | (with_reducible exact regcertref09_Start.mono _ _ _ _ _)
   | (with_reducible exact LeO.refl _)
   | (with_reducible exact LeO.none _)
   | (with_reducible refine LeO.ite ?_ ?_)
   | (with_reducible refine LeO.bind ?_ (fun _ => ?_))
   | exact ih0 _ _ _ _ _ _ _ _ _ _ _ _
   | exact ih1 _ _ _ _ _ _ _ _ _ _ _ _ _
   | exact regcertref09_Start.mono _ _ _ _ _
   | exact LeO.none _
   | refine LeO.ite ?_ ?_
   | refine LeO.bind ?_ (fun _ => ?_)
set_option maxHeartbeats 8000000 in
set_option maxRecDepth 100000 in
theorem regcertref09_Exec.calls (k : Nat) (a0_0 : Int) (a0_1 : Int) (A0_2 : Option Addr) (c0_2 : Nat) (l0_2 : List (S50)) (A1 : Option Addr) (c1 : Nat) (l1 : List Int) (a2 : Int) (r1 : Int) (r2 : Int) (r3 : Int) (r4 : Int) (r5 : List Int) (r6 : List Int) (r7 : List Int) (r8 : Int) (w : World) (hr0_2 : Kd.C k50 w A0_2 l0_2.length l0_2) (hc0_2 : l0_2.length ≤ c0_2) (hr1 : Kd.C (Kd.int .i64) w A1 l1.length l1) (hc1 : l1.length ≤ c1) (h : regcertref09_Exec.f k a0_0 a0_1 l0_2 l1 a2 = some (r1, r2, r3, r4, r5, r6, r7, r8)) :
  Calls Try.prog 41 #[.agg #[.int .i64 a0_0, .int .i64 a0_1, .slice A0_2 l0_2.length c0_2], .slice A1 l1.length c1, .int .i64 a2] w fun e w' => ∃ v4_ v5_ v6_ : Value, e = .returned (.agg #[.int .i64 r1, .int .i64 r2, .int .i64 r3, .int .i64 r4, v4_, v5_, v6_, .int .i64 r8]) ∧ Kd.R (Kd.int .i64) 2 w' w.heap.size (fun k_ => some k_ ≠ (v5_ : Value).ownBlock ∧ some k_ ≠ (v6_ : Value).ownBlock) v4_ r5 ∧ Kd.R (Kd.int .i64) 2 w' w.heap.size (fun k_ => some k_ ≠ (v4_ : Value).ownBlock ∧ some k_ ≠ (v6_ : Value).ownBlock) v5_ r6 ∧ Kd.R (Kd.int .i64) 2 w' w.heap.size (fun k_ => some k_ ≠ (v4_ : Value).ownBlock ∧ some k_ ≠ (v5_ : Value).ownBlock) v6_ r7 ∧ Below w.heap.size w w' := by
 have hu34 := Try.underlying34
 have hu39 := Try.underlying39
 have HR0_2 := As0 hr0_2
 have HC0_2 := As0 hc0_2
 clear hr0_2 hc0_2
 have HR1 := As0 hr1
 have HC1 := As0 hc1
 clear hr1 hc1
 have HB := As0 (Below.refl w.heap.size w)
 have H : ((regcertref09_Start.f k a0_0 a0_1 l0_2 l1).bind fun bt254 => (regcertref09_Exec.l0 k a2 a0_0 a0_1 l0_2 bt254.1 bt254.2.1 bt254.2.2.1 bt254.2.2.2.1 bt254.2.2.2.2.1 bt254.2.2.2.2.2.1 bt254.2.2.2.2.2.2.1 bt254.2.2.2.2.2.2.2)) = some (r1, r2, r3, r4, r5, r6, r7, r8) := h
 clear h
 replace H := Option.bind_eq_some_iff.mp H
 obtain ⟨⟨t254, t255, t256, t257, t258, t261, t264, t267⟩, A40, H⟩ := H
 replace H : (regcertref09_Exec.l0 k a2 a0_0 a0_1 l0_2 t254 t255 t256 t257 t258 t261 t264 t267) = some (r1, r2, r3, r4, r5, r6, r7, r8) := H
 have A4 := As0 A40
 clear A40
 have H' := As0 H
 clear H
 go_enter Try.func41, Try.ntmps41
 go_wp2_with (first | ((with_reducible refine gate_dst (N := 3) rfl ?_); refine box_event ?hg (N := 3) ?hd (cs := #[.int .i64 a0_0, .int .i64 a0_1, .slice A0_2 l0_2.length c0_2]) (t := 34) ?hr ?_; (case hd => rfl); (case hg => rfl); (case hr => first | (go_simp; done) | (go_simp; rfl)); intro gb252 hg w5 hbox hb; have n0_ := As0 (below_step (by repeat (first | (with_reducible first | exact HB.out | apply below_alloc | apply bdN | apply bd1) | exact HB.out)) hb); have n1_ := As0 (hbox); have n2_ := As0 ((by rw [hg]; exact (below_size (by repeat (first | (with_reducible first | exact HB.out | apply below_alloc | apply bdN | apply bd1) | exact HB.out))) : w.heap.size ≤ gb252)); have n3_ := As0 ((by rw [hg]; exact (below_size (by repeat (first | (with_reducible first | exact HB.out | apply below_alloc | apply bdN | apply bd1) | exact HB.out))) : w.heap.size ≤ gb252)); clear HB; have HB := n0_; have BK252 := n1_; have GW252 := n2_; have GE252 := n3_; clear n0_ n1_ n2_ n3_ hb hbox hg) | ((with_reducible refine gate_dst (N := 6) rfl ?_); refine box_event ?hg (N := 6) ?hd (cs := #[.int .i64 0, .int .i64 0, .int .i64 0, .int .i64 0, .slice none 0 0, .slice none 0 0, .slice none 0 0, .int .i64 0]) (t := 39) ?hr ?_; (case hd => rfl); (case hg => rfl); (case hr => first | (go_simp; done) | (go_simp; rfl)); intro gb253 hg w6 hbox hb; have n0_ := As0 (blk_below (g := gb252) (o := .cells #[.int .i64 a0_0, .int .i64 a0_1, .slice A0_2 l0_2.length c0_2] 34 (0, 0)) (by (with_reducible repeat (first | refine blk_drewN ?_ _ | refine blk_drew ?_ | refine blk_alloc ?_ _)); exact BK252.out) hb); have n1_ := As0 (below_step (by repeat (first | (with_reducible first | exact HB.out | apply below_alloc | apply bdN | apply bd1 | refine below_set ?_ GE252.out) | exact HB.out)) hb); have n2_ := As0 (hbox); have n3_ := As0 ((by rw [hg]; exact (below_size (by repeat (first | (with_reducible first | exact HB.out | apply below_alloc | apply bdN | apply bd1 | refine below_set ?_ GE252.out) | exact HB.out))) : w.heap.size ≤ gb253)); have n4_ := As0 ((by rw [hg]; exact (below_size (by repeat (first | (with_reducible first | exact HB.out | apply below_alloc | apply bdN | apply bd1 | refine below_set ?_ GE252.out) | exact HB.out))) : w.heap.size ≤ gb253)); have n5_ := As0 ((by rw [hg]; exact Nat.ne_of_lt (blk_lt (g := gb252) (o := .cells #[.int .i64 a0_0, .int .i64 a0_1, .slice A0_2 l0_2.length c0_2] 34 (0, 0)) (by (with_reducible repeat (first | refine blk_drewN ?_ _ | refine blk_drew ?_ | refine blk_alloc ?_ _)); exact BK252.out)) : gb252 ≠ gb253)); have n6_ := As0 ((by rw [hg]; exact Nat.ne_of_gt (blk_lt (g := gb252) (o := .cells #[.int .i64 a0_0, .int .i64 a0_1, .slice A0_2 l0_2.length c0_2] 34 (0, 0)) (by (with_reducible repeat (first | refine blk_drewN ?_ _ | refine blk_drew ?_ | refine blk_alloc ?_ _)); exact BK252.out)) : gb253 ≠ gb252)); clear BK252 HB; have BK252 := n0_; have HB := n1_; have BK253 := n2_; have GW253 := n3_; have GE253 := n4_; have NB252_253 := n5_; have NB253_252 := n6_; clear n0_ n1_ n2_ n3_ n4_ n5_ n6_ hb hbox hg; have hnb7 := NB252_253.out; have hnc7 := NB253_252.out; have hcz8_0 : w6.cell? ⟨gb252, 0, none⟩ = some (.int .i64 a0_0) := (blk_cell BK252.out 0).trans rfl; have hcz8_1 : w6.cell? ⟨gb252, 1, none⟩ = some (.int .i64 a0_1) := (blk_cell BK252.out 1).trans rfl; have hcz8_2 : w6.cell? ⟨gb252, 2, none⟩ = some (.slice A0_2 l0_2.length c0_2) := (blk_cell BK252.out 2).trans rfl; have hfz8_0 := blk_frozen BK252.out 0; have hfz8_1 := blk_frozen BK252.out 1; have hfz8_2 := blk_frozen BK252.out 2) | ((with_reducible refine gate_callee (f := 42) rfl ?_); refine goesL_ (some 10) rfl rfl Try.func42 (by kernel_rfl) rfl #[.agg #[.int .i64 a0_0, .int .i64 a0_1, .slice A0_2 l0_2.length c0_2], .slice A1 l1.length c1] rfl (by (try simp only [List.map_toArray, List.map_cons, List.map_nil]); first | done | rfl | (simp only [List.length_drop, List.length_take]; rfl)) ?_; (with_reducible refine (regcertref09_Start.calls k a0_0 a0_1 _ _ l0_2 _ _ l1 t254 t255 t256 t257 t258 t261 t264 t267 _ ?side1 ?side2 ?side3 ?side4 A4.out).mono ?_); (case side1 => repeat (first | exact (Kd.C_below HR0_2.out HB.out) | (with_reducible refine Kd.C_alloc ?_ _) | (with_reducible refine Kd.C_drewN ?_ _) | (with_reducible refine Kd.C_drew ?_))); (case side2 => exact HC0_2.out); (case side3 => repeat (first | exact (Kd.C_below HR1.out HB.out) | (with_reducible refine Kd.C_alloc ?_ _) | (with_reducible refine Kd.C_drewN ?_ _) | (with_reducible refine Kd.C_drew ?_))); (case side4 => exact HC1.out); rintro e w9 ⟨v259, v262, v265, rfl, ho0, ho1, ho2, hb⟩; refine ⟨_, rfl, ?_⟩; have n0_ := As0 (Kd.R_lower ho0 (below_size (by repeat (first | (with_reducible first | exact HB.out | apply below_alloc | apply bdN | apply bd1 | refine below_set ?_ GE252.out | refine below_set ?_ GE253.out) | exact HB.out)))); have n1_ := As0 (Kd.R_lower ho1 (below_size (by repeat (first | (with_reducible first | exact HB.out | apply below_alloc | apply bdN | apply bd1 | refine below_set ?_ GE252.out | refine below_set ?_ GE253.out) | exact HB.out)))); have n2_ := As0 (Kd.R_lower ho2 (below_size (by repeat (first | (with_reducible first | exact HB.out | apply below_alloc | apply bdN | apply bd1 | refine below_set ?_ GE252.out | refine below_set ?_ GE253.out) | exact HB.out)))); have n3_ := As0 (blk_below (g := gb252) (o := .cells #[.int .i64 a0_0, .int .i64 a0_1, .slice A0_2 l0_2.length c0_2] 34 (0, 0)) (by (with_reducible repeat (first | refine blk_drewN ?_ _ | refine blk_drew ?_ | refine blk_alloc ?_ _)); exact BK252.out) hb); have n4_ := As0 (blk_below (g := gb253) (o := .cells #[.int .i64 0, .int .i64 0, .int .i64 0, .int .i64 0, .slice none 0 0, .slice none 0 0, .slice none 0 0, .int .i64 0] 39 (0, 0)) (by (with_reducible repeat (first | refine blk_drewN ?_ _ | refine blk_drew ?_ | refine blk_alloc ?_ _)); exact BK253.out) hb); have n5_ := As0 (below_step (by repeat (first | (with_reducible first | exact HB.out | apply below_alloc | apply bdN | apply bd1 | refine below_set ?_ GE252.out | refine below_set ?_ GE253.out) | exact HB.out)) hb); clear BK252 BK253 HB; have HO260 := n0_; have HO263 := n1_; have HO266 := n2_; have BK252 := n3_; have BK253 := n4_; have HB := n5_; clear n0_ n1_ n2_ n3_ n4_ n5_; (try clear hb); (try clear hb2); (try clear hk); (try clear hi); (try clear ho0); (try clear ho1); (try clear ho2)) | ((with_reducible refine gate_dst (N := 7) rfl ?_); refine box_event ?hg (N := 7) ?hd (cs := #[.int .i64 0, .int .i64 0, .int .i64 0, .int .i64 0, .slice none 0 0, .slice none 0 0, .slice none 0 0, .int .i64 0]) (t := 39) ?hr ?_; (case hd => rfl); (case hg => rfl); (case hr => first | (go_simp; done) | (go_simp; rfl)); intro gb268 hg w10 hbox hb; have n0_ := As0 (Kd.R_below (by (with_reducible repeat (first | apply Kd.R_alloc | apply Kd.R_drewN | apply Kd.R_drew)); exact HO260.out) hb); have n1_ := As0 (Kd.R_below (by (with_reducible repeat (first | apply Kd.R_alloc | apply Kd.R_drewN | apply Kd.R_drew)); exact HO263.out) hb); have n2_ := As0 (Kd.R_below (by (with_reducible repeat (first | apply Kd.R_alloc | apply Kd.R_drewN | apply Kd.R_drew)); exact HO266.out) hb); have n3_ := As0 (blk_below (g := gb252) (o := .cells #[.int .i64 a0_0, .int .i64 a0_1, .slice A0_2 l0_2.length c0_2] 34 (0, 0)) (by (with_reducible repeat (first | refine blk_drewN ?_ _ | refine blk_drew ?_ | refine blk_alloc ?_ _)); exact BK252.out) hb); have n4_ := As0 (blk_below (g := gb253) (o := .cells #[.int .i64 0, .int .i64 0, .int .i64 0, .int .i64 0, .slice none 0 0, .slice none 0 0, .slice none 0 0, .int .i64 0] 39 (0, 0)) (by (with_reducible repeat (first | refine blk_drewN ?_ _ | refine blk_drew ?_ | refine blk_alloc ?_ _)); exact BK253.out) hb); have n5_ := As0 (below_step (by repeat (first | (with_reducible first | exact HB.out | apply below_alloc | apply bdN | apply bd1 | refine below_set ?_ GE252.out | refine below_set ?_ GE253.out) | exact HB.out)) hb); have n6_ := As0 (hbox); have n7_ := As0 ((by rw [hg]; exact (below_size (by repeat (first | (with_reducible first | exact HB.out | apply below_alloc | apply bdN | apply bd1 | refine below_set ?_ GE252.out | refine below_set ?_ GE253.out) | exact HB.out))) : w.heap.size ≤ gb268)); have n8_ := As0 ((by rw [hg]; exact (below_size (by repeat (first | (with_reducible first | exact HB.out | apply below_alloc | apply bdN | apply bd1 | refine below_set ?_ GE252.out | refine below_set ?_ GE253.out) | exact HB.out))) : w.heap.size ≤ gb268)); have n9_ := As0 ((by rw [hg]; exact Nat.ne_of_lt (blk_lt (g := gb252) (o := .cells #[.int .i64 a0_0, .int .i64 a0_1, .slice A0_2 l0_2.length c0_2] 34 (0, 0)) (by (with_reducible repeat (first | refine blk_drewN ?_ _ | refine blk_drew ?_ | refine blk_alloc ?_ _)); exact BK252.out)) : gb252 ≠ gb268)); have n10_ := As0 ((by rw [hg]; exact Nat.ne_of_gt (blk_lt (g := gb252) (o := .cells #[.int .i64 a0_0, .int .i64 a0_1, .slice A0_2 l0_2.length c0_2] 34 (0, 0)) (by (with_reducible repeat (first | refine blk_drewN ?_ _ | refine blk_drew ?_ | refine blk_alloc ?_ _)); exact BK252.out)) : gb268 ≠ gb252)); have n11_ := As0 ((by rw [hg]; exact Nat.ne_of_lt (blk_lt (g := gb253) (o := .cells #[.int .i64 0, .int .i64 0, .int .i64 0, .int .i64 0, .slice none 0 0, .slice none 0 0, .slice none 0 0, .int .i64 0] 39 (0, 0)) (by (with_reducible repeat (first | refine blk_drewN ?_ _ | refine blk_drew ?_ | refine blk_alloc ?_ _)); exact BK253.out)) : gb253 ≠ gb268)); have n12_ := As0 ((by rw [hg]; exact Nat.ne_of_gt (blk_lt (g := gb253) (o := .cells #[.int .i64 0, .int .i64 0, .int .i64 0, .int .i64 0, .slice none 0 0, .slice none 0 0, .slice none 0 0, .int .i64 0] 39 (0, 0)) (by (with_reducible repeat (first | refine blk_drewN ?_ _ | refine blk_drew ?_ | refine blk_alloc ?_ _)); exact BK253.out)) : gb268 ≠ gb253)); clear HO260 HO263 HO266 BK252 BK253 HB; have HO260 := n0_; have HO263 := n1_; have HO266 := n2_; have BK252 := n3_; have BK253 := n4_; have HB := n5_; have BK268 := n6_; have GW268 := n7_; have GE268 := n8_; have NB252_268 := n9_; have NB268_252 := n10_; have NB253_268 := n11_; have NB268_253 := n12_; clear n0_ n1_ n2_ n3_ n4_ n5_ n6_ n7_ n8_ n9_ n10_ n11_ n12_ hb hbox hg; have hnb11 := NB268_252.out; have hnc11 := NB252_268.out; have hnb12 := NB268_253.out; have hnc12 := NB253_268.out; have hcz13_0 : w10.cell? ⟨gb268, 0, none⟩ = some (.int .i64 0) := (blk_cell BK268.out 0).trans rfl; have hcz13_1 : w10.cell? ⟨gb268, 1, none⟩ = some (.int .i64 0) := (blk_cell BK268.out 1).trans rfl; have hcz13_2 : w10.cell? ⟨gb268, 2, none⟩ = some (.int .i64 0) := (blk_cell BK268.out 2).trans rfl; have hcz13_3 : w10.cell? ⟨gb268, 3, none⟩ = some (.int .i64 0) := (blk_cell BK268.out 3).trans rfl; have hcz13_4 : w10.cell? ⟨gb268, 4, none⟩ = some (.slice none 0 0) := (blk_cell BK268.out 4).trans rfl; have hcz13_5 : w10.cell? ⟨gb268, 5, none⟩ = some (.slice none 0 0) := (blk_cell BK268.out 5).trans rfl; have hcz13_6 : w10.cell? ⟨gb268, 6, none⟩ = some (.slice none 0 0) := (blk_cell BK268.out 6).trans rfl; have hcz13_7 : w10.cell? ⟨gb268, 7, none⟩ = some (.int .i64 0) := (blk_cell BK268.out 7).trans rfl; have hfz13_0 := blk_frozen BK268.out 0; have hfz13_1 := blk_frozen BK268.out 1; have hfz13_2 := blk_frozen BK268.out 2; have hfz13_3 := blk_frozen BK268.out 3; have hfz13_4 := blk_frozen BK268.out 4; have hfz13_5 := blk_frozen BK268.out 5; have hfz13_6 := blk_frozen BK268.out 6; have hfz13_7 := blk_frozen BK268.out 7; obtain ⟨Ao14, co14, eo14⟩ := Kd.R_slice HO260.out; subst eo14; obtain ⟨Ao15, co15, eo15⟩ := Kd.R_slice HO263.out; subst eo15; obtain ⟨Ao16, co16, eo16⟩ := Kd.R_slice HO266.out; subst eo16))
 go_loopg [] k (fun kq w' => ∃ (x269000_1 : Int) (x269001_1 : Int) (x269002_1 : Int) (x269003_1 : Int) (x269004_1 : List Int) (x269005_1 : List Int) (x269006_1 : List Int) (x269007_1 : Int) (u269004 : Value) (u269005 : Value) (u269006 : Value), Aside0 (regcertref09_Exec.l0 kq a2 a0_0 a0_1 l0_2 x269000_1 x269001_1 x269002_1 x269003_1 x269004_1 x269005_1 x269006_1 x269007_1 = some (r1, r2, r3, r4, r5, r6, r7, r8)) ∧ Aside0 (kq ≤ k) ∧ Aside0 (Kd.R (Kd.int .i64) 2 w' w.heap.size (fun k_ => some k_ ≠ (u269005 : Value).ownBlock ∧ some k_ ≠ (u269006 : Value).ownBlock) u269004 x269004_1) ∧ Aside0 (Kd.R (Kd.int .i64) 2 w' w.heap.size (fun k_ => some k_ ≠ (u269004 : Value).ownBlock ∧ some k_ ≠ (u269006 : Value).ownBlock) u269005 x269005_1) ∧ Aside0 (Kd.R (Kd.int .i64) 2 w' w.heap.size (fun k_ => some k_ ≠ (u269004 : Value).ownBlock ∧ some k_ ≠ (u269005 : Value).ownBlock) u269006 x269006_1) ∧ Aside0 (w'.heap[gb252]? = some (.cells #[.int .i64 a0_0, .int .i64 a0_1, (.slice A0_2 l0_2.length c0_2)] 34 (0, 0))) ∧ Aside0 (w'.heap[gb253]? = some (.cells #[.int .i64 0, .int .i64 0, .int .i64 0, .int .i64 0, (.slice none 0 0), (.slice none 0 0), (.slice none 0 0), .int .i64 0] 39 (0, 0))) ∧ Aside0 (w'.heap[gb268]? = some (.cells #[.int .i64 x269000_1, .int .i64 x269001_1, .int .i64 x269002_1, .int .i64 x269003_1, u269004, u269005, u269006, .int .i64 x269007_1] 39 (0, 0))) ∧ Aside0 (Below w.heap.size w w'))
 case atStart => exact ⟨(t254), (t255), (t256), (t257), (t258), (t261), (t264), (t267), (.slice Ao14 t258.length co14), (.slice Ao15 t261.length co15), (.slice Ao16 t264.length co16), H', ⟨Nat.le_refl _⟩, ⟨by (with_reducible repeat (first | apply Kd.R_alloc | apply Kd.R_drewN | apply Kd.R_drew)); exact Kd.R_mono (RF gb268 7 (RF gb268 6 (RF gb268 5 (RF gb268 4 (RF gb268 3 (RF gb268 2 (RF gb268 1 (RF gb268 0 (Kd.R_types HO260.out BK268.out (by decide)) (.int .i64 t254)) (.int .i64 t255)) (.int .i64 t256)) (.int .i64 t257)) (.slice Ao14 t258.length co14)) (.slice Ao15 t261.length co15)) (.slice Ao16 t264.length co16)) (.int .i64 t267)) (fun _ hk => ⟨hk.1.1, hk.1.2⟩)⟩, ⟨by (with_reducible repeat (first | apply Kd.R_alloc | apply Kd.R_drewN | apply Kd.R_drew)); exact Kd.R_mono (RF gb268 7 (RF gb268 6 (RF gb268 5 (RF gb268 4 (RF gb268 3 (RF gb268 2 (RF gb268 1 (RF gb268 0 (Kd.R_types HO263.out BK268.out (by decide)) (.int .i64 t254)) (.int .i64 t255)) (.int .i64 t256)) (.int .i64 t257)) (.slice Ao14 t258.length co14)) (.slice Ao15 t261.length co15)) (.slice Ao16 t264.length co16)) (.int .i64 t267)) (fun _ hk => ⟨hk.1.1, hk.1.2⟩)⟩, ⟨by (with_reducible repeat (first | apply Kd.R_alloc | apply Kd.R_drewN | apply Kd.R_drew)); exact Kd.R_mono (RF gb268 7 (RF gb268 6 (RF gb268 5 (RF gb268 4 (RF gb268 3 (RF gb268 2 (RF gb268 1 (RF gb268 0 (Kd.R_types HO266.out BK268.out (by decide)) (.int .i64 t254)) (.int .i64 t255)) (.int .i64 t256)) (.int .i64 t257)) (.slice Ao14 t258.length co14)) (.slice Ao15 t261.length co15)) (.slice Ao16 t264.length co16)) (.int .i64 t267)) (fun _ hk => ⟨hk.1.1, hk.1.2⟩)⟩, ⟨by (with_reducible repeat (first | refine blk_drewN ?_ _ | refine blk_drew ?_ | refine blk_alloc ?_ _)); refine blk_far ?_ NB252_268.out _; (with_reducible repeat (first | refine blk_drewN ?_ _ | refine blk_drew ?_ | refine blk_alloc ?_ _)); refine blk_far ?_ NB252_268.out _; (with_reducible repeat (first | refine blk_drewN ?_ _ | refine blk_drew ?_ | refine blk_alloc ?_ _)); refine blk_far ?_ NB252_268.out _; (with_reducible repeat (first | refine blk_drewN ?_ _ | refine blk_drew ?_ | refine blk_alloc ?_ _)); refine blk_far ?_ NB252_268.out _; (with_reducible repeat (first | refine blk_drewN ?_ _ | refine blk_drew ?_ | refine blk_alloc ?_ _)); refine blk_far ?_ NB252_268.out _; (with_reducible repeat (first | refine blk_drewN ?_ _ | refine blk_drew ?_ | refine blk_alloc ?_ _)); refine blk_far ?_ NB252_268.out _; (with_reducible repeat (first | refine blk_drewN ?_ _ | refine blk_drew ?_ | refine blk_alloc ?_ _)); refine blk_far ?_ NB252_268.out _; (with_reducible repeat (first | refine blk_drewN ?_ _ | refine blk_drew ?_ | refine blk_alloc ?_ _)); refine blk_far ?_ NB252_268.out _; (with_reducible repeat (first | refine blk_drewN ?_ _ | refine blk_drew ?_ | refine blk_alloc ?_ _)); exact BK252.out⟩, ⟨by (with_reducible repeat (first | refine blk_drewN ?_ _ | refine blk_drew ?_ | refine blk_alloc ?_ _)); refine blk_far ?_ NB253_268.out _; (with_reducible repeat (first | refine blk_drewN ?_ _ | refine blk_drew ?_ | refine blk_alloc ?_ _)); refine blk_far ?_ NB253_268.out _; (with_reducible repeat (first | refine blk_drewN ?_ _ | refine blk_drew ?_ | refine blk_alloc ?_ _)); refine blk_far ?_ NB253_268.out _; (with_reducible repeat (first | refine blk_drewN ?_ _ | refine blk_drew ?_ | refine blk_alloc ?_ _)); refine blk_far ?_ NB253_268.out _; (with_reducible repeat (first | refine blk_drewN ?_ _ | refine blk_drew ?_ | refine blk_alloc ?_ _)); refine blk_far ?_ NB253_268.out _; (with_reducible repeat (first | refine blk_drewN ?_ _ | refine blk_drew ?_ | refine blk_alloc ?_ _)); refine blk_far ?_ NB253_268.out _; (with_reducible repeat (first | refine blk_drewN ?_ _ | refine blk_drew ?_ | refine blk_alloc ?_ _)); refine blk_far ?_ NB253_268.out _; (with_reducible repeat (first | refine blk_drewN ?_ _ | refine blk_drew ?_ | refine blk_alloc ?_ _)); refine blk_far ?_ NB253_268.out _; (with_reducible repeat (first | refine blk_drewN ?_ _ | refine blk_drew ?_ | refine blk_alloc ?_ _)); exact BK253.out⟩, ⟨by (with_reducible repeat (first | refine blk_drewN ?_ _ | refine blk_drew ?_ | refine blk_alloc ?_ _)); refine blk_put (cs := #[.int .i64 t254, .int .i64 t255, .int .i64 t256, .int .i64 t257, .slice Ao14 t258.length co14, .slice Ao15 t261.length co15, .slice Ao16 t264.length co16, .int .i64 0]) ?_ 7 _ rfl; (with_reducible repeat (first | refine blk_drewN ?_ _ | refine blk_drew ?_ | refine blk_alloc ?_ _)); refine blk_put (cs := #[.int .i64 t254, .int .i64 t255, .int .i64 t256, .int .i64 t257, .slice Ao14 t258.length co14, .slice Ao15 t261.length co15, .slice none 0 0, .int .i64 0]) ?_ 6 _ rfl; (with_reducible repeat (first | refine blk_drewN ?_ _ | refine blk_drew ?_ | refine blk_alloc ?_ _)); refine blk_put (cs := #[.int .i64 t254, .int .i64 t255, .int .i64 t256, .int .i64 t257, .slice Ao14 t258.length co14, .slice none 0 0, .slice none 0 0, .int .i64 0]) ?_ 5 _ rfl; (with_reducible repeat (first | refine blk_drewN ?_ _ | refine blk_drew ?_ | refine blk_alloc ?_ _)); refine blk_put (cs := #[.int .i64 t254, .int .i64 t255, .int .i64 t256, .int .i64 t257, .slice none 0 0, .slice none 0 0, .slice none 0 0, .int .i64 0]) ?_ 4 _ rfl; (with_reducible repeat (first | refine blk_drewN ?_ _ | refine blk_drew ?_ | refine blk_alloc ?_ _)); refine blk_put (cs := #[.int .i64 t254, .int .i64 t255, .int .i64 t256, .int .i64 0, .slice none 0 0, .slice none 0 0, .slice none 0 0, .int .i64 0]) ?_ 3 _ rfl; (with_reducible repeat (first | refine blk_drewN ?_ _ | refine blk_drew ?_ | refine blk_alloc ?_ _)); refine blk_put (cs := #[.int .i64 t254, .int .i64 t255, .int .i64 0, .int .i64 0, .slice none 0 0, .slice none 0 0, .slice none 0 0, .int .i64 0]) ?_ 2 _ rfl; (with_reducible repeat (first | refine blk_drewN ?_ _ | refine blk_drew ?_ | refine blk_alloc ?_ _)); refine blk_put (cs := #[.int .i64 t254, .int .i64 0, .int .i64 0, .int .i64 0, .slice none 0 0, .slice none 0 0, .slice none 0 0, .int .i64 0]) ?_ 1 _ rfl; (with_reducible repeat (first | refine blk_drewN ?_ _ | refine blk_drew ?_ | refine blk_alloc ?_ _)); refine blk_put (cs := #[.int .i64 0, .int .i64 0, .int .i64 0, .int .i64 0, .slice none 0 0, .slice none 0 0, .slice none 0 0, .int .i64 0]) ?_ 0 _ rfl; (with_reducible repeat (first | refine blk_drewN ?_ _ | refine blk_drew ?_ | refine blk_alloc ?_ _)); exact BK268.out⟩, ⟨by repeat (first | (with_reducible first | exact HB.out | apply below_alloc | apply bdN | apply bd1 | refine below_set ?_ GE252.out | refine below_set ?_ GE253.out | refine below_set ?_ GE268.out) | exact HB.out)⟩⟩
 case round =>
  clear H'
  try clear c1
  try clear p2
  try clear c4
  try clear c7
  try clear c11
  try clear c12
  try clear hcz13_0
  try clear hcz13_1
  try clear hcz13_2
  try clear hcz13_3
  try clear hcz13_4
  try clear hcz13_5
  try clear hcz13_6
  try clear hcz13_7
  try clear hcz8_0
  try clear hcz8_1
  try clear hcz8_2
  try clear hfz13_0
  try clear hfz13_1
  try clear hfz13_2
  try clear hfz13_3
  try clear hfz13_4
  try clear hfz13_5
  try clear hfz13_6
  try clear hfz13_7
  try clear hfz8_0
  try clear hfz8_1
  try clear hfz8_2
  obtain ⟨x269000_1, x269001_1, x269002_1, x269003_1, x269004_1, x269005_1, x269006_1, x269007_1, u269004, u269005, u269006, HA, HK1, HO_269004, HO_269005, HO_269006, BK252, BK253, BK268, HB⟩ := hrel
  cases gk with
  | zero => exact absurd HA.out (by simp [regcertref09_Exec.l0])
  | succ k1 =>
   have H := HA.out
   clear HA
   simp only [regcertref09_Exec.l0] at H
   have HC17 := As0 H
   clear H
   go_upto_region 2 with (fail)
   go_cut [19] (fun v19 wc => ∃ (kq : Nat) (x19_16 : Bool), v19 = .bool x19_16 ∧ Aside0 (regcertref09_Exec.j1 kq a2 x19_16 a0_0 a0_1 l0_2 x269000_1 x269001_1 x269002_1 x269003_1 x269004_1 x269005_1 x269006_1 x269007_1 = some (r1, r2, r3, r4, r5, r6, r7, r8)) ∧ Aside0 (kq ≤ k1) ∧ Aside0 (Kd.R (Kd.int .i64) 2 wc w.heap.size (fun k_ => some k_ ≠ (u269005 : Value).ownBlock ∧ some k_ ≠ (u269006 : Value).ownBlock) u269004 x269004_1) ∧ Aside0 (Kd.R (Kd.int .i64) 2 wc w.heap.size (fun k_ => some k_ ≠ (u269004 : Value).ownBlock ∧ some k_ ≠ (u269006 : Value).ownBlock) u269005 x269005_1) ∧ Aside0 (Kd.R (Kd.int .i64) 2 wc w.heap.size (fun k_ => some k_ ≠ (u269004 : Value).ownBlock ∧ some k_ ≠ (u269005 : Value).ownBlock) u269006 x269006_1) ∧ Aside0 (wc.heap[gb252]? = some (.cells #[.int .i64 a0_0, .int .i64 a0_1, (.slice A0_2 l0_2.length c0_2)] 34 (0, 0))) ∧ Aside0 (wc.heap[gb253]? = some (.cells #[.int .i64 0, .int .i64 0, .int .i64 0, .int .i64 0, (.slice none 0 0), (.slice none 0 0), (.slice none 0 0), .int .i64 0] 39 (0, 0))) ∧ Aside0 (wc.heap[gb268]? = some (.cells #[.int .i64 x269000_1, .int .i64 x269001_1, .int .i64 x269002_1, .int .i64 x269003_1, u269004, u269005, u269006, .int .i64 x269007_1] 39 (0, 0))) ∧ Aside0 (Below w.heap.size w wc))
   case first =>
    have H := HC17.out
    clear HC17
    by_cases c18 : x269000_1 = 0
    ·rw [if_pos c18] at H
     have c18b0 : (x269000_1 == 0) = true := beq_iff_eq.mpr c18
     have c18b1 : (x269000_1 != 0) = false := bne_eq_false_iff_eq.mpr c18
     clear c18
     (first | rw [c18b0] | (simp only [i64_w, i32_w]; rw [c18b0]) | skip)
     have H' := As0 H
     clear H
     have hnb19 := NB268_252.out
     have hnc19 := NB252_268.out
     have hnb20 := NB268_253.out
     have hnc20 := NB253_268.out
     have hcz21_0 : wr.cell? ⟨gb268, 0, none⟩ = some (.int .i64 x269000_1) := (blk_cell BK268.out 0).trans rfl
     have hcz21_1 : wr.cell? ⟨gb268, 1, none⟩ = some (.int .i64 x269001_1) := (blk_cell BK268.out 1).trans rfl
     have hcz21_2 : wr.cell? ⟨gb268, 2, none⟩ = some (.int .i64 x269002_1) := (blk_cell BK268.out 2).trans rfl
     have hcz21_3 : wr.cell? ⟨gb268, 3, none⟩ = some (.int .i64 x269003_1) := (blk_cell BK268.out 3).trans rfl
     have hcz21_4 : wr.cell? ⟨gb268, 4, none⟩ = some (u269004) := (blk_cell BK268.out 4).trans rfl
     have hcz21_5 : wr.cell? ⟨gb268, 5, none⟩ = some (u269005) := (blk_cell BK268.out 5).trans rfl
     have hcz21_6 : wr.cell? ⟨gb268, 6, none⟩ = some (u269006) := (blk_cell BK268.out 6).trans rfl
     have hcz21_7 : wr.cell? ⟨gb268, 7, none⟩ = some (.int .i64 x269007_1) := (blk_cell BK268.out 7).trans rfl
     have hfz21_0 := blk_frozen BK268.out 0
     have hfz21_1 := blk_frozen BK268.out 1
     have hfz21_2 := blk_frozen BK268.out 2
     have hfz21_3 := blk_frozen BK268.out 3
     have hfz21_4 := blk_frozen BK268.out 4
     have hfz21_5 := blk_frozen BK268.out 5
     have hfz21_6 := blk_frozen BK268.out 6
     have hfz21_7 := blk_frozen BK268.out 7
     go_wp2
     go_meet
     case rel => exact ⟨_, (decide (x269007_1 < a2)), (by first | rfl | (simp; done) | (simp [*]; done)), H', ⟨by have := HK1.out; first | omega | exact Nat.le_refl _⟩, ⟨by (with_reducible repeat (first | apply Kd.R_alloc | apply Kd.R_drewN | apply Kd.R_drew)); exact HO_269004.out⟩, ⟨by (with_reducible repeat (first | apply Kd.R_alloc | apply Kd.R_drewN | apply Kd.R_drew)); exact HO_269005.out⟩, ⟨by (with_reducible repeat (first | apply Kd.R_alloc | apply Kd.R_drewN | apply Kd.R_drew)); exact HO_269006.out⟩, ⟨by (with_reducible repeat (first | refine blk_drewN ?_ _ | refine blk_drew ?_ | refine blk_alloc ?_ _)); exact BK252.out⟩, ⟨by (with_reducible repeat (first | refine blk_drewN ?_ _ | refine blk_drew ?_ | refine blk_alloc ?_ _)); exact BK253.out⟩, ⟨by (with_reducible repeat (first | refine blk_drewN ?_ _ | refine blk_drew ?_ | refine blk_alloc ?_ _)); exact BK268.out⟩, ⟨by repeat (first | (with_reducible first | exact HB.out | apply below_alloc | apply bdN | apply bd1 | refine below_set ?_ GE252.out | refine below_set ?_ GE253.out | refine below_set ?_ GE268.out) | exact HB.out)⟩⟩
    ·rw [if_neg c18] at H
     have c18b0 : (x269000_1 == 0) = false := beq_eq_false_iff_ne.mpr c18
     have c18b1 : (x269000_1 != 0) = true := bne_iff_ne.mpr c18
     (first | rw [c18b0] | (simp only [i64_w, i32_w]; rw [c18b0]) | skip)
     have H' := As0 H
     clear H
     have hnb22 := NB268_252.out
     have hnc22 := NB252_268.out
     have hnb23 := NB268_253.out
     have hnc23 := NB253_268.out
     have hcz24_0 : wr.cell? ⟨gb268, 0, none⟩ = some (.int .i64 x269000_1) := (blk_cell BK268.out 0).trans rfl
     have hcz24_1 : wr.cell? ⟨gb268, 1, none⟩ = some (.int .i64 x269001_1) := (blk_cell BK268.out 1).trans rfl
     have hcz24_2 : wr.cell? ⟨gb268, 2, none⟩ = some (.int .i64 x269002_1) := (blk_cell BK268.out 2).trans rfl
     have hcz24_3 : wr.cell? ⟨gb268, 3, none⟩ = some (.int .i64 x269003_1) := (blk_cell BK268.out 3).trans rfl
     have hcz24_4 : wr.cell? ⟨gb268, 4, none⟩ = some (u269004) := (blk_cell BK268.out 4).trans rfl
     have hcz24_5 : wr.cell? ⟨gb268, 5, none⟩ = some (u269005) := (blk_cell BK268.out 5).trans rfl
     have hcz24_6 : wr.cell? ⟨gb268, 6, none⟩ = some (u269006) := (blk_cell BK268.out 6).trans rfl
     have hcz24_7 : wr.cell? ⟨gb268, 7, none⟩ = some (.int .i64 x269007_1) := (blk_cell BK268.out 7).trans rfl
     have hfz24_0 := blk_frozen BK268.out 0
     have hfz24_1 := blk_frozen BK268.out 1
     have hfz24_2 := blk_frozen BK268.out 2
     have hfz24_3 := blk_frozen BK268.out 3
     have hfz24_4 := blk_frozen BK268.out 4
     have hfz24_5 := blk_frozen BK268.out 5
     have hfz24_6 := blk_frozen BK268.out 6
     have hfz24_7 := blk_frozen BK268.out 7
     go_wp2
     go_meet
     case rel => exact ⟨_, (false), (by first | rfl | (simp; done) | (simp [*]; done)), H', ⟨by have := HK1.out; first | omega | exact Nat.le_refl _⟩, ⟨by (with_reducible repeat (first | apply Kd.R_alloc | apply Kd.R_drewN | apply Kd.R_drew)); exact HO_269004.out⟩, ⟨by (with_reducible repeat (first | apply Kd.R_alloc | apply Kd.R_drewN | apply Kd.R_drew)); exact HO_269005.out⟩, ⟨by (with_reducible repeat (first | apply Kd.R_alloc | apply Kd.R_drewN | apply Kd.R_drew)); exact HO_269006.out⟩, ⟨by (with_reducible repeat (first | refine blk_drewN ?_ _ | refine blk_drew ?_ | refine blk_alloc ?_ _)); exact BK252.out⟩, ⟨by (with_reducible repeat (first | refine blk_drewN ?_ _ | refine blk_drew ?_ | refine blk_alloc ?_ _)); exact BK253.out⟩, ⟨by (with_reducible repeat (first | refine blk_drewN ?_ _ | refine blk_drew ?_ | refine blk_alloc ?_ _)); exact BK268.out⟩, ⟨by repeat (first | (with_reducible first | exact HB.out | apply below_alloc | apply bdN | apply bd1 | refine below_set ?_ GE252.out | refine below_set ?_ GE253.out | refine below_set ?_ GE268.out) | exact HB.out)⟩⟩
   case rest =>
    clear HC17
    try clear c1
    try clear c2
    try clear p2
    try clear c4
    try clear c7
    try clear c11
    try clear c12
    try clear c18
    try clear c18b0
    try clear c18b1
    try clear c19
    try clear c20
    try clear c22
    try clear c23
    try clear hcz13_0
    try clear hcz13_1
    try clear hcz13_2
    try clear hcz13_3
    try clear hcz13_4
    try clear hcz13_5
    try clear hcz13_6
    try clear hcz13_7
    try clear hcz21_0
    try clear hcz21_1
    try clear hcz21_2
    try clear hcz21_3
    try clear hcz21_4
    try clear hcz21_5
    try clear hcz21_6
    try clear hcz21_7
    try clear hcz24_0
    try clear hcz24_1
    try clear hcz24_2
    try clear hcz24_3
    try clear hcz24_4
    try clear hcz24_5
    try clear hcz24_6
    try clear hcz24_7
    try clear hcz8_0
    try clear hcz8_1
    try clear hcz8_2
    try clear hfz13_0
    try clear hfz13_1
    try clear hfz13_2
    try clear hfz13_3
    try clear hfz13_4
    try clear hfz13_5
    try clear hfz13_6
    try clear hfz13_7
    try clear hfz21_0
    try clear hfz21_1
    try clear hfz21_2
    try clear hfz21_3
    try clear hfz21_4
    try clear hfz21_5
    try clear hfz21_6
    try clear hfz21_7
    try clear hfz24_0
    try clear hfz24_1
    try clear hfz24_2
    try clear hfz24_3
    try clear hfz24_4
    try clear hfz24_5
    try clear hfz24_6
    try clear hfz24_7
    try clear hfz8_0
    try clear hfz8_1
    try clear hfz8_2
    try clear p2
    obtain ⟨kq, x19_16, rfl, HA, HJ16, HO_269004, HO_269005, HO_269006, BK252, BK253, BK268, HB⟩ := hcut
    cases kq with
    | zero => exact absurd HA.out (by simp [regcertref09_Exec.j1])
    | succ kj16 =>
     have H := HA.out
     clear HA
     simp only [regcertref09_Exec.j1] at H
     by_cases c25 : x19_16 = true
     ·subst c25
      have H1 : ((regcertref09_Step.f a0_0 a0_1 l0_2 x269000_1 x269001_1 x269002_1 x269003_1 x269004_1 x269005_1 x269006_1 x269007_1).bind fun bt269 => (regcertref09_Exec.l0 kj16 a2 a0_0 a0_1 l0_2 bt269.1 bt269.2.1 bt269.2.2.1 bt269.2.2.2.1 bt269.2.2.2.2.1 bt269.2.2.2.2.2.1 bt269.2.2.2.2.2.2.1 bt269.2.2.2.2.2.2.2)) = some (r1, r2, r3, r4, r5, r6, r7, r8) := by rw [if_pos rfl] at H; exact H
      clear H
      have H := H1
      clear H1
      replace H := Option.bind_eq_some_iff.mp H
      obtain ⟨⟨t269, t270, t271, t272, t273, t276, t279, t282⟩, A260, H⟩ := H
      replace H : (regcertref09_Exec.l0 kj16 a2 a0_0 a0_1 l0_2 t269 t270 t271 t272 t273 t276 t279 t282) = some (r1, r2, r3, r4, r5, r6, r7, r8) := H
      have A26 := As0 A260
      clear A260
      have H' := As0 H
      clear H
      have hnb27 := NB252_253.out
      have hnc27 := NB253_252.out
      have hnb28 := NB252_268.out
      have hnc28 := NB268_252.out
      have hcz29_0 : wc.cell? ⟨gb252, 0, none⟩ = some (.int .i64 a0_0) := (blk_cell BK252.out 0).trans rfl
      have hcz29_1 : wc.cell? ⟨gb252, 1, none⟩ = some (.int .i64 a0_1) := (blk_cell BK252.out 1).trans rfl
      have hcz29_2 : wc.cell? ⟨gb252, 2, none⟩ = some (.slice A0_2 l0_2.length c0_2) := (blk_cell BK252.out 2).trans rfl
      have hfz29_0 := blk_frozen BK252.out 0
      have hfz29_1 := blk_frozen BK252.out 1
      have hfz29_2 := blk_frozen BK252.out 2
      have hnb30 := NB268_253.out
      have hnc30 := NB253_268.out
      have hcz31_0 : wc.cell? ⟨gb268, 0, none⟩ = some (.int .i64 x269000_1) := (blk_cell BK268.out 0).trans rfl
      have hcz31_1 : wc.cell? ⟨gb268, 1, none⟩ = some (.int .i64 x269001_1) := (blk_cell BK268.out 1).trans rfl
      have hcz31_2 : wc.cell? ⟨gb268, 2, none⟩ = some (.int .i64 x269002_1) := (blk_cell BK268.out 2).trans rfl
      have hcz31_3 : wc.cell? ⟨gb268, 3, none⟩ = some (.int .i64 x269003_1) := (blk_cell BK268.out 3).trans rfl
      have hcz31_4 : wc.cell? ⟨gb268, 4, none⟩ = some (u269004) := (blk_cell BK268.out 4).trans rfl
      have hcz31_5 : wc.cell? ⟨gb268, 5, none⟩ = some (u269005) := (blk_cell BK268.out 5).trans rfl
      have hcz31_6 : wc.cell? ⟨gb268, 6, none⟩ = some (u269006) := (blk_cell BK268.out 6).trans rfl
      have hcz31_7 : wc.cell? ⟨gb268, 7, none⟩ = some (.int .i64 x269007_1) := (blk_cell BK268.out 7).trans rfl
      have hfz31_0 := blk_frozen BK268.out 0
      have hfz31_1 := blk_frozen BK268.out 1
      have hfz31_2 := blk_frozen BK268.out 2
      have hfz31_3 := blk_frozen BK268.out 3
      have hfz31_4 := blk_frozen BK268.out 4
      have hfz31_5 := blk_frozen BK268.out 5
      have hfz31_6 := blk_frozen BK268.out 6
      have hfz31_7 := blk_frozen BK268.out 7
      obtain ⟨Ao32, co32, eo32⟩ := Kd.R_slice HO_269004.out
      subst eo32
      obtain ⟨Ao33, co33, eo33⟩ := Kd.R_slice HO_269005.out
      subst eo33
      obtain ⟨Ao34, co34, eo34⟩ := Kd.R_slice HO_269006.out
      subst eo34
      go_wp2_with (first | ((with_reducible refine gate_callee (f := 43) rfl ?_); refine goesL_ (some 22) rfl rfl Try.func43 (by kernel_rfl) rfl #[.agg #[.int .i64 a0_0, .int .i64 a0_1, .slice A0_2 l0_2.length c0_2], .agg #[.int .i64 x269000_1, .int .i64 x269001_1, .int .i64 x269002_1, .int .i64 x269003_1, .slice Ao32 x269004_1.length co32, .slice Ao33 x269005_1.length co33, .slice Ao34 x269006_1.length co34, .int .i64 x269007_1]] rfl (by (try simp only [List.map_toArray, List.map_cons, List.map_nil]); first | done | rfl | (simp only [List.length_drop, List.length_take]; rfl)) ?_; (with_reducible refine (regcertref09_Step.calls a0_0 a0_1 _ _ l0_2 x269000_1 x269001_1 x269002_1 x269003_1 _ _ x269004_1 _ _ x269005_1 _ _ x269006_1 x269007_1 t269 t270 t271 t272 t273 t276 t279 t282 _ ?side1 ?side2 ?side3 ?side4 ?side5 ?side6 ?side7 ?side8 A26.out).mono ?_); (case side1 => repeat (first | exact (Kd.C_below HR0_2.out HB.out) | (with_reducible refine Kd.C_alloc ?_ _) | (with_reducible refine Kd.C_drewN ?_ _) | (with_reducible refine Kd.C_drew ?_))); (case side2 => exact HC0_2.out); (case side3 => repeat (first | exact (Kd.R_reads' HO_269004.out).2.2 | (with_reducible refine Kd.C_alloc ?_ _) | (with_reducible refine Kd.C_drewN ?_ _) | (with_reducible refine Kd.C_drew ?_))); (case side4 => exact (Kd.R_reads' HO_269004.out).2.1); (case side5 => repeat (first | exact (Kd.R_reads' HO_269005.out).2.2 | (with_reducible refine Kd.C_alloc ?_ _) | (with_reducible refine Kd.C_drewN ?_ _) | (with_reducible refine Kd.C_drew ?_))); (case side6 => exact (Kd.R_reads' HO_269005.out).2.1); (case side7 => repeat (first | exact (Kd.R_reads' HO_269006.out).2.2 | (with_reducible refine Kd.C_alloc ?_ _) | (with_reducible refine Kd.C_drewN ?_ _) | (with_reducible refine Kd.C_drew ?_))); (case side8 => exact (Kd.R_reads' HO_269006.out).2.1); rintro e w35 ⟨v274, v277, v280, rfl, ho0, ho1, ho2, hb⟩; refine ⟨_, rfl, ?_⟩; have n0_ := As0 (Kd.R_mono (Kd.R_told (Kd.R_told (Kd.R_told (Kd.R_old (by (with_reducible repeat (first | apply Kd.R_alloc | apply Kd.R_drewN | apply Kd.R_drew)); exact HO_269004.out) hb) (Kd.R_base ho0)) (Kd.R_base ho1)) (Kd.R_base ho2)) (fun _ h_ => h_.1)); have n1_ := As0 (Kd.R_mono (Kd.R_told (Kd.R_told (Kd.R_told (Kd.R_old (by (with_reducible repeat (first | apply Kd.R_alloc | apply Kd.R_drewN | apply Kd.R_drew)); exact HO_269005.out) hb) (Kd.R_base ho0)) (Kd.R_base ho1)) (Kd.R_base ho2)) (fun _ h_ => h_.1)); have n2_ := As0 (Kd.R_mono (Kd.R_told (Kd.R_told (Kd.R_told (Kd.R_old (by (with_reducible repeat (first | apply Kd.R_alloc | apply Kd.R_drewN | apply Kd.R_drew)); exact HO_269006.out) hb) (Kd.R_base ho0)) (Kd.R_base ho1)) (Kd.R_base ho2)) (fun _ h_ => h_.1)); have n3_ := As0 (Kd.R_lower (Kd.R_new' (Kd.R_new' (Kd.R_new' ho0 (Kd.R_lt (by (with_reducible repeat (first | apply Kd.R_alloc | apply Kd.R_drewN | apply Kd.R_drew)); exact HO_269004.out))) (Kd.R_lt (by (with_reducible repeat (first | apply Kd.R_alloc | apply Kd.R_drewN | apply Kd.R_drew)); exact HO_269005.out))) (Kd.R_lt (by (with_reducible repeat (first | apply Kd.R_alloc | apply Kd.R_drewN | apply Kd.R_drew)); exact HO_269006.out))) (below_size (by repeat (first | (with_reducible first | exact HB.out | apply below_alloc | apply bdN | apply bd1 | refine below_set ?_ GE252.out | refine below_set ?_ GE253.out | refine below_set ?_ GE268.out) | exact HB.out)))); have n4_ := As0 (Kd.R_lower (Kd.R_new' (Kd.R_new' (Kd.R_new' ho1 (Kd.R_lt (by (with_reducible repeat (first | apply Kd.R_alloc | apply Kd.R_drewN | apply Kd.R_drew)); exact HO_269004.out))) (Kd.R_lt (by (with_reducible repeat (first | apply Kd.R_alloc | apply Kd.R_drewN | apply Kd.R_drew)); exact HO_269005.out))) (Kd.R_lt (by (with_reducible repeat (first | apply Kd.R_alloc | apply Kd.R_drewN | apply Kd.R_drew)); exact HO_269006.out))) (below_size (by repeat (first | (with_reducible first | exact HB.out | apply below_alloc | apply bdN | apply bd1 | refine below_set ?_ GE252.out | refine below_set ?_ GE253.out | refine below_set ?_ GE268.out) | exact HB.out)))); have n5_ := As0 (Kd.R_lower (Kd.R_new' (Kd.R_new' (Kd.R_new' ho2 (Kd.R_lt (by (with_reducible repeat (first | apply Kd.R_alloc | apply Kd.R_drewN | apply Kd.R_drew)); exact HO_269004.out))) (Kd.R_lt (by (with_reducible repeat (first | apply Kd.R_alloc | apply Kd.R_drewN | apply Kd.R_drew)); exact HO_269005.out))) (Kd.R_lt (by (with_reducible repeat (first | apply Kd.R_alloc | apply Kd.R_drewN | apply Kd.R_drew)); exact HO_269006.out))) (below_size (by repeat (first | (with_reducible first | exact HB.out | apply below_alloc | apply bdN | apply bd1 | refine below_set ?_ GE252.out | refine below_set ?_ GE253.out | refine below_set ?_ GE268.out) | exact HB.out)))); have n6_ := As0 (blk_below (g := gb252) (o := .cells #[.int .i64 a0_0, .int .i64 a0_1, .slice A0_2 l0_2.length c0_2] 34 (0, 0)) (by (with_reducible repeat (first | refine blk_drewN ?_ _ | refine blk_drew ?_ | refine blk_alloc ?_ _)); exact BK252.out) hb); have n7_ := As0 (blk_below (g := gb253) (o := .cells #[.int .i64 0, .int .i64 0, .int .i64 0, .int .i64 0, .slice none 0 0, .slice none 0 0, .slice none 0 0, .int .i64 0] 39 (0, 0)) (by (with_reducible repeat (first | refine blk_drewN ?_ _ | refine blk_drew ?_ | refine blk_alloc ?_ _)); exact BK253.out) hb); have n8_ := As0 (blk_below (g := gb268) (o := .cells #[.int .i64 x269000_1, .int .i64 x269001_1, .int .i64 x269002_1, .int .i64 x269003_1, .slice Ao32 x269004_1.length co32, .slice Ao33 x269005_1.length co33, .slice Ao34 x269006_1.length co34, .int .i64 x269007_1] 39 (0, 0)) (by (with_reducible repeat (first | refine blk_drewN ?_ _ | refine blk_drew ?_ | refine blk_alloc ?_ _)); exact BK268.out) hb); have n9_ := As0 (below_step (by repeat (first | (with_reducible first | exact HB.out | apply below_alloc | apply bdN | apply bd1 | refine below_set ?_ GE252.out | refine below_set ?_ GE253.out | refine below_set ?_ GE268.out) | exact HB.out)) hb); clear HO_269004 HO_269005 HO_269006 BK252 BK253 BK268 HB; have HO_269004 := n0_; have HO_269005 := n1_; have HO_269006 := n2_; have HO275 := n3_; have HO278 := n4_; have HO281 := n5_; have BK252 := n6_; have BK253 := n7_; have BK268 := n8_; have HB := n9_; clear n0_ n1_ n2_ n3_ n4_ n5_ n6_ n7_ n8_ n9_; (try clear hb); (try clear hb2); (try clear hk); (try clear hi); (try clear ho0); (try clear ho1); (try clear ho2); have hcz36_0 : w35.cell? ⟨gb268, 0, none⟩ = some (.int .i64 x269000_1) := (blk_cell BK268.out 0).trans rfl; have hcz36_1 : w35.cell? ⟨gb268, 1, none⟩ = some (.int .i64 x269001_1) := (blk_cell BK268.out 1).trans rfl; have hcz36_2 : w35.cell? ⟨gb268, 2, none⟩ = some (.int .i64 x269002_1) := (blk_cell BK268.out 2).trans rfl; have hcz36_3 : w35.cell? ⟨gb268, 3, none⟩ = some (.int .i64 x269003_1) := (blk_cell BK268.out 3).trans rfl; have hcz36_4 : w35.cell? ⟨gb268, 4, none⟩ = some (.slice Ao32 x269004_1.length co32) := (blk_cell BK268.out 4).trans rfl; have hcz36_5 : w35.cell? ⟨gb268, 5, none⟩ = some (.slice Ao33 x269005_1.length co33) := (blk_cell BK268.out 5).trans rfl; have hcz36_6 : w35.cell? ⟨gb268, 6, none⟩ = some (.slice Ao34 x269006_1.length co34) := (blk_cell BK268.out 6).trans rfl; have hcz36_7 : w35.cell? ⟨gb268, 7, none⟩ = some (.int .i64 x269007_1) := (blk_cell BK268.out 7).trans rfl; have hfz36_0 := blk_frozen BK268.out 0; have hfz36_1 := blk_frozen BK268.out 1; have hfz36_2 := blk_frozen BK268.out 2; have hfz36_3 := blk_frozen BK268.out 3; have hfz36_4 := blk_frozen BK268.out 4; have hfz36_5 := blk_frozen BK268.out 5; have hfz36_6 := blk_frozen BK268.out 6; have hfz36_7 := blk_frozen BK268.out 7; obtain ⟨Ao37, co37, eo37⟩ := Kd.R_slice HO275.out; subst eo37; obtain ⟨Ao38, co38, eo38⟩ := Kd.R_slice HO278.out; subst eo38; obtain ⟨Ao39, co39, eo39⟩ := Kd.R_slice HO281.out; subst eo39))
      go_roundg kj16
      case measure => have := HK1.out; have := HJ16.out; omega
      case rel => exact ⟨(t269), (t270), (t271), (t272), (t273), (t276), (t279), (t282), (.slice Ao37 t273.length co37), (.slice Ao38 t276.length co38), (.slice Ao39 t279.length co39), H', ⟨by have := HK1.out; have := HJ16.out; omega⟩, ⟨by (with_reducible repeat (first | apply Kd.R_alloc | apply Kd.R_drewN | apply Kd.R_drew)); exact Kd.R_mono (RF gb268 7 (RF gb268 6 (RF gb268 5 (RF gb268 4 (RF gb268 3 (RF gb268 2 (RF gb268 1 (RF gb268 0 (Kd.R_types HO275.out BK268.out (by decide)) (.int .i64 t269)) (.int .i64 t270)) (.int .i64 t271)) (.int .i64 t272)) (.slice Ao37 t273.length co37)) (.slice Ao38 t276.length co38)) (.slice Ao39 t279.length co39)) (.int .i64 t282)) (fun _ hk => ⟨hk.1.1.1.1.1, hk.1.1.1.1.2⟩)⟩, ⟨by (with_reducible repeat (first | apply Kd.R_alloc | apply Kd.R_drewN | apply Kd.R_drew)); exact Kd.R_mono (RF gb268 7 (RF gb268 6 (RF gb268 5 (RF gb268 4 (RF gb268 3 (RF gb268 2 (RF gb268 1 (RF gb268 0 (Kd.R_types HO278.out BK268.out (by decide)) (.int .i64 t269)) (.int .i64 t270)) (.int .i64 t271)) (.int .i64 t272)) (.slice Ao37 t273.length co37)) (.slice Ao38 t276.length co38)) (.slice Ao39 t279.length co39)) (.int .i64 t282)) (fun _ hk => ⟨hk.1.1.1.1.1, hk.1.1.1.1.2⟩)⟩, ⟨by (with_reducible repeat (first | apply Kd.R_alloc | apply Kd.R_drewN | apply Kd.R_drew)); exact Kd.R_mono (RF gb268 7 (RF gb268 6 (RF gb268 5 (RF gb268 4 (RF gb268 3 (RF gb268 2 (RF gb268 1 (RF gb268 0 (Kd.R_types HO281.out BK268.out (by decide)) (.int .i64 t269)) (.int .i64 t270)) (.int .i64 t271)) (.int .i64 t272)) (.slice Ao37 t273.length co37)) (.slice Ao38 t276.length co38)) (.slice Ao39 t279.length co39)) (.int .i64 t282)) (fun _ hk => ⟨hk.1.1.1.1.1, hk.1.1.1.1.2⟩)⟩, ⟨by (with_reducible repeat (first | refine blk_drewN ?_ _ | refine blk_drew ?_ | refine blk_alloc ?_ _)); refine blk_far ?_ NB252_268.out _; (with_reducible repeat (first | refine blk_drewN ?_ _ | refine blk_drew ?_ | refine blk_alloc ?_ _)); refine blk_far ?_ NB252_268.out _; (with_reducible repeat (first | refine blk_drewN ?_ _ | refine blk_drew ?_ | refine blk_alloc ?_ _)); refine blk_far ?_ NB252_268.out _; (with_reducible repeat (first | refine blk_drewN ?_ _ | refine blk_drew ?_ | refine blk_alloc ?_ _)); refine blk_far ?_ NB252_268.out _; (with_reducible repeat (first | refine blk_drewN ?_ _ | refine blk_drew ?_ | refine blk_alloc ?_ _)); refine blk_far ?_ NB252_268.out _; (with_reducible repeat (first | refine blk_drewN ?_ _ | refine blk_drew ?_ | refine blk_alloc ?_ _)); refine blk_far ?_ NB252_268.out _; (with_reducible repeat (first | refine blk_drewN ?_ _ | refine blk_drew ?_ | refine blk_alloc ?_ _)); refine blk_far ?_ NB252_268.out _; (with_reducible repeat (first | refine blk_drewN ?_ _ | refine blk_drew ?_ | refine blk_alloc ?_ _)); refine blk_far ?_ NB252_268.out _; (with_reducible repeat (first | refine blk_drewN ?_ _ | refine blk_drew ?_ | refine blk_alloc ?_ _)); exact BK252.out⟩, ⟨by (with_reducible repeat (first | refine blk_drewN ?_ _ | refine blk_drew ?_ | refine blk_alloc ?_ _)); refine blk_far ?_ NB253_268.out _; (with_reducible repeat (first | refine blk_drewN ?_ _ | refine blk_drew ?_ | refine blk_alloc ?_ _)); refine blk_far ?_ NB253_268.out _; (with_reducible repeat (first | refine blk_drewN ?_ _ | refine blk_drew ?_ | refine blk_alloc ?_ _)); refine blk_far ?_ NB253_268.out _; (with_reducible repeat (first | refine blk_drewN ?_ _ | refine blk_drew ?_ | refine blk_alloc ?_ _)); refine blk_far ?_ NB253_268.out _; (with_reducible repeat (first | refine blk_drewN ?_ _ | refine blk_drew ?_ | refine blk_alloc ?_ _)); refine blk_far ?_ NB253_268.out _; (with_reducible repeat (first | refine blk_drewN ?_ _ | refine blk_drew ?_ | refine blk_alloc ?_ _)); refine blk_far ?_ NB253_268.out _; (with_reducible repeat (first | refine blk_drewN ?_ _ | refine blk_drew ?_ | refine blk_alloc ?_ _)); refine blk_far ?_ NB253_268.out _; (with_reducible repeat (first | refine blk_drewN ?_ _ | refine blk_drew ?_ | refine blk_alloc ?_ _)); refine blk_far ?_ NB253_268.out _; (with_reducible repeat (first | refine blk_drewN ?_ _ | refine blk_drew ?_ | refine blk_alloc ?_ _)); exact BK253.out⟩, ⟨by (with_reducible repeat (first | refine blk_drewN ?_ _ | refine blk_drew ?_ | refine blk_alloc ?_ _)); refine blk_put (cs := #[.int .i64 t269, .int .i64 t270, .int .i64 t271, .int .i64 t272, .slice Ao37 t273.length co37, .slice Ao38 t276.length co38, .slice Ao39 t279.length co39, .int .i64 x269007_1]) ?_ 7 _ rfl; (with_reducible repeat (first | refine blk_drewN ?_ _ | refine blk_drew ?_ | refine blk_alloc ?_ _)); refine blk_put (cs := #[.int .i64 t269, .int .i64 t270, .int .i64 t271, .int .i64 t272, .slice Ao37 t273.length co37, .slice Ao38 t276.length co38, .slice Ao34 x269006_1.length co34, .int .i64 x269007_1]) ?_ 6 _ rfl; (with_reducible repeat (first | refine blk_drewN ?_ _ | refine blk_drew ?_ | refine blk_alloc ?_ _)); refine blk_put (cs := #[.int .i64 t269, .int .i64 t270, .int .i64 t271, .int .i64 t272, .slice Ao37 t273.length co37, .slice Ao33 x269005_1.length co33, .slice Ao34 x269006_1.length co34, .int .i64 x269007_1]) ?_ 5 _ rfl; (with_reducible repeat (first | refine blk_drewN ?_ _ | refine blk_drew ?_ | refine blk_alloc ?_ _)); refine blk_put (cs := #[.int .i64 t269, .int .i64 t270, .int .i64 t271, .int .i64 t272, .slice Ao32 x269004_1.length co32, .slice Ao33 x269005_1.length co33, .slice Ao34 x269006_1.length co34, .int .i64 x269007_1]) ?_ 4 _ rfl; (with_reducible repeat (first | refine blk_drewN ?_ _ | refine blk_drew ?_ | refine blk_alloc ?_ _)); refine blk_put (cs := #[.int .i64 t269, .int .i64 t270, .int .i64 t271, .int .i64 x269003_1, .slice Ao32 x269004_1.length co32, .slice Ao33 x269005_1.length co33, .slice Ao34 x269006_1.length co34, .int .i64 x269007_1]) ?_ 3 _ rfl; (with_reducible repeat (first | refine blk_drewN ?_ _ | refine blk_drew ?_ | refine blk_alloc ?_ _)); refine blk_put (cs := #[.int .i64 t269, .int .i64 t270, .int .i64 x269002_1, .int .i64 x269003_1, .slice Ao32 x269004_1.length co32, .slice Ao33 x269005_1.length co33, .slice Ao34 x269006_1.length co34, .int .i64 x269007_1]) ?_ 2 _ rfl; (with_reducible repeat (first | refine blk_drewN ?_ _ | refine blk_drew ?_ | refine blk_alloc ?_ _)); refine blk_put (cs := #[.int .i64 t269, .int .i64 x269001_1, .int .i64 x269002_1, .int .i64 x269003_1, .slice Ao32 x269004_1.length co32, .slice Ao33 x269005_1.length co33, .slice Ao34 x269006_1.length co34, .int .i64 x269007_1]) ?_ 1 _ rfl; (with_reducible repeat (first | refine blk_drewN ?_ _ | refine blk_drew ?_ | refine blk_alloc ?_ _)); refine blk_put (cs := #[.int .i64 x269000_1, .int .i64 x269001_1, .int .i64 x269002_1, .int .i64 x269003_1, .slice Ao32 x269004_1.length co32, .slice Ao33 x269005_1.length co33, .slice Ao34 x269006_1.length co34, .int .i64 x269007_1]) ?_ 0 _ rfl; (with_reducible repeat (first | refine blk_drewN ?_ _ | refine blk_drew ?_ | refine blk_alloc ?_ _)); exact BK268.out⟩, ⟨by repeat (first | (with_reducible first | exact HB.out | apply below_alloc | apply bdN | apply bd1 | refine below_set ?_ GE252.out | refine below_set ?_ GE253.out | refine below_set ?_ GE268.out) | exact HB.out)⟩⟩
     ·replace c25 := Bool.eq_false_iff.mpr c25
      subst c25
      have H1 : (some (x269000_1, x269001_1, x269002_1, x269003_1, x269004_1, x269005_1, x269006_1, x269007_1)) = some (r1, r2, r3, r4, r5, r6, r7, r8) := by rw [if_neg (show ¬ (false = true) by decide)] at H; exact H
      clear H
      have H := H1
      clear H1
      simp only [Option.some.injEq, Prod.mk.injEq] at H
      obtain ⟨rfl, rfl, rfl, rfl, rfl, rfl, rfl, rfl⟩ := H
      have hnb40 := NB268_252.out
      have hnc40 := NB252_268.out
      have hnb41 := NB268_253.out
      have hnc41 := NB253_268.out
      have hcz42_0 : wc.cell? ⟨gb268, 0, none⟩ = some (.int .i64 x269000_1) := (blk_cell BK268.out 0).trans rfl
      have hcz42_1 : wc.cell? ⟨gb268, 1, none⟩ = some (.int .i64 x269001_1) := (blk_cell BK268.out 1).trans rfl
      have hcz42_2 : wc.cell? ⟨gb268, 2, none⟩ = some (.int .i64 x269002_1) := (blk_cell BK268.out 2).trans rfl
      have hcz42_3 : wc.cell? ⟨gb268, 3, none⟩ = some (.int .i64 x269003_1) := (blk_cell BK268.out 3).trans rfl
      have hcz42_4 : wc.cell? ⟨gb268, 4, none⟩ = some (u269004) := (blk_cell BK268.out 4).trans rfl
      have hcz42_5 : wc.cell? ⟨gb268, 5, none⟩ = some (u269005) := (blk_cell BK268.out 5).trans rfl
      have hcz42_6 : wc.cell? ⟨gb268, 6, none⟩ = some (u269006) := (blk_cell BK268.out 6).trans rfl
      have hcz42_7 : wc.cell? ⟨gb268, 7, none⟩ = some (.int .i64 x269007_1) := (blk_cell BK268.out 7).trans rfl
      have hfz42_0 := blk_frozen BK268.out 0
      have hfz42_1 := blk_frozen BK268.out 1
      have hfz42_2 := blk_frozen BK268.out 2
      have hfz42_3 := blk_frozen BK268.out 3
      have hfz42_4 := blk_frozen BK268.out 4
      have hfz42_5 := blk_frozen BK268.out 5
      have hfz42_6 := blk_frozen BK268.out 6
      have hfz42_7 := blk_frozen BK268.out 7
      have hnb43 := NB253_252.out
      have hnc43 := NB252_253.out
      have hcz44_0 : wc.cell? ⟨gb253, 0, none⟩ = some (.int .i64 0) := (blk_cell BK253.out 0).trans rfl
      have hcz44_1 : wc.cell? ⟨gb253, 1, none⟩ = some (.int .i64 0) := (blk_cell BK253.out 1).trans rfl
      have hcz44_2 : wc.cell? ⟨gb253, 2, none⟩ = some (.int .i64 0) := (blk_cell BK253.out 2).trans rfl
      have hcz44_3 : wc.cell? ⟨gb253, 3, none⟩ = some (.int .i64 0) := (blk_cell BK253.out 3).trans rfl
      have hcz44_4 : wc.cell? ⟨gb253, 4, none⟩ = some (.slice none 0 0) := (blk_cell BK253.out 4).trans rfl
      have hcz44_5 : wc.cell? ⟨gb253, 5, none⟩ = some (.slice none 0 0) := (blk_cell BK253.out 5).trans rfl
      have hcz44_6 : wc.cell? ⟨gb253, 6, none⟩ = some (.slice none 0 0) := (blk_cell BK253.out 6).trans rfl
      have hcz44_7 : wc.cell? ⟨gb253, 7, none⟩ = some (.int .i64 0) := (blk_cell BK253.out 7).trans rfl
      have hfz44_0 := blk_frozen BK253.out 0
      have hfz44_1 := blk_frozen BK253.out 1
      have hfz44_2 := blk_frozen BK253.out 2
      have hfz44_3 := blk_frozen BK253.out 3
      have hfz44_4 := blk_frozen BK253.out 4
      have hfz44_5 := blk_frozen BK253.out 5
      have hfz44_6 := blk_frozen BK253.out 6
      have hfz44_7 := blk_frozen BK253.out 7
      obtain ⟨Ao45, co45, eo45⟩ := Kd.R_slice HO_269004.out
      subst eo45
      obtain ⟨Ao46, co46, eo46⟩ := Kd.R_slice HO_269005.out
      subst eo46
      obtain ⟨Ao47, co47, eo47⟩ := Kd.R_slice HO_269006.out
      subst eo47
      go_wp2
      refine bodyPost_ret (results_cell_row rfl _ _ gb253 39 #[.int .i64 x269000_1, .int .i64 x269001_1, .int .i64 x269002_1, .int .i64 x269003_1, .slice Ao45 x269004_1.length co45, .slice Ao46 x269005_1.length co46, .slice Ao47 x269006_1.length co47, .int .i64 x269007_1] (0, 0) _ rfl (by (with_reducible repeat (first | refine blk_drewN ?_ _ | refine blk_drew ?_ | refine blk_alloc ?_ _)); refine blk_put (cs := #[.int .i64 x269000_1, .int .i64 x269001_1, .int .i64 x269002_1, .int .i64 x269003_1, .slice Ao45 x269004_1.length co45, .slice Ao46 x269005_1.length co46, .slice Ao47 x269006_1.length co47, .int .i64 0]) ?_ 7 _ rfl; (with_reducible repeat (first | refine blk_drewN ?_ _ | refine blk_drew ?_ | refine blk_alloc ?_ _)); refine blk_put (cs := #[.int .i64 x269000_1, .int .i64 x269001_1, .int .i64 x269002_1, .int .i64 x269003_1, .slice Ao45 x269004_1.length co45, .slice Ao46 x269005_1.length co46, .slice none 0 0, .int .i64 0]) ?_ 6 _ rfl; (with_reducible repeat (first | refine blk_drewN ?_ _ | refine blk_drew ?_ | refine blk_alloc ?_ _)); refine blk_put (cs := #[.int .i64 x269000_1, .int .i64 x269001_1, .int .i64 x269002_1, .int .i64 x269003_1, .slice Ao45 x269004_1.length co45, .slice none 0 0, .slice none 0 0, .int .i64 0]) ?_ 5 _ rfl; (with_reducible repeat (first | refine blk_drewN ?_ _ | refine blk_drew ?_ | refine blk_alloc ?_ _)); refine blk_put (cs := #[.int .i64 x269000_1, .int .i64 x269001_1, .int .i64 x269002_1, .int .i64 x269003_1, .slice none 0 0, .slice none 0 0, .slice none 0 0, .int .i64 0]) ?_ 4 _ rfl; (with_reducible repeat (first | refine blk_drewN ?_ _ | refine blk_drew ?_ | refine blk_alloc ?_ _)); refine blk_put (cs := #[.int .i64 x269000_1, .int .i64 x269001_1, .int .i64 x269002_1, .int .i64 0, .slice none 0 0, .slice none 0 0, .slice none 0 0, .int .i64 0]) ?_ 3 _ rfl; (with_reducible repeat (first | refine blk_drewN ?_ _ | refine blk_drew ?_ | refine blk_alloc ?_ _)); refine blk_put (cs := #[.int .i64 x269000_1, .int .i64 x269001_1, .int .i64 0, .int .i64 0, .slice none 0 0, .slice none 0 0, .slice none 0 0, .int .i64 0]) ?_ 2 _ rfl; (with_reducible repeat (first | refine blk_drewN ?_ _ | refine blk_drew ?_ | refine blk_alloc ?_ _)); refine blk_put (cs := #[.int .i64 x269000_1, .int .i64 0, .int .i64 0, .int .i64 0, .slice none 0 0, .slice none 0 0, .slice none 0 0, .int .i64 0]) ?_ 1 _ rfl; (with_reducible repeat (first | refine blk_drewN ?_ _ | refine blk_drew ?_ | refine blk_alloc ?_ _)); refine blk_put (cs := #[.int .i64 0, .int .i64 0, .int .i64 0, .int .i64 0, .slice none 0 0, .slice none 0 0, .slice none 0 0, .int .i64 0]) ?_ 0 _ rfl; (with_reducible repeat (first | refine blk_drewN ?_ _ | refine blk_drew ?_ | refine blk_alloc ?_ _)); exact BK253.out) Try.underlying39 rfl (by kernel_rfl)) rfl ?_
      exact ⟨_, _, _, by first | rfl | (simp [errW_none, errW_some] <;> rfl) | (simp [*, errW_none, errW_some] <;> rfl), by (with_reducible repeat (first | apply Kd.R_alloc | apply Kd.R_drewN | apply Kd.R_drew)); exact Kd.R_mono (RF gb253 7 (RF gb253 6 (RF gb253 5 (RF gb253 4 (RF gb253 3 (RF gb253 2 (RF gb253 1 (RF gb253 0 (Kd.R_types HO_269004.out BK253.out (by decide)) (.int .i64 x269000_1)) (.int .i64 x269001_1)) (.int .i64 x269002_1)) (.int .i64 x269003_1)) (.slice Ao45 x269004_1.length co45)) (.slice Ao46 x269005_1.length co46)) (.slice Ao47 x269006_1.length co47)) (.int .i64 x269007_1)) (fun _ hk => ⟨hk.1.1, hk.1.2⟩), by (with_reducible repeat (first | apply Kd.R_alloc | apply Kd.R_drewN | apply Kd.R_drew)); exact Kd.R_mono (RF gb253 7 (RF gb253 6 (RF gb253 5 (RF gb253 4 (RF gb253 3 (RF gb253 2 (RF gb253 1 (RF gb253 0 (Kd.R_types HO_269005.out BK253.out (by decide)) (.int .i64 x269000_1)) (.int .i64 x269001_1)) (.int .i64 x269002_1)) (.int .i64 x269003_1)) (.slice Ao45 x269004_1.length co45)) (.slice Ao46 x269005_1.length co46)) (.slice Ao47 x269006_1.length co47)) (.int .i64 x269007_1)) (fun _ hk => ⟨hk.1.1, hk.1.2⟩), by (with_reducible repeat (first | apply Kd.R_alloc | apply Kd.R_drewN | apply Kd.R_drew)); exact Kd.R_mono (RF gb253 7 (RF gb253 6 (RF gb253 5 (RF gb253 4 (RF gb253 3 (RF gb253 2 (RF gb253 1 (RF gb253 0 (Kd.R_types HO_269006.out BK253.out (by decide)) (.int .i64 x269000_1)) (.int .i64 x269001_1)) (.int .i64 x269002_1)) (.int .i64 x269003_1)) (.slice Ao45 x269004_1.length co45)) (.slice Ao46 x269005_1.length co46)) (.slice Ao47 x269006_1.length co47)) (.int .i64 x269007_1)) (fun _ hk => ⟨hk.1.1, hk.1.2⟩), by repeat (first | (with_reducible first | exact HB.out | apply below_alloc | apply bdN | apply bd1 | refine below_set ?_ GE252.out | refine below_set ?_ GE253.out | refine below_set ?_ GE268.out) | exact HB.out)⟩

end Go.Proofs.Ytgkmagfajalnhaa.Y
