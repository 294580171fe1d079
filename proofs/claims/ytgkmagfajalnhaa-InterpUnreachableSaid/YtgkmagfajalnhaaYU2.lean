-- Written by a program of this session (xprint), out of the translation. Not trusted: Lean checks it.
import Derived.Test.YtgkmagfajalnhaaY0
import Derived.Test.YtgkmagfajalnhaaY1
import Derived.Test.YtgkmagfajalnhaaYIExec
import Derived.Test.YtgkmagfajalnhaaYIPrefix
namespace Go.Proofs.Ytgkmagfajalnhaa.Y
open Go.RowKit Go.Proofs.YtgkmagfajalnhaaW.PrintWords Go.Proofs.YtgkmagfajalnhaaW.PrintLast Go.Proofs.YtgkmagfajalnhaaW.PrintMore
attribute [local go_sem] max2_int min2_int max_two min_two max_three min_three max_four min_four   -- for this text's walks alone
set_option linter.unusedVariables false
set_option linter.unusedSimpArgs false

/-! ### regcertref07_Copy: function 34 -/
def regcertref07_Copy.l0 : Nat → Int → Int → Int → List (S50) → Int → Int → List (S50) → Option (Int × Int × (List (S50)))
 | 0, _, _, _, _, _, _, _ => none
 | k + 1, x4, x197000, x197001, x197002, x199000, x199001, x199002 => if x4 < (x197002.length : Int) then ((some (([] : List (S97)) : List (S97))).bind fun y199 => (if 0 ≤ x4 then (if y199.length + ((rd_T50 x197002 x4).f0).length < 3518437208883 then (if x199002.length < 2513169434916 then (regcertref07_Copy.l0 k (wrap64 (x4 + 1)) x197000 x197001 x197002 x199000 x199001 (x199002 ++ [(⟨(y199 ++ ((rd_T50 x197002 x4).f0)), (⟨(rd_T50 x197002 x4).f1.f0, (rd_T50 x197002 x4).f1.f1, (rd_T50 x197002 x4).f1.f2, (rd_T50 x197002 x4).f1.f3⟩ : S48)⟩ : S50)])) else (none)) else (none)) else (none))) else (some (x199000, x199001, x199002))
def regcertref07_Copy.f (k : Nat) (a0_0 : Int) (a0_1 : Int) (l0_2 : List (S50)) : Option (Int × Int × (List (S50))) := regcertref07_Copy.l0 k 0 a0_0 a0_1 l0_2 a0_0 a0_1 ([] : List (S50))
theorem regcertref07_Copy.mono_l : ∀ k, (∀ y0 y1 y2 y3 y4 y5 y6, LeO (regcertref07_Copy.l0 k y0 y1 y2 y3 y4 y5 y6) (regcertref07_Copy.l0 (k + 1) y0 y1 y2 y3 y4 y5 y6))
 | 0 => fun _ _ _ _ _ _ _ r h => by simp [regcertref07_Copy.l0] at h
 | k + 1 => by
  have ih0 := regcertref07_Copy.mono_l k
  ·intro y0 y1 y2 y3 y4 y5 y6
   unfold regcertref07_Copy.l0
   repeat' first
   | (with_reducible exact ih0 _ _ _ _ _ _ _)
   | (with_reducible exact LeO.refl _)
   | (with_reducible exact LeO.none _)
   | (with_reducible refine LeO.ite ?_ ?_)
   | (with_reducible refine LeO.bind ?_ (fun _ => ?_))
   | exact ih0 _ _ _ _ _ _ _
   | exact LeO.none _
   | refine LeO.ite ?_ ?_
   | refine LeO.bind ?_ (fun _ => ?_)
theorem regcertref07_Copy.mono : ∀ a0 a1 a2 k, LeO (regcertref07_Copy.f k a0 a1 a2) (regcertref07_Copy.f (k + 1) a0 a1 a2) := by
 intro a0 a1 a2 k
 have ih0 := regcertref07_Copy.mono_l k
 unfold regcertref07_Copy.f
 repeat' first
   | (with_reducible exact ih0 _ _ _ _ _ _ _)
   | (with_reducible exact LeO.refl _)
   | (with_reducible exact LeO.none _)
   | (with_reducible refine LeO.ite ?_ ?_)
   | (with_reducible refine LeO.bind ?_ (fun _ => ?_))
   | exact ih0 _ _ _ _ _ _ _
   | exact LeO.none _
   | refine LeO.ite ?_ ?_
   | refine LeO.bind ?_ (fun _ => ?_)
def regcertref07_Copy.T5 : Bool × List (List Nat × List Nat) := (true, [([], []), ([0], [0]), ([], []), ([], []), ([3], [3]), ([], []), ([4, 5], [4, 5]), ([6], [6]), ([7], [7]), ([2, 8], [2, 8]), ([], []), ([10], [10]), ([], []), ([11, 12], [11, 12]), ([13], [13]), ([14], [14]), ([9, 15], [9, 15]), ([16], [16]), ([1, 17, 9], [1, 17]), ([0, 1, 2, 3, 4, 5, 6, 7, 8, 9, 10, 11, 12, 13, 14, 15, 16, 17, 18], []), ([19, 18, 18, 0, 1, 2, 3, 4, 5, 6, 7, 8, 9, 10, 11, 12, 13, 14, 15, 16, 17, 18], [18, 19])])
def regcertref07_Copy.B5 : List Nat := [0, 1, 0, 0, 8, 0, 56, 120, 248, 508, 0, 1024, 0, 7168, 15360, 31744, 65532, 131068, 262143, 524287, 1048575]
theorem regcertref07_Copy.tab5 : rtab .any (opsOf Try.f34 5) = regcertref07_Copy.T5 := by kernel_rfl
theorem regcertref07_Copy.bits5 : waitsOk regcertref07_Copy.T5.2 regcertref07_Copy.B5 = true := by kernel_rfl
set_option maxHeartbeats 8000000 in
set_option maxRecDepth 100000 in
theorem regcertref07_Copy.calls (k : Nat) (a0_0 : Int) (a0_1 : Int) (A0_2 : Option Addr) (c0_2 : Nat) (l0_2 : List (S50)) (r1 : Int) (r2 : Int) (r3 : List (S50)) (w : World) (hr0_2 : Kd.C k50 w A0_2 l0_2.length l0_2) (hc0_2 : l0_2.length ≤ c0_2) (h : regcertref07_Copy.f k a0_0 a0_1 l0_2 = some (r1, r2, r3)) :
  Calls Try.prog 34 #[.agg #[.int .i64 a0_0, .int .i64 a0_1, .slice A0_2 l0_2.length c0_2]] w fun e w' => ∃ v2_ : Value, e = .returned (.agg #[.int .i64 r1, .int .i64 r2, v2_]) ∧ Kd.S k50 50 w' w.heap.size (fun _ => True) v2_ r3 ∧ Below w.heap.size w w' := by
 have hu34 := Try.underlying34
 have hu48 := Try.underlying48
 have hu50 := Try.underlying50
 have HR0_2 := As0 hr0_2
 have HC0_2 := As0 hc0_2
 clear hr0_2 hc0_2
 have HB := As0 (Below.refl w.heap.size w)
 have H : (regcertref07_Copy.l0 k 0 a0_0 a0_1 l0_2 a0_0 a0_1 ([] : List (S50))) = some (r1, r2, r3) := h
 clear h
 have H' := As0 H
 clear H
 go_enter Try.func34, Try.ntmps34
 go_wp2_with (first | ((with_reducible refine gate_dst (N := 1) rfl ?_); refine box_event ?hg (N := 1) ?hd (cs := #[.int .i64 a0_0, .int .i64 a0_1, .slice A0_2 l0_2.length c0_2]) (t := 34) ?hr ?_; (case hd => rfl); (case hg => rfl); (case hr => first | (go_simp; done) | (go_simp; rfl)); intro gb196 hg w2 hbox hb; have n0_ := As0 (below_step (by repeat (first | (with_reducible first | exact HB.out | apply below_alloc | apply bdN | apply bd1) | exact HB.out)) hb); have n1_ := As0 (hbox); have n2_ := As0 ((by rw [hg]; exact (below_size (by repeat (first | (with_reducible first | exact HB.out | apply below_alloc | apply bdN | apply bd1) | exact HB.out))) : w.heap.size ≤ gb196)); have n3_ := As0 ((by rw [hg]; exact (below_size (by repeat (first | (with_reducible first | exact HB.out | apply below_alloc | apply bdN | apply bd1) | exact HB.out))) : w.heap.size ≤ gb196)); clear HB; have HB := n0_; have BK196 := n1_; have GW196 := n2_; have GE196 := n3_; clear n0_ n1_ n2_ n3_; clear hb hbox hg) | ((with_reducible refine gate_dst (N := 2) rfl ?_); refine box_event ?hg (N := 2) ?hd (cs := #[.int .i64 0, .int .i64 0, .slice none 0 0]) (t := 34) ?hr ?_; (case hd => rfl); (case hg => rfl); (case hr => first | (go_simp; done) | (go_simp; rfl)); intro gb197 hg w3 hbox hb; have n0_ := As0 (blk_below (g := gb196) (o := .cells #[.int .i64 a0_0, .int .i64 a0_1, .slice A0_2 l0_2.length c0_2] 34 (0, 0)) (by (with_reducible repeat (first | refine blk_drewN ?_ _ | refine blk_drew ?_ | refine blk_alloc ?_ _)); exact BK196.out) hb); have n1_ := As0 (below_step (by repeat (first | (with_reducible first | exact HB.out | apply below_alloc | apply bdN | apply bd1 | refine below_set ?_ GE196.out) | exact HB.out)) hb); have n2_ := As0 (hbox); have n3_ := As0 ((by rw [hg]; exact (below_size (by repeat (first | (with_reducible first | exact HB.out | apply below_alloc | apply bdN | apply bd1 | refine below_set ?_ GE196.out) | exact HB.out))) : w.heap.size ≤ gb197)); have n4_ := As0 ((by rw [hg]; exact (below_size (by repeat (first | (with_reducible first | exact HB.out | apply below_alloc | apply bdN | apply bd1 | refine below_set ?_ GE196.out) | exact HB.out))) : w.heap.size ≤ gb197)); have n5_ := As0 ((by rw [hg]; exact Nat.ne_of_lt (blk_lt (g := gb196) (o := .cells #[.int .i64 a0_0, .int .i64 a0_1, .slice A0_2 l0_2.length c0_2] 34 (0, 0)) (by (with_reducible repeat (first | refine blk_drewN ?_ _ | refine blk_drew ?_ | refine blk_alloc ?_ _)); exact BK196.out)) : gb196 ≠ gb197)); have n6_ := As0 ((by rw [hg]; exact Nat.ne_of_gt (blk_lt (g := gb196) (o := .cells #[.int .i64 a0_0, .int .i64 a0_1, .slice A0_2 l0_2.length c0_2] 34 (0, 0)) (by (with_reducible repeat (first | refine blk_drewN ?_ _ | refine blk_drew ?_ | refine blk_alloc ?_ _)); exact BK196.out)) : gb197 ≠ gb196)); clear BK196; clear HB; have BK196 := n0_; have HB := n1_; have BK197 := n2_; have GW197 := n3_; have GE197 := n4_; have NB196_197 := n5_; have NB197_196 := n6_; clear n0_ n1_ n2_ n3_ n4_ n5_ n6_; clear hb hbox hg; have hnb4 := NB196_197.out; have hnc4 := NB197_196.out; have hcz5_0 : w3.cell? ⟨gb196, 0, none⟩ = some (.int .i64 a0_0) := (blk_cell BK196.out 0).trans rfl; have hcz5_1 : w3.cell? ⟨gb196, 1, none⟩ = some (.int .i64 a0_1) := (blk_cell BK196.out 1).trans rfl; have hcz5_2 : w3.cell? ⟨gb196, 2, none⟩ = some (.slice A0_2 l0_2.length c0_2) := (blk_cell BK196.out 2).trans rfl; have hfz5_0 := blk_frozen BK196.out 0; have hfz5_1 := blk_frozen BK196.out 1; have hfz5_2 := blk_frozen BK196.out 2) | ((with_reducible refine gate_dst (N := 3) rfl ?_); refine box_event ?hg (N := 3) ?hd (cs := #[.int .i64 0, .int .i64 0, .slice none 0 0]) (t := 34) ?hr ?_; (case hd => rfl); (case hg => rfl); (case hr => first | (go_simp; done) | (go_simp; rfl)); intro gb198 hg w6 hbox hb; have n0_ := As0 (blk_below (g := gb196) (o := .cells #[.int .i64 a0_0, .int .i64 a0_1, .slice A0_2 l0_2.length c0_2] 34 (0, 0)) (by (with_reducible repeat (first | refine blk_drewN ?_ _ | refine blk_drew ?_ | refine blk_alloc ?_ _)); exact BK196.out) hb); have n1_ := As0 (blk_below (g := gb197) (o := .cells #[.int .i64 0, .int .i64 0, .slice none 0 0] 34 (0, 0)) (by (with_reducible repeat (first | refine blk_drewN ?_ _ | refine blk_drew ?_ | refine blk_alloc ?_ _)); exact BK197.out) hb); have n2_ := As0 (below_step (by repeat (first | (with_reducible first | exact HB.out | apply below_alloc | apply bdN | apply bd1 | refine below_set ?_ GE196.out | refine below_set ?_ GE197.out) | exact HB.out)) hb); have n3_ := As0 (hbox); have n4_ := As0 ((by rw [hg]; exact (below_size (by repeat (first | (with_reducible first | exact HB.out | apply below_alloc | apply bdN | apply bd1 | refine below_set ?_ GE196.out | refine below_set ?_ GE197.out) | exact HB.out))) : w.heap.size ≤ gb198)); have n5_ := As0 ((by rw [hg]; exact (below_size (by repeat (first | (with_reducible first | exact HB.out | apply below_alloc | apply bdN | apply bd1 | refine below_set ?_ GE196.out | refine below_set ?_ GE197.out) | exact HB.out))) : w.heap.size ≤ gb198)); have n6_ := As0 ((by rw [hg]; exact Nat.ne_of_lt (blk_lt (g := gb196) (o := .cells #[.int .i64 a0_0, .int .i64 a0_1, .slice A0_2 l0_2.length c0_2] 34 (0, 0)) (by (with_reducible repeat (first | refine blk_drewN ?_ _ | refine blk_drew ?_ | refine blk_alloc ?_ _)); exact BK196.out)) : gb196 ≠ gb198)); have n7_ := As0 ((by rw [hg]; exact Nat.ne_of_gt (blk_lt (g := gb196) (o := .cells #[.int .i64 a0_0, .int .i64 a0_1, .slice A0_2 l0_2.length c0_2] 34 (0, 0)) (by (with_reducible repeat (first | refine blk_drewN ?_ _ | refine blk_drew ?_ | refine blk_alloc ?_ _)); exact BK196.out)) : gb198 ≠ gb196)); have n8_ := As0 ((by rw [hg]; exact Nat.ne_of_lt (blk_lt (g := gb197) (o := .cells #[.int .i64 0, .int .i64 0, .slice none 0 0] 34 (0, 0)) (by (with_reducible repeat (first | refine blk_drewN ?_ _ | refine blk_drew ?_ | refine blk_alloc ?_ _)); exact BK197.out)) : gb197 ≠ gb198)); have n9_ := As0 ((by rw [hg]; exact Nat.ne_of_gt (blk_lt (g := gb197) (o := .cells #[.int .i64 0, .int .i64 0, .slice none 0 0] 34 (0, 0)) (by (with_reducible repeat (first | refine blk_drewN ?_ _ | refine blk_drew ?_ | refine blk_alloc ?_ _)); exact BK197.out)) : gb198 ≠ gb197)); clear BK196; clear BK197; clear HB; have BK196 := n0_; have BK197 := n1_; have HB := n2_; have BK198 := n3_; have GW198 := n4_; have GE198 := n5_; have NB196_198 := n6_; have NB198_196 := n7_; have NB197_198 := n8_; have NB198_197 := n9_; clear n0_ n1_ n2_ n3_ n4_ n5_ n6_ n7_ n8_ n9_; clear hb hbox hg; have hnb7 := NB198_196.out; have hnc7 := NB196_198.out; have hnb8 := NB198_197.out; have hnc8 := NB197_198.out; have hcz9_0 : w6.cell? ⟨gb198, 0, none⟩ = some (.int .i64 0) := (blk_cell BK198.out 0).trans rfl; have hcz9_1 : w6.cell? ⟨gb198, 1, none⟩ = some (.int .i64 0) := (blk_cell BK198.out 1).trans rfl; have hcz9_2 : w6.cell? ⟨gb198, 2, none⟩ = some (.slice none 0 0) := (blk_cell BK198.out 2).trans rfl; have hfz9_0 := blk_frozen BK198.out 0; have hfz9_1 := blk_frozen BK198.out 1; have hfz9_2 := blk_frozen BK198.out 2))
 go_loopg [4] k (fun kq v4 w' => ∃ (x4_1 : Int) (x199002_1 : List (S50)) (u199002 : Value), v4 = .int .i64 x4_1 ∧ Aside0 (regcertref07_Copy.l0 kq x4_1 a0_0 a0_1 l0_2 a0_0 a0_1 x199002_1 = some (r1, r2, r3)) ∧ Aside0 (kq ≤ k) ∧ Aside0 (Kd.S k50 50 w' w.heap.size (fun _ => True) u199002 x199002_1) ∧ Aside0 (w'.heap[gb196]? = some (.cells #[.int .i64 a0_0, .int .i64 a0_1, (.slice A0_2 l0_2.length c0_2)] 34 (0, 0))) ∧ Aside0 (w'.heap[gb197]? = some (.cells #[.int .i64 0, .int .i64 0, (.slice none 0 0)] 34 (0, 0))) ∧ Aside0 (w'.heap[gb198]? = some (.cells #[.int .i64 a0_0, .int .i64 a0_1, u199002] 34 (0, 0))) ∧ Aside0 (Below w.heap.size w w'))
 case atStart => exact ⟨(0), (([] : List (S50))), (.slice none 0 0), (by first | rfl | (simp; done) | (simp [*]; done)), H', ⟨Nat.le_refl _⟩, ⟨by first | exact Kd.S_nil _ _ _ _ _ | exact Kd.N_nil _ _ _ _ _ | exact Kd.V_nil _ _ _ _ _ | exact Kd.Q_nil _ _ _ _ _ | exact Kd.R_nil _ _ _ _ _⟩, ⟨by (with_reducible repeat (first | refine blk_drewN ?_ _ | refine blk_drew ?_ | refine blk_alloc ?_ _)); refine blk_far ?_ NB196_198.out _; (with_reducible repeat (first | refine blk_drewN ?_ _ | refine blk_drew ?_ | refine blk_alloc ?_ _)); refine blk_far ?_ NB196_198.out _; (with_reducible repeat (first | refine blk_drewN ?_ _ | refine blk_drew ?_ | refine blk_alloc ?_ _)); refine blk_far ?_ NB196_198.out _; (with_reducible repeat (first | refine blk_drewN ?_ _ | refine blk_drew ?_ | refine blk_alloc ?_ _)); exact BK196.out⟩, ⟨by (with_reducible repeat (first | refine blk_drewN ?_ _ | refine blk_drew ?_ | refine blk_alloc ?_ _)); refine blk_far ?_ NB197_198.out _; (with_reducible repeat (first | refine blk_drewN ?_ _ | refine blk_drew ?_ | refine blk_alloc ?_ _)); refine blk_far ?_ NB197_198.out _; (with_reducible repeat (first | refine blk_drewN ?_ _ | refine blk_drew ?_ | refine blk_alloc ?_ _)); refine blk_far ?_ NB197_198.out _; (with_reducible repeat (first | refine blk_drewN ?_ _ | refine blk_drew ?_ | refine blk_alloc ?_ _)); exact BK197.out⟩, ⟨by (with_reducible repeat (first | refine blk_drewN ?_ _ | refine blk_drew ?_ | refine blk_alloc ?_ _)); refine blk_put (cs := #[.int .i64 a0_0, .int .i64 a0_1, .slice none 0 0]) ?_ 2 _ rfl; (with_reducible repeat (first | refine blk_drewN ?_ _ | refine blk_drew ?_ | refine blk_alloc ?_ _)); refine blk_put (cs := #[.int .i64 a0_0, .int .i64 0, .slice none 0 0]) ?_ 1 _ rfl; (with_reducible repeat (first | refine blk_drewN ?_ _ | refine blk_drew ?_ | refine blk_alloc ?_ _)); refine blk_put (cs := #[.int .i64 0, .int .i64 0, .slice none 0 0]) ?_ 0 _ rfl; (with_reducible repeat (first | refine blk_drewN ?_ _ | refine blk_drew ?_ | refine blk_alloc ?_ _)); exact BK198.out⟩, ⟨by repeat (first | (with_reducible first | exact HB.out | apply below_alloc | apply bdN | apply bd1 | refine below_set ?_ GE196.out | refine below_set ?_ GE197.out | refine below_set ?_ GE198.out) | exact HB.out)⟩⟩
 case round =>
  clear H'
  try clear p2
  try clear c3
  try clear c4
  try clear c7
  try clear c8
  try clear hcz5_0
  try clear hcz5_1
  try clear hcz5_2
  try clear hcz9_0
  try clear hcz9_1
  try clear hcz9_2
  try clear hfz5_0
  try clear hfz5_1
  try clear hfz5_2
  try clear hfz9_0
  try clear hfz9_1
  try clear hfz9_2
  obtain ⟨x4_1, x199002_1, u199002, rfl, HA, HK1, HO_199002, BK196, BK197, BK198, HB⟩ := hrel
  cases gk with
  | zero => exact absurd HA.out (by simp [regcertref07_Copy.l0])
  | succ k1 =>
   have H := HA.out
   clear HA
   simp only [regcertref07_Copy.l0] at H
   by_cases c10 : x4_1 < (l0_2.length : Int)
   ·rw [if_pos c10] at H
    have c10b0 : decide (x4_1 < (l0_2.length : Int)) = true := decide_eq_true c10
    clear c10
    obtain ⟨y199, hy199⟩ : ∃ y_ : List (S97), y_ = (([] : List (S97))) := ⟨_, rfl⟩
    replace H : (if 0 ≤ x4_1 then (if y199.length + ((rd_T50 l0_2 x4_1).f0).length < 3518437208883 then (if x199002_1.length < 2513169434916 then (regcertref07_Copy.l0 k1 (wrap64 (x4_1 + 1)) a0_0 a0_1 l0_2 a0_0 a0_1 (x199002_1 ++ [(⟨(y199 ++ ((rd_T50 l0_2 x4_1).f0)), (⟨(rd_T50 l0_2 x4_1).f1.f0, (rd_T50 l0_2 x4_1).f1.f1, (rd_T50 l0_2 x4_1).f1.f2, (rd_T50 l0_2 x4_1).f1.f3⟩ : S48)⟩ : S50)])) else (none)) else (none)) else (none)) = some (r1, r2, r3) := by first | (rw [hy199]; with_reducible exact H) | (have H2_ := (Option.bind_some _ _).symm.trans H; rw [hy199]; with_reducible exact H2_) | (have H2_ := (Option.bind_some _ _).symm.trans H; with_reducible exact H2_) | with_reducible exact H | (rw [hy199]; exact H) | exact H
    have Ny199 := As0 hy199
    clear hy199
    by_cases c11 : 0 ≤ x4_1
    ·rw [if_pos c11] at H
     have c11b0 : decide (0 ≤ x4_1) = true := decide_eq_true c11
     clear c11
     by_cases c12 : y199.length + ((rd_T50 l0_2 x4_1).f0).length < 3518437208883
     ·rw [if_pos c12] at H
      have LMc12 := As0 c12
      clear c12
      obtain ⟨y203, hy203⟩ : ∃ y_ : List (S97), y_ = (y199 ++ ((rd_T50 l0_2 x4_1).f0)) := ⟨_, rfl⟩
      replace H : (if x199002_1.length < 2513169434916 then (regcertref07_Copy.l0 k1 (wrap64 (x4_1 + 1)) a0_0 a0_1 l0_2 a0_0 a0_1 (x199002_1 ++ [(⟨y203, (⟨(rd_T50 l0_2 x4_1).f1.f0, (rd_T50 l0_2 x4_1).f1.f1, (rd_T50 l0_2 x4_1).f1.f2, (rd_T50 l0_2 x4_1).f1.f3⟩ : S48)⟩ : S50)])) else (none)) = some (r1, r2, r3) := by first | (rw [hy203]; with_reducible exact H) | (have H2_ := (Option.bind_some _ _).symm.trans H; rw [hy203]; with_reducible exact H2_) | (have H2_ := (Option.bind_some _ _).symm.trans H; with_reducible exact H2_) | with_reducible exact H | (rw [hy203]; exact H) | exact H
      have Ny203 := As0 hy203
      clear hy203
      by_cases c13 : x199002_1.length < 2513169434916
      ·rw [if_pos c13] at H
       have LMc13 := As0 c13
       clear c13
       obtain ⟨y207, hy207⟩ : ∃ y_ : List (S50), y_ = (x199002_1 ++ [(⟨y203, (⟨(rd_T50 l0_2 x4_1).f1.f0, (rd_T50 l0_2 x4_1).f1.f1, (rd_T50 l0_2 x4_1).f1.f2, (rd_T50 l0_2 x4_1).f1.f3⟩ : S48)⟩ : S50)]) := ⟨_, rfl⟩
       replace H : (regcertref07_Copy.l0 k1 (wrap64 (x4_1 + 1)) a0_0 a0_1 l0_2 a0_0 a0_1 y207) = some (r1, r2, r3) := by first | (rw [hy207]; with_reducible exact H) | (have H2_ := (Option.bind_some _ _).symm.trans H; rw [hy207]; with_reducible exact H2_) | (have H2_ := (Option.bind_some _ _).symm.trans H; with_reducible exact H2_) | with_reducible exact H | (rw [hy207]; exact H) | exact H
       have Ny207 := As0 hy207
       clear hy207
       have H' := As0 H
       clear H
       have hnb14 := NB196_197.out
       have hnc14 := NB197_196.out
       have hnb15 := NB196_198.out
       have hnc15 := NB198_196.out
       have hcz16_0 : wr.cell? ⟨gb196, 0, none⟩ = some (.int .i64 a0_0) := (blk_cell BK196.out 0).trans rfl
       have hcz16_1 : wr.cell? ⟨gb196, 1, none⟩ = some (.int .i64 a0_1) := (blk_cell BK196.out 1).trans rfl
       have hcz16_2 : wr.cell? ⟨gb196, 2, none⟩ = some (.slice A0_2 l0_2.length c0_2) := (blk_cell BK196.out 2).trans rfl
       have hfz16_0 := blk_frozen BK196.out 0
       have hfz16_1 := blk_frozen BK196.out 1
       have hfz16_2 := blk_frozen BK196.out 2
       try go_wp2
       have n0_ := As0 (Kd.S_drew HO_199002.out)
       have n1_ := As0 (blk_drew BK196.out)
       have n2_ := As0 (blk_drew BK197.out)
       have n3_ := As0 (blk_drew BK198.out)
       have n4_ := As0 (bd1 HB.out)
       clear HO_199002
       clear BK196
       clear BK197
       clear BK198
       clear HB
       have HO_199002 := n0_
       have BK196 := n1_
       have BK197 := n2_
       have BK198 := n3_
       have HB := n4_
       clear n0_ n1_ n2_ n3_ n4_
       have p202 : 0 ≤ (x4_1 : Int) := of_decide_eq_true (by first | (with_reducible assumption) | assumption)
       have q202 : x4_1 < (l0_2.length : Int) := of_decide_eq_true (by first | (with_reducible assumption) | assumption)
       obtain ⟨ad202, A202_0, c202_0, e202, hx202_0, hx202_1, hx202_2, hx202_3, hx202_4, hl202_0, hi202_0⟩ := at_T50 HR0_2.out x4_1 p202 q202
       have hw202_4 := hx202_4
       have hw202_3 := hx202_3
       have hw202_2 := hx202_2
       have hw202_1 := hx202_1
       have hw202_0 := hx202_0
       cases e202
       replace hx202_0 := (HB.out.cell (wblt w hx202_0)).trans hx202_0
       replace hx202_1 := (HB.out.cell (wblt w hx202_1)).trans hx202_1
       replace hx202_2 := (HB.out.cell (wblt w hx202_2)).trans hx202_2
       replace hx202_3 := (HB.out.cell (wblt w hx202_3)).trans hx202_3
       replace hx202_4 := (HB.out.cell (wblt w hx202_4)).trans hx202_4
       have HR202_0 := As0 hi202_0
       have HC202_0 := As0 hl202_0
       clear hi202_0 hl202_0
       replace p202 := eq_true p202
       replace q202 := eq_true q202
       have p206 : 0 ≤ (x4_1 : Int) := of_decide_eq_true (by first | (with_reducible assumption) | assumption)
       have q206 : x4_1 < (l0_2.length : Int) := of_decide_eq_true (by first | (with_reducible assumption) | assumption)
       obtain ⟨ad206, A206_0, c206_0, e206, hx206_0, hx206_1, hx206_2, hx206_3, hx206_4, hl206_0, hi206_0⟩ := at_T50 HR0_2.out x4_1 p206 q206
       have hw206_4 := hx206_4
       have hw206_3 := hx206_3
       have hw206_2 := hx206_2
       have hw206_1 := hx206_1
       have hw206_0 := hx206_0
       obtain rfl : ad202 = ad206 := (by injection e206)
       replace hx206_0 := (HB.out.cell (wblt w hx206_0)).trans hx206_0
       replace hx206_1 := (HB.out.cell (wblt w hx206_1)).trans hx206_1
       replace hx206_2 := (HB.out.cell (wblt w hx206_2)).trans hx206_2
       replace hx206_3 := (HB.out.cell (wblt w hx206_3)).trans hx206_3
       replace hx206_4 := (HB.out.cell (wblt w hx206_4)).trans hx206_4
       have HR206_0 := As0 hi206_0
       have HC206_0 := As0 hl206_0
       clear hi206_0 hl206_0
       replace p206 := eq_true p206
       replace q206 := eq_true q206
       have ea_ := Option.some.inj (hx202_0.symm.trans hx206_0)
       injection ea_ with ea_ en_ ec_
       subst ea_
       subst ec_
       clear en_
       refine start_ (n := 21) (S := fun w' => w'.cell? ⟨gb198, 0, none⟩ = some (.int .i64 a0_0) ∧ w'.cell? ⟨gb198, 1, none⟩ = some (.int .i64 a0_1) ∧ w'.cell? ⟨gb198, 2, none⟩ = some (u199002) ∧ w'.cell? ⟨gb196, 0, none⟩ = some (.int .i64 a0_0) ∧ w'.cell? ⟨gb196, 1, none⟩ = some (.int .i64 a0_1) ∧ w'.cell? ⟨gb196, 2, none⟩ = some (.slice (some ad202) l0_2.length c0_2) ∧ w'.cell? (ad202.add ((x4_1).toNat * 5)) = some (.slice A202_0 ((rd_T50 l0_2 x4_1).f0).length c202_0) ∧ w'.cell? ⟨(ad202.add ((x4_1).toNat * 5)).block, (ad202.add ((x4_1).toNat * 5)).off + 1, none⟩ = some (.int .i64 ((rd_T50 l0_2 x4_1).f1.f0)) ∧ w'.cell? ⟨(ad202.add ((x4_1).toNat * 5)).block, (ad202.add ((x4_1).toNat * 5)).off + 2, none⟩ = some (.int .i64 ((rd_T50 l0_2 x4_1).f1.f1)) ∧ w'.cell? ⟨(ad202.add ((x4_1).toNat * 5)).block, (ad202.add ((x4_1).toNat * 5)).off + 3, none⟩ = some (.int .i64 ((rd_T50 l0_2 x4_1).f1.f2)) ∧ w'.cell? ⟨(ad202.add ((x4_1).toNat * 5)).block, (ad202.add ((x4_1).toNat * 5)).off + 4, none⟩ = some (.int .i64 ((rd_T50 l0_2 x4_1).f1.f3)) ∧ w'.cell? (ad202.add ((x4_1).toNat * 5)) = some (.slice A202_0 ((rd_T50 l0_2 x4_1).f0).length c202_0) ∧ w'.cell? ⟨(ad202.add ((x4_1).toNat * 5)).block, (ad202.add ((x4_1).toNat * 5)).off + 1, none⟩ = some (.int .i64 ((rd_T50 l0_2 x4_1).f1.f0)) ∧ w'.cell? ⟨(ad202.add ((x4_1).toNat * 5)).block, (ad202.add ((x4_1).toNat * 5)).off + 2, none⟩ = some (.int .i64 ((rd_T50 l0_2 x4_1).f1.f1)) ∧ w'.cell? ⟨(ad202.add ((x4_1).toNat * 5)).block, (ad202.add ((x4_1).toNat * 5)).off + 3, none⟩ = some (.int .i64 ((rd_T50 l0_2 x4_1).f1.f2)) ∧ w'.cell? ⟨(ad202.add ((x4_1).toNat * 5)).block, (ad202.add ((x4_1).toNat * 5)).off + 4, none⟩ = some (.int .i64 ((rd_T50 l0_2 x4_1).f1.f3))) (ds := [20]) #[false, false, false, false, false, false, false, false, false, false, false, false, false, false, false, false, false, false, false, false, false] (by kernel_rfl) rfl rfl ⟨(blk_cell BK198.out 0).trans rfl, (blk_cell BK198.out 1).trans rfl, (blk_cell BK198.out 2).trans rfl, (blk_cell BK196.out 0).trans rfl, (blk_cell BK196.out 1).trans rfl, (blk_cell BK196.out 2).trans rfl, ((HB.out.cell (wblt w hw202_0)).trans hw202_0), ((HB.out.cell (wblt w hw202_1)).trans hw202_1), ((HB.out.cell (wblt w hw202_2)).trans hw202_2), ((HB.out.cell (wblt w hw202_3)).trans hw202_3), ((HB.out.cell (wblt w hw202_4)).trans hw202_4), ((HB.out.cell (wblt w hw206_0)).trans hw206_0), ((HB.out.cell (wblt w hw206_1)).trans hw206_1), ((HB.out.cell (wblt w hw206_2)).trans hw206_2), ((HB.out.cell (wblt w hw206_3)).trans hw206_3), ((HB.out.cell (wblt w hw206_4)).trans hw206_4)⟩ (fun hHeld => ?_); refine with_tabW regcertref07_Copy.tab5 regcertref07_Copy.bits5 (fun HT_ HW_ => ?_)
       generalize wr.drew = w17 at HO_199002 BK196 BK197 BK198 HB HR202_0 HR206_0 hx202_0 hx202_1 hx202_2 hx202_3 hx202_4 hx206_0 hx206_1 hx206_2 hx206_3 hx206_4 hHeld ⊢
       refine pure_ (i := 0) (N := some 17) (v := ?_) (a' := ?_) #[true, false, false, false, false, false, false, false, false, false, false, false, false, false, false, false, false, false, false, false, false] rfl rfl (any_of HT_.out (by kernel_rfl)) (fun _ _ _ h => h) (Or.inl ⟨by rfl, ?_⟩) ?_ ?_
       rotate_left
       ·intro w'
        go_simp
        with_reducible rfl
       rotate_left
       ·simp only [Act.put, sL1, sL2, sL3, i64_w, i32_w]
        rfl
       refine pure_ (i := 3) (N := some 20) (v := ?_) (a' := ?_) #[true, false, false, true, false, false, false, false, false, false, false, false, false, false, false, false, false, false, false, false, false] rfl rfl (any_of HT_.out (by kernel_rfl)) (fun _ _ _ h => h) (Or.inl ⟨by rfl, ?_⟩) ?_ ?_
       rotate_left
       ·intro w'
        go_simp
        with_reducible rfl
       rotate_left
       ·simp only [Act.put, sL1, sL2, sL3, i64_w, i32_w]
        rfl
       refine pure_ (i := 5) (N := some 22) (v := ?_) (a' := ?_) #[true, false, false, true, false, true, false, false, false, false, false, false, false, false, false, false, false, false, false, false, false] rfl rfl (any_of HT_.out (by kernel_rfl)) (fun _ _ _ h => h) (Or.inl ⟨by rfl, ?_⟩) ?_ ?_
       rotate_left
       ·intro w'
        go_simp
        with_reducible rfl
       rotate_left
       ·simp only [Act.put, sL1, sL2, sL3, i64_w, i32_w]
        rfl
       refine pure_ (i := 10) (N := some 27) (v := ?_) (a' := ?_) #[true, false, false, true, false, true, false, false, false, false, true, false, false, false, false, false, false, false, false, false, false] rfl rfl (any_of HT_.out (by kernel_rfl)) (fun _ _ _ h => h) (Or.inl ⟨by rfl, ?_⟩) ?_ ?_
       rotate_left
       ·intro w'
        go_simp
        with_reducible rfl
       rotate_left
       ·simp only [Act.put, sL1, sL2, sL3, i64_w, i32_w]
        rfl
       refine pure_ (i := 12) (N := some 29) (v := ?_) (a' := ?_) #[true, false, false, true, false, true, false, false, false, false, true, false, true, false, false, false, false, false, false, false, false] rfl rfl (any_of HT_.out (by kernel_rfl)) (fun _ _ _ h => h) (Or.inl ⟨by rfl, ?_⟩) ?_ ?_
       rotate_left
       ·intro w'
        go_simp
        with_reducible rfl
       rotate_left
       ·simp only [Act.put, sL1, sL2, sL3, i64_w, i32_w]
        rfl
       refine take_ (i := 1) (N := some 18) (v := ?_) (a' := ?_) #[true, true, false, true, false, true, false, false, false, false, true, false, true, false, false, false, false, false, false, false, false] rfl rfl (take_ofW HT_.out HW_.out (by kernel_rfl)) (fun _ _ _ h => h) (Or.inl ⟨by rfl, ?_⟩) hHeld ?_ ?_
       rotate_left
       ·rintro w' ⟨s0, s1, s2, s3, s4, s5, s6, s7, s8, s9, s10, s11, s12, s13, s14, s15⟩
        go_simp
        with_reducible rfl
       rotate_left
       ·simp only [Act.put, sL1, sL2, sL3, i64_w, i32_w]
        rfl
       refine take_ (i := 4) (N := some 21) (v := ?_) (a' := ?_) #[true, true, false, true, true, true, false, false, false, false, true, false, true, false, false, false, false, false, false, false, false] rfl rfl (take_ofW HT_.out HW_.out (by kernel_rfl)) (fun _ _ _ h => h) (Or.inl ⟨by rfl, ?_⟩) hHeld ?_ ?_
       rotate_left
       ·rintro w' ⟨s0, s1, s2, s3, s4, s5, s6, s7, s8, s9, s10, s11, s12, s13, s14, s15⟩
        go_simp
        with_reducible rfl
       rotate_left
       ·simp only [Act.put, sL1, sL2, sL3, i64_w, i32_w]
        rfl
       refine pure_ (i := 6) (N := some 23) (v := ?_) (a' := ?_) #[true, true, false, true, true, true, true, false, false, false, true, false, true, false, false, false, false, false, false, false, false] rfl rfl (any_of HT_.out (by kernel_rfl)) (fun _ _ _ h => h) (Or.inl ⟨by rfl, ?_⟩) ?_ ?_
       rotate_left
       ·intro w'
        go_simp
        with_reducible rfl
       rotate_left
       ·simp only [Act.put, sL1, sL2, sL3, i64_w, i32_w]
        rfl
       refine pure_ (i := 7) (N := some 24) (v := ?_) (a' := ?_) #[true, true, false, true, true, true, true, true, false, false, true, false, true, false, false, false, false, false, false, false, false] rfl rfl (any_of HT_.out (by kernel_rfl)) (fun _ _ _ h => h) (Or.inl ⟨by rfl, ?_⟩) ?_ ?_
       rotate_left
       ·intro w'
        go_simp
        with_reducible rfl
       rotate_left
       ·simp only [Act.put, sL1, sL2, sL3, i64_w, i32_w]
        rfl
       refine take_ (i := 8) (N := some 25) (v := ?_) (a' := ?_) #[true, true, false, true, true, true, true, true, true, false, true, false, true, false, false, false, false, false, false, false, false] rfl rfl (take_ofW HT_.out HW_.out (by kernel_rfl)) (fun _ _ _ h => h) (Or.inl ⟨by rfl, ?_⟩) hHeld ?_ ?_
       rotate_left
       ·rintro w' ⟨s0, s1, s2, s3, s4, s5, s6, s7, s8, s9, s10, s11, s12, s13, s14, s15⟩
        go_simp
        with_reducible rfl
       rotate_left
       ·simp only [Act.put, sL1, sL2, sL3, i64_w, i32_w]
        rfl
       refine take_ (i := 11) (N := some 28) (v := ?_) (a' := ?_) #[true, true, false, true, true, true, true, true, true, false, true, true, true, false, false, false, false, false, false, false, false] rfl rfl (take_ofW HT_.out HW_.out (by kernel_rfl)) (fun _ _ _ h => h) (Or.inl ⟨by rfl, ?_⟩) hHeld ?_ ?_
       rotate_left
       ·rintro w' ⟨s0, s1, s2, s3, s4, s5, s6, s7, s8, s9, s10, s11, s12, s13, s14, s15⟩
        go_simp
        with_reducible rfl
       rotate_left
       ·simp only [Act.put, sL1, sL2, sL3, i64_w, i32_w]
        rfl
       refine pure_ (i := 13) (N := some 30) (v := ?_) (a' := ?_) #[true, true, false, true, true, true, true, true, true, false, true, true, true, true, false, false, false, false, false, false, false] rfl rfl (any_of HT_.out (by kernel_rfl)) (fun _ _ _ h => h) (Or.inl ⟨by rfl, ?_⟩) ?_ ?_
       rotate_left
       ·intro w'
        go_simp
        with_reducible rfl
       rotate_left
       ·simp only [Act.put, sL1, sL2, sL3, i64_w, i32_w]
        rfl
       refine pure_ (i := 14) (N := some 31) (v := ?_) (a' := ?_) #[true, true, false, true, true, true, true, true, true, false, true, true, true, true, true, false, false, false, false, false, false] rfl rfl (any_of HT_.out (by kernel_rfl)) (fun _ _ _ h => h) (Or.inl ⟨by rfl, ?_⟩) ?_ ?_
       rotate_left
       ·intro w'
        go_simp
        with_reducible rfl
       rotate_left
       ·simp only [Act.put, sL1, sL2, sL3, i64_w, i32_w]
        rfl
       refine take_ (i := 15) (N := some 32) (v := ?_) (a' := ?_) #[true, true, false, true, true, true, true, true, true, false, true, true, true, true, true, true, false, false, false, false, false] rfl rfl (take_ofW HT_.out HW_.out (by kernel_rfl)) (fun _ _ _ h => h) (Or.inl ⟨by rfl, ?_⟩) hHeld ?_ ?_
       rotate_left
       ·rintro w' ⟨s0, s1, s2, s3, s4, s5, s6, s7, s8, s9, s10, s11, s12, s13, s14, s15⟩
        go_simp
        with_reducible rfl
       rotate_left
       ·simp only [Act.put, sL1, sL2, sL3, i64_w, i32_w]
        rfl
       refine one_ (i := 2) (N := some 19) #[true, true, true, true, true, true, true, true, true, false, true, true, true, true, true, true, false, false, false, false, false] rfl rfl (one_of HT_.out (by kernel_rfl)) (by decide) (fun K hK => ?_)
       refine Kd.R_lit_step k97 _ 97 ?hg (N := 19) ?hd (xs := ([] : List (S97))) (inner := []) (ok := fun _ => True) (okp := fun _ => True) ?hr ?hp (fun _ hk => hk) trivial (Below.refl _ _) (Nat.le_refl _) (by simp) ?_; (case hd => rfl); (case hg => rfl); (case hr => first | (go_simp; done) | (go_simp; rfl)); (case hp => exact (Reps.none _ _))
       intro v200 w18 ho19 hb hg_ hnew_
       clear hg_ hnew_
       (first | rw [← Ny199.out] at ho19 | (simp only [Int.reduceToNat] at ho19; rw [← Ny199.out] at ho19))
       have n0_ := As0 (Kd.S_elder' (by (with_reducible repeat (first | apply Kd.S_alloc | apply Kd.S_drewN | apply Kd.S_drew)); exact HO_199002.out) (Kd.R_base ho19) hb)
       have n1_ := As0 (Kd.R_lower ho19 (below_size (by repeat (first | (with_reducible first | exact HB.out | apply below_alloc | apply bdN | apply bd1 | refine below_set ?_ GE196.out | refine below_set ?_ GE197.out | refine below_set ?_ GE198.out) | exact HB.out))))
       have n2_ := As0 (blk_below (g := gb196) (o := .cells #[.int .i64 a0_0, .int .i64 a0_1, .slice (some ad202) l0_2.length c0_2] 34 (0, 0)) (by (with_reducible repeat (first | refine blk_drewN ?_ _ | refine blk_drew ?_ | refine blk_alloc ?_ _)); exact BK196.out) hb)
       have n3_ := As0 (blk_below (g := gb197) (o := .cells #[.int .i64 0, .int .i64 0, .slice none 0 0] 34 (0, 0)) (by (with_reducible repeat (first | refine blk_drewN ?_ _ | refine blk_drew ?_ | refine blk_alloc ?_ _)); exact BK197.out) hb)
       have n4_ := As0 (blk_below (g := gb198) (o := .cells #[.int .i64 a0_0, .int .i64 a0_1, u199002] 34 (0, 0)) (by (with_reducible repeat (first | refine blk_drewN ?_ _ | refine blk_drew ?_ | refine blk_alloc ?_ _)); exact BK198.out) hb)
       have n5_ := As0 (below_step (by repeat (first | (with_reducible first | exact HB.out | apply below_alloc | apply bdN | apply bd1 | refine below_set ?_ GE196.out | refine below_set ?_ GE197.out | refine below_set ?_ GE198.out) | exact HB.out)) hb)
       clear HO_199002
       clear BK196
       clear BK197
       clear BK198
       clear HB
       have HO_199002 := n0_
       have HO201 := n1_
       have BK196 := n2_
       have BK197 := n3_
       have BK198 := n4_
       have HB := n5_
       clear n0_ n1_ n2_ n3_ n4_ n5_
       clear hb ho19
       refine hK.out _ _ ⟨(blk_cell BK198.out 0).trans rfl, (blk_cell BK198.out 1).trans rfl, (blk_cell BK198.out 2).trans rfl, (blk_cell BK196.out 0).trans rfl, (blk_cell BK196.out 1).trans rfl, (blk_cell BK196.out 2).trans rfl, ((HB.out.cell (wblt w hw202_0)).trans hw202_0), ((HB.out.cell (wblt w hw202_1)).trans hw202_1), ((HB.out.cell (wblt w hw202_2)).trans hw202_2), ((HB.out.cell (wblt w hw202_3)).trans hw202_3), ((HB.out.cell (wblt w hw202_4)).trans hw202_4), ((HB.out.cell (wblt w hw206_0)).trans hw206_0), ((HB.out.cell (wblt w hw206_1)).trans hw206_1), ((HB.out.cell (wblt w hw206_2)).trans hw206_2), ((HB.out.cell (wblt w hw206_3)).trans hw206_3), ((HB.out.cell (wblt w hw206_4)).trans hw206_4)⟩ (fun hHeld => ?_)
       clear hK K
       refine norm_ (a' := ?_) ?_ ?_
       rotate_left
       ·show Act.put _ (some 19) _ = _
        simp only [Act.put, sL1, sL2, sL3, i64_w, i32_w]
        rfl
       refine one_ (i := 9) (N := some 26) #[true, true, true, true, true, true, true, true, true, true, true, true, true, true, true, true, false, false, false, false, false] rfl rfl (one_of HT_.out (by kernel_rfl)) (by decide) (fun K hK => ?_)
       refine Kd.R_append_rows_step k97 (w0 := w) w.heap.size (by rfl) (.tmp 19) (.tmp 25) 46 97 (.agg #[(.int .i64 0), (.int .i64 0), (.int .i64 0), (.int .i64 0), (.int .i64 0)]) 40 rfl Try.underlying46 info97 rfl (by decide) (by omega) v200 y199 ((rd_T50 l0_2 x4_1).f0) _ _ _ (fun _ => True) (fun _ => False) rfl rfl ?aO ?aR (fun _ _ h => h) (fun _ h => h.elim) ?aF ?aB ?aS ?aL ?_
       (case aR => repeat (first | exact (Kd.C_below HR202_0.out HB.out) | (with_reducible refine Kd.C_alloc ?_ _) | (with_reducible refine Kd.C_drewN ?_ _) | (with_reducible refine Kd.C_drew ?_)))
       (case aB => exact (by repeat (first | (with_reducible first | exact HB.out | apply below_alloc | apply bdN | apply bd1 | refine below_set ?_ GE196.out | refine below_set ?_ GE197.out | refine below_set ?_ GE198.out) | exact HB.out)))
       (case aF => exact (fun _ _ => trivial))
       (case aO => exact (by (with_reducible repeat (first | apply Kd.R_alloc | apply Kd.R_drewN | apply Kd.R_drew)); exact HO201.out))
       (case aS => exact (below_size (by repeat (first | (with_reducible first | exact HB.out | apply below_alloc | apply bdN | apply bd1 | refine below_set ?_ GE196.out | refine below_set ?_ GE197.out | refine below_set ?_ GE198.out) | exact HB.out))))
       (case aL => have := LMc12.out; omega)
       intro v204 w20 ho hb hg hat
       rw [← Ny203.out] at ho
       have n0_ := As0 (Kd.S_after (ok := (fun _ => True)) (by (with_reducible repeat (first | apply Kd.S_alloc | apply Kd.S_drewN | apply Kd.S_drew)); exact HO_199002.out) hg hat)
       have n1_ := As0 (blk_grown (g := gb196) (o := .cells #[.int .i64 a0_0, .int .i64 a0_1, .slice (some ad202) l0_2.length c0_2] 34 (0, 0)) (by (with_reducible repeat (first | refine blk_drewN ?_ _ | refine blk_drew ?_ | refine blk_alloc ?_ _)); exact BK196.out) hg (Kd.R_ne HO201.out BK196.out (by decide)))
       have n2_ := As0 (blk_grown (g := gb197) (o := .cells #[.int .i64 0, .int .i64 0, .slice none 0 0] 34 (0, 0)) (by (with_reducible repeat (first | refine blk_drewN ?_ _ | refine blk_drew ?_ | refine blk_alloc ?_ _)); exact BK197.out) hg (Kd.R_ne HO201.out BK197.out (by decide)))
       have n3_ := As0 (blk_grown (g := gb198) (o := .cells #[.int .i64 a0_0, .int .i64 a0_1, u199002] 34 (0, 0)) (by (with_reducible repeat (first | refine blk_drewN ?_ _ | refine blk_drew ?_ | refine blk_alloc ?_ _)); exact BK198.out) hg (Kd.R_ne HO201.out BK198.out (by decide)))
       have n4_ := As0 (hb)
       have n5_ := As0 (ho)
       clear HO_199002
       clear BK196
       clear BK197
       clear BK198
       clear HB
       clear HO201
       have HO_199002 := n0_
       have BK196 := n1_
       have BK197 := n2_
       have BK198 := n3_
       have HB := n4_
       have HO205 := n5_
       clear n0_ n1_ n2_ n3_ n4_ n5_
       clear ho hb hg hat
       obtain ⟨Ao21, co21, eo21⟩ := Kd.R_slice HO205.out
       (first | subst eo21 | (injection eo21 with f1_ f2_ f3_; have f4_ := f1_.symm; have f5_ := f3_.symm; clear f1_ f2_ f3_; subst f4_; subst f5_))
       refine hK.out _ _ ⟨(blk_cell BK198.out 0).trans rfl, (blk_cell BK198.out 1).trans rfl, (blk_cell BK198.out 2).trans rfl, (blk_cell BK196.out 0).trans rfl, (blk_cell BK196.out 1).trans rfl, (blk_cell BK196.out 2).trans rfl, ((HB.out.cell (wblt w hw202_0)).trans hw202_0), ((HB.out.cell (wblt w hw202_1)).trans hw202_1), ((HB.out.cell (wblt w hw202_2)).trans hw202_2), ((HB.out.cell (wblt w hw202_3)).trans hw202_3), ((HB.out.cell (wblt w hw202_4)).trans hw202_4), ((HB.out.cell (wblt w hw206_0)).trans hw206_0), ((HB.out.cell (wblt w hw206_1)).trans hw206_1), ((HB.out.cell (wblt w hw206_2)).trans hw206_2), ((HB.out.cell (wblt w hw206_3)).trans hw206_3), ((HB.out.cell (wblt w hw206_4)).trans hw206_4)⟩ (fun hHeld => ?_)
       clear hK K
       refine norm_ (a' := ?_) ?_ ?_
       rotate_left
       ·show Act.put _ (some 26) _ = _
        simp only [Act.put, sL1, sL2, sL3, i64_w, i32_w]
        rfl
       refine pure_ (i := 16) (N := some 33) (v := ?_) (a' := ?_) #[true, true, true, true, true, true, true, true, true, true, true, true, true, true, true, true, true, false, false, false, false] rfl rfl (any_of HT_.out (by kernel_rfl)) (fun _ _ _ h => h) (Or.inl ⟨by rfl, ?_⟩) ?_ ?_
       rotate_left
       ·intro w'
        go_simp
        with_reducible rfl
       rotate_left
       ·simp only [Act.put, sL1, sL2, sL3, i64_w, i32_w]
        rfl
       refine one_ (i := 17) (N := some 34) #[true, true, true, true, true, true, true, true, true, true, true, true, true, true, true, true, true, true, false, false, false] rfl rfl (one_of HT_.out (by kernel_rfl)) (by decide) (fun K hK => ?_)
       refine value_ (w1 := ?_) (v := ?_) (by rfl) rfl ?_ ?_
       rotate_left 2
       ·go_simp
        constructor
        ·rfl
        ·rfl
       refine hK.out _ _ ⟨(blk_cell (blk_alloc BK198.out _) 0).trans rfl, (blk_cell (blk_alloc BK198.out _) 1).trans rfl, (blk_cell (blk_alloc BK198.out _) 2).trans rfl, (blk_cell (blk_alloc BK196.out _) 0).trans rfl, (blk_cell (blk_alloc BK196.out _) 1).trans rfl, (blk_cell (blk_alloc BK196.out _) 2).trans rfl, (World.cell?_alloc_lt _ _ _ (World.block_lt_of_cell? _ _ (((HB.out.cell (wblt w hw202_0)).trans hw202_0)))).trans (((HB.out.cell (wblt w hw202_0)).trans hw202_0)), (World.cell?_alloc_lt _ _ _ (World.block_lt_of_cell? _ _ (((HB.out.cell (wblt w hw202_1)).trans hw202_1)))).trans (((HB.out.cell (wblt w hw202_1)).trans hw202_1)), (World.cell?_alloc_lt _ _ _ (World.block_lt_of_cell? _ _ (((HB.out.cell (wblt w hw202_2)).trans hw202_2)))).trans (((HB.out.cell (wblt w hw202_2)).trans hw202_2)), (World.cell?_alloc_lt _ _ _ (World.block_lt_of_cell? _ _ (((HB.out.cell (wblt w hw202_3)).trans hw202_3)))).trans (((HB.out.cell (wblt w hw202_3)).trans hw202_3)), (World.cell?_alloc_lt _ _ _ (World.block_lt_of_cell? _ _ (((HB.out.cell (wblt w hw202_4)).trans hw202_4)))).trans (((HB.out.cell (wblt w hw202_4)).trans hw202_4)), (World.cell?_alloc_lt _ _ _ (World.block_lt_of_cell? _ _ (((HB.out.cell (wblt w hw206_0)).trans hw206_0)))).trans (((HB.out.cell (wblt w hw206_0)).trans hw206_0)), (World.cell?_alloc_lt _ _ _ (World.block_lt_of_cell? _ _ (((HB.out.cell (wblt w hw206_1)).trans hw206_1)))).trans (((HB.out.cell (wblt w hw206_1)).trans hw206_1)), (World.cell?_alloc_lt _ _ _ (World.block_lt_of_cell? _ _ (((HB.out.cell (wblt w hw206_2)).trans hw206_2)))).trans (((HB.out.cell (wblt w hw206_2)).trans hw206_2)), (World.cell?_alloc_lt _ _ _ (World.block_lt_of_cell? _ _ (((HB.out.cell (wblt w hw206_3)).trans hw206_3)))).trans (((HB.out.cell (wblt w hw206_3)).trans hw206_3)), (World.cell?_alloc_lt _ _ _ (World.block_lt_of_cell? _ _ (((HB.out.cell (wblt w hw206_4)).trans hw206_4)))).trans (((HB.out.cell (wblt w hw206_4)).trans hw206_4))⟩ (fun hHeld => ?_)
       clear hK K
       refine norm_ (a' := ?_) ?_ ?_
       rotate_left
       ·show Act.put _ (some 34) _ = _
        simp only [Act.put, sL1, sL2, sL3, i64_w, i32_w]
        rfl
       refine one_ (i := 18) (N := some 35) #[true, true, true, true, true, true, true, true, true, true, true, true, true, true, true, true, true, true, true, false, false] rfl rfl (one_of HT_.out (by kernel_rfl)) (by decide) (fun K hK => ?_)
       refine Kd.S_append_step k50 (w0 := w) w.heap.size (by rfl) (.tmp 18) (.tmp 34) 32 50 (.agg #[(.slice none 0 0), (.int .i64 0), (.int .i64 0), (.int .i64 0), (.int .i64 0)]) 56 rfl Try.underlying32 info50 rfl (by decide) (by omega) u199002 x199002_1 (⟨y203, (⟨(rd_T50 l0_2 x4_1).f1.f0, (rd_T50 l0_2 x4_1).f1.f1, (rd_T50 l0_2 x4_1).f1.f2, (rd_T50 l0_2 x4_1).f1.f3⟩ : S48)⟩ : S50) [.slice Ao21 y203.length co21, .int .i64 ((rd_T50 l0_2 x4_1).f1.f0), .int .i64 ((rd_T50 l0_2 x4_1).f1.f1), .int .i64 ((rd_T50 l0_2 x4_1).f1.f2), .int .i64 ((rd_T50 l0_2 x4_1).f1.f3)] (fun _ => True) (fun k_ => some k_ = (.slice Ao21 y203.length co21 : Value).ownBlock) rfl rfl ?aP (fun k_ hk_ => ((Kd.R_mono (ok' := fun k_ => ((fun _ => True)) k_ ∧ some k_ ≠ (u199002 : Value).ownBlock) (Kd.R_apart' (HO205.out) (Kd.S_typed HO_199002.out) (by decide)) (fun k_ hk => ⟨trivial, hk.2⟩))).1 k_ hk_.symm) ?aF ?aO ?aB ?aS ?aL ?_
       (case aP => exact k50_mkM _ _ _ (⟨y203, (⟨(rd_T50 l0_2 x4_1).f1.f0, (rd_T50 l0_2 x4_1).f1.f1, (rd_T50 l0_2 x4_1).f1.f2, (rd_T50 l0_2 x4_1).f1.f3⟩ : S48)⟩ : S50) (Kd.R_mono (Kd.R_tight rfl (Kd.R_mono (ok' := fun k_ => ((fun _ => True)) k_ ∧ some k_ ≠ (u199002 : Value).ownBlock) (Kd.R_apart' (HO205.out) (Kd.S_typed HO_199002.out) (by decide)) (fun k_ hk => ⟨trivial, hk.2⟩))) (fun _ h_ => h_)))
       (case aB => exact (by repeat (first | (with_reducible first | exact HB.out | apply below_alloc | apply bdN | apply bd1 | refine below_set ?_ GE196.out | refine below_set ?_ GE197.out | refine below_set ?_ GE198.out) | exact HB.out)))
       (case aF => exact (fun _ _ => trivial))
       (case aO => exact (by (with_reducible repeat (first | apply Kd.S_alloc | apply Kd.S_drewN | apply Kd.S_drew)); exact Kd.S_mono HO_199002.out (fun k_ hk => ⟨trivial, fun e_ => hk.2 e_⟩)))
       (case aS => exact (below_size (by repeat (first | (with_reducible first | exact HB.out | apply below_alloc | apply bdN | apply bd1 | refine below_set ?_ GE196.out | refine below_set ?_ GE197.out | refine below_set ?_ GE198.out) | exact HB.out))))
       (case aL => have := LMc13.out; omega)
       intro v208 w22 ho hb hg hat
       rw [← Ny207.out] at ho
       have n0_ := As0 (blk_grown (g := gb196) (o := .cells #[.int .i64 a0_0, .int .i64 a0_1, .slice (some ad202) l0_2.length c0_2] 34 (0, 0)) (by (with_reducible repeat (first | refine blk_drewN ?_ _ | refine blk_drew ?_ | refine blk_alloc ?_ _)); exact BK196.out) hg (Kd.S_ne HO_199002.out BK196.out (by decide)))
       have n1_ := As0 (blk_grown (g := gb197) (o := .cells #[.int .i64 0, .int .i64 0, .slice none 0 0] 34 (0, 0)) (by (with_reducible repeat (first | refine blk_drewN ?_ _ | refine blk_drew ?_ | refine blk_alloc ?_ _)); exact BK197.out) hg (Kd.S_ne HO_199002.out BK197.out (by decide)))
       have n2_ := As0 (blk_grown (g := gb198) (o := .cells #[.int .i64 a0_0, .int .i64 a0_1, u199002] 34 (0, 0)) (by (with_reducible repeat (first | refine blk_drewN ?_ _ | refine blk_drew ?_ | refine blk_alloc ?_ _)); exact BK198.out) hg (Kd.S_ne HO_199002.out BK198.out (by decide)))
       have n3_ := As0 (hb)
       have n4_ := As0 (ho)
       clear BK196
       clear BK197
       clear BK198
       clear HB
       clear HO_199002
       clear HO205
       have BK196 := n0_
       have BK197 := n1_
       have BK198 := n2_
       have HB := n3_
       have HO209 := n4_
       clear n0_ n1_ n2_ n3_ n4_
       clear ho hb hg hat
       obtain ⟨Ao23, co23, eo23⟩ := Kd.S_slice HO209.out
       (first | subst eo23 | (injection eo23 with f1_ f2_ f3_; have f4_ := f1_.symm; have f5_ := f3_.symm; clear f1_ f2_ f3_; subst f4_; subst f5_))
       refine hK.out _ _ ⟨(blk_cell BK198.out 0).trans rfl, (blk_cell BK198.out 1).trans rfl, (blk_cell BK198.out 2).trans rfl, (blk_cell BK196.out 0).trans rfl, (blk_cell BK196.out 1).trans rfl, (blk_cell BK196.out 2).trans rfl, ((HB.out.cell (wblt w hw202_0)).trans hw202_0), ((HB.out.cell (wblt w hw202_1)).trans hw202_1), ((HB.out.cell (wblt w hw202_2)).trans hw202_2), ((HB.out.cell (wblt w hw202_3)).trans hw202_3), ((HB.out.cell (wblt w hw202_4)).trans hw202_4), ((HB.out.cell (wblt w hw206_0)).trans hw206_0), ((HB.out.cell (wblt w hw206_1)).trans hw206_1), ((HB.out.cell (wblt w hw206_2)).trans hw206_2), ((HB.out.cell (wblt w hw206_3)).trans hw206_3), ((HB.out.cell (wblt w hw206_4)).trans hw206_4)⟩ (fun hHeld => ?_)
       clear hK K
       refine norm_ (a' := ?_) ?_ ?_
       rotate_left
       ·show Act.put _ (some 35) _ = _
        simp only [Act.put, sL1, sL2, sL3, i64_w, i32_w]
        rfl
       refine pure_ (i := 19) (N := some 36) (v := ?_) (a' := ?_) #[true, true, true, true, true, true, true, true, true, true, true, true, true, true, true, true, true, true, true, true, false] rfl rfl (any_of HT_.out (by kernel_rfl)) (fun _ _ _ h => h) (Or.inl ⟨by rfl, ?_⟩) ?_ ?_
       rotate_left
       ·intro w'
        go_simp
        with_reducible rfl
       rotate_left
       ·simp only [Act.put, sL1, sL2, sL3, i64_w, i32_w]
        rfl
       refine last_ (i := 20) (N := none) #[true, true, true, true, true, true, true, true, true, true, true, true, true, true, true, true, true, true, true, true, true] rfl rfl (one_of HT_.out (by kernel_rfl)) (by decide) (fun K hK => ?_)
       have hs24 : w22.cell? ⟨gb198, 2, none⟩ = some (u199002) := (blk_cell BK198.out 2).trans rfl
       have hfs24 := blk_frozen BK198.out 2
       have hns24_0 := NB196_198.out
       have hns24_1 := NB197_198.out
       have hms24_0 := NB198_196.out
       have hms24_1 := NB198_197.out
       refine skip_ (w1 := ?_) (by rfl) rfl ?_ ?_
       rotate_left
       ·go_simp
        rfl
       refine hK.out _ _ ?_
       clear hK K
       refine done_ (done_of HT_.out (by kernel_rfl)) ?_
       try go_wp2
       go_roundg k1
       case measure => have := HK1.out; omega
       case rel => exact ⟨(wrap64 (x4_1 + 1)), (y207), (.slice Ao23 y207.length co23), (by first | rfl | (simp; done) | (simp [*]; done)), H', ⟨by have := HK1.out; omega⟩, ⟨by (with_reducible repeat (first | apply Kd.S_alloc | apply Kd.S_drewN | apply Kd.S_drew)); exact Kd.S_mono (Kd.S_far (p := ⟨gb198, 2, none⟩) (Kd.S_types HO209.out BK198.out (by decide)) (fun _ hk => hk.2) (.slice Ao23 y207.length co23)) (fun _ hk => trivial)⟩, ⟨by (with_reducible repeat (first | refine blk_drewN ?_ _ | refine blk_drew ?_ | refine blk_alloc ?_ _)); refine blk_far ?_ NB196_198.out _; (with_reducible repeat (first | refine blk_drewN ?_ _ | refine blk_drew ?_ | refine blk_alloc ?_ _)); exact BK196.out⟩, ⟨by (with_reducible repeat (first | refine blk_drewN ?_ _ | refine blk_drew ?_ | refine blk_alloc ?_ _)); refine blk_far ?_ NB197_198.out _; (with_reducible repeat (first | refine blk_drewN ?_ _ | refine blk_drew ?_ | refine blk_alloc ?_ _)); exact BK197.out⟩, ⟨by (with_reducible repeat (first | refine blk_drewN ?_ _ | refine blk_drew ?_ | refine blk_alloc ?_ _)); refine blk_put (cs := #[.int .i64 a0_0, .int .i64 a0_1, u199002]) ?_ 2 _ rfl; (with_reducible repeat (first | refine blk_drewN ?_ _ | refine blk_drew ?_ | refine blk_alloc ?_ _)); exact BK198.out⟩, ⟨by repeat (first | (with_reducible first | exact HB.out | apply below_alloc | apply bdN | apply bd1 | refine below_set ?_ GE196.out | refine below_set ?_ GE197.out | refine below_set ?_ GE198.out) | exact HB.out)⟩⟩
      ·rw [if_neg c13] at H
       exact absurd H (by simp)
     ·rw [if_neg c12] at H
      exact absurd H (by simp)
    ·rw [if_neg c11] at H
     exact absurd H (by simp)
   ·rw [if_neg c10] at H
    have c10b0 : decide (x4_1 < (l0_2.length : Int)) = false := decide_eq_false c10
    clear c10
    simp only [Option.some.injEq, Prod.mk.injEq] at H
    obtain ⟨rfl, rfl, rfl⟩ := H
    have hnb25 := NB196_197.out
    have hnc25 := NB197_196.out
    have hnb26 := NB196_198.out
    have hnc26 := NB198_196.out
    have hcz27_0 : wr.cell? ⟨gb196, 0, none⟩ = some (.int .i64 a0_0) := (blk_cell BK196.out 0).trans rfl
    have hcz27_1 : wr.cell? ⟨gb196, 1, none⟩ = some (.int .i64 a0_1) := (blk_cell BK196.out 1).trans rfl
    have hcz27_2 : wr.cell? ⟨gb196, 2, none⟩ = some (.slice A0_2 l0_2.length c0_2) := (blk_cell BK196.out 2).trans rfl
    have hfz27_0 := blk_frozen BK196.out 0
    have hfz27_1 := blk_frozen BK196.out 1
    have hfz27_2 := blk_frozen BK196.out 2
    have hnb28 := NB198_197.out
    have hnc28 := NB197_198.out
    have hcz29_0 : wr.cell? ⟨gb198, 0, none⟩ = some (.int .i64 a0_0) := (blk_cell BK198.out 0).trans rfl
    have hcz29_1 : wr.cell? ⟨gb198, 1, none⟩ = some (.int .i64 a0_1) := (blk_cell BK198.out 1).trans rfl
    have hcz29_2 : wr.cell? ⟨gb198, 2, none⟩ = some (u199002) := (blk_cell BK198.out 2).trans rfl
    have hfz29_0 := blk_frozen BK198.out 0
    have hfz29_1 := blk_frozen BK198.out 1
    have hfz29_2 := blk_frozen BK198.out 2
    have hcz30_0 : wr.cell? ⟨gb197, 0, none⟩ = some (.int .i64 0) := (blk_cell BK197.out 0).trans rfl
    have hcz30_1 : wr.cell? ⟨gb197, 1, none⟩ = some (.int .i64 0) := (blk_cell BK197.out 1).trans rfl
    have hcz30_2 : wr.cell? ⟨gb197, 2, none⟩ = some (.slice none 0 0) := (blk_cell BK197.out 2).trans rfl
    have hfz30_0 := blk_frozen BK197.out 0
    have hfz30_1 := blk_frozen BK197.out 1
    have hfz30_2 := blk_frozen BK197.out 2
    obtain ⟨Ao31, co31, eo31⟩ := Kd.S_slice HO_199002.out
    subst eo31
    go_wp2
    refine bodyPost_ret (results_cell_row rfl _ _ gb197 34 #[.int .i64 a0_0, .int .i64 a0_1, .slice Ao31 x199002_1.length co31] (0, 0) _ rfl (by (with_reducible repeat (first | refine blk_drewN ?_ _ | refine blk_drew ?_ | refine blk_alloc ?_ _)); refine blk_put (cs := #[.int .i64 a0_0, .int .i64 a0_1, .slice none 0 0]) ?_ 2 _ rfl; (with_reducible repeat (first | refine blk_drewN ?_ _ | refine blk_drew ?_ | refine blk_alloc ?_ _)); refine blk_put (cs := #[.int .i64 a0_0, .int .i64 0, .slice none 0 0]) ?_ 1 _ rfl; (with_reducible repeat (first | refine blk_drewN ?_ _ | refine blk_drew ?_ | refine blk_alloc ?_ _)); refine blk_put (cs := #[.int .i64 0, .int .i64 0, .slice none 0 0]) ?_ 0 _ rfl; (with_reducible repeat (first | refine blk_drewN ?_ _ | refine blk_drew ?_ | refine blk_alloc ?_ _)); exact BK197.out) Try.underlying34 rfl (by kernel_rfl)) rfl ?_
    exact ⟨_, by first | rfl | (simp [errW_none, errW_some] <;> rfl) | (simp [*, errW_none, errW_some] <;> rfl), by (with_reducible repeat (first | apply Kd.S_alloc | apply Kd.S_drewN | apply Kd.S_drew)); exact Kd.S_mono (Kd.S_far (p := ⟨gb197, 2, none⟩) (Kd.S_far (p := ⟨gb197, 1, none⟩) (Kd.S_far (p := ⟨gb197, 0, none⟩) (Kd.S_types HO_199002.out BK197.out (by decide)) (fun _ hk => hk.2) (.int .i64 a0_0)) (fun _ hk => hk.2) (.int .i64 a0_1)) (fun _ hk => hk.2) (.slice Ao31 x199002_1.length co31)) (fun _ hk => trivial), by repeat (first | (with_reducible first | exact HB.out | apply below_alloc | apply bdN | apply bd1 | refine below_set ?_ GE196.out | refine below_set ?_ GE197.out | refine below_set ?_ GE198.out) | exact HB.out)⟩

/-! ### regcertlaw09_InterpUnreachable: function 9 -/
mutual
def regcertlaw09_InterpUnreachable.j0 : Nat → List Int → Int → Int → Bool → Int → Int → List (S50) → List (S97) → Int → Int → Int → Int → Option (Bool)
 | 0, _, _, _, _, _, _, _, _, _, _, _, _ => none
 | k + 1, x1, x2, x4, x30, x211000, x211001, x211002, x212000, x212001, x212002, x212003, x212004 => if x30 = true then ((regcertlaw09_awake.f k).bind fun t214 => (some t214)) else ((regcertref07_Copy.f k x211000 x211001 x211002).bind fun bt215 => (if bt215.2.2.length < 2513169434916 then ((some (bt215.2.2 ++ [(⟨x212000, (⟨x212001, x212002, x212003, x212004⟩ : S48)⟩ : S50)] : List (S50))).bind fun y221 => ((regcertref07_Few.f k bt215.1 (wrap64 (bt215.2.1 + (wrap64 (x4)))) y221).bind fun t224 => (if t224 = true then ((regcertref07_Check.f k bt215.1 (wrap64 (bt215.2.1 + (wrap64 (x4)))) y221).bind fun t225 => (regcertlaw09_InterpUnreachable.j1 k x1 x2 (t225 != 0) x211000 x211001 x211002 bt215.1 (wrap64 (bt215.2.1 + (wrap64 (x4)))) y221)) else (regcertlaw09_InterpUnreachable.j1 k x1 x2 true x211000 x211001 x211002 bt215.1 (wrap64 (bt215.2.1 + (wrap64 (x4)))) y221)))) else (none)))
def regcertlaw09_InterpUnreachable.j1 : Nat → List Int → Int → Bool → Int → Int → List (S50) → Int → Int → List (S50) → Option (Bool)
 | 0, _, _, _, _, _, _, _, _, _ => none
 | k + 1, x1, x2, x53, x211000, x211001, x211002, x221000, x221001, x221002 => if x53 = true then (some true) else ((interp_Exec.f k x211000 x211001 x211002 x1 (wrap64 (x2))).bind fun bt226 => ((interp_Exec.f k x221000 x221001 x221002 x1 (wrap64 (x2))).bind fun bt242 => (if bt226.1 = bt242.1 then (if bt226.2.2.2.1 = bt242.2.2.2.1 then (if bt226.2.2.2.2.2.2.2.1 = bt242.2.2.2.2.2.2.2.1 then (if bt226.2.1 = bt242.2.1 then (if bt226.2.2.1 = bt242.2.2.1 then ((regcertref09_Values.f k bt226.2.2.2.2.2.2.1 bt242.2.2.2.2.2.2.1).bind fun t258 => (if t258 = true then ((regcertref09_Prefix.f k bt226.2.2.2.2.1 bt242.2.2.2.2.1).bind fun t259 => (some t259)) else (none))) else (none)) else (none)) else (none)) else (none)) else (none))))
end
def regcertlaw09_InterpUnreachable.f (k : Nat) (a0_0 : Int) (a0_1 : Int) (l0_2 : List (S50)) (l1 : List Int) (a2 : Int) (l3_0 : List (S97)) (a3_1 : Int) (a3_2 : Int) (a3_3 : Int) (a3_4 : Int) (a4 : Int) : Option (Bool) := (regcertlaw09_awake.f k).bind fun t212 => (if t212 = true then ((regcertref09_Right.f k a0_0 a0_1 l0_2 l1 0).bind fun t213 => (if t213 = true then (regcertlaw09_InterpUnreachable.j0 k l1 a2 a4 ((l1.length : Int) != a0_0) a0_0 a0_1 l0_2 l3_0 a3_1 a3_2 a3_3 a3_4) else (regcertlaw09_InterpUnreachable.j0 k l1 a2 a4 true a0_0 a0_1 l0_2 l3_0 a3_1 a3_2 a3_3 a3_4))) else (regcertlaw09_InterpUnreachable.j0 k l1 a2 a4 true a0_0 a0_1 l0_2 l3_0 a3_1 a3_2 a3_3 a3_4))
theorem regcertlaw09_InterpUnreachable.mono_l : ∀ k, (∀ y0 y1 y2 y3 y4 y5 y6 y7 y8 y9 y10 y11, LeO (regcertlaw09_InterpUnreachable.j0 k y0 y1 y2 y3 y4 y5 y6 y7 y8 y9 y10 y11) (regcertlaw09_InterpUnreachable.j0 (k + 1) y0 y1 y2 y3 y4 y5 y6 y7 y8 y9 y10 y11)) ∧ (∀ y0 y1 y2 y3 y4 y5 y6 y7 y8, LeO (regcertlaw09_InterpUnreachable.j1 k y0 y1 y2 y3 y4 y5 y6 y7 y8) (regcertlaw09_InterpUnreachable.j1 (k + 1) y0 y1 y2 y3 y4 y5 y6 y7 y8))
 | 0 => ⟨fun _ _ _ _ _ _ _ _ _ _ _ _ r h => by simp [regcertlaw09_InterpUnreachable.j0] at h, fun _ _ _ _ _ _ _ _ _ r h => by simp [regcertlaw09_InterpUnreachable.j1] at h⟩
 | k + 1 => by
  obtain ⟨ih0, ih1⟩ := regcertlaw09_InterpUnreachable.mono_l k
  refine ⟨?_, ?_⟩
  ·intro y0 y1 y2 y3 y4 y5 y6 y7 y8 y9 y10 y11
   unfold regcertlaw09_InterpUnreachable.j0
   repeat' first
   | (with_reducible exact ih0 _ _ _ _ _ _ _ _ _ _ _ _)
   | (with_reducible exact ih1 _ _ _ _ _ _ _ _ _)
   | (with_reducible exact interp_Exec.mono _ _ _ _ _ _)
   | (with_reducible exact regcertlaw09_awake.mono _)
   | (with_reducible exact regcertref07_Check.mono _ _ _ _)
   | (with_reducible exact regcertref07_Copy.mono _ _ _ _)
   | (with_reducible exact regcertref07_Few.mono _ _ _ _)
   | (with_reducible exact regcertref09_Prefix.mono _ _ _)
   | (with_reducible exact regcertref09_Right.mono _ _ _ _ _ _)
   | (with_reducible exact regcertref09_Values.mono _ _ _)
   | (with_reducible exact LeO.refl _)
   | (with_reducible exact LeO.none _)
   | (with_reducible refine LeO.ite ?_ ?_)
   | (with_reducible refine LeO.bind ?_ (fun _ => ?_))
   | exact ih0 _ _ _ _ _ _ _ _ _ _ _ _
   | exact ih1 _ _ _ _ _ _ _ _ _
   | exact interp_Exec.mono _ _ _ _ _ _
   | exact regcertlaw09_awake.mono _
   | exact regcertref07_Check.mono _ _ _ _
   | exact regcertref07_Copy.mono _ _ _ _
   | exact regcertref07_Few.mono _ _ _ _
   | exact regcertref09_Prefix.mono _ _ _
   | exact regcertref09_Right.mono _ _ _ _ _ _
   | exact regcertref09_Values.mono _ _ _
   | exact LeO.none _
   | refine LeO.ite ?_ ?_
   | refine LeO.bind ?_ (fun _ => ?_)
  ·intro y0 y1 y2 y3 y4 y5 y6 y7 y8
   unfold regcertlaw09_InterpUnreachable.j1
   repeat' first
   | (with_reducible exact ih0 _ _ _ _ _ _ _ _ _ _ _ _)
   | (with_reducible exact ih1 _ _ _ _ _ _ _ _ _)
   | (with_reducible exact interp_Exec.mono _ _ _ _ _ _)
   | (with_reducible exact regcertlaw09_awake.mono _)
   | (with_reducible exact regcertref07_Check.mono _ _ _ _)
   | (with_reducible exact regcertref07_Copy.mono _ _ _ _)
   | (with_reducible exact regcertref07_Few.mono _ _ _ _)
   | (with_reducible exact regcertref09_Prefix.mono _ _ _)
   | (with_reducible exact regcertref09_Right.mono _ _ _ _ _ _)
   | (with_reducible exact regcertref09_Values.mono _ _ _)
   | (with_reducible exact LeO.refl _)
   | (with_reducible exact LeO.none _)
   | (with_reducible refine LeO.ite ?_ ?_)
   | (with_reducible refine LeO.bind ?_ (fun _ => ?_))
   | exact ih0 _ _ _ _ _ _ _ _ _ _ _ _
   | exact ih1 _ _ _ _ _ _ _ _ _
   | exact interp_Exec.mono _ _ _ _ _ _
   | exact regcertlaw09_awake.mono _
   | exact regcertref07_Check.mono _ _ _ _
   | exact regcertref07_Copy.mono _ _ _ _
   | exact regcertref07_Few.mono _ _ _ _
   | exact regcertref09_Prefix.mono _ _ _
   | exact regcertref09_Right.mono _ _ _ _ _ _
   | exact regcertref09_Values.mono _ _ _
   | exact LeO.none _
   | refine LeO.ite ?_ ?_
   | refine LeO.bind ?_ (fun _ => ?_)
theorem regcertlaw09_InterpUnreachable.mono : ∀ a0 a1 a2 a3 a4 a5 a6 a7 a8 a9 a10 k, LeO (regcertlaw09_InterpUnreachable.f k a0 a1 a2 a3 a4 a5 a6 a7 a8 a9 a10) (regcertlaw09_InterpUnreachable.f (k + 1) a0 a1 a2 a3 a4 a5 a6 a7 a8 a9 a10) := by
 intro a0 a1 a2 a3 a4 a5 a6 a7 a8 a9 a10 k
 obtain ⟨ih0, ih1⟩ := regcertlaw09_InterpUnreachable.mono_l k
 unfold regcertlaw09_InterpUnreachable.f
 repeat' first
   | (with_reducible exact ih0 _ _ _ _ _ _ _ _ _ _ _ _)
   | (with_reducible exact ih1 _ _ _ _ _ _ _ _ _)
   | (with_reducible exact interp_Exec.mono _ _ _ _ _ _)
   | (with_reducible exact regcertlaw09_awake.mono _)
   | (with_reducible exact regcertref07_Check.mono _ _ _ _)
   | (with_reducible exact regcertref07_Copy.mono _ _ _ _)
   | (with_reducible exact regcertref07_Few.mono _ _ _ _)
   | (with_reducible exact regcertref09_Prefix.mono _ _ _)
   | (with_reducible exact regcertref09_Right.mono _ _ _ _ _ _)
   | (with_reducible exact regcertref09_Values.mono _ _ _)
   | (with_reducible exact LeO.refl _)
   | (with_reducible exact LeO.none _)
   | (with_reducible refine LeO.ite ?_ ?_)
   | (with_reducible refine LeO.bind ?_ (fun _ => ?_))
   | exact ih0 _ _ _ _ _ _ _ _ _ _ _ _
   | exact ih1 _ _ _ _ _ _ _ _ _
   | exact interp_Exec.mono _ _ _ _ _ _
   | exact regcertlaw09_awake.mono _
   | exact regcertref07_Check.mono _ _ _ _
   | exact regcertref07_Copy.mono _ _ _ _
   | exact regcertref07_Few.mono _ _ _ _
   | exact regcertref09_Prefix.mono _ _ _
   | exact regcertref09_Right.mono _ _ _ _ _ _
   | exact regcertref09_Values.mono _ _ _
   | exact LeO.none _
   | refine LeO.ite ?_ ?_
   | refine LeO.bind ?_ (fun _ => ?_)
set_option maxHeartbeats 8000000 in
set_option maxRecDepth 100000 in
theorem regcertlaw09_InterpUnreachable.calls (k : Nat) (a0_0 : Int) (a0_1 : Int) (A0_2 : Option Addr) (c0_2 : Nat) (l0_2 : List (S50)) (A1 : Option Addr) (c1 : Nat) (l1 : List Int) (a2 : Int) (P3_0_ : Nat → Prop) (A3_0 : Option Addr) (c3_0 : Nat) (l3_0 : List (S97)) (a3_1 : Int) (a3_2 : Int) (a3_3 : Int) (a3_4 : Int) (a4 : Int) (r : Bool) (w : World) (hr0_2 : Kd.C k50 w A0_2 l0_2.length l0_2) (hc0_2 : l0_2.length ≤ c0_2) (hr1 : Kd.C (Kd.int .i64) w A1 l1.length l1) (hc1 : l1.length ≤ c1) (hs3_0 : Kd.V k97 97 w w.heap.size (fun k_ => P3_0_ k_) (.slice A3_0 l3_0.length c3_0) l3_0) (h : regcertlaw09_InterpUnreachable.f k a0_0 a0_1 l0_2 l1 a2 l3_0 a3_1 a3_2 a3_3 a3_4 a4 = some r) :
  Calls Try.prog 9 #[.agg #[.int .i64 a0_0, .int .i64 a0_1, .slice A0_2 l0_2.length c0_2], .slice A1 l1.length c1, .int .u8 a2, .agg #[.slice A3_0 l3_0.length c3_0, .int .i64 a3_1, .int .i64 a3_2, .int .i64 a3_3, .int .i64 a3_4], .int .u8 a4] w fun e w' => e = .returned (.bool r) ∧ Below w.heap.size w w' := by
 have hu34 := Try.underlying34
 have hu50 := Try.underlying50
 have hu39 := Try.underlying39
 have HR0_2 := As0 hr0_2
 have HC0_2 := As0 hc0_2
 clear hr0_2 hc0_2
 have HR1 := As0 hr1
 have HC1 := As0 hc1
 clear hr1 hc1
 have HO3_0 := As0 (show Kd.V k97 97 w w.heap.size (fun k_ => (P3_0_ k_ ∨ w.heap.size ≤ k_)) (.slice A3_0 l3_0.length c3_0) l3_0 from Kd.V_mono hs3_0 (fun k_ hk => .inl hk))
 have HB := As0 (Below.refl w.heap.size w)
 have H : ((regcertlaw09_awake.f k).bind fun t212 => (if t212 = true then ((regcertref09_Right.f k a0_0 a0_1 l0_2 l1 0).bind fun t213 => (if t213 = true then (regcertlaw09_InterpUnreachable.j0 k l1 a2 a4 ((l1.length : Int) != a0_0) a0_0 a0_1 l0_2 l3_0 a3_1 a3_2 a3_3 a3_4) else (regcertlaw09_InterpUnreachable.j0 k l1 a2 a4 true a0_0 a0_1 l0_2 l3_0 a3_1 a3_2 a3_3 a3_4))) else (regcertlaw09_InterpUnreachable.j0 k l1 a2 a4 true a0_0 a0_1 l0_2 l3_0 a3_1 a3_2 a3_3 a3_4))) = some r := h
 clear h
 have HC6 := As0 H
 clear H
 go_enter Try.func9, Try.ntmps9
 go_upto_region 1 with (first | ((with_reducible refine gate_dst (N := 5) rfl ?_); (try (refine gate_guard (by rfl) ?_; dsimp only)); refine box_event ?hg (N := 5) ?hd (cs := #[.int .i64 a0_0, .int .i64 a0_1, .slice A0_2 l0_2.length c0_2]) (t := 34) ?hr ?_; (case hd => rfl); (case hg => rfl); (case hr => first | (go_simp; done) | (go_simp; rfl)); intro gb210 hg w7 hbox hb; have n0_ := As0 (Kd.V_below (Kd.V_elderB (by (with_reducible repeat (first | apply Kd.V_alloc | apply Kd.V_drewN | apply Kd.V_drew)); exact HO3_0.out) gb210 (Nat.le_of_eq hg.symm)) hb); have n1_ := As0 (below_step (by repeat (first | (with_reducible first | exact HB.out | apply below_alloc | apply bdN | apply bd1) | exact HB.out)) hb); have n2_ := As0 (hbox); have n3_ := As0 ((by rw [hg]; exact (below_size (by repeat (first | (with_reducible first | exact HB.out | apply below_alloc | apply bdN | apply bd1) | exact HB.out))) : w.heap.size ≤ gb210)); have n4_ := As0 ((by rw [hg]; exact (below_size (by repeat (first | (with_reducible first | exact HB.out | apply below_alloc | apply bdN | apply bd1) | exact HB.out))) : w.heap.size ≤ gb210)); clear HO3_0; clear HB; have HO3_0 := n0_; have HB := n1_; have BK210 := n2_; have GW210 := n3_; have GE210 := n4_; clear n0_ n1_ n2_ n3_ n4_; clear hb hbox hg) | ((with_reducible refine gate_dst (N := 8) rfl ?_); (try (refine gate_guard (by rfl) ?_; dsimp only)); refine box_event ?hg (N := 8) ?hd (cs := #[.slice A3_0 l3_0.length c3_0, .int .i64 a3_1, .int .i64 a3_2, .int .i64 a3_3, .int .i64 a3_4]) (t := 50) ?hr ?_; (case hd => rfl); (case hg => rfl); (case hr => first | (go_simp; done) | (go_simp; rfl)); intro gb211 hg w8 hbox hb; have n0_ := As0 (Kd.V_below (Kd.V_elderB (by (with_reducible repeat (first | apply Kd.V_alloc | apply Kd.V_drewN | apply Kd.V_drew)); exact HO3_0.out) gb211 (Nat.le_of_eq hg.symm)) hb); have n1_ := As0 (blk_below (g := gb210) (o := .cells #[.int .i64 a0_0, .int .i64 a0_1, .slice A0_2 l0_2.length c0_2] 34 (0, 0)) (by (with_reducible repeat (first | refine blk_drewN ?_ _ | refine blk_drew ?_ | refine blk_alloc ?_ _)); exact BK210.out) hb); have n2_ := As0 (below_step (by repeat (first | (with_reducible first | exact HB.out | apply below_alloc | apply bdN | apply bd1 | refine below_set ?_ GE210.out) | exact HB.out)) hb); have n3_ := As0 (hbox); have n4_ := As0 ((by rw [hg]; exact (below_size (by repeat (first | (with_reducible first | exact HB.out | apply below_alloc | apply bdN | apply bd1 | refine below_set ?_ GE210.out) | exact HB.out))) : w.heap.size ≤ gb211)); have n5_ := As0 ((by rw [hg]; exact (below_size (by repeat (first | (with_reducible first | exact HB.out | apply below_alloc | apply bdN | apply bd1 | refine below_set ?_ GE210.out) | exact HB.out))) : w.heap.size ≤ gb211)); have n6_ := As0 ((by rw [hg]; exact Nat.ne_of_lt (blk_lt (g := gb210) (o := .cells #[.int .i64 a0_0, .int .i64 a0_1, .slice A0_2 l0_2.length c0_2] 34 (0, 0)) (by (with_reducible repeat (first | refine blk_drewN ?_ _ | refine blk_drew ?_ | refine blk_alloc ?_ _)); exact BK210.out)) : gb210 ≠ gb211)); have n7_ := As0 ((by rw [hg]; exact Nat.ne_of_gt (blk_lt (g := gb210) (o := .cells #[.int .i64 a0_0, .int .i64 a0_1, .slice A0_2 l0_2.length c0_2] 34 (0, 0)) (by (with_reducible repeat (first | refine blk_drewN ?_ _ | refine blk_drew ?_ | refine blk_alloc ?_ _)); exact BK210.out)) : gb211 ≠ gb210)); clear HO3_0; clear BK210; clear HB; have HO3_0 := n0_; have BK210 := n1_; have HB := n2_; have BK211 := n3_; have GW211 := n4_; have GE211 := n5_; have NB210_211 := n6_; have NB211_210 := n7_; clear n0_ n1_ n2_ n3_ n4_ n5_ n6_ n7_; clear hb hbox hg))
 (try simp only [Act.put, sL1, sL2, sL3])
 go_cut [30] (fun v30 wc => ∃ (kq : Nat) (x30_5 : Bool), v30 = .bool x30_5 ∧ Aside0 (regcertlaw09_InterpUnreachable.j0 kq l1 a2 a4 x30_5 a0_0 a0_1 l0_2 l3_0 a3_1 a3_2 a3_3 a3_4 = some r) ∧ Aside0 (kq ≤ k) ∧ Aside0 (Kd.V k97 97 wc w.heap.size (fun k_ => (P3_0_ k_ ∨ w.heap.size ≤ k_) ∧ k_ ≠ gb210 ∧ k_ ≠ gb211) (.slice A3_0 l3_0.length c3_0) l3_0) ∧ Aside0 (wc.heap[gb210]? = some (.cells #[.int .i64 a0_0, .int .i64 a0_1, (.slice A0_2 l0_2.length c0_2)] 34 (0, 0))) ∧ Aside0 (wc.heap[gb211]? = some (.cells #[(.slice A3_0 l3_0.length c3_0), .int .i64 a3_1, .int .i64 a3_2, .int .i64 a3_3, .int .i64 a3_4] 50 (0, 0))) ∧ Aside0 (Below w.heap.size w wc))
 case first =>
  have H := HC6.out
  clear HC6
  replace H := Option.bind_eq_some_iff.mp H
  obtain ⟨t212, A90, H⟩ := H
  replace H : (if t212 = true then ((regcertref09_Right.f k a0_0 a0_1 l0_2 l1 0).bind fun t213 => (if t213 = true then (regcertlaw09_InterpUnreachable.j0 k l1 a2 a4 ((l1.length : Int) != a0_0) a0_0 a0_1 l0_2 l3_0 a3_1 a3_2 a3_3 a3_4) else (regcertlaw09_InterpUnreachable.j0 k l1 a2 a4 true a0_0 a0_1 l0_2 l3_0 a3_1 a3_2 a3_3 a3_4))) else (regcertlaw09_InterpUnreachable.j0 k l1 a2 a4 true a0_0 a0_1 l0_2 l3_0 a3_1 a3_2 a3_3 a3_4)) = some r := H
  have A9 := As0 A90
  clear A90
  by_cases c10 : t212 = true
  ·subst c10
   have H1 : ((regcertref09_Right.f k a0_0 a0_1 l0_2 l1 0).bind fun t213 => (if t213 = true then (regcertlaw09_InterpUnreachable.j0 k l1 a2 a4 ((l1.length : Int) != a0_0) a0_0 a0_1 l0_2 l3_0 a3_1 a3_2 a3_3 a3_4) else (regcertlaw09_InterpUnreachable.j0 k l1 a2 a4 true a0_0 a0_1 l0_2 l3_0 a3_1 a3_2 a3_3 a3_4))) = some r := by rw [if_pos rfl] at H; exact H
   clear H
   have H := H1
   clear H1
   replace H := Option.bind_eq_some_iff.mp H
   obtain ⟨t213, A110, H⟩ := H
   replace H : (if t213 = true then (regcertlaw09_InterpUnreachable.j0 k l1 a2 a4 ((l1.length : Int) != a0_0) a0_0 a0_1 l0_2 l3_0 a3_1 a3_2 a3_3 a3_4) else (regcertlaw09_InterpUnreachable.j0 k l1 a2 a4 true a0_0 a0_1 l0_2 l3_0 a3_1 a3_2 a3_3 a3_4)) = some r := H
   have A11 := As0 A110
   clear A110
   by_cases c12 : t213 = true
   ·subst c12
    have H1 : (regcertlaw09_InterpUnreachable.j0 k l1 a2 a4 ((l1.length : Int) != a0_0) a0_0 a0_1 l0_2 l3_0 a3_1 a3_2 a3_3 a3_4) = some r := by rw [if_pos rfl] at H; exact H
    clear H
    have H := H1
    clear H1
    have H' := As0 H
    clear H
    go_wp2_with (first | ((with_reducible refine gate_callee (f := 29) rfl ?_); refine goesL_ (some 16) rfl rfl Try.func29 (by kernel_rfl) rfl #[] rfl (by (try simp only [List.map_toArray, List.map_cons, List.map_nil]); first | done | rfl | (simp only [List.length_drop, List.length_take]; rfl)) ?_; (with_reducible refine (regcertlaw09_awake.calls k  true _ A9.out).mono ?_); rintro e w13 ⟨rfl, hb⟩; refine ⟨_, rfl, ?_⟩; have n0_ := As0 (Kd.V_below (by (with_reducible repeat (first | apply Kd.V_alloc | apply Kd.V_drewN | apply Kd.V_drew)); exact HO3_0.out) hb); have n1_ := As0 (blk_below (g := gb210) (o := .cells #[.int .i64 a0_0, .int .i64 a0_1, .slice A0_2 l0_2.length c0_2] 34 (0, 0)) (by (with_reducible repeat (first | refine blk_drewN ?_ _ | refine blk_drew ?_ | refine blk_alloc ?_ _)); exact BK210.out) hb); have n2_ := As0 (blk_below (g := gb211) (o := .cells #[.slice A3_0 l3_0.length c3_0, .int .i64 a3_1, .int .i64 a3_2, .int .i64 a3_3, .int .i64 a3_4] 50 (0, 0)) (by (with_reducible repeat (first | refine blk_drewN ?_ _ | refine blk_drew ?_ | refine blk_alloc ?_ _)); exact BK211.out) hb); have n3_ := As0 (below_step (by repeat (first | (with_reducible first | exact HB.out | apply below_alloc | apply bdN | apply bd1 | refine below_set ?_ GE210.out | refine below_set ?_ GE211.out) | exact HB.out)) hb); clear HO3_0; clear BK210; clear BK211; clear HB; have HO3_0 := n0_; have BK210 := n1_; have BK211 := n2_; have HB := n3_; clear n0_ n1_ n2_ n3_; (try clear hb); (try clear hb2); (try clear hk); (try clear hi); have hnb14 := NB210_211.out; have hnc14 := NB211_210.out; have hcz15_0 : w13.cell? ⟨gb210, 0, none⟩ = some (.int .i64 a0_0) := (blk_cell BK210.out 0).trans rfl; have hcz15_1 : w13.cell? ⟨gb210, 1, none⟩ = some (.int .i64 a0_1) := (blk_cell BK210.out 1).trans rfl; have hcz15_2 : w13.cell? ⟨gb210, 2, none⟩ = some (.slice A0_2 l0_2.length c0_2) := (blk_cell BK210.out 2).trans rfl; have hfz15_0 := blk_frozen BK210.out 0; have hfz15_1 := blk_frozen BK210.out 1; have hfz15_2 := blk_frozen BK210.out 2) | (go_at_call 30; (with_reducible refine (regcertref09_Right.calls k a0_0 a0_1 _ _ l0_2 _ _ l1 0 true _ ?side1 ?side2 ?side3 ?side4 A11.out).mono ?_); (case side1 => repeat (first | exact (Kd.C_below HR0_2.out HB.out) | (with_reducible refine Kd.C_alloc ?_ _) | (with_reducible refine Kd.C_drewN ?_ _) | (with_reducible refine Kd.C_drew ?_))); (case side2 => exact HC0_2.out); (case side3 => repeat (first | exact (Kd.C_below HR1.out HB.out) | (with_reducible refine Kd.C_alloc ?_ _) | (with_reducible refine Kd.C_drewN ?_ _) | (with_reducible refine Kd.C_drew ?_))); (case side4 => exact HC1.out); rintro e w16 ⟨rfl, hb⟩; have n0_ := As0 (Kd.V_below (by (with_reducible repeat (first | apply Kd.V_alloc | apply Kd.V_drewN | apply Kd.V_drew)); exact HO3_0.out) hb); have n1_ := As0 (blk_below (g := gb210) (o := .cells #[.int .i64 a0_0, .int .i64 a0_1, .slice A0_2 l0_2.length c0_2] 34 (0, 0)) (by (with_reducible repeat (first | refine blk_drewN ?_ _ | refine blk_drew ?_ | refine blk_alloc ?_ _)); exact BK210.out) hb); have n2_ := As0 (blk_below (g := gb211) (o := .cells #[.slice A3_0 l3_0.length c3_0, .int .i64 a3_1, .int .i64 a3_2, .int .i64 a3_3, .int .i64 a3_4] 50 (0, 0)) (by (with_reducible repeat (first | refine blk_drewN ?_ _ | refine blk_drew ?_ | refine blk_alloc ?_ _)); exact BK211.out) hb); have n3_ := As0 (below_step (by repeat (first | (with_reducible first | exact HB.out | apply below_alloc | apply bdN | apply bd1 | refine below_set ?_ GE210.out | refine below_set ?_ GE211.out) | exact HB.out)) hb); clear HO3_0; clear BK210; clear BK211; clear HB; have HO3_0 := n0_; have BK210 := n1_; have BK211 := n2_; have HB := n3_; clear n0_ n1_ n2_ n3_; (try clear hb); (try clear hb2); (try clear hk); (try clear hi); have hcz17_0 : w16.cell? ⟨gb210, 0, none⟩ = some (.int .i64 a0_0) := (blk_cell BK210.out 0).trans rfl; have hcz17_1 : w16.cell? ⟨gb210, 1, none⟩ = some (.int .i64 a0_1) := (blk_cell BK210.out 1).trans rfl; have hcz17_2 : w16.cell? ⟨gb210, 2, none⟩ = some (.slice A0_2 l0_2.length c0_2) := (blk_cell BK210.out 2).trans rfl; have hfz17_0 := blk_frozen BK210.out 0; have hfz17_1 := blk_frozen BK210.out 1; have hfz17_2 := blk_frozen BK210.out 2))
    go_meet
    case rel => exact ⟨_, (((l1.length : Int) != a0_0)), (by first | rfl | (simp; done) | (simp [*]; done)), H', ⟨by first | omega | exact Nat.le_refl _⟩, ⟨by (with_reducible repeat (first | apply Kd.V_alloc | apply Kd.V_drewN | apply Kd.V_drew)); exact Kd.V_mono HO3_0.out (fun _ hk => ⟨hk.1.1, ⟨hk.1.2, hk.2⟩⟩)⟩, ⟨by (with_reducible repeat (first | refine blk_drewN ?_ _ | refine blk_drew ?_ | refine blk_alloc ?_ _)); exact BK210.out⟩, ⟨by (with_reducible repeat (first | refine blk_drewN ?_ _ | refine blk_drew ?_ | refine blk_alloc ?_ _)); exact BK211.out⟩, ⟨by repeat (first | (with_reducible first | exact HB.out | apply below_alloc | apply bdN | apply bd1 | refine below_set ?_ GE210.out | refine below_set ?_ GE211.out) | exact HB.out)⟩⟩
   ·replace c12 := Bool.eq_false_iff.mpr c12
    subst c12
    have H1 : (regcertlaw09_InterpUnreachable.j0 k l1 a2 a4 true a0_0 a0_1 l0_2 l3_0 a3_1 a3_2 a3_3 a3_4) = some r := by rw [if_neg (show ¬ (false = true) by decide)] at H; exact H
    clear H
    have H := H1
    clear H1
    have H' := As0 H
    clear H
    go_wp2_with (first | ((with_reducible refine gate_callee (f := 29) rfl ?_); refine goesL_ (some 16) rfl rfl Try.func29 (by kernel_rfl) rfl #[] rfl (by (try simp only [List.map_toArray, List.map_cons, List.map_nil]); first | done | rfl | (simp only [List.length_drop, List.length_take]; rfl)) ?_; (with_reducible refine (regcertlaw09_awake.calls k  true _ A9.out).mono ?_); rintro e w18 ⟨rfl, hb⟩; refine ⟨_, rfl, ?_⟩; have n0_ := As0 (Kd.V_below (by (with_reducible repeat (first | apply Kd.V_alloc | apply Kd.V_drewN | apply Kd.V_drew)); exact HO3_0.out) hb); have n1_ := As0 (blk_below (g := gb210) (o := .cells #[.int .i64 a0_0, .int .i64 a0_1, .slice A0_2 l0_2.length c0_2] 34 (0, 0)) (by (with_reducible repeat (first | refine blk_drewN ?_ _ | refine blk_drew ?_ | refine blk_alloc ?_ _)); exact BK210.out) hb); have n2_ := As0 (blk_below (g := gb211) (o := .cells #[.slice A3_0 l3_0.length c3_0, .int .i64 a3_1, .int .i64 a3_2, .int .i64 a3_3, .int .i64 a3_4] 50 (0, 0)) (by (with_reducible repeat (first | refine blk_drewN ?_ _ | refine blk_drew ?_ | refine blk_alloc ?_ _)); exact BK211.out) hb); have n3_ := As0 (below_step (by repeat (first | (with_reducible first | exact HB.out | apply below_alloc | apply bdN | apply bd1 | refine below_set ?_ GE210.out | refine below_set ?_ GE211.out) | exact HB.out)) hb); clear HO3_0; clear BK210; clear BK211; clear HB; have HO3_0 := n0_; have BK210 := n1_; have BK211 := n2_; have HB := n3_; clear n0_ n1_ n2_ n3_; (try clear hb); (try clear hb2); (try clear hk); (try clear hi); have hnb19 := NB210_211.out; have hnc19 := NB211_210.out; have hcz20_0 : w18.cell? ⟨gb210, 0, none⟩ = some (.int .i64 a0_0) := (blk_cell BK210.out 0).trans rfl; have hcz20_1 : w18.cell? ⟨gb210, 1, none⟩ = some (.int .i64 a0_1) := (blk_cell BK210.out 1).trans rfl; have hcz20_2 : w18.cell? ⟨gb210, 2, none⟩ = some (.slice A0_2 l0_2.length c0_2) := (blk_cell BK210.out 2).trans rfl; have hfz20_0 := blk_frozen BK210.out 0; have hfz20_1 := blk_frozen BK210.out 1; have hfz20_2 := blk_frozen BK210.out 2) | (go_at_call 30; (with_reducible refine (regcertref09_Right.calls k a0_0 a0_1 _ _ l0_2 _ _ l1 0 false _ ?side1 ?side2 ?side3 ?side4 A11.out).mono ?_); (case side1 => repeat (first | exact (Kd.C_below HR0_2.out HB.out) | (with_reducible refine Kd.C_alloc ?_ _) | (with_reducible refine Kd.C_drewN ?_ _) | (with_reducible refine Kd.C_drew ?_))); (case side2 => exact HC0_2.out); (case side3 => repeat (first | exact (Kd.C_below HR1.out HB.out) | (with_reducible refine Kd.C_alloc ?_ _) | (with_reducible refine Kd.C_drewN ?_ _) | (with_reducible refine Kd.C_drew ?_))); (case side4 => exact HC1.out); rintro e w21 ⟨rfl, hb⟩; have n0_ := As0 (Kd.V_below (by (with_reducible repeat (first | apply Kd.V_alloc | apply Kd.V_drewN | apply Kd.V_drew)); exact HO3_0.out) hb); have n1_ := As0 (blk_below (g := gb210) (o := .cells #[.int .i64 a0_0, .int .i64 a0_1, .slice A0_2 l0_2.length c0_2] 34 (0, 0)) (by (with_reducible repeat (first | refine blk_drewN ?_ _ | refine blk_drew ?_ | refine blk_alloc ?_ _)); exact BK210.out) hb); have n2_ := As0 (blk_below (g := gb211) (o := .cells #[.slice A3_0 l3_0.length c3_0, .int .i64 a3_1, .int .i64 a3_2, .int .i64 a3_3, .int .i64 a3_4] 50 (0, 0)) (by (with_reducible repeat (first | refine blk_drewN ?_ _ | refine blk_drew ?_ | refine blk_alloc ?_ _)); exact BK211.out) hb); have n3_ := As0 (below_step (by repeat (first | (with_reducible first | exact HB.out | apply below_alloc | apply bdN | apply bd1 | refine below_set ?_ GE210.out | refine below_set ?_ GE211.out) | exact HB.out)) hb); clear HO3_0; clear BK210; clear BK211; clear HB; have HO3_0 := n0_; have BK210 := n1_; have BK211 := n2_; have HB := n3_; clear n0_ n1_ n2_ n3_; (try clear hb); (try clear hb2); (try clear hk); (try clear hi)))
    go_meet
    case rel => exact ⟨_, (true), (by first | rfl | (simp; done) | (simp [*]; done)), H', ⟨by first | omega | exact Nat.le_refl _⟩, ⟨by (with_reducible repeat (first | apply Kd.V_alloc | apply Kd.V_drewN | apply Kd.V_drew)); exact Kd.V_mono HO3_0.out (fun _ hk => ⟨hk.1.1, ⟨hk.1.2, hk.2⟩⟩)⟩, ⟨by (with_reducible repeat (first | refine blk_drewN ?_ _ | refine blk_drew ?_ | refine blk_alloc ?_ _)); exact BK210.out⟩, ⟨by (with_reducible repeat (first | refine blk_drewN ?_ _ | refine blk_drew ?_ | refine blk_alloc ?_ _)); exact BK211.out⟩, ⟨by repeat (first | (with_reducible first | exact HB.out | apply below_alloc | apply bdN | apply bd1 | refine below_set ?_ GE210.out | refine below_set ?_ GE211.out) | exact HB.out)⟩⟩
  ·replace c10 := Bool.eq_false_iff.mpr c10
   subst c10
   have H1 : (regcertlaw09_InterpUnreachable.j0 k l1 a2 a4 true a0_0 a0_1 l0_2 l3_0 a3_1 a3_2 a3_3 a3_4) = some r := by rw [if_neg (show ¬ (false = true) by decide)] at H; exact H
   clear H
   have H := H1
   clear H1
   have H' := As0 H
   clear H
   go_wp2_with (first | ((with_reducible refine gate_callee (f := 29) rfl ?_); refine goesL_ (some 16) rfl rfl Try.func29 (by kernel_rfl) rfl #[] rfl (by (try simp only [List.map_toArray, List.map_cons, List.map_nil]); first | done | rfl | (simp only [List.length_drop, List.length_take]; rfl)) ?_; (with_reducible refine (regcertlaw09_awake.calls k  false _ A9.out).mono ?_); rintro e w22 ⟨rfl, hb⟩; refine ⟨_, rfl, ?_⟩; have n0_ := As0 (Kd.V_below (by (with_reducible repeat (first | apply Kd.V_alloc | apply Kd.V_drewN | apply Kd.V_drew)); exact HO3_0.out) hb); have n1_ := As0 (blk_below (g := gb210) (o := .cells #[.int .i64 a0_0, .int .i64 a0_1, .slice A0_2 l0_2.length c0_2] 34 (0, 0)) (by (with_reducible repeat (first | refine blk_drewN ?_ _ | refine blk_drew ?_ | refine blk_alloc ?_ _)); exact BK210.out) hb); have n2_ := As0 (blk_below (g := gb211) (o := .cells #[.slice A3_0 l3_0.length c3_0, .int .i64 a3_1, .int .i64 a3_2, .int .i64 a3_3, .int .i64 a3_4] 50 (0, 0)) (by (with_reducible repeat (first | refine blk_drewN ?_ _ | refine blk_drew ?_ | refine blk_alloc ?_ _)); exact BK211.out) hb); have n3_ := As0 (below_step (by repeat (first | (with_reducible first | exact HB.out | apply below_alloc | apply bdN | apply bd1 | refine below_set ?_ GE210.out | refine below_set ?_ GE211.out) | exact HB.out)) hb); clear HO3_0; clear BK210; clear BK211; clear HB; have HO3_0 := n0_; have BK210 := n1_; have BK211 := n2_; have HB := n3_; clear n0_ n1_ n2_ n3_; (try clear hb); (try clear hb2); (try clear hk); (try clear hi)))
   go_meet
   case rel => exact ⟨_, (true), (by first | rfl | (simp; done) | (simp [*]; done)), H', ⟨by first | omega | exact Nat.le_refl _⟩, ⟨by (with_reducible repeat (first | apply Kd.V_alloc | apply Kd.V_drewN | apply Kd.V_drew)); exact Kd.V_mono HO3_0.out (fun _ hk => ⟨hk.1.1, ⟨hk.1.2, hk.2⟩⟩)⟩, ⟨by (with_reducible repeat (first | refine blk_drewN ?_ _ | refine blk_drew ?_ | refine blk_alloc ?_ _)); exact BK210.out⟩, ⟨by (with_reducible repeat (first | refine blk_drewN ?_ _ | refine blk_drew ?_ | refine blk_alloc ?_ _)); exact BK211.out⟩, ⟨by repeat (first | (with_reducible first | exact HB.out | apply below_alloc | apply bdN | apply bd1 | refine below_set ?_ GE210.out | refine below_set ?_ GE211.out) | exact HB.out)⟩⟩
 case rest =>
  clear HC6
  try clear c1
  try clear c2
  try clear p2
  try clear c3
  try clear c9
  try clear c10
  try clear c12
  try clear c14
  try clear c19
  try clear hcz15_0
  try clear hcz15_1
  try clear hcz15_2
  try clear hcz17_0
  try clear hcz17_1
  try clear hcz17_2
  try clear hcz20_0
  try clear hcz20_1
  try clear hcz20_2
  try clear hfz15_0
  try clear hfz15_1
  try clear hfz15_2
  try clear hfz17_0
  try clear hfz17_1
  try clear hfz17_2
  try clear hfz20_0
  try clear hfz20_1
  try clear hfz20_2
  obtain ⟨kq, x30_5, rfl, HA, HJ5, HO_212000, BK210, BK211, HB⟩ := hcut
  cases kq with
  | zero => exact absurd HA.out (by simp [regcertlaw09_InterpUnreachable.j0])
  | succ kj5 =>
   have H := HA.out
   clear HA
   simp only [regcertlaw09_InterpUnreachable.j0] at H
   by_cases c23 : x30_5 = true
   ·subst c23
    have H1 : ((regcertlaw09_awake.f kj5).bind fun t214 => (some t214)) = some r := by rw [if_pos rfl] at H; exact H
    clear H
    have H := H1
    clear H1
    replace H := Option.bind_eq_some_iff.mp H
    obtain ⟨t214, A240, H⟩ := H
    replace H : (some t214) = some r := H
    have A24 := As0 A240
    clear A240
    obtain rfl := Option.some.inj H
    go_wp2_with (first | ((with_reducible refine gate_callee (f := 29) rfl ?_); refine goesL_ (some 31) rfl rfl Try.func29 (by kernel_rfl) rfl #[] rfl (by (try simp only [List.map_toArray, List.map_cons, List.map_nil]); first | done | rfl | (simp only [List.length_drop, List.length_take]; rfl)) ?_; (with_reducible refine (regcertlaw09_awake.calls kj5  t214 _ A24.out).mono ?_); rintro e w25 ⟨rfl, hb⟩; refine ⟨_, rfl, ?_⟩; have n0_ := As0 (Kd.V_below (by (with_reducible repeat (first | apply Kd.V_alloc | apply Kd.V_drewN | apply Kd.V_drew)); exact HO_212000.out) hb); have n1_ := As0 (blk_below (g := gb210) (o := .cells #[.int .i64 a0_0, .int .i64 a0_1, .slice A0_2 l0_2.length c0_2] 34 (0, 0)) (by (with_reducible repeat (first | refine blk_drewN ?_ _ | refine blk_drew ?_ | refine blk_alloc ?_ _)); exact BK210.out) hb); have n2_ := As0 (blk_below (g := gb211) (o := .cells #[.slice A3_0 l3_0.length c3_0, .int .i64 a3_1, .int .i64 a3_2, .int .i64 a3_3, .int .i64 a3_4] 50 (0, 0)) (by (with_reducible repeat (first | refine blk_drewN ?_ _ | refine blk_drew ?_ | refine blk_alloc ?_ _)); exact BK211.out) hb); have n3_ := As0 (below_step (by repeat (first | (with_reducible first | exact HB.out | apply below_alloc | apply bdN | apply bd1 | refine below_set ?_ GE210.out | refine below_set ?_ GE211.out) | exact HB.out)) hb); clear HO_212000; clear BK210; clear BK211; clear HB; have HO_212000 := n0_; have BK210 := n1_; have BK211 := n2_; have HB := n3_; clear n0_ n1_ n2_ n3_; (try clear hb); (try clear hb2); (try clear hk); (try clear hi)))
    go_ret
    exact ⟨by first | rfl | (simp [errW_none, errW_some] <;> rfl) | (simp [*, errW_none, errW_some] <;> rfl), by repeat (first | (with_reducible first | exact HB.out | apply below_alloc | apply bdN | apply bd1 | refine below_set ?_ GE210.out | refine below_set ?_ GE211.out) | exact HB.out)⟩
   ·replace c23 := Bool.eq_false_iff.mpr c23
    subst c23
    have H1 : ((regcertref07_Copy.f kj5 a0_0 a0_1 l0_2).bind fun bt215 => (if bt215.2.2.length < 2513169434916 then ((some (bt215.2.2 ++ [(⟨l3_0, (⟨a3_1, a3_2, a3_3, a3_4⟩ : S48)⟩ : S50)] : List (S50))).bind fun y221 => ((regcertref07_Few.f kj5 bt215.1 (wrap64 (bt215.2.1 + (wrap64 (a4)))) y221).bind fun t224 => (if t224 = true then ((regcertref07_Check.f kj5 bt215.1 (wrap64 (bt215.2.1 + (wrap64 (a4)))) y221).bind fun t225 => (regcertlaw09_InterpUnreachable.j1 kj5 l1 a2 (t225 != 0) a0_0 a0_1 l0_2 bt215.1 (wrap64 (bt215.2.1 + (wrap64 (a4)))) y221)) else (regcertlaw09_InterpUnreachable.j1 kj5 l1 a2 true a0_0 a0_1 l0_2 bt215.1 (wrap64 (bt215.2.1 + (wrap64 (a4)))) y221)))) else (none))) = some r := by rw [if_neg (show ¬ (false = true) by decide)] at H; exact H
    clear H
    have H := H1
    clear H1
    replace H := Option.bind_eq_some_iff.mp H
    obtain ⟨⟨t215, t216, t217⟩, A260, H⟩ := H
    replace H : (if t217.length < 2513169434916 then ((some (t217 ++ [(⟨l3_0, (⟨a3_1, a3_2, a3_3, a3_4⟩ : S48)⟩ : S50)] : List (S50))).bind fun y221 => ((regcertref07_Few.f kj5 t215 (wrap64 (t216 + (wrap64 (a4)))) y221).bind fun t224 => (if t224 = true then ((regcertref07_Check.f kj5 t215 (wrap64 (t216 + (wrap64 (a4)))) y221).bind fun t225 => (regcertlaw09_InterpUnreachable.j1 kj5 l1 a2 (t225 != 0) a0_0 a0_1 l0_2 t215 (wrap64 (t216 + (wrap64 (a4)))) y221)) else (regcertlaw09_InterpUnreachable.j1 kj5 l1 a2 true a0_0 a0_1 l0_2 t215 (wrap64 (t216 + (wrap64 (a4)))) y221)))) else (none)) = some r := H
    have A26 := As0 A260
    clear A260
    by_cases c27 : t217.length < 2513169434916
    ·rw [if_pos c27] at H
     have LMc27 := As0 c27
     clear c27
     obtain ⟨y221, hy221⟩ : ∃ y_ : List (S50), y_ = (t217 ++ [(⟨l3_0, (⟨a3_1, a3_2, a3_3, a3_4⟩ : S48)⟩ : S50)]) := ⟨_, rfl⟩
     replace H : ((regcertref07_Few.f kj5 t215 (wrap64 (t216 + (wrap64 (a4)))) y221).bind fun t224 => (if t224 = true then ((regcertref07_Check.f kj5 t215 (wrap64 (t216 + (wrap64 (a4)))) y221).bind fun t225 => (regcertlaw09_InterpUnreachable.j1 kj5 l1 a2 (t225 != 0) a0_0 a0_1 l0_2 t215 (wrap64 (t216 + (wrap64 (a4)))) y221)) else (regcertlaw09_InterpUnreachable.j1 kj5 l1 a2 true a0_0 a0_1 l0_2 t215 (wrap64 (t216 + (wrap64 (a4)))) y221))) = some r := by first | (rw [hy221]; with_reducible exact H) | (have H2_ := (Option.bind_some _ _).symm.trans H; rw [hy221]; with_reducible exact H2_) | (have H2_ := (Option.bind_some _ _).symm.trans H; with_reducible exact H2_) | with_reducible exact H | (rw [hy221]; exact H) | exact H
     have Ny221 := As0 hy221
     clear hy221
     have HC28 := As0 H
     clear H
     have hnb29 := NB210_211.out
     have hnc29 := NB211_210.out
     have hcz30_0 : wc.cell? ⟨gb210, 0, none⟩ = some (.int .i64 a0_0) := (blk_cell BK210.out 0).trans rfl
     have hcz30_1 : wc.cell? ⟨gb210, 1, none⟩ = some (.int .i64 a0_1) := (blk_cell BK210.out 1).trans rfl
     have hcz30_2 : wc.cell? ⟨gb210, 2, none⟩ = some (.slice A0_2 l0_2.length c0_2) := (blk_cell BK210.out 2).trans rfl
     have hfz30_0 := blk_frozen BK210.out 0
     have hfz30_1 := blk_frozen BK210.out 1
     have hfz30_2 := blk_frozen BK210.out 2
     go_upto_region 6 with (first | ((with_reducible refine gate_callee (f := 34) rfl ?_); refine goesL_ (some 33) rfl rfl Try.func34 (by kernel_rfl) rfl #[.agg #[.int .i64 a0_0, .int .i64 a0_1, .slice A0_2 l0_2.length c0_2]] rfl (by (try simp only [List.map_toArray, List.map_cons, List.map_nil]); first | done | rfl | (simp only [List.length_drop, List.length_take]; rfl)) ?_; (with_reducible refine (regcertref07_Copy.calls kj5 a0_0 a0_1 _ _ l0_2 t215 t216 t217 _ ?side1 ?side2 A26.out).mono ?_); (case side1 => repeat (first | exact (Kd.C_below HR0_2.out HB.out) | (with_reducible refine Kd.C_alloc ?_ _) | (with_reducible refine Kd.C_drewN ?_ _) | (with_reducible refine Kd.C_drew ?_))); (case side2 => exact HC0_2.out); rintro e w31 ⟨v218, rfl, ho0, hb⟩; refine ⟨_, rfl, ?_⟩; have n0_ := As0 (Kd.V_elder' (by (with_reducible repeat (first | apply Kd.V_alloc | apply Kd.V_drewN | apply Kd.V_drew)); exact HO_212000.out) (Kd.N_base (Kd.S_N (Kd.S_bound ho0))) hb); have n1_ := As0 (Kd.N_lower (Kd.N_mono (ok' := fun k_ => (P3_0_ k_ ∨ w.heap.size ≤ k_) ∧ k_ ≠ gb210 ∧ k_ ≠ gb211) (Kd.S_N (Kd.S_bound ho0)) (fun k_ hk_ => ⟨(.inr (Nat.le_trans (below_size (by repeat (first | (with_reducible first | exact HB.out | apply below_alloc | apply bdN | apply bd1 | refine below_set ?_ GE210.out | refine below_set ?_ GE211.out) | exact HB.out))) hk_.2.1)), (Kd.freshB (g := gb210) (o := .cells #[.int .i64 a0_0, .int .i64 a0_1, .slice A0_2 l0_2.length c0_2] 34 (0, 0)) (by (with_reducible repeat (first | refine blk_drewN ?_ _ | refine blk_drew ?_ | refine blk_alloc ?_ _)); exact BK210.out) k_ hk_.2.1), (Kd.freshB (g := gb211) (o := .cells #[.slice A3_0 l3_0.length c3_0, .int .i64 a3_1, .int .i64 a3_2, .int .i64 a3_3, .int .i64 a3_4] 50 (0, 0)) (by (with_reducible repeat (first | refine blk_drewN ?_ _ | refine blk_drew ?_ | refine blk_alloc ?_ _)); exact BK211.out) k_ hk_.2.1)⟩)) (below_size (by repeat (first | (with_reducible first | exact HB.out | apply below_alloc | apply bdN | apply bd1 | refine below_set ?_ GE210.out | refine below_set ?_ GE211.out) | exact HB.out)))); have n2_ := As0 (blk_below (g := gb210) (o := .cells #[.int .i64 a0_0, .int .i64 a0_1, .slice A0_2 l0_2.length c0_2] 34 (0, 0)) (by (with_reducible repeat (first | refine blk_drewN ?_ _ | refine blk_drew ?_ | refine blk_alloc ?_ _)); exact BK210.out) hb); have n3_ := As0 (blk_below (g := gb211) (o := .cells #[.slice A3_0 l3_0.length c3_0, .int .i64 a3_1, .int .i64 a3_2, .int .i64 a3_3, .int .i64 a3_4] 50 (0, 0)) (by (with_reducible repeat (first | refine blk_drewN ?_ _ | refine blk_drew ?_ | refine blk_alloc ?_ _)); exact BK211.out) hb); have n4_ := As0 (below_step (by repeat (first | (with_reducible first | exact HB.out | apply below_alloc | apply bdN | apply bd1 | refine below_set ?_ GE210.out | refine below_set ?_ GE211.out) | exact HB.out)) hb); clear HO_212000; clear BK210; clear BK211; clear HB; have HO_212000 := n0_; have HO219 := n1_; have BK210 := n2_; have BK211 := n3_; have HB := n4_; clear n0_ n1_ n2_ n3_ n4_; (try clear hb); (try clear hb2); (try clear hk); (try clear hi); (try clear ho0)) | ((with_reducible refine gate_dst (N := 11) rfl ?_); (try (refine gate_guard (by rfl) ?_; dsimp only)); refine box_event ?hg (N := 11) ?hd (cs := #[.int .i64 0, .int .i64 0, .slice none 0 0]) (t := 34) ?hr ?_; (case hd => rfl); (case hg => rfl); (case hr => first | (go_simp; done) | (go_simp; rfl)); intro gb220 hg w32 hbox hb; have n0_ := As0 (Kd.V_below (Kd.V_elderB (by (with_reducible repeat (first | apply Kd.V_alloc | apply Kd.V_drewN | apply Kd.V_drew)); exact HO_212000.out) gb220 (Nat.le_of_eq hg.symm)) hb); have n1_ := As0 (Kd.N_below (Kd.N_elderB (by (with_reducible repeat (first | apply Kd.N_alloc | apply Kd.N_drewN | apply Kd.N_drew)); exact HO219.out) gb220 (Nat.le_of_eq hg.symm)) hb); have n2_ := As0 (blk_below (g := gb210) (o := .cells #[.int .i64 a0_0, .int .i64 a0_1, .slice A0_2 l0_2.length c0_2] 34 (0, 0)) (by (with_reducible repeat (first | refine blk_drewN ?_ _ | refine blk_drew ?_ | refine blk_alloc ?_ _)); exact BK210.out) hb); have n3_ := As0 (blk_below (g := gb211) (o := .cells #[.slice A3_0 l3_0.length c3_0, .int .i64 a3_1, .int .i64 a3_2, .int .i64 a3_3, .int .i64 a3_4] 50 (0, 0)) (by (with_reducible repeat (first | refine blk_drewN ?_ _ | refine blk_drew ?_ | refine blk_alloc ?_ _)); exact BK211.out) hb); have n4_ := As0 (below_step (by repeat (first | (with_reducible first | exact HB.out | apply below_alloc | apply bdN | apply bd1 | refine below_set ?_ GE210.out | refine below_set ?_ GE211.out) | exact HB.out)) hb); have n5_ := As0 (hbox); have n6_ := As0 ((by rw [hg]; exact (below_size (by repeat (first | (with_reducible first | exact HB.out | apply below_alloc | apply bdN | apply bd1 | refine below_set ?_ GE210.out | refine below_set ?_ GE211.out) | exact HB.out))) : w.heap.size ≤ gb220)); have n7_ := As0 ((by rw [hg]; exact (below_size (by repeat (first | (with_reducible first | exact HB.out | apply below_alloc | apply bdN | apply bd1 | refine below_set ?_ GE210.out | refine below_set ?_ GE211.out) | exact HB.out))) : w.heap.size ≤ gb220)); have n8_ := As0 ((by rw [hg]; exact Nat.ne_of_lt (blk_lt (g := gb210) (o := .cells #[.int .i64 a0_0, .int .i64 a0_1, .slice A0_2 l0_2.length c0_2] 34 (0, 0)) (by (with_reducible repeat (first | refine blk_drewN ?_ _ | refine blk_drew ?_ | refine blk_alloc ?_ _)); exact BK210.out)) : gb210 ≠ gb220)); have n9_ := As0 ((by rw [hg]; exact Nat.ne_of_gt (blk_lt (g := gb210) (o := .cells #[.int .i64 a0_0, .int .i64 a0_1, .slice A0_2 l0_2.length c0_2] 34 (0, 0)) (by (with_reducible repeat (first | refine blk_drewN ?_ _ | refine blk_drew ?_ | refine blk_alloc ?_ _)); exact BK210.out)) : gb220 ≠ gb210)); have n10_ := As0 ((by rw [hg]; exact Nat.ne_of_lt (blk_lt (g := gb211) (o := .cells #[.slice A3_0 l3_0.length c3_0, .int .i64 a3_1, .int .i64 a3_2, .int .i64 a3_3, .int .i64 a3_4] 50 (0, 0)) (by (with_reducible repeat (first | refine blk_drewN ?_ _ | refine blk_drew ?_ | refine blk_alloc ?_ _)); exact BK211.out)) : gb211 ≠ gb220)); have n11_ := As0 ((by rw [hg]; exact Nat.ne_of_gt (blk_lt (g := gb211) (o := .cells #[.slice A3_0 l3_0.length c3_0, .int .i64 a3_1, .int .i64 a3_2, .int .i64 a3_3, .int .i64 a3_4] 50 (0, 0)) (by (with_reducible repeat (first | refine blk_drewN ?_ _ | refine blk_drew ?_ | refine blk_alloc ?_ _)); exact BK211.out)) : gb220 ≠ gb211)); clear HO_212000; clear HO219; clear BK210; clear BK211; clear HB; have HO_212000 := n0_; have HO219 := n1_; have BK210 := n2_; have BK211 := n3_; have HB := n4_; have BK220 := n5_; have GW220 := n6_; have GE220 := n7_; have NB210_220 := n8_; have NB220_210 := n9_; have NB211_220 := n10_; have NB220_211 := n11_; clear n0_ n1_ n2_ n3_ n4_ n5_ n6_ n7_ n8_ n9_ n10_ n11_; clear hb hbox hg; have hnb33 := NB220_210.out; have hnc33 := NB210_220.out; have hnb34 := NB220_211.out; have hnc34 := NB211_220.out; have hcz35_0 : w32.cell? ⟨gb220, 0, none⟩ = some (.int .i64 0) := (blk_cell BK220.out 0).trans rfl; have hcz35_1 : w32.cell? ⟨gb220, 1, none⟩ = some (.int .i64 0) := (blk_cell BK220.out 1).trans rfl; have hcz35_2 : w32.cell? ⟨gb220, 2, none⟩ = some (.slice none 0 0) := (blk_cell BK220.out 2).trans rfl; have hfz35_0 := blk_frozen BK220.out 0; have hfz35_1 := blk_frozen BK220.out 1; have hfz35_2 := blk_frozen BK220.out 2; obtain ⟨Ao36, co36, eo36⟩ := Kd.N_slice HO219.out; subst eo36) | ((with_reducible refine gate_store (t := 34) (p := 11) rfl ?_); refine store_event (t := 34) (p := 11) (v := ?vo_w37) (w1 := (((w32.setCell ⟨gb220, 0, none⟩ (.int .i64 t215)).setCell ⟨gb220, 1, none⟩ (.int .i64 t216)).setCell ⟨gb220, 2, none⟩ (.slice Ao36 t217.length co36))) ?hg ?ho ?hn ?hr ?_; (case ho => rfl); (case hg => rfl); (case hn => rfl); (case hr => first | (go_simp; done) | (go_simp; rfl)); intro w37 hw; have n0_ : Aside0 (Kd.V k97 97 w37 w.heap.size (fun k_ => (P3_0_ k_ ∨ w.heap.size ≤ k_) ∧ some k_ ≠ (.slice Ao36 t217.length co36 : Value).ownBlock ∧ k_ ≠ gb210 ∧ k_ ≠ gb211 ∧ k_ ≠ gb220) (.slice A3_0 l3_0.length c3_0) l3_0) := ⟨(by rw [hw]; exact (by (with_reducible repeat (first | apply Kd.V_alloc | apply Kd.V_drewN | apply Kd.V_drew)); exact Kd.V_mono (Kd.V_far (p := ⟨gb220, 2, none⟩) (Kd.V_far (p := ⟨gb220, 1, none⟩) (Kd.V_far (p := ⟨gb220, 0, none⟩) (Kd.V_mono HO_212000.out (fun k_ hk => (⟨hk, hk.2⟩ : _ ∧ k_ ≠ gb220))) (fun _ hk => hk.2) (.int .i64 t215)) (fun _ hk => hk.2) (.int .i64 t216)) (fun _ hk => hk.2) (.slice Ao36 t217.length co36)) (fun _ hk => ⟨hk.1.1.1.1, ⟨hk.1.1.2, ⟨hk.1.1.1.2.1, ⟨hk.1.1.1.2.2, hk.1.2⟩⟩⟩⟩)))⟩; have n1_ : Aside0 (Kd.N k50 50 w37 w.heap.size (fun k_ => (P3_0_ k_ ∨ w.heap.size ≤ k_) ∧ k_ ≠ gb210 ∧ k_ ≠ gb211 ∧ k_ ≠ gb220) (.slice Ao36 t217.length co36) t217) := ⟨(by rw [hw]; exact (by (with_reducible repeat (first | apply Kd.N_alloc | apply Kd.N_drewN | apply Kd.N_drew)); exact Kd.N_mono (Kd.N_far (p := ⟨gb220, 2, none⟩) (Kd.N_far (p := ⟨gb220, 1, none⟩) (Kd.N_far (p := ⟨gb220, 0, none⟩) (Kd.N_mono HO219.out (fun k_ hk => (⟨hk, hk.2⟩ : _ ∧ k_ ≠ gb220))) (fun _ hk => hk.2) (.int .i64 t215)) (fun _ hk => hk.2) (.int .i64 t216)) (fun _ hk => hk.2) (.slice Ao36 t217.length co36)) (fun _ hk => ⟨hk.1.1.1, ⟨hk.1.1.2.1, ⟨hk.1.1.2.2, hk.1.2⟩⟩⟩)))⟩; have n2_ : Aside0 (w37.heap[gb210]? = some (.cells #[.int .i64 a0_0, .int .i64 a0_1, .slice A0_2 l0_2.length c0_2] 34 (0, 0))) := ⟨(by rw [hw]; exact (by (with_reducible repeat (first | refine blk_drewN ?_ _ | refine blk_drew ?_ | refine blk_alloc ?_ _)); refine blk_far ?_ NB210_220.out _; (with_reducible repeat (first | refine blk_drewN ?_ _ | refine blk_drew ?_ | refine blk_alloc ?_ _)); refine blk_far ?_ NB210_220.out _; (with_reducible repeat (first | refine blk_drewN ?_ _ | refine blk_drew ?_ | refine blk_alloc ?_ _)); refine blk_far ?_ NB210_220.out _; (with_reducible repeat (first | refine blk_drewN ?_ _ | refine blk_drew ?_ | refine blk_alloc ?_ _)); exact BK210.out))⟩; have n3_ : Aside0 (w37.heap[gb211]? = some (.cells #[.slice A3_0 l3_0.length c3_0, .int .i64 a3_1, .int .i64 a3_2, .int .i64 a3_3, .int .i64 a3_4] 50 (0, 0))) := ⟨(by rw [hw]; exact (by (with_reducible repeat (first | refine blk_drewN ?_ _ | refine blk_drew ?_ | refine blk_alloc ?_ _)); refine blk_far ?_ NB211_220.out _; (with_reducible repeat (first | refine blk_drewN ?_ _ | refine blk_drew ?_ | refine blk_alloc ?_ _)); refine blk_far ?_ NB211_220.out _; (with_reducible repeat (first | refine blk_drewN ?_ _ | refine blk_drew ?_ | refine blk_alloc ?_ _)); refine blk_far ?_ NB211_220.out _; (with_reducible repeat (first | refine blk_drewN ?_ _ | refine blk_drew ?_ | refine blk_alloc ?_ _)); exact BK211.out))⟩; have n4_ : Aside0 (w37.heap[gb220]? = some (.cells #[.int .i64 t215, .int .i64 t216, .slice Ao36 t217.length co36] 34 (0, 0))) := ⟨(by rw [hw]; exact (by (with_reducible repeat (first | refine blk_drewN ?_ _ | refine blk_drew ?_ | refine blk_alloc ?_ _)); refine blk_put (cs := #[.int .i64 t215, .int .i64 t216, .slice none 0 0]) ?_ 2 _ rfl; (with_reducible repeat (first | refine blk_drewN ?_ _ | refine blk_drew ?_ | refine blk_alloc ?_ _)); refine blk_put (cs := #[.int .i64 t215, .int .i64 0, .slice none 0 0]) ?_ 1 _ rfl; (with_reducible repeat (first | refine blk_drewN ?_ _ | refine blk_drew ?_ | refine blk_alloc ?_ _)); refine blk_put (cs := #[.int .i64 0, .int .i64 0, .slice none 0 0]) ?_ 0 _ rfl; (with_reducible repeat (first | refine blk_drewN ?_ _ | refine blk_drew ?_ | refine blk_alloc ?_ _)); exact BK220.out))⟩; have n5_ : Aside0 (Below w.heap.size w w37) := ⟨(by rw [hw]; exact (by repeat (first | (with_reducible first | exact HB.out | apply below_alloc | apply bdN | apply bd1 | refine below_set ?_ GE210.out | refine below_set ?_ GE211.out | refine below_set ?_ GE220.out) | exact HB.out)))⟩; clear hw; clear HO_212000; clear HO219; clear BK210; clear BK211; clear BK220; clear HB; have HO_212000 := n0_; have HO219 := n1_; have BK210 := n2_; have BK211 := n3_; have BK220 := n4_; have HB := n5_; clear n0_ n1_ n2_ n3_ n4_ n5_; have hcz38_0 : w37.cell? ⟨gb220, 0, none⟩ = some (.int .i64 t215) := (blk_cell BK220.out 0).trans rfl; have hcz38_1 : w37.cell? ⟨gb220, 1, none⟩ = some (.int .i64 t216) := (blk_cell BK220.out 1).trans rfl; have hcz38_2 : w37.cell? ⟨gb220, 2, none⟩ = some (.slice Ao36 t217.length co36) := (blk_cell BK220.out 2).trans rfl; have hfz38_0 := blk_frozen BK220.out 0; have hfz38_1 := blk_frozen BK220.out 1; have hfz38_2 := blk_frozen BK220.out 2) | ((with_reducible refine gate_store (t := 3) (p := 39) rfl ?_); refine store_event (t := 3) (p := 39) (v := ?vo_w39) (w1 := (w37.setCell ⟨gb220, 1, none⟩ (.int .i64 (wrap64 (t216 + (wrap64 (a4))))))) ?hg ?ho ?hn ?hr ?_; (case ho => rfl); (case hg => rfl); (case hn => rfl); (case hr => first | (go_simp; done) | (go_simp; rfl)); intro w39 hw; have n0_ : Aside0 (Kd.V k97 97 w39 w.heap.size (fun k_ => (P3_0_ k_ ∨ w.heap.size ≤ k_) ∧ some k_ ≠ (.slice Ao36 t217.length co36 : Value).ownBlock ∧ k_ ≠ gb210 ∧ k_ ≠ gb211 ∧ k_ ≠ gb220) (.slice A3_0 l3_0.length c3_0) l3_0) := ⟨(by rw [hw]; exact (by (with_reducible repeat (first | apply Kd.V_alloc | apply Kd.V_drewN | apply Kd.V_drew)); exact Kd.V_mono (Kd.V_far (p := ⟨gb220, 1, none⟩) (Kd.V_mono HO_212000.out (fun k_ hk => (⟨hk, hk.2.2.2.2⟩ : _ ∧ k_ ≠ gb220))) (fun _ hk => hk.2) (.int .i64 (wrap64 (t216 + (wrap64 (a4)))))) (fun _ hk => ⟨hk.1.1, ⟨hk.1.2.1, ⟨hk.1.2.2.1, ⟨hk.1.2.2.2.1, hk.1.2.2.2.2⟩⟩⟩⟩)))⟩; have n1_ : Aside0 (Kd.N k50 50 w39 w.heap.size (fun k_ => (P3_0_ k_ ∨ w.heap.size ≤ k_) ∧ k_ ≠ gb210 ∧ k_ ≠ gb211 ∧ k_ ≠ gb220) (.slice Ao36 t217.length co36) t217) := ⟨(by rw [hw]; exact (by (with_reducible repeat (first | apply Kd.N_alloc | apply Kd.N_drewN | apply Kd.N_drew)); exact Kd.N_mono (Kd.N_far (p := ⟨gb220, 1, none⟩) (Kd.N_mono HO219.out (fun k_ hk => (⟨hk, hk.2.2.2⟩ : _ ∧ k_ ≠ gb220))) (fun _ hk => hk.2) (.int .i64 (wrap64 (t216 + (wrap64 (a4)))))) (fun _ hk => ⟨hk.1.1, ⟨hk.1.2.1, ⟨hk.1.2.2.1, hk.1.2.2.2⟩⟩⟩)))⟩; have n2_ : Aside0 (w39.heap[gb210]? = some (.cells #[.int .i64 a0_0, .int .i64 a0_1, .slice A0_2 l0_2.length c0_2] 34 (0, 0))) := ⟨(by rw [hw]; exact (by (with_reducible repeat (first | refine blk_drewN ?_ _ | refine blk_drew ?_ | refine blk_alloc ?_ _)); refine blk_far ?_ NB210_220.out _; (with_reducible repeat (first | refine blk_drewN ?_ _ | refine blk_drew ?_ | refine blk_alloc ?_ _)); exact BK210.out))⟩; have n3_ : Aside0 (w39.heap[gb211]? = some (.cells #[.slice A3_0 l3_0.length c3_0, .int .i64 a3_1, .int .i64 a3_2, .int .i64 a3_3, .int .i64 a3_4] 50 (0, 0))) := ⟨(by rw [hw]; exact (by (with_reducible repeat (first | refine blk_drewN ?_ _ | refine blk_drew ?_ | refine blk_alloc ?_ _)); refine blk_far ?_ NB211_220.out _; (with_reducible repeat (first | refine blk_drewN ?_ _ | refine blk_drew ?_ | refine blk_alloc ?_ _)); exact BK211.out))⟩; have n4_ : Aside0 (w39.heap[gb220]? = some (.cells #[.int .i64 t215, .int .i64 (wrap64 (t216 + (wrap64 (a4)))), .slice Ao36 t217.length co36] 34 (0, 0))) := ⟨(by rw [hw]; exact (by (with_reducible repeat (first | refine blk_drewN ?_ _ | refine blk_drew ?_ | refine blk_alloc ?_ _)); refine blk_put (cs := #[.int .i64 t215, .int .i64 t216, .slice Ao36 t217.length co36]) ?_ 1 _ rfl; (with_reducible repeat (first | refine blk_drewN ?_ _ | refine blk_drew ?_ | refine blk_alloc ?_ _)); exact BK220.out))⟩; have n5_ : Aside0 (Below w.heap.size w w39) := ⟨(by rw [hw]; exact (by repeat (first | (with_reducible first | exact HB.out | apply below_alloc | apply bdN | apply bd1 | refine below_set ?_ GE210.out | refine below_set ?_ GE211.out | refine below_set ?_ GE220.out) | exact HB.out)))⟩; clear hw; clear HO_212000; clear HO219; clear BK210; clear BK211; clear BK220; clear HB; have HO_212000 := n0_; have HO219 := n1_; have BK210 := n2_; have BK211 := n3_; have BK220 := n4_; have HB := n5_; clear n0_ n1_ n2_ n3_ n4_ n5_; have hcz40_0 : w39.cell? ⟨gb220, 0, none⟩ = some (.int .i64 t215) := (blk_cell BK220.out 0).trans rfl; have hcz40_1 : w39.cell? ⟨gb220, 1, none⟩ = some (.int .i64 (wrap64 (t216 + (wrap64 (a4))))) := (blk_cell BK220.out 1).trans rfl; have hcz40_2 : w39.cell? ⟨gb220, 2, none⟩ = some (.slice Ao36 t217.length co36) := (blk_cell BK220.out 2).trans rfl; have hfz40_0 := blk_frozen BK220.out 0; have hfz40_1 := blk_frozen BK220.out 1; have hfz40_2 := blk_frozen BK220.out 2; have hcz41_0 : w39.cell? ⟨gb211, 0, none⟩ = some (.slice A3_0 l3_0.length c3_0) := (blk_cell BK211.out 0).trans rfl; have hcz41_1 : w39.cell? ⟨gb211, 1, none⟩ = some (.int .i64 a3_1) := (blk_cell BK211.out 1).trans rfl; have hcz41_2 : w39.cell? ⟨gb211, 2, none⟩ = some (.int .i64 a3_2) := (blk_cell BK211.out 2).trans rfl; have hcz41_3 : w39.cell? ⟨gb211, 3, none⟩ = some (.int .i64 a3_3) := (blk_cell BK211.out 3).trans rfl; have hcz41_4 : w39.cell? ⟨gb211, 4, none⟩ = some (.int .i64 a3_4) := (blk_cell BK211.out 4).trans rfl; have hfz41_0 := blk_frozen BK211.out 0; have hfz41_1 := blk_frozen BK211.out 1; have hfz41_2 := blk_frozen BK211.out 2; have hfz41_3 := blk_frozen BK211.out 3; have hfz41_4 := blk_frozen BK211.out 4) | ((with_reducible refine gate_builtin (b := .append) (xs := #[.tmp 41, .tmp 43]) rfl ?_); (try (refine gate_guard (by rfl) ?_; dsimp only)); at_builtin; refine Kd.N_append k50 (w0 := w) w.heap.size rfl (.tmp 41) (.tmp 43) 32 50 (.agg #[(.slice none 0 0), (.int .i64 0), (.int .i64 0), (.int .i64 0), (.int .i64 0)]) 56 rfl Try.underlying32 info50 rfl (by decide) (by omega) (.slice Ao36 t217.length co36) t217 (⟨l3_0, (⟨a3_1, a3_2, a3_3, a3_4⟩ : S48)⟩ : S50) [.slice A3_0 l3_0.length c3_0, .int .i64 a3_1, .int .i64 a3_2, .int .i64 a3_3, .int .i64 a3_4] (fun k_ => (P3_0_ k_ ∨ w.heap.size ≤ k_) ∧ k_ ≠ gb210 ∧ k_ ≠ gb211 ∧ k_ ≠ gb220) (fun k_ => ((fun k_ => (P3_0_ k_ ∨ w.heap.size ≤ k_) ∧ k_ ≠ gb210 ∧ k_ ≠ gb211 ∧ k_ ≠ gb220)) k_ ∧ some k_ ≠ (.slice Ao36 t217.length co36 : Value).ownBlock) rfl rfl ?aP (fun _ hk => hk) ?aF ?aO ?aB ?aS ?aL ?_; (case aP => exact (k50_mkF _ _ (⟨l3_0, (⟨a3_1, a3_2, a3_3, a3_4⟩ : S48)⟩ : S50) (Kd.V_reads' (Kd.V_mono (ok' := (fun k_ => ((fun k_ => (P3_0_ k_ ∨ w.heap.size ≤ k_) ∧ k_ ≠ gb210 ∧ k_ ≠ gb211 ∧ k_ ≠ gb220)) k_ ∧ some k_ ≠ (.slice Ao36 t217.length co36 : Value).ownBlock)) (HO_212000.out) (fun k_ hk => ⟨⟨hk.1, ⟨hk.2.2.1, ⟨hk.2.2.2.1, hk.2.2.2.2⟩⟩⟩, hk.2.1⟩))).2.1 (Kd.V_F (Kd.V_mono (ok' := (fun k_ => ((fun k_ => (P3_0_ k_ ∨ w.heap.size ≤ k_) ∧ k_ ≠ gb210 ∧ k_ ≠ gb211 ∧ k_ ≠ gb220)) k_ ∧ some k_ ≠ (.slice Ao36 t217.length co36 : Value).ownBlock)) (HO_212000.out) (fun k_ hk => ⟨⟨hk.1, ⟨hk.2.2.1, ⟨hk.2.2.2.1, hk.2.2.2.2⟩⟩⟩, hk.2.1⟩))))); (case aB => exact (by repeat (first | (with_reducible first | exact HB.out | apply below_alloc | apply bdN | apply bd1 | refine below_set ?_ GE210.out | refine below_set ?_ GE211.out | refine below_set ?_ GE220.out) | exact HB.out))); (case aF => exact (fun k_ hk => ⟨(.inr (Nat.le_trans (below_size (by repeat (first | (with_reducible first | exact HB.out | apply below_alloc | apply bdN | apply bd1 | refine below_set ?_ GE210.out | refine below_set ?_ GE211.out | refine below_set ?_ GE220.out) | exact HB.out))) hk)), Kd.freshB (g := gb210) (o := .cells #[.int .i64 a0_0, .int .i64 a0_1, .slice A0_2 l0_2.length c0_2] 34 (0, 0)) (by (with_reducible repeat (first | refine blk_drewN ?_ _ | refine blk_drew ?_ | refine blk_alloc ?_ _)); exact BK210.out) k_ hk, Kd.freshB (g := gb211) (o := .cells #[.slice A3_0 l3_0.length c3_0, .int .i64 a3_1, .int .i64 a3_2, .int .i64 a3_3, .int .i64 a3_4] 50 (0, 0)) (by (with_reducible repeat (first | refine blk_drewN ?_ _ | refine blk_drew ?_ | refine blk_alloc ?_ _)); exact BK211.out) k_ hk, Kd.freshB (g := gb220) (o := .cells #[.int .i64 t215, .int .i64 (wrap64 (t216 + (wrap64 (a4)))), .slice Ao36 t217.length co36] 34 (0, 0)) (by (with_reducible repeat (first | refine blk_drewN ?_ _ | refine blk_drew ?_ | refine blk_alloc ?_ _)); exact BK220.out) k_ hk⟩)); (case aO => exact (by (with_reducible repeat (first | apply Kd.N_alloc | apply Kd.N_drewN | apply Kd.N_drew)); exact HO219.out)); (case aS => exact (below_size (by repeat (first | (with_reducible first | exact HB.out | apply below_alloc | apply bdN | apply bd1 | refine below_set ?_ GE210.out | refine below_set ?_ GE211.out | refine below_set ?_ GE220.out) | exact HB.out)))); (case aL => have := LMc27.out; omega); intro v222 w42 ho hb hg hat; rw [← Ny221.out] at ho; have n0_ := As0 (Kd.V_afterv (ok := (fun k_ => (P3_0_ k_ ∨ w.heap.size ≤ k_) ∧ k_ ≠ gb210 ∧ k_ ≠ gb211 ∧ k_ ≠ gb220)) (by (with_reducible repeat (first | apply Kd.V_alloc | apply Kd.V_drewN | apply Kd.V_drew)); exact Kd.V_mono HO_212000.out (fun _ hk => ⟨⟨hk.1, ⟨hk.2.2.1, ⟨hk.2.2.2.1, hk.2.2.2.2⟩⟩⟩, hk.2.1⟩)) hg hat); have n1_ := As0 (blk_grown (g := gb210) (o := .cells #[.int .i64 a0_0, .int .i64 a0_1, .slice A0_2 l0_2.length c0_2] 34 (0, 0)) (by (with_reducible repeat (first | refine blk_drewN ?_ _ | refine blk_drew ?_ | refine blk_alloc ?_ _)); exact BK210.out) hg (Kd.N_ne HO219.out BK210.out (by decide))); have n2_ := As0 (blk_grown (g := gb211) (o := .cells #[.slice A3_0 l3_0.length c3_0, .int .i64 a3_1, .int .i64 a3_2, .int .i64 a3_3, .int .i64 a3_4] 50 (0, 0)) (by (with_reducible repeat (first | refine blk_drewN ?_ _ | refine blk_drew ?_ | refine blk_alloc ?_ _)); exact BK211.out) hg (Kd.N_away HO219.out (fun _ hk => hk.2.2.1))); have n3_ := As0 (blk_grown (g := gb220) (o := .cells #[.int .i64 t215, .int .i64 (wrap64 (t216 + (wrap64 (a4)))), .slice Ao36 t217.length co36] 34 (0, 0)) (by (with_reducible repeat (first | refine blk_drewN ?_ _ | refine blk_drew ?_ | refine blk_alloc ?_ _)); exact BK220.out) hg (Kd.N_ne HO219.out BK220.out (by decide))); have n4_ := As0 (hb); have n5_ := As0 (ho); clear HO_212000; clear BK210; clear BK211; clear BK220; clear HB; clear HO219; have HO_212000 := n0_; have BK210 := n1_; have BK211 := n2_; have BK220 := n3_; have HB := n4_; have HO223 := n5_; clear n0_ n1_ n2_ n3_ n4_ n5_; clear ho hb hg hat; obtain ⟨Ao43, co43, eo43⟩ := Kd.N_slice HO223.out; subst eo43; have hcz44_0 : w42.cell? ⟨gb220, 0, none⟩ = some (.int .i64 t215) := (blk_cell BK220.out 0).trans rfl; have hcz44_1 : w42.cell? ⟨gb220, 1, none⟩ = some (.int .i64 (wrap64 (t216 + (wrap64 (a4))))) := (blk_cell BK220.out 1).trans rfl; have hcz44_2 : w42.cell? ⟨gb220, 2, none⟩ = some (.slice Ao36 t217.length co36) := (blk_cell BK220.out 2).trans rfl; have hfz44_0 := blk_frozen BK220.out 0; have hfz44_1 := blk_frozen BK220.out 1; have hfz44_2 := blk_frozen BK220.out 2))
     (try simp only [Act.put, sL1, sL2, sL3])
     go_cut [53] (fun v53 wc => ∃ (kq : Nat) (x53_27 : Bool), v53 = .bool x53_27 ∧ Aside0 (regcertlaw09_InterpUnreachable.j1 kq l1 a2 x53_27 a0_0 a0_1 l0_2 t215 (wrap64 (t216 + (wrap64 (a4)))) y221 = some r) ∧ Aside0 (kq ≤ kj5) ∧ Aside0 (Kd.V k97 97 wc w.heap.size (fun k_ => (P3_0_ k_ ∨ w.heap.size ≤ k_) ∧ some k_ ≠ ((.slice Ao43 y221.length co43) : Value).ownBlock ∧ k_ ≠ gb210 ∧ k_ ≠ gb211 ∧ k_ ≠ gb220) (.slice A3_0 l3_0.length c3_0) l3_0) ∧ Aside0 (Kd.N k50 50 wc w.heap.size (fun k_ => (P3_0_ k_ ∨ w.heap.size ≤ k_) ∧ k_ ≠ gb210 ∧ k_ ≠ gb211 ∧ k_ ≠ gb220) (.slice Ao43 y221.length co43) y221) ∧ Aside0 (wc.heap[gb210]? = some (.cells #[.int .i64 a0_0, .int .i64 a0_1, (.slice A0_2 l0_2.length c0_2)] 34 (0, 0))) ∧ Aside0 (wc.heap[gb211]? = some (.cells #[(.slice A3_0 l3_0.length c3_0), .int .i64 a3_1, .int .i64 a3_2, .int .i64 a3_3, .int .i64 a3_4] 50 (0, 0))) ∧ Aside0 (wc.heap[gb220]? = some (.cells #[.int .i64 t215, .int .i64 (wrap64 (t216 + (wrap64 (a4)))), (.slice Ao43 y221.length co43)] 34 (0, 0))) ∧ Aside0 (Below w.heap.size w wc))
     case first =>
      have H := HC28.out
      clear HC28
      replace H := Option.bind_eq_some_iff.mp H
      obtain ⟨t224, A450, H⟩ := H
      replace H : (if t224 = true then ((regcertref07_Check.f kj5 t215 (wrap64 (t216 + (wrap64 (a4)))) y221).bind fun t225 => (regcertlaw09_InterpUnreachable.j1 kj5 l1 a2 (t225 != 0) a0_0 a0_1 l0_2 t215 (wrap64 (t216 + (wrap64 (a4)))) y221)) else (regcertlaw09_InterpUnreachable.j1 kj5 l1 a2 true a0_0 a0_1 l0_2 t215 (wrap64 (t216 + (wrap64 (a4)))) y221)) = some r := H
      have A45 := As0 A450
      clear A450
      by_cases c46 : t224 = true
      ·subst c46
       have H1 : ((regcertref07_Check.f kj5 t215 (wrap64 (t216 + (wrap64 (a4)))) y221).bind fun t225 => (regcertlaw09_InterpUnreachable.j1 kj5 l1 a2 (t225 != 0) a0_0 a0_1 l0_2 t215 (wrap64 (t216 + (wrap64 (a4)))) y221)) = some r := by rw [if_pos rfl] at H; exact H
       clear H
       have H := H1
       clear H1
       replace H := Option.bind_eq_some_iff.mp H
       obtain ⟨t225, A470, H⟩ := H
       replace H : (regcertlaw09_InterpUnreachable.j1 kj5 l1 a2 (t225 != 0) a0_0 a0_1 l0_2 t215 (wrap64 (t216 + (wrap64 (a4)))) y221) = some r := H
       have A47 := As0 A470
       clear A470
       have H' := As0 H
       clear H
       have hnb48 := NB220_210.out
       have hnc48 := NB210_220.out
       have hnb49 := NB220_211.out
       have hnc49 := NB211_220.out
       have hcz50_0 : w42.cell? ⟨gb220, 0, none⟩ = some (.int .i64 t215) := (blk_cell BK220.out 0).trans rfl
       have hcz50_1 : w42.cell? ⟨gb220, 1, none⟩ = some (.int .i64 (wrap64 (t216 + (wrap64 (a4))))) := (blk_cell BK220.out 1).trans rfl
       have hcz50_2 : w42.cell? ⟨gb220, 2, none⟩ = some (.slice Ao36 t217.length co36) := (blk_cell BK220.out 2).trans rfl
       have hfz50_0 := blk_frozen BK220.out 0
       have hfz50_1 := blk_frozen BK220.out 1
       have hfz50_2 := blk_frozen BK220.out 2
       go_wp2_with (first | ((with_reducible refine gate_callee (f := 35) rfl ?_); refine goesL_ (some 47) rfl rfl Try.func35 (by kernel_rfl) rfl #[.agg #[.int .i64 t215, .int .i64 (wrap64 (t216 + (wrap64 (a4)))), .slice Ao43 y221.length co43]] rfl (by (try simp only [List.map_toArray, List.map_cons, List.map_nil]); first | done | rfl | (simp only [List.length_drop, List.length_take]; rfl)) ?_; (with_reducible refine (regcertref07_Few.calls kj5 t215 (wrap64 (t216 + (wrap64 (a4)))) _ _ y221 true _ ?side1 ?side2 A45.out).mono ?_); (case side1 => refine (Kd.N_reads' (e := 50) (base := w.heap.size) (ok := fun k_ => ((P3_0_ k_ ∨ w.heap.size ≤ k_) ∧ (k_ ≠ gb210 ∧ (k_ ≠ gb211 ∧ k_ ≠ gb220)))) (n := y221.length) (c := co43) ?_).2.2; exact (by (with_reducible repeat (first | apply Kd.N_alloc | apply Kd.N_drewN | apply Kd.N_drew)); exact (Kd.N_mono (Kd.N_far (p := ⟨gb220, 2, none⟩) (Kd.N_mono HO223.out (fun k_ hk => (⟨hk, hk.2.2.2⟩ : _ ∧ k_ ≠ gb220))) (fun _ hk => hk.2) (.slice Ao43 y221.length co43)) (fun _ h_ => h_.1)))); (case side2 => exact (Kd.N_reads' HO223.out).2.1); rintro e w51 ⟨rfl, hb⟩; refine ⟨_, rfl, ?_⟩; have n0_ := As0 (Kd.V_below (by (with_reducible repeat (first | apply Kd.V_alloc | apply Kd.V_drewN | apply Kd.V_drew)); exact (Kd.V_mono (Kd.V_far (p := ⟨gb220, 2, none⟩) (Kd.V_mono HO_212000.out (fun k_ hk => (⟨hk, hk.1.2.2.2⟩ : _ ∧ k_ ≠ gb220))) (fun _ hk => hk.2) (.slice Ao43 y221.length co43)) (fun _ h_ => h_.1))) hb); have n1_ := As0 (Kd.N_below (by (with_reducible repeat (first | apply Kd.N_alloc | apply Kd.N_drewN | apply Kd.N_drew)); exact (Kd.N_mono (Kd.N_far (p := ⟨gb220, 2, none⟩) (Kd.N_mono HO223.out (fun k_ hk => (⟨hk, hk.2.2.2⟩ : _ ∧ k_ ≠ gb220))) (fun _ hk => hk.2) (.slice Ao43 y221.length co43)) (fun _ h_ => h_.1))) hb); have n2_ := As0 (blk_below (g := gb210) (o := .cells #[.int .i64 a0_0, .int .i64 a0_1, .slice A0_2 l0_2.length c0_2] 34 (0, 0)) (by (with_reducible repeat (first | refine blk_drewN ?_ _ | refine blk_drew ?_ | refine blk_alloc ?_ _)); refine blk_far ?_ NB210_220.out _; (with_reducible repeat (first | refine blk_drewN ?_ _ | refine blk_drew ?_ | refine blk_alloc ?_ _)); exact BK210.out) hb); have n3_ := As0 (blk_below (g := gb211) (o := .cells #[.slice A3_0 l3_0.length c3_0, .int .i64 a3_1, .int .i64 a3_2, .int .i64 a3_3, .int .i64 a3_4] 50 (0, 0)) (by (with_reducible repeat (first | refine blk_drewN ?_ _ | refine blk_drew ?_ | refine blk_alloc ?_ _)); refine blk_far ?_ NB211_220.out _; (with_reducible repeat (first | refine blk_drewN ?_ _ | refine blk_drew ?_ | refine blk_alloc ?_ _)); exact BK211.out) hb); have n4_ := As0 (blk_below (g := gb220) (o := .cells #[.int .i64 t215, .int .i64 (wrap64 (t216 + (wrap64 (a4)))), .slice Ao43 y221.length co43] 34 (0, 0)) (by (with_reducible repeat (first | refine blk_drewN ?_ _ | refine blk_drew ?_ | refine blk_alloc ?_ _)); refine blk_put (cs := #[.int .i64 t215, .int .i64 (wrap64 (t216 + (wrap64 (a4)))), .slice Ao36 t217.length co36]) ?_ 2 _ rfl; (with_reducible repeat (first | refine blk_drewN ?_ _ | refine blk_drew ?_ | refine blk_alloc ?_ _)); exact BK220.out) hb); have n5_ := As0 (below_step (by repeat (first | (with_reducible first | exact HB.out | apply below_alloc | apply bdN | apply bd1 | refine below_set ?_ GE210.out | refine below_set ?_ GE211.out | refine below_set ?_ GE220.out) | exact HB.out)) hb); clear HO_212000; clear HO223; clear BK210; clear BK211; clear BK220; clear HB; have HO_212000 := n0_; have HO223 := n1_; have BK210 := n2_; have BK211 := n3_; have BK220 := n4_; have HB := n5_; clear n0_ n1_ n2_ n3_ n4_ n5_; (try clear hb); (try clear hb2); (try clear hk); (try clear hi); have hcz52_0 : w51.cell? ⟨gb220, 0, none⟩ = some (.int .i64 t215) := (blk_cell BK220.out 0).trans rfl; have hcz52_1 : w51.cell? ⟨gb220, 1, none⟩ = some (.int .i64 (wrap64 (t216 + (wrap64 (a4))))) := (blk_cell BK220.out 1).trans rfl; have hcz52_2 : w51.cell? ⟨gb220, 2, none⟩ = some (.slice Ao43 y221.length co43) := (blk_cell BK220.out 2).trans rfl; have hfz52_0 := blk_frozen BK220.out 0; have hfz52_1 := blk_frozen BK220.out 1; have hfz52_2 := blk_frozen BK220.out 2) | (go_at_call 36; (with_reducible refine (regcertref07_Check.calls kj5 t215 (wrap64 (t216 + (wrap64 (a4)))) _ _ y221 t225 _ ?side1 ?side2 A47.out).mono ?_); (case side1 => repeat (first | exact (Kd.N_reads' HO223.out).2.2 | (with_reducible refine Kd.C_alloc ?_ _) | (with_reducible refine Kd.C_drewN ?_ _) | (with_reducible refine Kd.C_drew ?_))); (case side2 => exact (Kd.N_reads' HO223.out).2.1); rintro e w53 ⟨rfl, hb⟩; have n0_ := As0 (Kd.V_below (by (with_reducible repeat (first | apply Kd.V_alloc | apply Kd.V_drewN | apply Kd.V_drew)); exact HO_212000.out) hb); have n1_ := As0 (Kd.N_below (by (with_reducible repeat (first | apply Kd.N_alloc | apply Kd.N_drewN | apply Kd.N_drew)); exact HO223.out) hb); have n2_ := As0 (blk_below (g := gb210) (o := .cells #[.int .i64 a0_0, .int .i64 a0_1, .slice A0_2 l0_2.length c0_2] 34 (0, 0)) (by (with_reducible repeat (first | refine blk_drewN ?_ _ | refine blk_drew ?_ | refine blk_alloc ?_ _)); exact BK210.out) hb); have n3_ := As0 (blk_below (g := gb211) (o := .cells #[.slice A3_0 l3_0.length c3_0, .int .i64 a3_1, .int .i64 a3_2, .int .i64 a3_3, .int .i64 a3_4] 50 (0, 0)) (by (with_reducible repeat (first | refine blk_drewN ?_ _ | refine blk_drew ?_ | refine blk_alloc ?_ _)); exact BK211.out) hb); have n4_ := As0 (blk_below (g := gb220) (o := .cells #[.int .i64 t215, .int .i64 (wrap64 (t216 + (wrap64 (a4)))), .slice Ao43 y221.length co43] 34 (0, 0)) (by (with_reducible repeat (first | refine blk_drewN ?_ _ | refine blk_drew ?_ | refine blk_alloc ?_ _)); exact BK220.out) hb); have n5_ := As0 (below_step (by repeat (first | (with_reducible first | exact HB.out | apply below_alloc | apply bdN | apply bd1 | refine below_set ?_ GE210.out | refine below_set ?_ GE211.out | refine below_set ?_ GE220.out) | exact HB.out)) hb); clear HO_212000; clear HO223; clear BK210; clear BK211; clear BK220; clear HB; have HO_212000 := n0_; have HO223 := n1_; have BK210 := n2_; have BK211 := n3_; have BK220 := n4_; have HB := n5_; clear n0_ n1_ n2_ n3_ n4_ n5_; (try clear hb); (try clear hb2); (try clear hk); (try clear hi)))
       go_meet
       case rel => exact ⟨_, ((t225 != 0)), (by first | rfl | (simp; done) | (simp [*]; done)), H', ⟨by have := HJ5.out; first | omega | exact Nat.le_refl _⟩, ⟨by (with_reducible repeat (first | apply Kd.V_alloc | apply Kd.V_drewN | apply Kd.V_drew)); exact Kd.V_mono HO_212000.out (fun _ hk => ⟨hk.1.1, ⟨hk.2, ⟨hk.1.2.1, ⟨hk.1.2.2.1, hk.1.2.2.2⟩⟩⟩⟩)⟩, ⟨by (with_reducible repeat (first | apply Kd.N_alloc | apply Kd.N_drewN | apply Kd.N_drew)); exact HO223.out⟩, ⟨by (with_reducible repeat (first | refine blk_drewN ?_ _ | refine blk_drew ?_ | refine blk_alloc ?_ _)); exact BK210.out⟩, ⟨by (with_reducible repeat (first | refine blk_drewN ?_ _ | refine blk_drew ?_ | refine blk_alloc ?_ _)); exact BK211.out⟩, ⟨by (with_reducible repeat (first | refine blk_drewN ?_ _ | refine blk_drew ?_ | refine blk_alloc ?_ _)); exact BK220.out⟩, ⟨by repeat (first | (with_reducible first | exact HB.out | apply below_alloc | apply bdN | apply bd1 | refine below_set ?_ GE210.out | refine below_set ?_ GE211.out | refine below_set ?_ GE220.out) | exact HB.out)⟩⟩
      ·replace c46 := Bool.eq_false_iff.mpr c46
       subst c46
       have H1 : (regcertlaw09_InterpUnreachable.j1 kj5 l1 a2 true a0_0 a0_1 l0_2 t215 (wrap64 (t216 + (wrap64 (a4)))) y221) = some r := by rw [if_neg (show ¬ (false = true) by decide)] at H; exact H
       clear H
       have H := H1
       clear H1
       have H' := As0 H
       clear H
       have hnb54 := NB220_210.out
       have hnc54 := NB210_220.out
       have hnb55 := NB220_211.out
       have hnc55 := NB211_220.out
       have hcz56_0 : w42.cell? ⟨gb220, 0, none⟩ = some (.int .i64 t215) := (blk_cell BK220.out 0).trans rfl
       have hcz56_1 : w42.cell? ⟨gb220, 1, none⟩ = some (.int .i64 (wrap64 (t216 + (wrap64 (a4))))) := (blk_cell BK220.out 1).trans rfl
       have hcz56_2 : w42.cell? ⟨gb220, 2, none⟩ = some (.slice Ao36 t217.length co36) := (blk_cell BK220.out 2).trans rfl
       have hfz56_0 := blk_frozen BK220.out 0
       have hfz56_1 := blk_frozen BK220.out 1
       have hfz56_2 := blk_frozen BK220.out 2
       go_wp2_with (first | ((with_reducible refine gate_callee (f := 35) rfl ?_); refine goesL_ (some 47) rfl rfl Try.func35 (by kernel_rfl) rfl #[.agg #[.int .i64 t215, .int .i64 (wrap64 (t216 + (wrap64 (a4)))), .slice Ao43 y221.length co43]] rfl (by (try simp only [List.map_toArray, List.map_cons, List.map_nil]); first | done | rfl | (simp only [List.length_drop, List.length_take]; rfl)) ?_; (with_reducible refine (regcertref07_Few.calls kj5 t215 (wrap64 (t216 + (wrap64 (a4)))) _ _ y221 false _ ?side1 ?side2 A45.out).mono ?_); (case side1 => refine (Kd.N_reads' (e := 50) (base := w.heap.size) (ok := fun k_ => ((P3_0_ k_ ∨ w.heap.size ≤ k_) ∧ (k_ ≠ gb210 ∧ (k_ ≠ gb211 ∧ k_ ≠ gb220)))) (n := y221.length) (c := co43) ?_).2.2; exact (by (with_reducible repeat (first | apply Kd.N_alloc | apply Kd.N_drewN | apply Kd.N_drew)); exact (Kd.N_mono (Kd.N_far (p := ⟨gb220, 2, none⟩) (Kd.N_mono HO223.out (fun k_ hk => (⟨hk, hk.2.2.2⟩ : _ ∧ k_ ≠ gb220))) (fun _ hk => hk.2) (.slice Ao43 y221.length co43)) (fun _ h_ => h_.1)))); (case side2 => exact (Kd.N_reads' HO223.out).2.1); rintro e w57 ⟨rfl, hb⟩; refine ⟨_, rfl, ?_⟩; have n0_ := As0 (Kd.V_below (by (with_reducible repeat (first | apply Kd.V_alloc | apply Kd.V_drewN | apply Kd.V_drew)); exact (Kd.V_mono (Kd.V_far (p := ⟨gb220, 2, none⟩) (Kd.V_mono HO_212000.out (fun k_ hk => (⟨hk, hk.1.2.2.2⟩ : _ ∧ k_ ≠ gb220))) (fun _ hk => hk.2) (.slice Ao43 y221.length co43)) (fun _ h_ => h_.1))) hb); have n1_ := As0 (Kd.N_below (by (with_reducible repeat (first | apply Kd.N_alloc | apply Kd.N_drewN | apply Kd.N_drew)); exact (Kd.N_mono (Kd.N_far (p := ⟨gb220, 2, none⟩) (Kd.N_mono HO223.out (fun k_ hk => (⟨hk, hk.2.2.2⟩ : _ ∧ k_ ≠ gb220))) (fun _ hk => hk.2) (.slice Ao43 y221.length co43)) (fun _ h_ => h_.1))) hb); have n2_ := As0 (blk_below (g := gb210) (o := .cells #[.int .i64 a0_0, .int .i64 a0_1, .slice A0_2 l0_2.length c0_2] 34 (0, 0)) (by (with_reducible repeat (first | refine blk_drewN ?_ _ | refine blk_drew ?_ | refine blk_alloc ?_ _)); refine blk_far ?_ NB210_220.out _; (with_reducible repeat (first | refine blk_drewN ?_ _ | refine blk_drew ?_ | refine blk_alloc ?_ _)); exact BK210.out) hb); have n3_ := As0 (blk_below (g := gb211) (o := .cells #[.slice A3_0 l3_0.length c3_0, .int .i64 a3_1, .int .i64 a3_2, .int .i64 a3_3, .int .i64 a3_4] 50 (0, 0)) (by (with_reducible repeat (first | refine blk_drewN ?_ _ | refine blk_drew ?_ | refine blk_alloc ?_ _)); refine blk_far ?_ NB211_220.out _; (with_reducible repeat (first | refine blk_drewN ?_ _ | refine blk_drew ?_ | refine blk_alloc ?_ _)); exact BK211.out) hb); have n4_ := As0 (blk_below (g := gb220) (o := .cells #[.int .i64 t215, .int .i64 (wrap64 (t216 + (wrap64 (a4)))), .slice Ao43 y221.length co43] 34 (0, 0)) (by (with_reducible repeat (first | refine blk_drewN ?_ _ | refine blk_drew ?_ | refine blk_alloc ?_ _)); refine blk_put (cs := #[.int .i64 t215, .int .i64 (wrap64 (t216 + (wrap64 (a4)))), .slice Ao36 t217.length co36]) ?_ 2 _ rfl; (with_reducible repeat (first | refine blk_drewN ?_ _ | refine blk_drew ?_ | refine blk_alloc ?_ _)); exact BK220.out) hb); have n5_ := As0 (below_step (by repeat (first | (with_reducible first | exact HB.out | apply below_alloc | apply bdN | apply bd1 | refine below_set ?_ GE210.out | refine below_set ?_ GE211.out | refine below_set ?_ GE220.out) | exact HB.out)) hb); clear HO_212000; clear HO223; clear BK210; clear BK211; clear BK220; clear HB; have HO_212000 := n0_; have HO223 := n1_; have BK210 := n2_; have BK211 := n3_; have BK220 := n4_; have HB := n5_; clear n0_ n1_ n2_ n3_ n4_ n5_; (try clear hb); (try clear hb2); (try clear hk); (try clear hi)))
       go_meet
       case rel => exact ⟨_, (true), (by first | rfl | (simp; done) | (simp [*]; done)), H', ⟨by have := HJ5.out; first | omega | exact Nat.le_refl _⟩, ⟨by (with_reducible repeat (first | apply Kd.V_alloc | apply Kd.V_drewN | apply Kd.V_drew)); exact Kd.V_mono HO_212000.out (fun _ hk => ⟨hk.1.1, ⟨hk.2, ⟨hk.1.2.1, ⟨hk.1.2.2.1, hk.1.2.2.2⟩⟩⟩⟩)⟩, ⟨by (with_reducible repeat (first | apply Kd.N_alloc | apply Kd.N_drewN | apply Kd.N_drew)); exact HO223.out⟩, ⟨by (with_reducible repeat (first | refine blk_drewN ?_ _ | refine blk_drew ?_ | refine blk_alloc ?_ _)); exact BK210.out⟩, ⟨by (with_reducible repeat (first | refine blk_drewN ?_ _ | refine blk_drew ?_ | refine blk_alloc ?_ _)); exact BK211.out⟩, ⟨by (with_reducible repeat (first | refine blk_drewN ?_ _ | refine blk_drew ?_ | refine blk_alloc ?_ _)); exact BK220.out⟩, ⟨by repeat (first | (with_reducible first | exact HB.out | apply below_alloc | apply bdN | apply bd1 | refine below_set ?_ GE210.out | refine below_set ?_ GE211.out | refine below_set ?_ GE220.out) | exact HB.out)⟩⟩
     case rest =>
      clear HC28
      try clear c1
      try clear c2
      try clear p2
      try clear c3
      try clear c4
      try clear c5
      try clear p6
      try clear c9
      try clear c10
      try clear c12
      try clear c14
      try clear c19
      try clear c23
      try clear c27
      try clear c29
      try clear c33
      try clear c34
      try clear c35
      try clear c46
      try clear c48
      try clear c49
      try clear c54
      try clear c55
      try clear hcz15_0
      try clear hcz15_1
      try clear hcz15_2
      try clear hcz17_0
      try clear hcz17_1
      try clear hcz17_2
      try clear hcz20_0
      try clear hcz20_1
      try clear hcz20_2
      try clear hcz30_0
      try clear hcz30_1
      try clear hcz30_2
      try clear hcz35_0
      try clear hcz35_1
      try clear hcz35_2
      try clear hcz38_0
      try clear hcz38_1
      try clear hcz38_2
      try clear hcz40_0
      try clear hcz40_1
      try clear hcz40_2
      try clear hcz41_0
      try clear hcz41_1
      try clear hcz41_2
      try clear hcz41_3
      try clear hcz41_4
      try clear hcz44_0
      try clear hcz44_1
      try clear hcz44_2
      try clear hcz50_0
      try clear hcz50_1
      try clear hcz50_2
      try clear hcz52_0
      try clear hcz52_1
      try clear hcz52_2
      try clear hcz56_0
      try clear hcz56_1
      try clear hcz56_2
      try clear hfz15_0
      try clear hfz15_1
      try clear hfz15_2
      try clear hfz17_0
      try clear hfz17_1
      try clear hfz17_2
      try clear hfz20_0
      try clear hfz20_1
      try clear hfz20_2
      try clear hfz30_0
      try clear hfz30_1
      try clear hfz30_2
      try clear hfz35_0
      try clear hfz35_1
      try clear hfz35_2
      try clear hfz38_0
      try clear hfz38_1
      try clear hfz38_2
      try clear hfz40_0
      try clear hfz40_1
      try clear hfz40_2
      try clear hfz41_0
      try clear hfz41_1
      try clear hfz41_2
      try clear hfz41_3
      try clear hfz41_4
      try clear hfz44_0
      try clear hfz44_1
      try clear hfz44_2
      try clear hfz50_0
      try clear hfz50_1
      try clear hfz50_2
      try clear hfz52_0
      try clear hfz52_1
      try clear hfz52_2
      try clear hfz56_0
      try clear hfz56_1
      try clear hfz56_2
      try clear p2
      obtain ⟨kq, x53_27, rfl, HA, HJ27, HO_212000, HO_221002, BK210, BK211, BK220, HB⟩ := hcut
      cases kq with
      | zero => exact absurd HA.out (by simp [regcertlaw09_InterpUnreachable.j1])
      | succ kj27 =>
       have H := HA.out
       clear HA
       simp only [regcertlaw09_InterpUnreachable.j1] at H
       by_cases c58 : x53_27 = true
       ·subst c58
        have H1 : (some true) = some r := by rw [if_pos rfl] at H; exact H
        clear H
        have H := H1
        clear H1
        obtain rfl := Option.some.inj H
        go_wp2
        go_ret
        exact ⟨by first | rfl | (simp [errW_none, errW_some] <;> rfl) | (simp [*, errW_none, errW_some] <;> rfl), by repeat (first | (with_reducible first | exact HB.out | apply below_alloc | apply bdN | apply bd1 | refine below_set ?_ GE210.out | refine below_set ?_ GE211.out | refine below_set ?_ GE220.out) | exact HB.out)⟩
       ·replace c58 := Bool.eq_false_iff.mpr c58
        subst c58
        have H1 : ((interp_Exec.f kj27 a0_0 a0_1 l0_2 l1 (wrap64 (a2))).bind fun bt226 => ((interp_Exec.f kj27 t215 (wrap64 (t216 + (wrap64 (a4)))) y221 l1 (wrap64 (a2))).bind fun bt242 => (if bt226.1 = bt242.1 then (if bt226.2.2.2.1 = bt242.2.2.2.1 then (if bt226.2.2.2.2.2.2.2.1 = bt242.2.2.2.2.2.2.2.1 then (if bt226.2.1 = bt242.2.1 then (if bt226.2.2.1 = bt242.2.2.1 then ((regcertref09_Values.f kj27 bt226.2.2.2.2.2.2.1 bt242.2.2.2.2.2.2.1).bind fun t258 => (if t258 = true then ((regcertref09_Prefix.f kj27 bt226.2.2.2.2.1 bt242.2.2.2.2.1).bind fun t259 => (some t259)) else (none))) else (none)) else (none)) else (none)) else (none)) else (none)))) = some r := by rw [if_neg (show ¬ (false = true) by decide)] at H; exact H
        clear H
        have H := H1
        clear H1
        replace H := Option.bind_eq_some_iff.mp H
        obtain ⟨⟨t226, t227, t228, t229, t230, t233, t236, t239, t240⟩, A590, H⟩ := H
        replace H : ((interp_Exec.f kj27 t215 (wrap64 (t216 + (wrap64 (a4)))) y221 l1 (wrap64 (a2))).bind fun bt242 => (if t226 = bt242.1 then (if t229 = bt242.2.2.2.1 then (if t239 = bt242.2.2.2.2.2.2.2.1 then (if t227 = bt242.2.1 then (if t228 = bt242.2.2.1 then ((regcertref09_Values.f kj27 t236 bt242.2.2.2.2.2.2.1).bind fun t258 => (if t258 = true then ((regcertref09_Prefix.f kj27 t230 bt242.2.2.2.2.1).bind fun t259 => (some t259)) else (none))) else (none)) else (none)) else (none)) else (none)) else (none))) = some r := H
        have A59 := As0 A590
        clear A590
        replace H := Option.bind_eq_some_iff.mp H
        obtain ⟨⟨t242, t243, t244, t245, t246, t249, t252, t255, t256⟩, A600, H⟩ := H
        replace H : (if t226 = t242 then (if t229 = t245 then (if t239 = t255 then (if t227 = t243 then (if t228 = t244 then ((regcertref09_Values.f kj27 t236 t252).bind fun t258 => (if t258 = true then ((regcertref09_Prefix.f kj27 t230 t246).bind fun t259 => (some t259)) else (none))) else (none)) else (none)) else (none)) else (none)) else (none)) = some r := H
        have A60 := As0 A600
        clear A600
        by_cases c61 : t226 = t242
        ·rw [if_pos c61] at H
         have c61b0 : (t226 == t242) = true := beq_iff_eq.mpr c61
         have c61b1 : (t226 != t242) = false := bne_eq_false_iff_eq.mpr c61
         clear c61
         by_cases c62 : t229 = t245
         ·rw [if_pos c62] at H
          have c62b0 : (t229 == t245) = true := beq_iff_eq.mpr c62
          have c62b1 : (t229 != t245) = false := bne_eq_false_iff_eq.mpr c62
          clear c62
          by_cases c63 : t239 = t255
          ·rw [if_pos c63] at H
           have c63b0 : (t239 == t255) = true := beq_iff_eq.mpr c63
           have c63b1 : (t239 != t255) = false := bne_eq_false_iff_eq.mpr c63
           clear c63
           by_cases c64 : t227 = t243
           ·rw [if_pos c64] at H
            have c64b0 : (t227 == t243) = true := beq_iff_eq.mpr c64
            have c64b1 : (t227 != t243) = false := bne_eq_false_iff_eq.mpr c64
            clear c64
            by_cases c65 : t228 = t244
            ·rw [if_pos c65] at H
             have c65b0 : (t228 == t244) = true := beq_iff_eq.mpr c65
             have c65b1 : (t228 != t244) = false := bne_eq_false_iff_eq.mpr c65
             clear c65
             replace H := Option.bind_eq_some_iff.mp H
             obtain ⟨t258, A660, H⟩ := H
             replace H : (if t258 = true then ((regcertref09_Prefix.f kj27 t230 t246).bind fun t259 => (some t259)) else (none)) = some r := H
             have A66 := As0 A660
             clear A660
             by_cases c67 : t258 = true
             ·subst c67
              have H1 : ((regcertref09_Prefix.f kj27 t230 t246).bind fun t259 => (some t259)) = some r := by rw [if_pos rfl] at H; exact H
              clear H
              have H := H1
              clear H1
              replace H := Option.bind_eq_some_iff.mp H
              obtain ⟨t259, A680, H⟩ := H
              replace H : (some t259) = some r := H
              have A68 := As0 A680
              clear A680
              obtain rfl := Option.some.inj H
              have hnb69 := NB210_211.out
              have hnc69 := NB211_210.out
              have hnb70 := NB210_220.out
              have hnc70 := NB220_210.out
              have hcz71_0 : wc.cell? ⟨gb210, 0, none⟩ = some (.int .i64 a0_0) := (blk_cell BK210.out 0).trans rfl
              have hcz71_1 : wc.cell? ⟨gb210, 1, none⟩ = some (.int .i64 a0_1) := (blk_cell BK210.out 1).trans rfl
              have hcz71_2 : wc.cell? ⟨gb210, 2, none⟩ = some (.slice A0_2 l0_2.length c0_2) := (blk_cell BK210.out 2).trans rfl
              have hfz71_0 := blk_frozen BK210.out 0
              have hfz71_1 := blk_frozen BK210.out 1
              have hfz71_2 := blk_frozen BK210.out 2
              go_wp2_with (first | ((with_reducible refine gate_callee (f := 31) rfl ?_); refine goesL_ (some 59) rfl rfl Try.func31 (by kernel_rfl) rfl #[.agg #[.int .i64 a0_0, .int .i64 a0_1, .slice A0_2 l0_2.length c0_2], .slice A1 l1.length c1, .int .i64 (wrap64 (a2))] rfl (by (try simp only [List.map_toArray, List.map_cons, List.map_nil]); first | done | rfl | (simp only [List.length_drop, List.length_take]; rfl)) ?_; (with_reducible refine (interp_Exec.calls kj27 a0_0 a0_1 _ _ l0_2 _ _ l1 (wrap64 (a2)) t226 t227 t228 t229 t230 t233 t236 t239 t240 _ ?side1 ?side2 ?side3 ?side4 A59.out).mono ?_); (case side1 => repeat (first | exact (Kd.C_below HR0_2.out HB.out) | (with_reducible refine Kd.C_alloc ?_ _) | (with_reducible refine Kd.C_drewN ?_ _) | (with_reducible refine Kd.C_drew ?_))); (case side2 => exact HC0_2.out); (case side3 => repeat (first | exact (Kd.C_below HR1.out HB.out) | (with_reducible refine Kd.C_alloc ?_ _) | (with_reducible refine Kd.C_drewN ?_ _) | (with_reducible refine Kd.C_drew ?_))); (case side4 => exact HC1.out); rintro e w72 ⟨v231, v234, v237, rfl, ho0, ho1, ho2, hb⟩; refine ⟨_, rfl, ?_⟩; have n0_ := As0 (Kd.V_mono (Kd.V_told (Kd.V_told (Kd.V_told (Kd.V_old (by (with_reducible repeat (first | apply Kd.V_alloc | apply Kd.V_drewN | apply Kd.V_drew)); exact HO_212000.out) hb) (Kd.R_base ho0)) (Kd.R_base ho1)) (Kd.R_base ho2)) (fun _ h_ => h_.1)); have n1_ := As0 (Kd.N_mono (Kd.N_told (Kd.N_told (Kd.N_told (Kd.N_old (by (with_reducible repeat (first | apply Kd.N_alloc | apply Kd.N_drewN | apply Kd.N_drew)); exact HO_221002.out) hb) (Kd.R_base ho0)) (Kd.R_base ho1)) (Kd.R_base ho2)) (fun _ h_ => h_.1)); have n2_ := As0 (Kd.R_lower (Kd.R_newM (M := fun k_ => (w.heap.size ≤ k_)) ho0 (below_size (by repeat (first | (with_reducible first | exact HB.out | apply below_alloc | apply bdN | apply bd1 | refine below_set ?_ GE210.out | refine below_set ?_ GE211.out | refine below_set ?_ GE220.out) | exact HB.out))) (fun k_ h_ => h_)) (below_size (by repeat (first | (with_reducible first | exact HB.out | apply below_alloc | apply bdN | apply bd1 | refine below_set ?_ GE210.out | refine below_set ?_ GE211.out | refine below_set ?_ GE220.out) | exact HB.out)))); have n3_ := As0 (Kd.R_lower (Kd.R_newM (M := fun k_ => (w.heap.size ≤ k_)) ho1 (below_size (by repeat (first | (with_reducible first | exact HB.out | apply below_alloc | apply bdN | apply bd1 | refine below_set ?_ GE210.out | refine below_set ?_ GE211.out | refine below_set ?_ GE220.out) | exact HB.out))) (fun k_ h_ => h_)) (below_size (by repeat (first | (with_reducible first | exact HB.out | apply below_alloc | apply bdN | apply bd1 | refine below_set ?_ GE210.out | refine below_set ?_ GE211.out | refine below_set ?_ GE220.out) | exact HB.out)))); have n4_ := As0 (Kd.R_lower (Kd.R_newM (M := fun k_ => (w.heap.size ≤ k_)) ho2 (below_size (by repeat (first | (with_reducible first | exact HB.out | apply below_alloc | apply bdN | apply bd1 | refine below_set ?_ GE210.out | refine below_set ?_ GE211.out | refine below_set ?_ GE220.out) | exact HB.out))) (fun k_ h_ => h_)) (below_size (by repeat (first | (with_reducible first | exact HB.out | apply below_alloc | apply bdN | apply bd1 | refine below_set ?_ GE210.out | refine below_set ?_ GE211.out | refine below_set ?_ GE220.out) | exact HB.out)))); have n5_ := As0 (blk_below (g := gb210) (o := .cells #[.int .i64 a0_0, .int .i64 a0_1, .slice A0_2 l0_2.length c0_2] 34 (0, 0)) (by (with_reducible repeat (first | refine blk_drewN ?_ _ | refine blk_drew ?_ | refine blk_alloc ?_ _)); exact BK210.out) hb); have n6_ := As0 (blk_below (g := gb211) (o := .cells #[.slice A3_0 l3_0.length c3_0, .int .i64 a3_1, .int .i64 a3_2, .int .i64 a3_3, .int .i64 a3_4] 50 (0, 0)) (by (with_reducible repeat (first | refine blk_drewN ?_ _ | refine blk_drew ?_ | refine blk_alloc ?_ _)); exact BK211.out) hb); have n7_ := As0 (blk_below (g := gb220) (o := .cells #[.int .i64 t215, .int .i64 (wrap64 (t216 + (wrap64 (a4)))), .slice Ao43 y221.length co43] 34 (0, 0)) (by (with_reducible repeat (first | refine blk_drewN ?_ _ | refine blk_drew ?_ | refine blk_alloc ?_ _)); exact BK220.out) hb); have n8_ := As0 (below_step (by repeat (first | (with_reducible first | exact HB.out | apply below_alloc | apply bdN | apply bd1 | refine below_set ?_ GE210.out | refine below_set ?_ GE211.out | refine below_set ?_ GE220.out) | exact HB.out)) hb); clear HO_212000; clear HO_221002; clear BK210; clear BK211; clear BK220; clear HB; have HO_212000 := n0_; have HO_221002 := n1_; have HO232 := n2_; have HO235 := n3_; have HO238 := n4_; have BK210 := n5_; have BK211 := n6_; have BK220 := n7_; have HB := n8_; clear n0_ n1_ n2_ n3_ n4_ n5_ n6_ n7_ n8_; (try clear hb); (try clear hb2); (try clear hk); (try clear hi); (try clear ho0); (try clear ho1); (try clear ho2)) | ((with_reducible refine gate_dst (N := 12) rfl ?_); (try (refine gate_guard (by rfl) ?_; dsimp only)); refine box_event ?hg (N := 12) ?hd (cs := #[.int .i64 0, .int .i64 0, .int .i64 0, .int .i64 0, .slice none 0 0, .slice none 0 0, .slice none 0 0, .int .i64 0]) (t := 39) ?hr ?_; (case hd => rfl); (case hg => rfl); (case hr => first | (go_simp; done) | (go_simp; rfl)); intro gb241 hg w73 hbox hb; have n0_ := As0 (Kd.V_below (Kd.V_elderB (by (with_reducible repeat (first | apply Kd.V_alloc | apply Kd.V_drewN | apply Kd.V_drew)); exact HO_212000.out) gb241 (Nat.le_of_eq hg.symm)) hb); have n1_ := As0 (Kd.N_below (Kd.N_elderB (by (with_reducible repeat (first | apply Kd.N_alloc | apply Kd.N_drewN | apply Kd.N_drew)); exact HO_221002.out) gb241 (Nat.le_of_eq hg.symm)) hb); have n2_ := As0 (Kd.R_below (by (with_reducible repeat (first | apply Kd.R_alloc | apply Kd.R_drewN | apply Kd.R_drew)); exact HO232.out) hb); have n3_ := As0 (Kd.R_below (by (with_reducible repeat (first | apply Kd.R_alloc | apply Kd.R_drewN | apply Kd.R_drew)); exact HO235.out) hb); have n4_ := As0 (Kd.R_below (by (with_reducible repeat (first | apply Kd.R_alloc | apply Kd.R_drewN | apply Kd.R_drew)); exact HO238.out) hb); have n5_ := As0 (blk_below (g := gb210) (o := .cells #[.int .i64 a0_0, .int .i64 a0_1, .slice A0_2 l0_2.length c0_2] 34 (0, 0)) (by (with_reducible repeat (first | refine blk_drewN ?_ _ | refine blk_drew ?_ | refine blk_alloc ?_ _)); exact BK210.out) hb); have n6_ := As0 (blk_below (g := gb211) (o := .cells #[.slice A3_0 l3_0.length c3_0, .int .i64 a3_1, .int .i64 a3_2, .int .i64 a3_3, .int .i64 a3_4] 50 (0, 0)) (by (with_reducible repeat (first | refine blk_drewN ?_ _ | refine blk_drew ?_ | refine blk_alloc ?_ _)); exact BK211.out) hb); have n7_ := As0 (blk_below (g := gb220) (o := .cells #[.int .i64 t215, .int .i64 (wrap64 (t216 + (wrap64 (a4)))), .slice Ao43 y221.length co43] 34 (0, 0)) (by (with_reducible repeat (first | refine blk_drewN ?_ _ | refine blk_drew ?_ | refine blk_alloc ?_ _)); exact BK220.out) hb); have n8_ := As0 (below_step (by repeat (first | (with_reducible first | exact HB.out | apply below_alloc | apply bdN | apply bd1 | refine below_set ?_ GE210.out | refine below_set ?_ GE211.out | refine below_set ?_ GE220.out) | exact HB.out)) hb); have n9_ := As0 (hbox); have n10_ := As0 ((by rw [hg]; exact (below_size (by repeat (first | (with_reducible first | exact HB.out | apply below_alloc | apply bdN | apply bd1 | refine below_set ?_ GE210.out | refine below_set ?_ GE211.out | refine below_set ?_ GE220.out) | exact HB.out))) : w.heap.size ≤ gb241)); have n11_ := As0 ((by rw [hg]; exact (below_size (by repeat (first | (with_reducible first | exact HB.out | apply below_alloc | apply bdN | apply bd1 | refine below_set ?_ GE210.out | refine below_set ?_ GE211.out | refine below_set ?_ GE220.out) | exact HB.out))) : w.heap.size ≤ gb241)); have n12_ := As0 ((by rw [hg]; exact Nat.ne_of_lt (blk_lt (g := gb210) (o := .cells #[.int .i64 a0_0, .int .i64 a0_1, .slice A0_2 l0_2.length c0_2] 34 (0, 0)) (by (with_reducible repeat (first | refine blk_drewN ?_ _ | refine blk_drew ?_ | refine blk_alloc ?_ _)); exact BK210.out)) : gb210 ≠ gb241)); have n13_ := As0 ((by rw [hg]; exact Nat.ne_of_gt (blk_lt (g := gb210) (o := .cells #[.int .i64 a0_0, .int .i64 a0_1, .slice A0_2 l0_2.length c0_2] 34 (0, 0)) (by (with_reducible repeat (first | refine blk_drewN ?_ _ | refine blk_drew ?_ | refine blk_alloc ?_ _)); exact BK210.out)) : gb241 ≠ gb210)); have n14_ := As0 ((by rw [hg]; exact Nat.ne_of_lt (blk_lt (g := gb211) (o := .cells #[.slice A3_0 l3_0.length c3_0, .int .i64 a3_1, .int .i64 a3_2, .int .i64 a3_3, .int .i64 a3_4] 50 (0, 0)) (by (with_reducible repeat (first | refine blk_drewN ?_ _ | refine blk_drew ?_ | refine blk_alloc ?_ _)); exact BK211.out)) : gb211 ≠ gb241)); have n15_ := As0 ((by rw [hg]; exact Nat.ne_of_gt (blk_lt (g := gb211) (o := .cells #[.slice A3_0 l3_0.length c3_0, .int .i64 a3_1, .int .i64 a3_2, .int .i64 a3_3, .int .i64 a3_4] 50 (0, 0)) (by (with_reducible repeat (first | refine blk_drewN ?_ _ | refine blk_drew ?_ | refine blk_alloc ?_ _)); exact BK211.out)) : gb241 ≠ gb211)); have n16_ := As0 ((by rw [hg]; exact Nat.ne_of_lt (blk_lt (g := gb220) (o := .cells #[.int .i64 t215, .int .i64 (wrap64 (t216 + (wrap64 (a4)))), .slice Ao43 y221.length co43] 34 (0, 0)) (by (with_reducible repeat (first | refine blk_drewN ?_ _ | refine blk_drew ?_ | refine blk_alloc ?_ _)); exact BK220.out)) : gb220 ≠ gb241)); have n17_ := As0 ((by rw [hg]; exact Nat.ne_of_gt (blk_lt (g := gb220) (o := .cells #[.int .i64 t215, .int .i64 (wrap64 (t216 + (wrap64 (a4)))), .slice Ao43 y221.length co43] 34 (0, 0)) (by (with_reducible repeat (first | refine blk_drewN ?_ _ | refine blk_drew ?_ | refine blk_alloc ?_ _)); exact BK220.out)) : gb241 ≠ gb220)); clear HO_212000; clear HO_221002; clear HO232; clear HO235; clear HO238; clear BK210; clear BK211; clear BK220; clear HB; have HO_212000 := n0_; have HO_221002 := n1_; have HO232 := n2_; have HO235 := n3_; have HO238 := n4_; have BK210 := n5_; have BK211 := n6_; have BK220 := n7_; have HB := n8_; have BK241 := n9_; have GW241 := n10_; have GE241 := n11_; have NB210_241 := n12_; have NB241_210 := n13_; have NB211_241 := n14_; have NB241_211 := n15_; have NB220_241 := n16_; have NB241_220 := n17_; clear n0_ n1_ n2_ n3_ n4_ n5_ n6_ n7_ n8_ n9_ n10_ n11_ n12_ n13_ n14_ n15_ n16_ n17_; clear hb hbox hg; have hnb74 := NB241_210.out; have hnc74 := NB210_241.out; have hnb75 := NB241_211.out; have hnc75 := NB211_241.out; have hnb76 := NB241_220.out; have hnc76 := NB220_241.out; have hcz77_0 : w73.cell? ⟨gb241, 0, none⟩ = some (.int .i64 0) := (blk_cell BK241.out 0).trans rfl; have hcz77_1 : w73.cell? ⟨gb241, 1, none⟩ = some (.int .i64 0) := (blk_cell BK241.out 1).trans rfl; have hcz77_2 : w73.cell? ⟨gb241, 2, none⟩ = some (.int .i64 0) := (blk_cell BK241.out 2).trans rfl; have hcz77_3 : w73.cell? ⟨gb241, 3, none⟩ = some (.int .i64 0) := (blk_cell BK241.out 3).trans rfl; have hcz77_4 : w73.cell? ⟨gb241, 4, none⟩ = some (.slice none 0 0) := (blk_cell BK241.out 4).trans rfl; have hcz77_5 : w73.cell? ⟨gb241, 5, none⟩ = some (.slice none 0 0) := (blk_cell BK241.out 5).trans rfl; have hcz77_6 : w73.cell? ⟨gb241, 6, none⟩ = some (.slice none 0 0) := (blk_cell BK241.out 6).trans rfl; have hcz77_7 : w73.cell? ⟨gb241, 7, none⟩ = some (.int .i64 0) := (blk_cell BK241.out 7).trans rfl; have hfz77_0 := blk_frozen BK241.out 0; have hfz77_1 := blk_frozen BK241.out 1; have hfz77_2 := blk_frozen BK241.out 2; have hfz77_3 := blk_frozen BK241.out 3; have hfz77_4 := blk_frozen BK241.out 4; have hfz77_5 := blk_frozen BK241.out 5; have hfz77_6 := blk_frozen BK241.out 6; have hfz77_7 := blk_frozen BK241.out 7; obtain ⟨Ao78, co78, eo78⟩ := Kd.R_slice HO232.out; subst eo78; obtain ⟨Ao79, co79, eo79⟩ := Kd.R_slice HO235.out; subst eo79; obtain ⟨Ao80, co80, eo80⟩ := Kd.R_slice HO238.out; subst eo80; have hnb81 := NB220_211.out; have hnc81 := NB211_220.out; have hcz82_0 : w73.cell? ⟨gb220, 0, none⟩ = some (.int .i64 t215) := (blk_cell BK220.out 0).trans rfl; have hcz82_1 : w73.cell? ⟨gb220, 1, none⟩ = some (.int .i64 (wrap64 (t216 + (wrap64 (a4))))) := (blk_cell BK220.out 1).trans rfl; have hcz82_2 : w73.cell? ⟨gb220, 2, none⟩ = some (.slice Ao43 y221.length co43) := (blk_cell BK220.out 2).trans rfl; have hfz82_0 := blk_frozen BK220.out 0; have hfz82_1 := blk_frozen BK220.out 1; have hfz82_2 := blk_frozen BK220.out 2) | ((with_reducible refine gate_callee (f := 31) rfl ?_); refine goesL_ (some 67) rfl rfl Try.func31 (by kernel_rfl) rfl #[.agg #[.int .i64 t215, .int .i64 (wrap64 (t216 + (wrap64 (a4)))), .slice Ao43 y221.length co43], .slice A1 l1.length c1, .int .i64 (wrap64 (a2))] rfl (by (try simp only [List.map_toArray, List.map_cons, List.map_nil]); first | done | rfl | (simp only [List.length_drop, List.length_take]; rfl)) ?_; (with_reducible refine (interp_Exec.calls kj27 t215 (wrap64 (t216 + (wrap64 (a4)))) _ _ y221 _ _ l1 (wrap64 (a2)) t242 t243 t244 t245 t246 t249 t252 t255 t256 _ ?side1 ?side2 ?side3 ?side4 A60.out).mono ?_); (case side1 => refine (Kd.N_reads' (e := 50) (base := w.heap.size) (ok := fun k_ => ((((((P3_0_ k_ ∨ w.heap.size ≤ k_) ∧ (k_ ≠ gb210 ∧ (k_ ≠ gb211 ∧ k_ ≠ gb220))) ∧ some k_ ≠ (.slice Ao78 t230.length co78 : Value).ownBlock) ∧ some k_ ≠ (.slice Ao79 t233.length co79 : Value).ownBlock) ∧ some k_ ≠ (.slice Ao80 t236.length co80 : Value).ownBlock) ∧ k_ ≠ gb241)) (n := y221.length) (c := co43) ?_).2.2; exact (by (with_reducible repeat (first | apply Kd.N_alloc | apply Kd.N_drewN | apply Kd.N_drew)); exact (Kd.N_mono (Kd.N_far (p := ⟨gb241, 7, none⟩) (Kd.N_far (p := ⟨gb241, 6, none⟩) (Kd.N_far (p := ⟨gb241, 5, none⟩) (Kd.N_far (p := ⟨gb241, 4, none⟩) (Kd.N_far (p := ⟨gb241, 3, none⟩) (Kd.N_far (p := ⟨gb241, 2, none⟩) (Kd.N_far (p := ⟨gb241, 1, none⟩) (Kd.N_far (p := ⟨gb241, 0, none⟩) (Kd.N_mono HO_221002.out (fun k_ hk => (⟨hk, hk.2⟩ : _ ∧ k_ ≠ gb241))) (fun _ hk => hk.2) (.int .i64 t226)) (fun _ hk => hk.2) (.int .i64 t227)) (fun _ hk => hk.2) (.int .i64 t228)) (fun _ hk => hk.2) (.int .i64 t229)) (fun _ hk => hk.2) (.slice Ao78 t230.length co78)) (fun _ hk => hk.2) (.slice Ao79 t233.length co79)) (fun _ hk => hk.2) (.slice Ao80 t236.length co80)) (fun _ hk => hk.2) (.int .i64 t239)) (fun _ h_ => h_.1)))); (case side2 => exact (Kd.N_reads' HO_221002.out).2.1); (case side3 => exact Kd.C_below HR1.out (by repeat (first | (with_reducible first | exact HB.out | apply below_alloc | apply bdN | apply bd1 | refine below_set ?_ GE210.out | refine below_set ?_ GE211.out | refine below_set ?_ GE220.out | refine below_set ?_ GE241.out) | exact HB.out))); (case side4 => exact HC1.out); rintro e w83 ⟨v247, v250, v253, rfl, ho0, ho1, ho2, hb⟩; refine ⟨_, rfl, ?_⟩; have n0_ := As0 (Kd.V_mono (Kd.V_told (Kd.V_told (Kd.V_told (Kd.V_old (by (with_reducible repeat (first | apply Kd.V_alloc | apply Kd.V_drewN | apply Kd.V_drew)); exact (Kd.V_mono (Kd.V_far (p := ⟨gb241, 7, none⟩) (Kd.V_far (p := ⟨gb241, 6, none⟩) (Kd.V_far (p := ⟨gb241, 5, none⟩) (Kd.V_far (p := ⟨gb241, 4, none⟩) (Kd.V_far (p := ⟨gb241, 3, none⟩) (Kd.V_far (p := ⟨gb241, 2, none⟩) (Kd.V_far (p := ⟨gb241, 1, none⟩) (Kd.V_far (p := ⟨gb241, 0, none⟩) (Kd.V_mono HO_212000.out (fun k_ hk => (⟨hk, hk.2⟩ : _ ∧ k_ ≠ gb241))) (fun _ hk => hk.2) (.int .i64 t226)) (fun _ hk => hk.2) (.int .i64 t227)) (fun _ hk => hk.2) (.int .i64 t228)) (fun _ hk => hk.2) (.int .i64 t229)) (fun _ hk => hk.2) (.slice Ao78 t230.length co78)) (fun _ hk => hk.2) (.slice Ao79 t233.length co79)) (fun _ hk => hk.2) (.slice Ao80 t236.length co80)) (fun _ hk => hk.2) (.int .i64 t239)) (fun _ h_ => h_.1))) hb) (Kd.R_base ho0)) (Kd.R_base ho1)) (Kd.R_base ho2)) (fun _ h_ => h_.1)); have n1_ := As0 (Kd.N_mono (Kd.N_told (Kd.N_told (Kd.N_told (Kd.N_old (by (with_reducible repeat (first | apply Kd.N_alloc | apply Kd.N_drewN | apply Kd.N_drew)); exact (Kd.N_mono (Kd.N_far (p := ⟨gb241, 7, none⟩) (Kd.N_far (p := ⟨gb241, 6, none⟩) (Kd.N_far (p := ⟨gb241, 5, none⟩) (Kd.N_far (p := ⟨gb241, 4, none⟩) (Kd.N_far (p := ⟨gb241, 3, none⟩) (Kd.N_far (p := ⟨gb241, 2, none⟩) (Kd.N_far (p := ⟨gb241, 1, none⟩) (Kd.N_far (p := ⟨gb241, 0, none⟩) (Kd.N_mono HO_221002.out (fun k_ hk => (⟨hk, hk.2⟩ : _ ∧ k_ ≠ gb241))) (fun _ hk => hk.2) (.int .i64 t226)) (fun _ hk => hk.2) (.int .i64 t227)) (fun _ hk => hk.2) (.int .i64 t228)) (fun _ hk => hk.2) (.int .i64 t229)) (fun _ hk => hk.2) (.slice Ao78 t230.length co78)) (fun _ hk => hk.2) (.slice Ao79 t233.length co79)) (fun _ hk => hk.2) (.slice Ao80 t236.length co80)) (fun _ hk => hk.2) (.int .i64 t239)) (fun _ h_ => h_.1))) hb) (Kd.R_base ho0)) (Kd.R_base ho1)) (Kd.R_base ho2)) (fun _ h_ => h_.1)); have n2_ := As0 (Kd.R_mono (Kd.R_told (Kd.R_told (Kd.R_told (Kd.R_old (by (with_reducible repeat (first | apply Kd.R_alloc | apply Kd.R_drewN | apply Kd.R_drew)); exact (Kd.R_mono (Kd.R_far (p := ⟨gb241, 7, none⟩) (Kd.R_far (p := ⟨gb241, 6, none⟩) (Kd.R_far (p := ⟨gb241, 5, none⟩) (Kd.R_far (p := ⟨gb241, 4, none⟩) (Kd.R_far (p := ⟨gb241, 3, none⟩) (Kd.R_far (p := ⟨gb241, 2, none⟩) (Kd.R_far (p := ⟨gb241, 1, none⟩) (Kd.R_far (p := ⟨gb241, 0, none⟩) (Kd.R_types HO232.out BK241.out (by decide)) (fun _ hk => hk.2) (.int .i64 t226)) (fun _ hk => hk.2) (.int .i64 t227)) (fun _ hk => hk.2) (.int .i64 t228)) (fun _ hk => hk.2) (.int .i64 t229)) (fun _ hk => hk.2) (.slice Ao78 t230.length co78)) (fun _ hk => hk.2) (.slice Ao79 t233.length co79)) (fun _ hk => hk.2) (.slice Ao80 t236.length co80)) (fun _ hk => hk.2) (.int .i64 t239)) (fun _ h_ => h_.1))) hb) (Kd.R_base ho0)) (Kd.R_base ho1)) (Kd.R_base ho2)) (fun _ h_ => h_.1)); have n3_ := As0 (Kd.R_mono (Kd.R_told (Kd.R_told (Kd.R_told (Kd.R_old (by (with_reducible repeat (first | apply Kd.R_alloc | apply Kd.R_drewN | apply Kd.R_drew)); exact (Kd.R_mono (Kd.R_far (p := ⟨gb241, 7, none⟩) (Kd.R_far (p := ⟨gb241, 6, none⟩) (Kd.R_far (p := ⟨gb241, 5, none⟩) (Kd.R_far (p := ⟨gb241, 4, none⟩) (Kd.R_far (p := ⟨gb241, 3, none⟩) (Kd.R_far (p := ⟨gb241, 2, none⟩) (Kd.R_far (p := ⟨gb241, 1, none⟩) (Kd.R_far (p := ⟨gb241, 0, none⟩) (Kd.R_types HO235.out BK241.out (by decide)) (fun _ hk => hk.2) (.int .i64 t226)) (fun _ hk => hk.2) (.int .i64 t227)) (fun _ hk => hk.2) (.int .i64 t228)) (fun _ hk => hk.2) (.int .i64 t229)) (fun _ hk => hk.2) (.slice Ao78 t230.length co78)) (fun _ hk => hk.2) (.slice Ao79 t233.length co79)) (fun _ hk => hk.2) (.slice Ao80 t236.length co80)) (fun _ hk => hk.2) (.int .i64 t239)) (fun _ h_ => h_.1))) hb) (Kd.R_base ho0)) (Kd.R_base ho1)) (Kd.R_base ho2)) (fun _ h_ => h_.1)); have n4_ := As0 (Kd.R_mono (Kd.R_told (Kd.R_told (Kd.R_told (Kd.R_old (by (with_reducible repeat (first | apply Kd.R_alloc | apply Kd.R_drewN | apply Kd.R_drew)); exact (Kd.R_mono (Kd.R_far (p := ⟨gb241, 7, none⟩) (Kd.R_far (p := ⟨gb241, 6, none⟩) (Kd.R_far (p := ⟨gb241, 5, none⟩) (Kd.R_far (p := ⟨gb241, 4, none⟩) (Kd.R_far (p := ⟨gb241, 3, none⟩) (Kd.R_far (p := ⟨gb241, 2, none⟩) (Kd.R_far (p := ⟨gb241, 1, none⟩) (Kd.R_far (p := ⟨gb241, 0, none⟩) (Kd.R_types HO238.out BK241.out (by decide)) (fun _ hk => hk.2) (.int .i64 t226)) (fun _ hk => hk.2) (.int .i64 t227)) (fun _ hk => hk.2) (.int .i64 t228)) (fun _ hk => hk.2) (.int .i64 t229)) (fun _ hk => hk.2) (.slice Ao78 t230.length co78)) (fun _ hk => hk.2) (.slice Ao79 t233.length co79)) (fun _ hk => hk.2) (.slice Ao80 t236.length co80)) (fun _ hk => hk.2) (.int .i64 t239)) (fun _ h_ => h_.1))) hb) (Kd.R_base ho0)) (Kd.R_base ho1)) (Kd.R_base ho2)) (fun _ h_ => h_.1)); have n5_ := As0 (Kd.R_lower (Kd.R_new' (Kd.R_new' (Kd.R_new' (Kd.R_newM (M := fun k_ => (w.heap.size ≤ k_)) ho0 (below_size (by repeat (first | (with_reducible first | exact HB.out | apply below_alloc | apply bdN | apply bd1 | refine below_set ?_ GE210.out | refine below_set ?_ GE211.out | refine below_set ?_ GE220.out | refine below_set ?_ GE241.out) | exact HB.out))) (fun k_ h_ => h_)) (Kd.R_lt (by (with_reducible repeat (first | apply Kd.R_alloc | apply Kd.R_drewN | apply Kd.R_drew)); exact (Kd.R_mono (Kd.R_far (p := ⟨gb241, 7, none⟩) (Kd.R_far (p := ⟨gb241, 6, none⟩) (Kd.R_far (p := ⟨gb241, 5, none⟩) (Kd.R_far (p := ⟨gb241, 4, none⟩) (Kd.R_far (p := ⟨gb241, 3, none⟩) (Kd.R_far (p := ⟨gb241, 2, none⟩) (Kd.R_far (p := ⟨gb241, 1, none⟩) (Kd.R_far (p := ⟨gb241, 0, none⟩) (Kd.R_types HO232.out BK241.out (by decide)) (fun _ hk => hk.2) (.int .i64 t226)) (fun _ hk => hk.2) (.int .i64 t227)) (fun _ hk => hk.2) (.int .i64 t228)) (fun _ hk => hk.2) (.int .i64 t229)) (fun _ hk => hk.2) (.slice Ao78 t230.length co78)) (fun _ hk => hk.2) (.slice Ao79 t233.length co79)) (fun _ hk => hk.2) (.slice Ao80 t236.length co80)) (fun _ hk => hk.2) (.int .i64 t239)) (fun _ h_ => h_.1))))) (Kd.R_lt (by (with_reducible repeat (first | apply Kd.R_alloc | apply Kd.R_drewN | apply Kd.R_drew)); exact (Kd.R_mono (Kd.R_far (p := ⟨gb241, 7, none⟩) (Kd.R_far (p := ⟨gb241, 6, none⟩) (Kd.R_far (p := ⟨gb241, 5, none⟩) (Kd.R_far (p := ⟨gb241, 4, none⟩) (Kd.R_far (p := ⟨gb241, 3, none⟩) (Kd.R_far (p := ⟨gb241, 2, none⟩) (Kd.R_far (p := ⟨gb241, 1, none⟩) (Kd.R_far (p := ⟨gb241, 0, none⟩) (Kd.R_types HO235.out BK241.out (by decide)) (fun _ hk => hk.2) (.int .i64 t226)) (fun _ hk => hk.2) (.int .i64 t227)) (fun _ hk => hk.2) (.int .i64 t228)) (fun _ hk => hk.2) (.int .i64 t229)) (fun _ hk => hk.2) (.slice Ao78 t230.length co78)) (fun _ hk => hk.2) (.slice Ao79 t233.length co79)) (fun _ hk => hk.2) (.slice Ao80 t236.length co80)) (fun _ hk => hk.2) (.int .i64 t239)) (fun _ h_ => h_.1))))) (Kd.R_lt (by (with_reducible repeat (first | apply Kd.R_alloc | apply Kd.R_drewN | apply Kd.R_drew)); exact (Kd.R_mono (Kd.R_far (p := ⟨gb241, 7, none⟩) (Kd.R_far (p := ⟨gb241, 6, none⟩) (Kd.R_far (p := ⟨gb241, 5, none⟩) (Kd.R_far (p := ⟨gb241, 4, none⟩) (Kd.R_far (p := ⟨gb241, 3, none⟩) (Kd.R_far (p := ⟨gb241, 2, none⟩) (Kd.R_far (p := ⟨gb241, 1, none⟩) (Kd.R_far (p := ⟨gb241, 0, none⟩) (Kd.R_types HO238.out BK241.out (by decide)) (fun _ hk => hk.2) (.int .i64 t226)) (fun _ hk => hk.2) (.int .i64 t227)) (fun _ hk => hk.2) (.int .i64 t228)) (fun _ hk => hk.2) (.int .i64 t229)) (fun _ hk => hk.2) (.slice Ao78 t230.length co78)) (fun _ hk => hk.2) (.slice Ao79 t233.length co79)) (fun _ hk => hk.2) (.slice Ao80 t236.length co80)) (fun _ hk => hk.2) (.int .i64 t239)) (fun _ h_ => h_.1))))) (below_size (by repeat (first | (with_reducible first | exact HB.out | apply below_alloc | apply bdN | apply bd1 | refine below_set ?_ GE210.out | refine below_set ?_ GE211.out | refine below_set ?_ GE220.out | refine below_set ?_ GE241.out) | exact HB.out)))); have n6_ := As0 (Kd.R_lower (Kd.R_new' (Kd.R_new' (Kd.R_new' (Kd.R_newM (M := fun k_ => (w.heap.size ≤ k_)) ho1 (below_size (by repeat (first | (with_reducible first | exact HB.out | apply below_alloc | apply bdN | apply bd1 | refine below_set ?_ GE210.out | refine below_set ?_ GE211.out | refine below_set ?_ GE220.out | refine below_set ?_ GE241.out) | exact HB.out))) (fun k_ h_ => h_)) (Kd.R_lt (by (with_reducible repeat (first | apply Kd.R_alloc | apply Kd.R_drewN | apply Kd.R_drew)); exact (Kd.R_mono (Kd.R_far (p := ⟨gb241, 7, none⟩) (Kd.R_far (p := ⟨gb241, 6, none⟩) (Kd.R_far (p := ⟨gb241, 5, none⟩) (Kd.R_far (p := ⟨gb241, 4, none⟩) (Kd.R_far (p := ⟨gb241, 3, none⟩) (Kd.R_far (p := ⟨gb241, 2, none⟩) (Kd.R_far (p := ⟨gb241, 1, none⟩) (Kd.R_far (p := ⟨gb241, 0, none⟩) (Kd.R_types HO232.out BK241.out (by decide)) (fun _ hk => hk.2) (.int .i64 t226)) (fun _ hk => hk.2) (.int .i64 t227)) (fun _ hk => hk.2) (.int .i64 t228)) (fun _ hk => hk.2) (.int .i64 t229)) (fun _ hk => hk.2) (.slice Ao78 t230.length co78)) (fun _ hk => hk.2) (.slice Ao79 t233.length co79)) (fun _ hk => hk.2) (.slice Ao80 t236.length co80)) (fun _ hk => hk.2) (.int .i64 t239)) (fun _ h_ => h_.1))))) (Kd.R_lt (by (with_reducible repeat (first | apply Kd.R_alloc | apply Kd.R_drewN | apply Kd.R_drew)); exact (Kd.R_mono (Kd.R_far (p := ⟨gb241, 7, none⟩) (Kd.R_far (p := ⟨gb241, 6, none⟩) (Kd.R_far (p := ⟨gb241, 5, none⟩) (Kd.R_far (p := ⟨gb241, 4, none⟩) (Kd.R_far (p := ⟨gb241, 3, none⟩) (Kd.R_far (p := ⟨gb241, 2, none⟩) (Kd.R_far (p := ⟨gb241, 1, none⟩) (Kd.R_far (p := ⟨gb241, 0, none⟩) (Kd.R_types HO235.out BK241.out (by decide)) (fun _ hk => hk.2) (.int .i64 t226)) (fun _ hk => hk.2) (.int .i64 t227)) (fun _ hk => hk.2) (.int .i64 t228)) (fun _ hk => hk.2) (.int .i64 t229)) (fun _ hk => hk.2) (.slice Ao78 t230.length co78)) (fun _ hk => hk.2) (.slice Ao79 t233.length co79)) (fun _ hk => hk.2) (.slice Ao80 t236.length co80)) (fun _ hk => hk.2) (.int .i64 t239)) (fun _ h_ => h_.1))))) (Kd.R_lt (by (with_reducible repeat (first | apply Kd.R_alloc | apply Kd.R_drewN | apply Kd.R_drew)); exact (Kd.R_mono (Kd.R_far (p := ⟨gb241, 7, none⟩) (Kd.R_far (p := ⟨gb241, 6, none⟩) (Kd.R_far (p := ⟨gb241, 5, none⟩) (Kd.R_far (p := ⟨gb241, 4, none⟩) (Kd.R_far (p := ⟨gb241, 3, none⟩) (Kd.R_far (p := ⟨gb241, 2, none⟩) (Kd.R_far (p := ⟨gb241, 1, none⟩) (Kd.R_far (p := ⟨gb241, 0, none⟩) (Kd.R_types HO238.out BK241.out (by decide)) (fun _ hk => hk.2) (.int .i64 t226)) (fun _ hk => hk.2) (.int .i64 t227)) (fun _ hk => hk.2) (.int .i64 t228)) (fun _ hk => hk.2) (.int .i64 t229)) (fun _ hk => hk.2) (.slice Ao78 t230.length co78)) (fun _ hk => hk.2) (.slice Ao79 t233.length co79)) (fun _ hk => hk.2) (.slice Ao80 t236.length co80)) (fun _ hk => hk.2) (.int .i64 t239)) (fun _ h_ => h_.1))))) (below_size (by repeat (first | (with_reducible first | exact HB.out | apply below_alloc | apply bdN | apply bd1 | refine below_set ?_ GE210.out | refine below_set ?_ GE211.out | refine below_set ?_ GE220.out | refine below_set ?_ GE241.out) | exact HB.out)))); have n7_ := As0 (Kd.R_lower (Kd.R_new' (Kd.R_new' (Kd.R_new' (Kd.R_newM (M := fun k_ => (w.heap.size ≤ k_)) ho2 (below_size (by repeat (first | (with_reducible first | exact HB.out | apply below_alloc | apply bdN | apply bd1 | refine below_set ?_ GE210.out | refine below_set ?_ GE211.out | refine below_set ?_ GE220.out | refine below_set ?_ GE241.out) | exact HB.out))) (fun k_ h_ => h_)) (Kd.R_lt (by (with_reducible repeat (first | apply Kd.R_alloc | apply Kd.R_drewN | apply Kd.R_drew)); exact (Kd.R_mono (Kd.R_far (p := ⟨gb241, 7, none⟩) (Kd.R_far (p := ⟨gb241, 6, none⟩) (Kd.R_far (p := ⟨gb241, 5, none⟩) (Kd.R_far (p := ⟨gb241, 4, none⟩) (Kd.R_far (p := ⟨gb241, 3, none⟩) (Kd.R_far (p := ⟨gb241, 2, none⟩) (Kd.R_far (p := ⟨gb241, 1, none⟩) (Kd.R_far (p := ⟨gb241, 0, none⟩) (Kd.R_types HO232.out BK241.out (by decide)) (fun _ hk => hk.2) (.int .i64 t226)) (fun _ hk => hk.2) (.int .i64 t227)) (fun _ hk => hk.2) (.int .i64 t228)) (fun _ hk => hk.2) (.int .i64 t229)) (fun _ hk => hk.2) (.slice Ao78 t230.length co78)) (fun _ hk => hk.2) (.slice Ao79 t233.length co79)) (fun _ hk => hk.2) (.slice Ao80 t236.length co80)) (fun _ hk => hk.2) (.int .i64 t239)) (fun _ h_ => h_.1))))) (Kd.R_lt (by (with_reducible repeat (first | apply Kd.R_alloc | apply Kd.R_drewN | apply Kd.R_drew)); exact (Kd.R_mono (Kd.R_far (p := ⟨gb241, 7, none⟩) (Kd.R_far (p := ⟨gb241, 6, none⟩) (Kd.R_far (p := ⟨gb241, 5, none⟩) (Kd.R_far (p := ⟨gb241, 4, none⟩) (Kd.R_far (p := ⟨gb241, 3, none⟩) (Kd.R_far (p := ⟨gb241, 2, none⟩) (Kd.R_far (p := ⟨gb241, 1, none⟩) (Kd.R_far (p := ⟨gb241, 0, none⟩) (Kd.R_types HO235.out BK241.out (by decide)) (fun _ hk => hk.2) (.int .i64 t226)) (fun _ hk => hk.2) (.int .i64 t227)) (fun _ hk => hk.2) (.int .i64 t228)) (fun _ hk => hk.2) (.int .i64 t229)) (fun _ hk => hk.2) (.slice Ao78 t230.length co78)) (fun _ hk => hk.2) (.slice Ao79 t233.length co79)) (fun _ hk => hk.2) (.slice Ao80 t236.length co80)) (fun _ hk => hk.2) (.int .i64 t239)) (fun _ h_ => h_.1))))) (Kd.R_lt (by (with_reducible repeat (first | apply Kd.R_alloc | apply Kd.R_drewN | apply Kd.R_drew)); exact (Kd.R_mono (Kd.R_far (p := ⟨gb241, 7, none⟩) (Kd.R_far (p := ⟨gb241, 6, none⟩) (Kd.R_far (p := ⟨gb241, 5, none⟩) (Kd.R_far (p := ⟨gb241, 4, none⟩) (Kd.R_far (p := ⟨gb241, 3, none⟩) (Kd.R_far (p := ⟨gb241, 2, none⟩) (Kd.R_far (p := ⟨gb241, 1, none⟩) (Kd.R_far (p := ⟨gb241, 0, none⟩) (Kd.R_types HO238.out BK241.out (by decide)) (fun _ hk => hk.2) (.int .i64 t226)) (fun _ hk => hk.2) (.int .i64 t227)) (fun _ hk => hk.2) (.int .i64 t228)) (fun _ hk => hk.2) (.int .i64 t229)) (fun _ hk => hk.2) (.slice Ao78 t230.length co78)) (fun _ hk => hk.2) (.slice Ao79 t233.length co79)) (fun _ hk => hk.2) (.slice Ao80 t236.length co80)) (fun _ hk => hk.2) (.int .i64 t239)) (fun _ h_ => h_.1))))) (below_size (by repeat (first | (with_reducible first | exact HB.out | apply below_alloc | apply bdN | apply bd1 | refine below_set ?_ GE210.out | refine below_set ?_ GE211.out | refine below_set ?_ GE220.out | refine below_set ?_ GE241.out) | exact HB.out)))); have n8_ := As0 (blk_below (g := gb210) (o := .cells #[.int .i64 a0_0, .int .i64 a0_1, .slice A0_2 l0_2.length c0_2] 34 (0, 0)) (by (with_reducible repeat (first | refine blk_drewN ?_ _ | refine blk_drew ?_ | refine blk_alloc ?_ _)); refine blk_far ?_ NB210_241.out _; (with_reducible repeat (first | refine blk_drewN ?_ _ | refine blk_drew ?_ | refine blk_alloc ?_ _)); refine blk_far ?_ NB210_241.out _; (with_reducible repeat (first | refine blk_drewN ?_ _ | refine blk_drew ?_ | refine blk_alloc ?_ _)); refine blk_far ?_ NB210_241.out _; (with_reducible repeat (first | refine blk_drewN ?_ _ | refine blk_drew ?_ | refine blk_alloc ?_ _)); refine blk_far ?_ NB210_241.out _; (with_reducible repeat (first | refine blk_drewN ?_ _ | refine blk_drew ?_ | refine blk_alloc ?_ _)); refine blk_far ?_ NB210_241.out _; (with_reducible repeat (first | refine blk_drewN ?_ _ | refine blk_drew ?_ | refine blk_alloc ?_ _)); refine blk_far ?_ NB210_241.out _; (with_reducible repeat (first | refine blk_drewN ?_ _ | refine blk_drew ?_ | refine blk_alloc ?_ _)); refine blk_far ?_ NB210_241.out _; (with_reducible repeat (first | refine blk_drewN ?_ _ | refine blk_drew ?_ | refine blk_alloc ?_ _)); refine blk_far ?_ NB210_241.out _; (with_reducible repeat (first | refine blk_drewN ?_ _ | refine blk_drew ?_ | refine blk_alloc ?_ _)); exact BK210.out) hb); have n9_ := As0 (blk_below (g := gb211) (o := .cells #[.slice A3_0 l3_0.length c3_0, .int .i64 a3_1, .int .i64 a3_2, .int .i64 a3_3, .int .i64 a3_4] 50 (0, 0)) (by (with_reducible repeat (first | refine blk_drewN ?_ _ | refine blk_drew ?_ | refine blk_alloc ?_ _)); refine blk_far ?_ NB211_241.out _; (with_reducible repeat (first | refine blk_drewN ?_ _ | refine blk_drew ?_ | refine blk_alloc ?_ _)); refine blk_far ?_ NB211_241.out _; (with_reducible repeat (first | refine blk_drewN ?_ _ | refine blk_drew ?_ | refine blk_alloc ?_ _)); refine blk_far ?_ NB211_241.out _; (with_reducible repeat (first | refine blk_drewN ?_ _ | refine blk_drew ?_ | refine blk_alloc ?_ _)); refine blk_far ?_ NB211_241.out _; (with_reducible repeat (first | refine blk_drewN ?_ _ | refine blk_drew ?_ | refine blk_alloc ?_ _)); refine blk_far ?_ NB211_241.out _; (with_reducible repeat (first | refine blk_drewN ?_ _ | refine blk_drew ?_ | refine blk_alloc ?_ _)); refine blk_far ?_ NB211_241.out _; (with_reducible repeat (first | refine blk_drewN ?_ _ | refine blk_drew ?_ | refine blk_alloc ?_ _)); refine blk_far ?_ NB211_241.out _; (with_reducible repeat (first | refine blk_drewN ?_ _ | refine blk_drew ?_ | refine blk_alloc ?_ _)); refine blk_far ?_ NB211_241.out _; (with_reducible repeat (first | refine blk_drewN ?_ _ | refine blk_drew ?_ | refine blk_alloc ?_ _)); exact BK211.out) hb); have n10_ := As0 (blk_below (g := gb220) (o := .cells #[.int .i64 t215, .int .i64 (wrap64 (t216 + (wrap64 (a4)))), .slice Ao43 y221.length co43] 34 (0, 0)) (by (with_reducible repeat (first | refine blk_drewN ?_ _ | refine blk_drew ?_ | refine blk_alloc ?_ _)); refine blk_far ?_ NB220_241.out _; (with_reducible repeat (first | refine blk_drewN ?_ _ | refine blk_drew ?_ | refine blk_alloc ?_ _)); refine blk_far ?_ NB220_241.out _; (with_reducible repeat (first | refine blk_drewN ?_ _ | refine blk_drew ?_ | refine blk_alloc ?_ _)); refine blk_far ?_ NB220_241.out _; (with_reducible repeat (first | refine blk_drewN ?_ _ | refine blk_drew ?_ | refine blk_alloc ?_ _)); refine blk_far ?_ NB220_241.out _; (with_reducible repeat (first | refine blk_drewN ?_ _ | refine blk_drew ?_ | refine blk_alloc ?_ _)); refine blk_far ?_ NB220_241.out _; (with_reducible repeat (first | refine blk_drewN ?_ _ | refine blk_drew ?_ | refine blk_alloc ?_ _)); refine blk_far ?_ NB220_241.out _; (with_reducible repeat (first | refine blk_drewN ?_ _ | refine blk_drew ?_ | refine blk_alloc ?_ _)); refine blk_far ?_ NB220_241.out _; (with_reducible repeat (first | refine blk_drewN ?_ _ | refine blk_drew ?_ | refine blk_alloc ?_ _)); refine blk_far ?_ NB220_241.out _; (with_reducible repeat (first | refine blk_drewN ?_ _ | refine blk_drew ?_ | refine blk_alloc ?_ _)); exact BK220.out) hb); have n11_ := As0 (blk_below (g := gb241) (o := .cells #[.int .i64 t226, .int .i64 t227, .int .i64 t228, .int .i64 t229, .slice Ao78 t230.length co78, .slice Ao79 t233.length co79, .slice Ao80 t236.length co80, .int .i64 t239] 39 (0, 0)) (by (with_reducible repeat (first | refine blk_drewN ?_ _ | refine blk_drew ?_ | refine blk_alloc ?_ _)); refine blk_put (cs := #[.int .i64 t226, .int .i64 t227, .int .i64 t228, .int .i64 t229, .slice Ao78 t230.length co78, .slice Ao79 t233.length co79, .slice Ao80 t236.length co80, .int .i64 0]) ?_ 7 _ rfl; (with_reducible repeat (first | refine blk_drewN ?_ _ | refine blk_drew ?_ | refine blk_alloc ?_ _)); refine blk_put (cs := #[.int .i64 t226, .int .i64 t227, .int .i64 t228, .int .i64 t229, .slice Ao78 t230.length co78, .slice Ao79 t233.length co79, .slice none 0 0, .int .i64 0]) ?_ 6 _ rfl; (with_reducible repeat (first | refine blk_drewN ?_ _ | refine blk_drew ?_ | refine blk_alloc ?_ _)); refine blk_put (cs := #[.int .i64 t226, .int .i64 t227, .int .i64 t228, .int .i64 t229, .slice Ao78 t230.length co78, .slice none 0 0, .slice none 0 0, .int .i64 0]) ?_ 5 _ rfl; (with_reducible repeat (first | refine blk_drewN ?_ _ | refine blk_drew ?_ | refine blk_alloc ?_ _)); refine blk_put (cs := #[.int .i64 t226, .int .i64 t227, .int .i64 t228, .int .i64 t229, .slice none 0 0, .slice none 0 0, .slice none 0 0, .int .i64 0]) ?_ 4 _ rfl; (with_reducible repeat (first | refine blk_drewN ?_ _ | refine blk_drew ?_ | refine blk_alloc ?_ _)); refine blk_put (cs := #[.int .i64 t226, .int .i64 t227, .int .i64 t228, .int .i64 0, .slice none 0 0, .slice none 0 0, .slice none 0 0, .int .i64 0]) ?_ 3 _ rfl; (with_reducible repeat (first | refine blk_drewN ?_ _ | refine blk_drew ?_ | refine blk_alloc ?_ _)); refine blk_put (cs := #[.int .i64 t226, .int .i64 t227, .int .i64 0, .int .i64 0, .slice none 0 0, .slice none 0 0, .slice none 0 0, .int .i64 0]) ?_ 2 _ rfl; (with_reducible repeat (first | refine blk_drewN ?_ _ | refine blk_drew ?_ | refine blk_alloc ?_ _)); refine blk_put (cs := #[.int .i64 t226, .int .i64 0, .int .i64 0, .int .i64 0, .slice none 0 0, .slice none 0 0, .slice none 0 0, .int .i64 0]) ?_ 1 _ rfl; (with_reducible repeat (first | refine blk_drewN ?_ _ | refine blk_drew ?_ | refine blk_alloc ?_ _)); refine blk_put (cs := #[.int .i64 0, .int .i64 0, .int .i64 0, .int .i64 0, .slice none 0 0, .slice none 0 0, .slice none 0 0, .int .i64 0]) ?_ 0 _ rfl; (with_reducible repeat (first | refine blk_drewN ?_ _ | refine blk_drew ?_ | refine blk_alloc ?_ _)); exact BK241.out) hb); have n12_ := As0 (below_step (by repeat (first | (with_reducible first | exact HB.out | apply below_alloc | apply bdN | apply bd1 | refine below_set ?_ GE210.out | refine below_set ?_ GE211.out | refine below_set ?_ GE220.out | refine below_set ?_ GE241.out) | exact HB.out)) hb); clear HO_212000; clear HO_221002; clear HO232; clear HO235; clear HO238; clear BK210; clear BK211; clear BK220; clear BK241; clear HB; have HO_212000 := n0_; have HO_221002 := n1_; have HO232 := n2_; have HO235 := n3_; have HO238 := n4_; have HO248 := n5_; have HO251 := n6_; have HO254 := n7_; have BK210 := n8_; have BK211 := n9_; have BK220 := n10_; have BK241 := n11_; have HB := n12_; clear n0_ n1_ n2_ n3_ n4_ n5_ n6_ n7_ n8_ n9_ n10_ n11_ n12_; (try clear hb); (try clear hb2); (try clear hk); (try clear hi); (try clear ho0); (try clear ho1); (try clear ho2)) | ((with_reducible refine gate_dst (N := 14) rfl ?_); (try (refine gate_guard (by rfl) ?_; dsimp only)); refine box_event ?hg (N := 14) ?hd (cs := #[.int .i64 0, .int .i64 0, .int .i64 0, .int .i64 0, .slice none 0 0, .slice none 0 0, .slice none 0 0, .int .i64 0]) (t := 39) ?hr ?_; (case hd => rfl); (case hg => rfl); (case hr => first | (go_simp; done) | (go_simp; rfl)); intro gb257 hg w84 hbox hb; have n0_ := As0 (Kd.V_below (Kd.V_elderB (by (with_reducible repeat (first | apply Kd.V_alloc | apply Kd.V_drewN | apply Kd.V_drew)); exact HO_212000.out) gb257 (Nat.le_of_eq hg.symm)) hb); have n1_ := As0 (Kd.N_below (Kd.N_elderB (by (with_reducible repeat (first | apply Kd.N_alloc | apply Kd.N_drewN | apply Kd.N_drew)); exact HO_221002.out) gb257 (Nat.le_of_eq hg.symm)) hb); have n2_ := As0 (Kd.R_below (by (with_reducible repeat (first | apply Kd.R_alloc | apply Kd.R_drewN | apply Kd.R_drew)); exact HO232.out) hb); have n3_ := As0 (Kd.R_below (by (with_reducible repeat (first | apply Kd.R_alloc | apply Kd.R_drewN | apply Kd.R_drew)); exact HO235.out) hb); have n4_ := As0 (Kd.R_below (by (with_reducible repeat (first | apply Kd.R_alloc | apply Kd.R_drewN | apply Kd.R_drew)); exact HO238.out) hb); have n5_ := As0 (Kd.R_below (by (with_reducible repeat (first | apply Kd.R_alloc | apply Kd.R_drewN | apply Kd.R_drew)); exact HO248.out) hb); have n6_ := As0 (Kd.R_below (by (with_reducible repeat (first | apply Kd.R_alloc | apply Kd.R_drewN | apply Kd.R_drew)); exact HO251.out) hb); have n7_ := As0 (Kd.R_below (by (with_reducible repeat (first | apply Kd.R_alloc | apply Kd.R_drewN | apply Kd.R_drew)); exact HO254.out) hb); have n8_ := As0 (blk_below (g := gb210) (o := .cells #[.int .i64 a0_0, .int .i64 a0_1, .slice A0_2 l0_2.length c0_2] 34 (0, 0)) (by (with_reducible repeat (first | refine blk_drewN ?_ _ | refine blk_drew ?_ | refine blk_alloc ?_ _)); exact BK210.out) hb); have n9_ := As0 (blk_below (g := gb211) (o := .cells #[.slice A3_0 l3_0.length c3_0, .int .i64 a3_1, .int .i64 a3_2, .int .i64 a3_3, .int .i64 a3_4] 50 (0, 0)) (by (with_reducible repeat (first | refine blk_drewN ?_ _ | refine blk_drew ?_ | refine blk_alloc ?_ _)); exact BK211.out) hb); have n10_ := As0 (blk_below (g := gb220) (o := .cells #[.int .i64 t215, .int .i64 (wrap64 (t216 + (wrap64 (a4)))), .slice Ao43 y221.length co43] 34 (0, 0)) (by (with_reducible repeat (first | refine blk_drewN ?_ _ | refine blk_drew ?_ | refine blk_alloc ?_ _)); exact BK220.out) hb); have n11_ := As0 (blk_below (g := gb241) (o := .cells #[.int .i64 t226, .int .i64 t227, .int .i64 t228, .int .i64 t229, .slice Ao78 t230.length co78, .slice Ao79 t233.length co79, .slice Ao80 t236.length co80, .int .i64 t239] 39 (0, 0)) (by (with_reducible repeat (first | refine blk_drewN ?_ _ | refine blk_drew ?_ | refine blk_alloc ?_ _)); exact BK241.out) hb); have n12_ := As0 (below_step (by repeat (first | (with_reducible first | exact HB.out | apply below_alloc | apply bdN | apply bd1 | refine below_set ?_ GE210.out | refine below_set ?_ GE211.out | refine below_set ?_ GE220.out | refine below_set ?_ GE241.out) | exact HB.out)) hb); have n13_ := As0 (hbox); have n14_ := As0 ((by rw [hg]; exact (below_size (by repeat (first | (with_reducible first | exact HB.out | apply below_alloc | apply bdN | apply bd1 | refine below_set ?_ GE210.out | refine below_set ?_ GE211.out | refine below_set ?_ GE220.out | refine below_set ?_ GE241.out) | exact HB.out))) : w.heap.size ≤ gb257)); have n15_ := As0 ((by rw [hg]; exact (below_size (by repeat (first | (with_reducible first | exact HB.out | apply below_alloc | apply bdN | apply bd1 | refine below_set ?_ GE210.out | refine below_set ?_ GE211.out | refine below_set ?_ GE220.out | refine below_set ?_ GE241.out) | exact HB.out))) : w.heap.size ≤ gb257)); have n16_ := As0 ((by rw [hg]; exact Nat.ne_of_lt (blk_lt (g := gb210) (o := .cells #[.int .i64 a0_0, .int .i64 a0_1, .slice A0_2 l0_2.length c0_2] 34 (0, 0)) (by (with_reducible repeat (first | refine blk_drewN ?_ _ | refine blk_drew ?_ | refine blk_alloc ?_ _)); exact BK210.out)) : gb210 ≠ gb257)); have n17_ := As0 ((by rw [hg]; exact Nat.ne_of_gt (blk_lt (g := gb210) (o := .cells #[.int .i64 a0_0, .int .i64 a0_1, .slice A0_2 l0_2.length c0_2] 34 (0, 0)) (by (with_reducible repeat (first | refine blk_drewN ?_ _ | refine blk_drew ?_ | refine blk_alloc ?_ _)); exact BK210.out)) : gb257 ≠ gb210)); have n18_ := As0 ((by rw [hg]; exact Nat.ne_of_lt (blk_lt (g := gb211) (o := .cells #[.slice A3_0 l3_0.length c3_0, .int .i64 a3_1, .int .i64 a3_2, .int .i64 a3_3, .int .i64 a3_4] 50 (0, 0)) (by (with_reducible repeat (first | refine blk_drewN ?_ _ | refine blk_drew ?_ | refine blk_alloc ?_ _)); exact BK211.out)) : gb211 ≠ gb257)); have n19_ := As0 ((by rw [hg]; exact Nat.ne_of_gt (blk_lt (g := gb211) (o := .cells #[.slice A3_0 l3_0.length c3_0, .int .i64 a3_1, .int .i64 a3_2, .int .i64 a3_3, .int .i64 a3_4] 50 (0, 0)) (by (with_reducible repeat (first | refine blk_drewN ?_ _ | refine blk_drew ?_ | refine blk_alloc ?_ _)); exact BK211.out)) : gb257 ≠ gb211)); have n20_ := As0 ((by rw [hg]; exact Nat.ne_of_lt (blk_lt (g := gb220) (o := .cells #[.int .i64 t215, .int .i64 (wrap64 (t216 + (wrap64 (a4)))), .slice Ao43 y221.length co43] 34 (0, 0)) (by (with_reducible repeat (first | refine blk_drewN ?_ _ | refine blk_drew ?_ | refine blk_alloc ?_ _)); exact BK220.out)) : gb220 ≠ gb257)); have n21_ := As0 ((by rw [hg]; exact Nat.ne_of_gt (blk_lt (g := gb220) (o := .cells #[.int .i64 t215, .int .i64 (wrap64 (t216 + (wrap64 (a4)))), .slice Ao43 y221.length co43] 34 (0, 0)) (by (with_reducible repeat (first | refine blk_drewN ?_ _ | refine blk_drew ?_ | refine blk_alloc ?_ _)); exact BK220.out)) : gb257 ≠ gb220)); have n22_ := As0 ((by rw [hg]; exact Nat.ne_of_lt (blk_lt (g := gb241) (o := .cells #[.int .i64 t226, .int .i64 t227, .int .i64 t228, .int .i64 t229, .slice Ao78 t230.length co78, .slice Ao79 t233.length co79, .slice Ao80 t236.length co80, .int .i64 t239] 39 (0, 0)) (by (with_reducible repeat (first | refine blk_drewN ?_ _ | refine blk_drew ?_ | refine blk_alloc ?_ _)); exact BK241.out)) : gb241 ≠ gb257)); have n23_ := As0 ((by rw [hg]; exact Nat.ne_of_gt (blk_lt (g := gb241) (o := .cells #[.int .i64 t226, .int .i64 t227, .int .i64 t228, .int .i64 t229, .slice Ao78 t230.length co78, .slice Ao79 t233.length co79, .slice Ao80 t236.length co80, .int .i64 t239] 39 (0, 0)) (by (with_reducible repeat (first | refine blk_drewN ?_ _ | refine blk_drew ?_ | refine blk_alloc ?_ _)); exact BK241.out)) : gb257 ≠ gb241)); clear HO_212000; clear HO_221002; clear HO232; clear HO235; clear HO238; clear HO248; clear HO251; clear HO254; clear BK210; clear BK211; clear BK220; clear BK241; clear HB; have HO_212000 := n0_; have HO_221002 := n1_; have HO232 := n2_; have HO235 := n3_; have HO238 := n4_; have HO248 := n5_; have HO251 := n6_; have HO254 := n7_; have BK210 := n8_; have BK211 := n9_; have BK220 := n10_; have BK241 := n11_; have HB := n12_; have BK257 := n13_; have GW257 := n14_; have GE257 := n15_; have NB210_257 := n16_; have NB257_210 := n17_; have NB211_257 := n18_; have NB257_211 := n19_; have NB220_257 := n20_; have NB257_220 := n21_; have NB241_257 := n22_; have NB257_241 := n23_; clear n0_ n1_ n2_ n3_ n4_ n5_ n6_ n7_ n8_ n9_ n10_ n11_ n12_ n13_ n14_ n15_ n16_ n17_ n18_ n19_ n20_ n21_ n22_ n23_; clear hb hbox hg; have hnb85 := NB257_210.out; have hnc85 := NB210_257.out; have hnb86 := NB257_211.out; have hnc86 := NB211_257.out; have hnb87 := NB257_220.out; have hnc87 := NB220_257.out; have hnb88 := NB257_241.out; have hnc88 := NB241_257.out; have hcz89_0 : w84.cell? ⟨gb257, 0, none⟩ = some (.int .i64 0) := (blk_cell BK257.out 0).trans rfl; have hcz89_1 : w84.cell? ⟨gb257, 1, none⟩ = some (.int .i64 0) := (blk_cell BK257.out 1).trans rfl; have hcz89_2 : w84.cell? ⟨gb257, 2, none⟩ = some (.int .i64 0) := (blk_cell BK257.out 2).trans rfl; have hcz89_3 : w84.cell? ⟨gb257, 3, none⟩ = some (.int .i64 0) := (blk_cell BK257.out 3).trans rfl; have hcz89_4 : w84.cell? ⟨gb257, 4, none⟩ = some (.slice none 0 0) := (blk_cell BK257.out 4).trans rfl; have hcz89_5 : w84.cell? ⟨gb257, 5, none⟩ = some (.slice none 0 0) := (blk_cell BK257.out 5).trans rfl; have hcz89_6 : w84.cell? ⟨gb257, 6, none⟩ = some (.slice none 0 0) := (blk_cell BK257.out 6).trans rfl; have hcz89_7 : w84.cell? ⟨gb257, 7, none⟩ = some (.int .i64 0) := (blk_cell BK257.out 7).trans rfl; have hfz89_0 := blk_frozen BK257.out 0; have hfz89_1 := blk_frozen BK257.out 1; have hfz89_2 := blk_frozen BK257.out 2; have hfz89_3 := blk_frozen BK257.out 3; have hfz89_4 := blk_frozen BK257.out 4; have hfz89_5 := blk_frozen BK257.out 5; have hfz89_6 := blk_frozen BK257.out 6; have hfz89_7 := blk_frozen BK257.out 7; obtain ⟨Ao90, co90, eo90⟩ := Kd.R_slice HO248.out; subst eo90; obtain ⟨Ao91, co91, eo91⟩ := Kd.R_slice HO251.out; subst eo91; obtain ⟨Ao92, co92, eo92⟩ := Kd.R_slice HO254.out; subst eo92; have hcz93_0 : w84.cell? ⟨gb241, 0, none⟩ = some (.int .i64 t226) := (blk_cell BK241.out 0).trans rfl; have hcz93_1 : w84.cell? ⟨gb241, 1, none⟩ = some (.int .i64 t227) := (blk_cell BK241.out 1).trans rfl; have hcz93_2 : w84.cell? ⟨gb241, 2, none⟩ = some (.int .i64 t228) := (blk_cell BK241.out 2).trans rfl; have hcz93_3 : w84.cell? ⟨gb241, 3, none⟩ = some (.int .i64 t229) := (blk_cell BK241.out 3).trans rfl; have hcz93_4 : w84.cell? ⟨gb241, 4, none⟩ = some (.slice Ao78 t230.length co78) := (blk_cell BK241.out 4).trans rfl; have hcz93_5 : w84.cell? ⟨gb241, 5, none⟩ = some (.slice Ao79 t233.length co79) := (blk_cell BK241.out 5).trans rfl; have hcz93_6 : w84.cell? ⟨gb241, 6, none⟩ = some (.slice Ao80 t236.length co80) := (blk_cell BK241.out 6).trans rfl; have hcz93_7 : w84.cell? ⟨gb241, 7, none⟩ = some (.int .i64 t239) := (blk_cell BK241.out 7).trans rfl; have hfz93_0 := blk_frozen BK241.out 0; have hfz93_1 := blk_frozen BK241.out 1; have hfz93_2 := blk_frozen BK241.out 2; have hfz93_3 := blk_frozen BK241.out 3; have hfz93_4 := blk_frozen BK241.out 4; have hfz93_5 := blk_frozen BK241.out 5; have hfz93_6 := blk_frozen BK241.out 6; have hfz93_7 := blk_frozen BK241.out 7) | (go_at_call 37; (with_reducible refine (regcertref09_Values.calls kj27 _ _ t236 _ _ t252 true _ ?side1 ?side2 ?side3 ?side4 A66.out).mono ?_); (case side1 => refine (Kd.R_reads' (e := 2) (base := w.heap.size) (ok := fun k_ => (((((w.heap.size ≤ k_) ∧ (some k_ ≠ (.slice Ao78 t230.length co78 : Value).ownBlock ∧ some k_ ≠ (.slice Ao79 t233.length co79 : Value).ownBlock)) ∧ some k_ ≠ (.slice Ao90 t246.length co90 : Value).ownBlock) ∧ some k_ ≠ (.slice Ao91 t249.length co91 : Value).ownBlock) ∧ some k_ ≠ (.slice Ao92 t252.length co92 : Value).ownBlock)) (n := t236.length) (c := co80) ?_).2.2; exact (by (with_reducible repeat (first | apply Kd.R_alloc | apply Kd.R_drewN | apply Kd.R_drew)); exact (Kd.R_mono (Kd.R_far (p := ⟨gb257, 7, none⟩) (Kd.R_far (p := ⟨gb257, 6, none⟩) (Kd.R_far (p := ⟨gb257, 5, none⟩) (Kd.R_far (p := ⟨gb257, 4, none⟩) (Kd.R_far (p := ⟨gb257, 3, none⟩) (Kd.R_far (p := ⟨gb257, 2, none⟩) (Kd.R_far (p := ⟨gb257, 1, none⟩) (Kd.R_far (p := ⟨gb257, 0, none⟩) (Kd.R_types HO238.out BK257.out (by decide)) (fun _ hk => hk.2) (.int .i64 t242)) (fun _ hk => hk.2) (.int .i64 t243)) (fun _ hk => hk.2) (.int .i64 t244)) (fun _ hk => hk.2) (.int .i64 t245)) (fun _ hk => hk.2) (.slice Ao90 t246.length co90)) (fun _ hk => hk.2) (.slice Ao91 t249.length co91)) (fun _ hk => hk.2) (.slice Ao92 t252.length co92)) (fun _ hk => hk.2) (.int .i64 t255)) (fun _ h_ => h_.1)))); (case side2 => exact (Kd.R_reads' HO238.out).2.1); (case side3 => refine (Kd.R_reads' (e := 2) (base := w.heap.size) (ok := fun k_ => (((((w.heap.size ≤ k_) ∧ (some k_ ≠ (.slice Ao90 t246.length co90 : Value).ownBlock ∧ some k_ ≠ (.slice Ao91 t249.length co91 : Value).ownBlock)) ∧ some k_ ≠ (.slice Ao78 t230.length co78 : Value).ownBlock) ∧ some k_ ≠ (.slice Ao79 t233.length co79 : Value).ownBlock) ∧ some k_ ≠ (.slice Ao80 t236.length co80 : Value).ownBlock)) (n := t252.length) (c := co92) ?_).2.2; exact (by (with_reducible repeat (first | apply Kd.R_alloc | apply Kd.R_drewN | apply Kd.R_drew)); exact (Kd.R_mono (Kd.R_far (p := ⟨gb257, 7, none⟩) (Kd.R_far (p := ⟨gb257, 6, none⟩) (Kd.R_far (p := ⟨gb257, 5, none⟩) (Kd.R_far (p := ⟨gb257, 4, none⟩) (Kd.R_far (p := ⟨gb257, 3, none⟩) (Kd.R_far (p := ⟨gb257, 2, none⟩) (Kd.R_far (p := ⟨gb257, 1, none⟩) (Kd.R_far (p := ⟨gb257, 0, none⟩) (Kd.R_types HO254.out BK257.out (by decide)) (fun _ hk => hk.2) (.int .i64 t242)) (fun _ hk => hk.2) (.int .i64 t243)) (fun _ hk => hk.2) (.int .i64 t244)) (fun _ hk => hk.2) (.int .i64 t245)) (fun _ hk => hk.2) (.slice Ao90 t246.length co90)) (fun _ hk => hk.2) (.slice Ao91 t249.length co91)) (fun _ hk => hk.2) (.slice Ao92 t252.length co92)) (fun _ hk => hk.2) (.int .i64 t255)) (fun _ h_ => h_.1)))); (case side4 => exact (Kd.R_reads' HO254.out).2.1); rintro e w' ⟨rfl, ⟨nd, rfl⟩⟩) | (go_at_call 32; (with_reducible refine (regcertref09_Prefix.calls kj27 _ _ t230 _ _ t246 t259 _ ?side1 ?side2 ?side3 ?side4 A68.out).mono ?_); (case side1 => refine (Kd.R_reads' (e := 2) (base := w.heap.size) (ok := fun k_ => (((((w.heap.size ≤ k_) ∧ (some k_ ≠ (.slice Ao79 t233.length co79 : Value).ownBlock ∧ some k_ ≠ (.slice Ao80 t236.length co80 : Value).ownBlock)) ∧ some k_ ≠ (.slice Ao90 t246.length co90 : Value).ownBlock) ∧ some k_ ≠ (.slice Ao91 t249.length co91 : Value).ownBlock) ∧ some k_ ≠ (.slice Ao92 t252.length co92 : Value).ownBlock)) (n := t230.length) (c := co78) ?_).2.2; exact (by (with_reducible repeat (first | apply Kd.R_alloc | apply Kd.R_drewN | apply Kd.R_drew)); exact (Kd.R_mono (Kd.R_far (p := ⟨gb257, 7, none⟩) (Kd.R_far (p := ⟨gb257, 6, none⟩) (Kd.R_far (p := ⟨gb257, 5, none⟩) (Kd.R_far (p := ⟨gb257, 4, none⟩) (Kd.R_far (p := ⟨gb257, 3, none⟩) (Kd.R_far (p := ⟨gb257, 2, none⟩) (Kd.R_far (p := ⟨gb257, 1, none⟩) (Kd.R_far (p := ⟨gb257, 0, none⟩) (Kd.R_types HO232.out BK257.out (by decide)) (fun _ hk => hk.2) (.int .i64 t242)) (fun _ hk => hk.2) (.int .i64 t243)) (fun _ hk => hk.2) (.int .i64 t244)) (fun _ hk => hk.2) (.int .i64 t245)) (fun _ hk => hk.2) (.slice Ao90 t246.length co90)) (fun _ hk => hk.2) (.slice Ao91 t249.length co91)) (fun _ hk => hk.2) (.slice Ao92 t252.length co92)) (fun _ hk => hk.2) (.int .i64 t255)) (fun _ h_ => h_.1)))); (case side2 => exact (Kd.R_reads' HO232.out).2.1); (case side3 => refine (Kd.R_reads' (e := 2) (base := w.heap.size) (ok := fun k_ => (((((w.heap.size ≤ k_) ∧ (some k_ ≠ (.slice Ao91 t249.length co91 : Value).ownBlock ∧ some k_ ≠ (.slice Ao92 t252.length co92 : Value).ownBlock)) ∧ some k_ ≠ (.slice Ao78 t230.length co78 : Value).ownBlock) ∧ some k_ ≠ (.slice Ao79 t233.length co79 : Value).ownBlock) ∧ some k_ ≠ (.slice Ao80 t236.length co80 : Value).ownBlock)) (n := t246.length) (c := co90) ?_).2.2; exact (by (with_reducible repeat (first | apply Kd.R_alloc | apply Kd.R_drewN | apply Kd.R_drew)); exact (Kd.R_mono (Kd.R_far (p := ⟨gb257, 7, none⟩) (Kd.R_far (p := ⟨gb257, 6, none⟩) (Kd.R_far (p := ⟨gb257, 5, none⟩) (Kd.R_far (p := ⟨gb257, 4, none⟩) (Kd.R_far (p := ⟨gb257, 3, none⟩) (Kd.R_far (p := ⟨gb257, 2, none⟩) (Kd.R_far (p := ⟨gb257, 1, none⟩) (Kd.R_far (p := ⟨gb257, 0, none⟩) (Kd.R_types HO248.out BK257.out (by decide)) (fun _ hk => hk.2) (.int .i64 t242)) (fun _ hk => hk.2) (.int .i64 t243)) (fun _ hk => hk.2) (.int .i64 t244)) (fun _ hk => hk.2) (.int .i64 t245)) (fun _ hk => hk.2) (.slice Ao90 t246.length co90)) (fun _ hk => hk.2) (.slice Ao91 t249.length co91)) (fun _ hk => hk.2) (.slice Ao92 t252.length co92)) (fun _ hk => hk.2) (.int .i64 t255)) (fun _ h_ => h_.1)))); (case side4 => exact (Kd.R_reads' HO248.out).2.1); rintro e w' ⟨rfl, ⟨nd, rfl⟩⟩))
              go_ret
              exact ⟨by first | rfl | (simp [errW_none, errW_some] <;> rfl) | (simp [*, errW_none, errW_some] <;> rfl), by repeat (first | (with_reducible first | exact HB.out | apply below_alloc | apply bdN | apply bd1 | refine below_set ?_ GE210.out | refine below_set ?_ GE211.out | refine below_set ?_ GE220.out | refine below_set ?_ GE241.out | refine below_set ?_ GE257.out) | exact HB.out)⟩
             ·replace c67 := Bool.eq_false_iff.mpr c67
              subst c67
              have H1 : (none) = some r := by rw [if_neg (show ¬ (false = true) by decide)] at H; exact H
              clear H
              have H := H1
              clear H1
              exact absurd H (by simp)
            ·rw [if_neg c65] at H
             exact absurd H (by simp)
           ·rw [if_neg c64] at H
            exact absurd H (by simp)
          ·rw [if_neg c63] at H
           exact absurd H (by simp)
         ·rw [if_neg c62] at H
          exact absurd H (by simp)
        ·rw [if_neg c61] at H
         exact absurd H (by simp)
    ·rw [if_neg c27] at H
     exact absurd H (by simp)

end Go.Proofs.Ytgkmagfajalnhaa.Y
