-- Written by a program of this session (xprint), out of the translation. Not trusted: Lean checks it.
import Derived.Test.YtchlilkhgagdeaaX0
import Derived.Test.YtchlilkhgagdeaaX5
import Derived.Test.YtchlilkhgagdeaaX6
namespace Go.Proofs.Ytchlilkhgagdeaa.X
open Go.RowKit Go.Proofs.YtchlilkhgagdeaaW.PrintWords Go.Proofs.YtchlilkhgagdeaaW.PrintLast Go.Proofs.YtchlilkhgagdeaaW.PrintMore
attribute [local go_sem] max2_int min2_int max_two min_two max_three min_three max_four min_four   -- for this text's walks alone
set_option linter.unusedVariables false
set_option linter.unusedSimpArgs false

/-! ### regcertlaw13_AlignIgnoresMoves: function 5 -/
def regcertlaw13_AlignIgnoresMoves.j0 : Nat → List (S25) → List (S28) → Int → Int → Bool → Int → Int → Int → Int → Int → Int → Int → Int → Int → Int → Int → Int → Option (Bool)
 | 0, _, _, _, _, _, _, _, _, _, _, _, _, _, _, _, _, _ => none
 | k + 1, x0, x1, x2, x3, x34, x249000, x249001, x249002, x249003, x249004, x250000, x250001, x250002, x250003, x250004, x250005, x250006 => if x34 = true then ((regcertlaw13_awake.f k).bind fun t251 => (some t251)) else (if (wrap64 ((x0.length : Int) + 1)) = 0 then (none) else (if (wrap64 ((x1.length : Int) + 1)) = 0 then (none) else ((some (([] : List (S25)) : List (S25))).bind fun y252 => (if 0 ≤ (Int.tmod (wrap64 (x2)) (wrap64 ((x0.length : Int) + 1))) then (if (Int.tmod (wrap64 (x2)) (wrap64 ((x0.length : Int) + 1))) ≤ (x0.length : Int) then ((some (x0.take ((Int.tmod (wrap64 (x2)) (wrap64 ((x0.length : Int) + 1))) : Int).toNat : List (S25))).bind fun y255 => (if y252.length + y255.length < 3518437208883 then ((some (y252 ++ y255 : List (S25))).bind fun y259 => ((some (([(⟨2, x249001, x249002, x249003, x249004⟩ : S25)] : List (S25)) : List (S25))).bind fun y262 => (if y259.length + y262.length < 3518437208883 then ((some (y259 ++ y262 : List (S25))).bind fun y265 => ((some (x0.drop ((Int.tmod (wrap64 (x2)) (wrap64 ((x0.length : Int) + 1))) : Int).toNat : List (S25))).bind fun y268 => (if y265.length + y268.length < 3518437208883 then ((some (([] : List (S28)) : List (S28))).bind fun y275 => (if 0 ≤ (Int.tmod (wrap64 (x3)) (wrap64 ((x1.length : Int) + 1))) then (if (Int.tmod (wrap64 (x3)) (wrap64 ((x1.length : Int) + 1))) ≤ (x1.length : Int) then ((some (x1.take ((Int.tmod (wrap64 (x3)) (wrap64 ((x1.length : Int) + 1))) : Int).toNat : List (S28))).bind fun y278 => (if y275.length + y278.length < 2513169434916 then ((some (y275 ++ y278 : List (S28))).bind fun y282 => ((some (([(⟨18, x250001, x250002, x250003, x250004, x250005, x250006⟩ : S28)] : List (S28)) : List (S28))).bind fun y285 => (if y282.length + y285.length < 2513169434916 then ((some (y282 ++ y285 : List (S28))).bind fun y288 => ((some (x1.drop ((Int.tmod (wrap64 (x3)) (wrap64 ((x1.length : Int) + 1))) : Int).toNat : List (S28))).bind fun y291 => (if y288.length + y291.length < 2513169434916 then ((align_Code.f k x0 x1).bind fun bt298 => ((align_Code.f k (y265 ++ y268) (y288 ++ y291)).bind fun bt303 => (if bt298.2.2 = bt303.2.2 then (some ((bt298.1.length : Int) == (bt303.1.length : Int))) else (some false)))) else (none)))) else (none)))) else (none))) else (none)) else (none))) else (none)))) else (none)))) else (none))) else (none)) else (none)))))
def regcertlaw13_AlignIgnoresMoves.f (k : Nat) (l0 : List (S25)) (l1 : List (S28)) (a2 : Int) (a3 : Int) (a4_0 : Int) (a4_1 : Int) (a4_2 : Int) (a4_3 : Int) (a4_4 : Int) (a5_0 : Int) (a5_1 : Int) (a5_2 : Int) (a5_3 : Int) (a5_4 : Int) (a5_5 : Int) (a5_6 : Int) : Option (Bool) := (regcertlaw13_awake.f k).bind fun t250 => (if t250 = true then (if (l0.length : Int) > 300 then (regcertlaw13_AlignIgnoresMoves.j0 k l0 l1 a2 a3 true a4_0 a4_1 a4_2 a4_3 a4_4 a5_0 a5_1 a5_2 a5_3 a5_4 a5_5 a5_6) else (regcertlaw13_AlignIgnoresMoves.j0 k l0 l1 a2 a3 (decide ((l1.length : Int) > 300)) a4_0 a4_1 a4_2 a4_3 a4_4 a5_0 a5_1 a5_2 a5_3 a5_4 a5_5 a5_6)) else (regcertlaw13_AlignIgnoresMoves.j0 k l0 l1 a2 a3 true a4_0 a4_1 a4_2 a4_3 a4_4 a5_0 a5_1 a5_2 a5_3 a5_4 a5_5 a5_6))
theorem regcertlaw13_AlignIgnoresMoves.mono_l : ∀ k, (∀ y0 y1 y2 y3 y4 y5 y6 y7 y8 y9 y10 y11 y12 y13 y14 y15 y16, LeO (regcertlaw13_AlignIgnoresMoves.j0 k y0 y1 y2 y3 y4 y5 y6 y7 y8 y9 y10 y11 y12 y13 y14 y15 y16) (regcertlaw13_AlignIgnoresMoves.j0 (k + 1) y0 y1 y2 y3 y4 y5 y6 y7 y8 y9 y10 y11 y12 y13 y14 y15 y16))
 | 0 => fun _ _ _ _ _ _ _ _ _ _ _ _ _ _ _ _ _ r h => by simp [regcertlaw13_AlignIgnoresMoves.j0] at h
 | k + 1 => by
  have ih0 := regcertlaw13_AlignIgnoresMoves.mono_l k
  ·intro y0 y1 y2 y3 y4 y5 y6 y7 y8 y9 y10 y11 y12 y13 y14 y15 y16
   unfold regcertlaw13_AlignIgnoresMoves.j0
   repeat' first
   | (with_reducible exact ih0 _ _ _ _ _ _ _ _ _ _ _ _ _ _ _ _ _)
   | (with_reducible exact align_Code.mono _ _ _)
   | (with_reducible exact regcertlaw13_awake.mono _)
   | (with_reducible exact LeO.refl _)
   | (with_reducible exact LeO.none _)
   | (with_reducible refine LeO.ite ?_ ?_)
   | (with_reducible refine LeO.bind ?_ (fun _ => ?_))
   | exact ih0 _ _ _ _ _ _ _ _ _ _ _ _ _ _ _ _ _
   | exact align_Code.mono _ _ _
   | exact regcertlaw13_awake.mono _
   | exact LeO.none _
   | refine LeO.ite ?_ ?_
   | refine LeO.bind ?_ (fun _ => ?_)
theorem regcertlaw13_AlignIgnoresMoves.mono : ∀ a0 a1 a2 a3 a4 a5 a6 a7 a8 a9 a10 a11 a12 a13 a14 a15 k, LeO (regcertlaw13_AlignIgnoresMoves.f k a0 a1 a2 a3 a4 a5 a6 a7 a8 a9 a10 a11 a12 a13 a14 a15) (regcertlaw13_AlignIgnoresMoves.f (k + 1) a0 a1 a2 a3 a4 a5 a6 a7 a8 a9 a10 a11 a12 a13 a14 a15) := by
 intro a0 a1 a2 a3 a4 a5 a6 a7 a8 a9 a10 a11 a12 a13 a14 a15 k
 have ih0 := regcertlaw13_AlignIgnoresMoves.mono_l k
 unfold regcertlaw13_AlignIgnoresMoves.f
 repeat' first
   | (with_reducible exact ih0 _ _ _ _ _ _ _ _ _ _ _ _ _ _ _ _ _)
   | (with_reducible exact align_Code.mono _ _ _)
   | (with_reducible exact regcertlaw13_awake.mono _)
   | (with_reducible exact LeO.refl _)
   | (with_reducible exact LeO.none _)
   | (with_reducible refine LeO.ite ?_ ?_)
   | (with_reducible refine LeO.bind ?_ (fun _ => ?_))
   | exact ih0 _ _ _ _ _ _ _ _ _ _ _ _ _ _ _ _ _
   | exact align_Code.mono _ _ _
   | exact regcertlaw13_awake.mono _
   | exact LeO.none _
   | refine LeO.ite ?_ ?_
   | refine LeO.bind ?_ (fun _ => ?_)
def regcertlaw13_AlignIgnoresMoves.T7 : Bool × List (List Nat × List Nat) := (true, [([], []), ([], []), ([], []), ([1, 2], [1, 2]), ([0, 3], [0, 3]), ([], []), ([5], [5]), ([4, 6, 4], [4, 6]), ([], []), ([], []), ([8, 9], [8, 9]), ([7, 10, 7], [7, 10]), ([11, 11, 0, 1, 2, 3, 4, 5, 6, 7, 8, 9, 10, 11], [11])])
def regcertlaw13_AlignIgnoresMoves.B7 : List Nat := [0, 0, 0, 6, 15, 0, 32, 127, 0, 0, 768, 2047, 4095]
theorem regcertlaw13_AlignIgnoresMoves.tab7 : rtab .any (opsOf Try.f5 7) = regcertlaw13_AlignIgnoresMoves.T7 := by kernel_rfl
theorem regcertlaw13_AlignIgnoresMoves.bits7 : waitsOk regcertlaw13_AlignIgnoresMoves.T7.2 regcertlaw13_AlignIgnoresMoves.B7 = true := by kernel_rfl
def regcertlaw13_AlignIgnoresMoves.T8 : Bool × List (List Nat × List Nat) := (true, [([], []), ([], []), ([], []), ([1, 2], [1, 2]), ([0, 3], [0, 3]), ([], []), ([5], [5]), ([4, 6, 4], [4, 6]), ([], []), ([], []), ([8, 9], [8, 9]), ([7, 10, 7], [7, 10]), ([11, 11, 0, 1, 2, 3, 4, 5, 6, 7, 8, 9, 10, 11], [11])])
def regcertlaw13_AlignIgnoresMoves.B8 : List Nat := [0, 0, 0, 6, 15, 0, 32, 127, 0, 0, 768, 2047, 4095]
theorem regcertlaw13_AlignIgnoresMoves.tab8 : rtab .any (opsOf Try.f5 8) = regcertlaw13_AlignIgnoresMoves.T8 := by kernel_rfl
theorem regcertlaw13_AlignIgnoresMoves.bits8 : waitsOk regcertlaw13_AlignIgnoresMoves.T8.2 regcertlaw13_AlignIgnoresMoves.B8 = true := by kernel_rfl
set_option maxHeartbeats 8000000 in
set_option maxRecDepth 100000 in
theorem regcertlaw13_AlignIgnoresMoves.calls (k : Nat) (A0 : Option Addr) (c0 : Nat) (l0 : List (S25)) (A1 : Option Addr) (c1 : Nat) (l1 : List (S28)) (a2 : Int) (a3 : Int) (a4_0 : Int) (a4_1 : Int) (a4_2 : Int) (a4_3 : Int) (a4_4 : Int) (a5_0 : Int) (a5_1 : Int) (a5_2 : Int) (a5_3 : Int) (a5_4 : Int) (a5_5 : Int) (a5_6 : Int) (r : Bool) (w : World) (hr0 : Kd.C k25 w A0 l0.length l0) (hc0 : l0.length ≤ c0) (hr1 : Kd.C k28 w A1 l1.length l1) (hc1 : l1.length ≤ c1) (h : regcertlaw13_AlignIgnoresMoves.f k l0 l1 a2 a3 a4_0 a4_1 a4_2 a4_3 a4_4 a5_0 a5_1 a5_2 a5_3 a5_4 a5_5 a5_6 = some r) :
  Calls Try.prog 5 #[.slice A0 l0.length c0, .slice A1 l1.length c1, .int .u16 a2, .int .u16 a3, .agg #[.int .i64 a4_0, .int .i64 a4_1, .int .i64 a4_2, .int .i64 a4_3, .int .i64 a4_4], .agg #[.int .i64 a5_0, .int .i64 a5_1, .int .i64 a5_2, .int .i64 a5_3, .int .i64 a5_4, .int .i64 a5_5, .int .i64 a5_6]] w fun e w' => e = .returned (.bool r) ∧ Below w.heap.size w w' := by
 have hu25 := Try.underlying25
 have hu28 := Try.underlying28
 have HR0 := As0 hr0
 have HC0 := As0 hc0
 clear hr0 hc0
 have HR1 := As0 hr1
 have HC1 := As0 hc1
 clear hr1 hc1
 have HB := As0 (Below.refl w.heap.size w)
 have H : ((regcertlaw13_awake.f k).bind fun t250 => (if t250 = true then (if (l0.length : Int) > 300 then (regcertlaw13_AlignIgnoresMoves.j0 k l0 l1 a2 a3 true a4_0 a4_1 a4_2 a4_3 a4_4 a5_0 a5_1 a5_2 a5_3 a5_4 a5_5 a5_6) else (regcertlaw13_AlignIgnoresMoves.j0 k l0 l1 a2 a3 (decide ((l1.length : Int) > 300)) a4_0 a4_1 a4_2 a4_3 a4_4 a5_0 a5_1 a5_2 a5_3 a5_4 a5_5 a5_6)) else (regcertlaw13_AlignIgnoresMoves.j0 k l0 l1 a2 a3 true a4_0 a4_1 a4_2 a4_3 a4_4 a5_0 a5_1 a5_2 a5_3 a5_4 a5_5 a5_6))) = some r := h
 clear h
 have HC7 := As0 H
 clear H
 go_enter Try.func5, Try.ntmps5
 go_upto_region 1 with (first | ((with_reducible refine gate_dst (N := 10) rfl ?_); (try (refine gate_guard (by rfl) ?_; dsimp only)); refine box_event ?hg (N := 10) ?hd (cs := #[.int .i64 a4_0, .int .i64 a4_1, .int .i64 a4_2, .int .i64 a4_3, .int .i64 a4_4]) (t := 25) ?hr ?_; (case hd => rfl); (case hg => rfl); (case hr => first | (go_simp; done) | (go_simp; rfl)); intro gb248 hg w8 hbox hb; have n0_ := As0 (below_step (by repeat (first | (with_reducible first | exact HB.out | apply below_alloc | apply bdN | apply bd1) | exact HB.out)) hb); have n1_ := As0 (hbox); have n2_ := As0 ((by rw [hg]; exact (below_size (by repeat (first | (with_reducible first | exact HB.out | apply below_alloc | apply bdN | apply bd1) | exact HB.out))) : w.heap.size ≤ gb248)); have n3_ := As0 ((by rw [hg]; exact (below_size (by repeat (first | (with_reducible first | exact HB.out | apply below_alloc | apply bdN | apply bd1) | exact HB.out))) : w.heap.size ≤ gb248)); clear HB; have HB := n0_; have BK248 := n1_; have GW248 := n2_; have GE248 := n3_; clear n0_ n1_ n2_ n3_; clear hb hbox hg) | ((with_reducible refine gate_dst (N := 11) rfl ?_); (try (refine gate_guard (by rfl) ?_; dsimp only)); refine box_event ?hg (N := 11) ?hd (cs := #[.int .i64 a5_0, .int .i64 a5_1, .int .i64 a5_2, .int .i64 a5_3, .int .i64 a5_4, .int .i64 a5_5, .int .i64 a5_6]) (t := 28) ?hr ?_; (case hd => rfl); (case hg => rfl); (case hr => first | (go_simp; done) | (go_simp; rfl)); intro gb249 hg w9 hbox hb; have n0_ := As0 (blk_below (g := gb248) (o := .cells #[.int .i64 a4_0, .int .i64 a4_1, .int .i64 a4_2, .int .i64 a4_3, .int .i64 a4_4] 25 (0, 0)) (by (with_reducible repeat (first | refine blk_drewN ?_ _ | refine blk_drew ?_ | refine blk_alloc ?_ _)); exact BK248.out) hb); have n1_ := As0 (below_step (by repeat (first | (with_reducible first | exact HB.out | apply below_alloc | apply bdN | apply bd1 | refine below_set ?_ GE248.out) | exact HB.out)) hb); have n2_ := As0 (hbox); have n3_ := As0 ((by rw [hg]; exact (below_size (by repeat (first | (with_reducible first | exact HB.out | apply below_alloc | apply bdN | apply bd1 | refine below_set ?_ GE248.out) | exact HB.out))) : w.heap.size ≤ gb249)); have n4_ := As0 ((by rw [hg]; exact (below_size (by repeat (first | (with_reducible first | exact HB.out | apply below_alloc | apply bdN | apply bd1 | refine below_set ?_ GE248.out) | exact HB.out))) : w.heap.size ≤ gb249)); have n5_ := As0 ((by rw [hg]; exact Nat.ne_of_lt (blk_lt (g := gb248) (o := .cells #[.int .i64 a4_0, .int .i64 a4_1, .int .i64 a4_2, .int .i64 a4_3, .int .i64 a4_4] 25 (0, 0)) (by (with_reducible repeat (first | refine blk_drewN ?_ _ | refine blk_drew ?_ | refine blk_alloc ?_ _)); exact BK248.out)) : gb248 ≠ gb249)); have n6_ := As0 ((by rw [hg]; exact Nat.ne_of_gt (blk_lt (g := gb248) (o := .cells #[.int .i64 a4_0, .int .i64 a4_1, .int .i64 a4_2, .int .i64 a4_3, .int .i64 a4_4] 25 (0, 0)) (by (with_reducible repeat (first | refine blk_drewN ?_ _ | refine blk_drew ?_ | refine blk_alloc ?_ _)); exact BK248.out)) : gb249 ≠ gb248)); clear BK248; clear HB; have BK248 := n0_; have HB := n1_; have BK249 := n2_; have GW249 := n3_; have GE249 := n4_; have NB248_249 := n5_; have NB249_248 := n6_; clear n0_ n1_ n2_ n3_ n4_ n5_ n6_; clear hb hbox hg))
 (try simp only [Act.put, sL1, sL2, sL3])
 go_cut [34] (fun v34 wc => ∃ (kq : Nat) (x34_6 : Bool), v34 = .bool x34_6 ∧ Aside0 (regcertlaw13_AlignIgnoresMoves.j0 kq l0 l1 a2 a3 x34_6 a4_0 a4_1 a4_2 a4_3 a4_4 a5_0 a5_1 a5_2 a5_3 a5_4 a5_5 a5_6 = some r) ∧ Aside0 (kq ≤ k) ∧ Aside0 (wc.heap[gb248]? = some (.cells #[.int .i64 a4_0, .int .i64 a4_1, .int .i64 a4_2, .int .i64 a4_3, .int .i64 a4_4] 25 (0, 0))) ∧ Aside0 (wc.heap[gb249]? = some (.cells #[.int .i64 a5_0, .int .i64 a5_1, .int .i64 a5_2, .int .i64 a5_3, .int .i64 a5_4, .int .i64 a5_5, .int .i64 a5_6] 28 (0, 0))) ∧ Aside0 (Below w.heap.size w wc))
 case first =>
  have H := HC7.out
  clear HC7
  replace H := Option.bind_eq_some_iff.mp H
  obtain ⟨t250, A100, H⟩ := H
  replace H : (if t250 = true then (if (l0.length : Int) > 300 then (regcertlaw13_AlignIgnoresMoves.j0 k l0 l1 a2 a3 true a4_0 a4_1 a4_2 a4_3 a4_4 a5_0 a5_1 a5_2 a5_3 a5_4 a5_5 a5_6) else (regcertlaw13_AlignIgnoresMoves.j0 k l0 l1 a2 a3 (decide ((l1.length : Int) > 300)) a4_0 a4_1 a4_2 a4_3 a4_4 a5_0 a5_1 a5_2 a5_3 a5_4 a5_5 a5_6)) else (regcertlaw13_AlignIgnoresMoves.j0 k l0 l1 a2 a3 true a4_0 a4_1 a4_2 a4_3 a4_4 a5_0 a5_1 a5_2 a5_3 a5_4 a5_5 a5_6)) = some r := H
  have A10 := As0 A100
  clear A100
  by_cases c11 : t250 = true
  ·subst c11
   have H1 : (if (l0.length : Int) > 300 then (regcertlaw13_AlignIgnoresMoves.j0 k l0 l1 a2 a3 true a4_0 a4_1 a4_2 a4_3 a4_4 a5_0 a5_1 a5_2 a5_3 a5_4 a5_5 a5_6) else (regcertlaw13_AlignIgnoresMoves.j0 k l0 l1 a2 a3 (decide ((l1.length : Int) > 300)) a4_0 a4_1 a4_2 a4_3 a4_4 a5_0 a5_1 a5_2 a5_3 a5_4 a5_5 a5_6)) = some r := by rw [if_pos rfl] at H; exact H
   clear H
   have H := H1
   clear H1
   by_cases c12 : (l0.length : Int) > 300
   ·rw [if_pos c12] at H
    have c12b0 : decide (300 < (l0.length : Int)) = true := decide_eq_true c12
    have c12b1 : decide (300 < l0.length) = true := decide_eq_true (by omega)
    clear c12
    (first | rw [c12b0] | (simp only [i64_w, i32_w]; rw [c12b0]) | skip)
    have H' := As0 H
    clear H
    go_wp2_with (first | ((with_reducible refine gate_callee (f := 8) rfl ?_); refine goesL_ (some 23) rfl rfl Try.func8 (by kernel_rfl) rfl #[] rfl (by (try simp only [List.map_toArray, List.map_cons, List.map_nil]); first | done | rfl | (simp only [List.length_drop, List.length_take]; rfl)) ?_; (with_reducible refine (regcertlaw13_awake.calls k  true _ A10.out).mono ?_); rintro e w13 ⟨rfl, hb⟩; refine ⟨_, rfl, ?_⟩; have n0_ := As0 (blk_below (g := gb248) (o := .cells #[.int .i64 a4_0, .int .i64 a4_1, .int .i64 a4_2, .int .i64 a4_3, .int .i64 a4_4] 25 (0, 0)) (by (with_reducible repeat (first | refine blk_drewN ?_ _ | refine blk_drew ?_ | refine blk_alloc ?_ _)); exact BK248.out) hb); have n1_ := As0 (blk_below (g := gb249) (o := .cells #[.int .i64 a5_0, .int .i64 a5_1, .int .i64 a5_2, .int .i64 a5_3, .int .i64 a5_4, .int .i64 a5_5, .int .i64 a5_6] 28 (0, 0)) (by (with_reducible repeat (first | refine blk_drewN ?_ _ | refine blk_drew ?_ | refine blk_alloc ?_ _)); exact BK249.out) hb); have n2_ := As0 (below_step (by repeat (first | (with_reducible first | exact HB.out | apply below_alloc | apply bdN | apply bd1 | refine below_set ?_ GE248.out | refine below_set ?_ GE249.out) | exact HB.out)) hb); clear BK248; clear BK249; clear HB; have BK248 := n0_; have BK249 := n1_; have HB := n2_; clear n0_ n1_ n2_; (try clear hb); (try clear hb2); (try clear hk); (try clear hi)))
    go_meet
    case rel => exact ⟨_, (true), (by first | rfl | (simp; done) | (simp [*]; done)), H', ⟨by first | omega | exact Nat.le_refl _⟩, ⟨by (with_reducible repeat (first | refine blk_drewN ?_ _ | refine blk_drew ?_ | refine blk_alloc ?_ _)); exact BK248.out⟩, ⟨by (with_reducible repeat (first | refine blk_drewN ?_ _ | refine blk_drew ?_ | refine blk_alloc ?_ _)); exact BK249.out⟩, ⟨by repeat (first | (with_reducible first | exact HB.out | apply below_alloc | apply bdN | apply bd1 | refine below_set ?_ GE248.out | refine below_set ?_ GE249.out) | exact HB.out)⟩⟩
   ·rw [if_neg c12] at H
    have c12b0 : decide (300 < (l0.length : Int)) = false := decide_eq_false c12
    have c12b1 : decide (300 < l0.length) = false := decide_eq_false (by omega)
    clear c12
    (first | rw [c12b0] | (simp only [i64_w, i32_w]; rw [c12b0]) | skip)
    have H' := As0 H
    clear H
    go_wp2_with (first | ((with_reducible refine gate_callee (f := 8) rfl ?_); refine goesL_ (some 23) rfl rfl Try.func8 (by kernel_rfl) rfl #[] rfl (by (try simp only [List.map_toArray, List.map_cons, List.map_nil]); first | done | rfl | (simp only [List.length_drop, List.length_take]; rfl)) ?_; (with_reducible refine (regcertlaw13_awake.calls k  true _ A10.out).mono ?_); rintro e w14 ⟨rfl, hb⟩; refine ⟨_, rfl, ?_⟩; have n0_ := As0 (blk_below (g := gb248) (o := .cells #[.int .i64 a4_0, .int .i64 a4_1, .int .i64 a4_2, .int .i64 a4_3, .int .i64 a4_4] 25 (0, 0)) (by (with_reducible repeat (first | refine blk_drewN ?_ _ | refine blk_drew ?_ | refine blk_alloc ?_ _)); exact BK248.out) hb); have n1_ := As0 (blk_below (g := gb249) (o := .cells #[.int .i64 a5_0, .int .i64 a5_1, .int .i64 a5_2, .int .i64 a5_3, .int .i64 a5_4, .int .i64 a5_5, .int .i64 a5_6] 28 (0, 0)) (by (with_reducible repeat (first | refine blk_drewN ?_ _ | refine blk_drew ?_ | refine blk_alloc ?_ _)); exact BK249.out) hb); have n2_ := As0 (below_step (by repeat (first | (with_reducible first | exact HB.out | apply below_alloc | apply bdN | apply bd1 | refine below_set ?_ GE248.out | refine below_set ?_ GE249.out) | exact HB.out)) hb); clear BK248; clear BK249; clear HB; have BK248 := n0_; have BK249 := n1_; have HB := n2_; clear n0_ n1_ n2_; (try clear hb); (try clear hb2); (try clear hk); (try clear hi)))
    go_meet
    case rel => exact ⟨_, (decide ((l1.length : Int) > 300)), (by first | rfl | (simp; done) | (simp [*]; done)), H', ⟨by first | omega | exact Nat.le_refl _⟩, ⟨by (with_reducible repeat (first | refine blk_drewN ?_ _ | refine blk_drew ?_ | refine blk_alloc ?_ _)); exact BK248.out⟩, ⟨by (with_reducible repeat (first | refine blk_drewN ?_ _ | refine blk_drew ?_ | refine blk_alloc ?_ _)); exact BK249.out⟩, ⟨by repeat (first | (with_reducible first | exact HB.out | apply below_alloc | apply bdN | apply bd1 | refine below_set ?_ GE248.out | refine below_set ?_ GE249.out) | exact HB.out)⟩⟩
  ·replace c11 := Bool.eq_false_iff.mpr c11
   subst c11
   have H1 : (regcertlaw13_AlignIgnoresMoves.j0 k l0 l1 a2 a3 true a4_0 a4_1 a4_2 a4_3 a4_4 a5_0 a5_1 a5_2 a5_3 a5_4 a5_5 a5_6) = some r := by rw [if_neg (show ¬ (false = true) by decide)] at H; exact H
   clear H
   have H := H1
   clear H1
   have H' := As0 H
   clear H
   go_wp2_with (first | ((with_reducible refine gate_callee (f := 8) rfl ?_); refine goesL_ (some 23) rfl rfl Try.func8 (by kernel_rfl) rfl #[] rfl (by (try simp only [List.map_toArray, List.map_cons, List.map_nil]); first | done | rfl | (simp only [List.length_drop, List.length_take]; rfl)) ?_; (with_reducible refine (regcertlaw13_awake.calls k  false _ A10.out).mono ?_); rintro e w15 ⟨rfl, hb⟩; refine ⟨_, rfl, ?_⟩; have n0_ := As0 (blk_below (g := gb248) (o := .cells #[.int .i64 a4_0, .int .i64 a4_1, .int .i64 a4_2, .int .i64 a4_3, .int .i64 a4_4] 25 (0, 0)) (by (with_reducible repeat (first | refine blk_drewN ?_ _ | refine blk_drew ?_ | refine blk_alloc ?_ _)); exact BK248.out) hb); have n1_ := As0 (blk_below (g := gb249) (o := .cells #[.int .i64 a5_0, .int .i64 a5_1, .int .i64 a5_2, .int .i64 a5_3, .int .i64 a5_4, .int .i64 a5_5, .int .i64 a5_6] 28 (0, 0)) (by (with_reducible repeat (first | refine blk_drewN ?_ _ | refine blk_drew ?_ | refine blk_alloc ?_ _)); exact BK249.out) hb); have n2_ := As0 (below_step (by repeat (first | (with_reducible first | exact HB.out | apply below_alloc | apply bdN | apply bd1 | refine below_set ?_ GE248.out | refine below_set ?_ GE249.out) | exact HB.out)) hb); clear BK248; clear BK249; clear HB; have BK248 := n0_; have BK249 := n1_; have HB := n2_; clear n0_ n1_ n2_; (try clear hb); (try clear hb2); (try clear hk); (try clear hi)))
   go_meet
   case rel => exact ⟨_, (true), (by first | rfl | (simp; done) | (simp [*]; done)), H', ⟨by first | omega | exact Nat.le_refl _⟩, ⟨by (with_reducible repeat (first | refine blk_drewN ?_ _ | refine blk_drew ?_ | refine blk_alloc ?_ _)); exact BK248.out⟩, ⟨by (with_reducible repeat (first | refine blk_drewN ?_ _ | refine blk_drew ?_ | refine blk_alloc ?_ _)); exact BK249.out⟩, ⟨by repeat (first | (with_reducible first | exact HB.out | apply below_alloc | apply bdN | apply bd1 | refine below_set ?_ GE248.out | refine below_set ?_ GE249.out) | exact HB.out)⟩⟩
 case rest =>
  clear HC7
  try clear c1
  try clear p2
  try clear c5
  try clear c8
  try clear c11
  try clear c12
  try clear c12b0
  try clear c12b1
  obtain ⟨kq, x34_6, rfl, HA, HJ6, BK248, BK249, HB⟩ := hcut
  cases kq with
  | zero => exact absurd HA.out (by simp [regcertlaw13_AlignIgnoresMoves.j0])
  | succ kj6 =>
   have H := HA.out
   clear HA
   simp only [regcertlaw13_AlignIgnoresMoves.j0] at H
   by_cases c16 : x34_6 = true
   ·subst c16
    have H1 : ((regcertlaw13_awake.f kj6).bind fun t251 => (some t251)) = some r := by rw [if_pos rfl] at H; exact H
    clear H
    have H := H1
    clear H1
    replace H := Option.bind_eq_some_iff.mp H
    obtain ⟨t251, A170, H⟩ := H
    replace H : (some t251) = some r := H
    have A17 := As0 A170
    clear A170
    obtain rfl := Option.some.inj H
    go_wp2_with (first | ((with_reducible refine gate_callee (f := 8) rfl ?_); refine goesL_ (some 35) rfl rfl Try.func8 (by kernel_rfl) rfl #[] rfl (by (try simp only [List.map_toArray, List.map_cons, List.map_nil]); first | done | rfl | (simp only [List.length_drop, List.length_take]; rfl)) ?_; (with_reducible refine (regcertlaw13_awake.calls kj6  t251 _ A17.out).mono ?_); rintro e w18 ⟨rfl, hb⟩; refine ⟨_, rfl, ?_⟩; have n0_ := As0 (blk_below (g := gb248) (o := .cells #[.int .i64 a4_0, .int .i64 a4_1, .int .i64 a4_2, .int .i64 a4_3, .int .i64 a4_4] 25 (0, 0)) (by (with_reducible repeat (first | refine blk_drewN ?_ _ | refine blk_drew ?_ | refine blk_alloc ?_ _)); exact BK248.out) hb); have n1_ := As0 (blk_below (g := gb249) (o := .cells #[.int .i64 a5_0, .int .i64 a5_1, .int .i64 a5_2, .int .i64 a5_3, .int .i64 a5_4, .int .i64 a5_5, .int .i64 a5_6] 28 (0, 0)) (by (with_reducible repeat (first | refine blk_drewN ?_ _ | refine blk_drew ?_ | refine blk_alloc ?_ _)); exact BK249.out) hb); have n2_ := As0 (below_step (by repeat (first | (with_reducible first | exact HB.out | apply below_alloc | apply bdN | apply bd1 | refine below_set ?_ GE248.out | refine below_set ?_ GE249.out) | exact HB.out)) hb); clear BK248; clear BK249; clear HB; have BK248 := n0_; have BK249 := n1_; have HB := n2_; clear n0_ n1_ n2_; (try clear hb); (try clear hb2); (try clear hk); (try clear hi)))
    go_ret
    exact ⟨by first | rfl | (simp [errW_none, errW_some] <;> rfl) | (simp [*, errW_none, errW_some] <;> rfl), by repeat (first | (with_reducible first | exact HB.out | apply below_alloc | apply bdN | apply bd1 | refine below_set ?_ GE248.out | refine below_set ?_ GE249.out) | exact HB.out)⟩
   ·replace c16 := Bool.eq_false_iff.mpr c16
    subst c16
    have H1 : (if (wrap64 ((l0.length : Int) + 1)) = 0 then (none) else (if (wrap64 ((l1.length : Int) + 1)) = 0 then (none) else ((some (([] : List (S25)) : List (S25))).bind fun y252 => (if 0 ≤ (Int.tmod (wrap64 (a2)) (wrap64 ((l0.length : Int) + 1))) then (if (Int.tmod (wrap64 (a2)) (wrap64 ((l0.length : Int) + 1))) ≤ (l0.length : Int) then ((some (l0.take ((Int.tmod (wrap64 (a2)) (wrap64 ((l0.length : Int) + 1))) : Int).toNat : List (S25))).bind fun y255 => (if y252.length + y255.length < 3518437208883 then ((some (y252 ++ y255 : List (S25))).bind fun y259 => ((some (([(⟨2, a4_1, a4_2, a4_3, a4_4⟩ : S25)] : List (S25)) : List (S25))).bind fun y262 => (if y259.length + y262.length < 3518437208883 then ((some (y259 ++ y262 : List (S25))).bind fun y265 => ((some (l0.drop ((Int.tmod (wrap64 (a2)) (wrap64 ((l0.length : Int) + 1))) : Int).toNat : List (S25))).bind fun y268 => (if y265.length + y268.length < 3518437208883 then ((some (([] : List (S28)) : List (S28))).bind fun y275 => (if 0 ≤ (Int.tmod (wrap64 (a3)) (wrap64 ((l1.length : Int) + 1))) then (if (Int.tmod (wrap64 (a3)) (wrap64 ((l1.length : Int) + 1))) ≤ (l1.length : Int) then ((some (l1.take ((Int.tmod (wrap64 (a3)) (wrap64 ((l1.length : Int) + 1))) : Int).toNat : List (S28))).bind fun y278 => (if y275.length + y278.length < 2513169434916 then ((some (y275 ++ y278 : List (S28))).bind fun y282 => ((some (([(⟨18, a5_1, a5_2, a5_3, a5_4, a5_5, a5_6⟩ : S28)] : List (S28)) : List (S28))).bind fun y285 => (if y282.length + y285.length < 2513169434916 then ((some (y282 ++ y285 : List (S28))).bind fun y288 => ((some (l1.drop ((Int.tmod (wrap64 (a3)) (wrap64 ((l1.length : Int) + 1))) : Int).toNat : List (S28))).bind fun y291 => (if y288.length + y291.length < 2513169434916 then ((align_Code.f kj6 l0 l1).bind fun bt298 => ((align_Code.f kj6 (y265 ++ y268) (y288 ++ y291)).bind fun bt303 => (if bt298.2.2 = bt303.2.2 then (some ((bt298.1.length : Int) == (bt303.1.length : Int))) else (some false)))) else (none)))) else (none)))) else (none))) else (none)) else (none))) else (none)))) else (none)))) else (none))) else (none)) else (none))))) = some r := by rw [if_neg (show ¬ (false = true) by decide)] at H; exact H
    clear H
    have H := H1
    clear H1
    by_cases c19 : (wrap64 ((l0.length : Int) + 1)) = 0
    ·rw [if_pos c19] at H
     exact absurd H (by simp)
    ·rw [if_neg c19] at H
     have c19b0 : ((wrap64 ((l0.length : Int) + 1)) == 0) = false := beq_eq_false_iff_ne.mpr c19
     have c19b1 : ((wrap64 ((l0.length : Int) + 1)) != 0) = true := bne_iff_ne.mpr c19
     by_cases c20 : (wrap64 ((l1.length : Int) + 1)) = 0
     ·rw [if_pos c20] at H
      exact absurd H (by simp)
     ·rw [if_neg c20] at H
      have c20b0 : ((wrap64 ((l1.length : Int) + 1)) == 0) = false := beq_eq_false_iff_ne.mpr c20
      have c20b1 : ((wrap64 ((l1.length : Int) + 1)) != 0) = true := bne_iff_ne.mpr c20
      obtain ⟨y252, hy252⟩ : ∃ y_ : List (S25), y_ = (([] : List (S25))) := ⟨_, rfl⟩
      replace H : (if 0 ≤ (Int.tmod (wrap64 (a2)) (wrap64 ((l0.length : Int) + 1))) then (if (Int.tmod (wrap64 (a2)) (wrap64 ((l0.length : Int) + 1))) ≤ (l0.length : Int) then ((some (l0.take ((Int.tmod (wrap64 (a2)) (wrap64 ((l0.length : Int) + 1))) : Int).toNat : List (S25))).bind fun y255 => (if y252.length + y255.length < 3518437208883 then ((some (y252 ++ y255 : List (S25))).bind fun y259 => ((some (([(⟨2, a4_1, a4_2, a4_3, a4_4⟩ : S25)] : List (S25)) : List (S25))).bind fun y262 => (if y259.length + y262.length < 3518437208883 then ((some (y259 ++ y262 : List (S25))).bind fun y265 => ((some (l0.drop ((Int.tmod (wrap64 (a2)) (wrap64 ((l0.length : Int) + 1))) : Int).toNat : List (S25))).bind fun y268 => (if y265.length + y268.length < 3518437208883 then ((some (([] : List (S28)) : List (S28))).bind fun y275 => (if 0 ≤ (Int.tmod (wrap64 (a3)) (wrap64 ((l1.length : Int) + 1))) then (if (Int.tmod (wrap64 (a3)) (wrap64 ((l1.length : Int) + 1))) ≤ (l1.length : Int) then ((some (l1.take ((Int.tmod (wrap64 (a3)) (wrap64 ((l1.length : Int) + 1))) : Int).toNat : List (S28))).bind fun y278 => (if y275.length + y278.length < 2513169434916 then ((some (y275 ++ y278 : List (S28))).bind fun y282 => ((some (([(⟨18, a5_1, a5_2, a5_3, a5_4, a5_5, a5_6⟩ : S28)] : List (S28)) : List (S28))).bind fun y285 => (if y282.length + y285.length < 2513169434916 then ((some (y282 ++ y285 : List (S28))).bind fun y288 => ((some (l1.drop ((Int.tmod (wrap64 (a3)) (wrap64 ((l1.length : Int) + 1))) : Int).toNat : List (S28))).bind fun y291 => (if y288.length + y291.length < 2513169434916 then ((align_Code.f kj6 l0 l1).bind fun bt298 => ((align_Code.f kj6 (y265 ++ y268) (y288 ++ y291)).bind fun bt303 => (if bt298.2.2 = bt303.2.2 then (some ((bt298.1.length : Int) == (bt303.1.length : Int))) else (some false)))) else (none)))) else (none)))) else (none))) else (none)) else (none))) else (none)))) else (none)))) else (none))) else (none)) else (none)) = some r := by first | (rw [hy252]; with_reducible exact H) | (have H2_ := (Option.bind_some _ _).symm.trans H; rw [hy252]; with_reducible exact H2_) | (have H2_ := (Option.bind_some _ _).symm.trans H; with_reducible exact H2_) | with_reducible exact H | (rw [hy252]; exact H) | exact H
      have Ny252 := As0 hy252
      clear hy252
      obtain ⟨ji21, hji21⟩ : ∃ j_ : Int, (Int.tmod (wrap64 (a2)) (wrap64 ((l0.length : Int) + 1))) = j_ := ⟨_, rfl⟩
      replace H : (if 0 ≤ (ji21) then (if (ji21) ≤ (l0.length : Int) then ((some (l0.take ((ji21) : Int).toNat : List (S25))).bind fun y255 => (if y252.length + y255.length < 3518437208883 then ((some (y252 ++ y255 : List (S25))).bind fun y259 => ((some (([(⟨2, a4_1, a4_2, a4_3, a4_4⟩ : S25)] : List (S25)) : List (S25))).bind fun y262 => (if y259.length + y262.length < 3518437208883 then ((some (y259 ++ y262 : List (S25))).bind fun y265 => ((some (l0.drop ((ji21) : Int).toNat : List (S25))).bind fun y268 => (if y265.length + y268.length < 3518437208883 then ((some (([] : List (S28)) : List (S28))).bind fun y275 => (if 0 ≤ (Int.tmod (wrap64 (a3)) (wrap64 ((l1.length : Int) + 1))) then (if (Int.tmod (wrap64 (a3)) (wrap64 ((l1.length : Int) + 1))) ≤ (l1.length : Int) then ((some (l1.take ((Int.tmod (wrap64 (a3)) (wrap64 ((l1.length : Int) + 1))) : Int).toNat : List (S28))).bind fun y278 => (if y275.length + y278.length < 2513169434916 then ((some (y275 ++ y278 : List (S28))).bind fun y282 => ((some (([(⟨18, a5_1, a5_2, a5_3, a5_4, a5_5, a5_6⟩ : S28)] : List (S28)) : List (S28))).bind fun y285 => (if y282.length + y285.length < 2513169434916 then ((some (y282 ++ y285 : List (S28))).bind fun y288 => ((some (l1.drop ((Int.tmod (wrap64 (a3)) (wrap64 ((l1.length : Int) + 1))) : Int).toNat : List (S28))).bind fun y291 => (if y288.length + y291.length < 2513169434916 then ((align_Code.f kj6 l0 l1).bind fun bt298 => ((align_Code.f kj6 (y265 ++ y268) (y288 ++ y291)).bind fun bt303 => (if bt298.2.2 = bt303.2.2 then (some ((bt298.1.length : Int) == (bt303.1.length : Int))) else (some false)))) else (none)))) else (none)))) else (none))) else (none)) else (none))) else (none)))) else (none)))) else (none))) else (none)) else (none)) = some r := by first | (rw [hji21] at H; exact H) | (simp only [hji21] at H ⊢; exact H)
      by_cases c22 : 0 ≤ (ji21)
      ·rw [if_pos c22] at H
       have c22b0 := eq_true c22
       have c22b1 : decide (0 ≤ (ji21)) = true := decide_eq_true c22
       clear c22
       by_cases c23 : (ji21) ≤ (l0.length : Int)
       ·rw [if_pos c23] at H
        have c23b0 := eq_true c23
        have c23b1 : decide ((ji21) ≤ (l0.length : Int)) = true := decide_eq_true c23
        clear c23
        obtain ⟨y255, hy255⟩ : ∃ y_ : List (S25), y_ = (l0.take ((ji21) : Int).toNat) := ⟨_, rfl⟩
        replace H : (if y252.length + y255.length < 3518437208883 then ((some (y252 ++ y255 : List (S25))).bind fun y259 => ((some (([(⟨2, a4_1, a4_2, a4_3, a4_4⟩ : S25)] : List (S25)) : List (S25))).bind fun y262 => (if y259.length + y262.length < 3518437208883 then ((some (y259 ++ y262 : List (S25))).bind fun y265 => ((some (l0.drop ((ji21) : Int).toNat : List (S25))).bind fun y268 => (if y265.length + y268.length < 3518437208883 then ((some (([] : List (S28)) : List (S28))).bind fun y275 => (if 0 ≤ (Int.tmod (wrap64 (a3)) (wrap64 ((l1.length : Int) + 1))) then (if (Int.tmod (wrap64 (a3)) (wrap64 ((l1.length : Int) + 1))) ≤ (l1.length : Int) then ((some (l1.take ((Int.tmod (wrap64 (a3)) (wrap64 ((l1.length : Int) + 1))) : Int).toNat : List (S28))).bind fun y278 => (if y275.length + y278.length < 2513169434916 then ((some (y275 ++ y278 : List (S28))).bind fun y282 => ((some (([(⟨18, a5_1, a5_2, a5_3, a5_4, a5_5, a5_6⟩ : S28)] : List (S28)) : List (S28))).bind fun y285 => (if y282.length + y285.length < 2513169434916 then ((some (y282 ++ y285 : List (S28))).bind fun y288 => ((some (l1.drop ((Int.tmod (wrap64 (a3)) (wrap64 ((l1.length : Int) + 1))) : Int).toNat : List (S28))).bind fun y291 => (if y288.length + y291.length < 2513169434916 then ((align_Code.f kj6 l0 l1).bind fun bt298 => ((align_Code.f kj6 (y265 ++ y268) (y288 ++ y291)).bind fun bt303 => (if bt298.2.2 = bt303.2.2 then (some ((bt298.1.length : Int) == (bt303.1.length : Int))) else (some false)))) else (none)))) else (none)))) else (none))) else (none)) else (none))) else (none)))) else (none)))) else (none)) = some r := by first | (rw [hy255]; with_reducible exact H) | (have H2_ := (Option.bind_some _ _).symm.trans H; rw [hy255]; with_reducible exact H2_) | (have H2_ := (Option.bind_some _ _).symm.trans H; with_reducible exact H2_) | with_reducible exact H | (rw [hy255]; exact H) | exact H
        have Ny255 := As0 hy255
        clear hy255
        by_cases c24 : y252.length + y255.length < 3518437208883
        ·rw [if_pos c24] at H
         have LMc24 := As0 c24
         clear c24
         obtain ⟨y259, hy259⟩ : ∃ y_ : List (S25), y_ = (y252 ++ y255) := ⟨_, rfl⟩
         replace H : ((some (([(⟨2, a4_1, a4_2, a4_3, a4_4⟩ : S25)] : List (S25)) : List (S25))).bind fun y262 => (if y259.length + y262.length < 3518437208883 then ((some (y259 ++ y262 : List (S25))).bind fun y265 => ((some (l0.drop ((ji21) : Int).toNat : List (S25))).bind fun y268 => (if y265.length + y268.length < 3518437208883 then ((some (([] : List (S28)) : List (S28))).bind fun y275 => (if 0 ≤ (Int.tmod (wrap64 (a3)) (wrap64 ((l1.length : Int) + 1))) then (if (Int.tmod (wrap64 (a3)) (wrap64 ((l1.length : Int) + 1))) ≤ (l1.length : Int) then ((some (l1.take ((Int.tmod (wrap64 (a3)) (wrap64 ((l1.length : Int) + 1))) : Int).toNat : List (S28))).bind fun y278 => (if y275.length + y278.length < 2513169434916 then ((some (y275 ++ y278 : List (S28))).bind fun y282 => ((some (([(⟨18, a5_1, a5_2, a5_3, a5_4, a5_5, a5_6⟩ : S28)] : List (S28)) : List (S28))).bind fun y285 => (if y282.length + y285.length < 2513169434916 then ((some (y282 ++ y285 : List (S28))).bind fun y288 => ((some (l1.drop ((Int.tmod (wrap64 (a3)) (wrap64 ((l1.length : Int) + 1))) : Int).toNat : List (S28))).bind fun y291 => (if y288.length + y291.length < 2513169434916 then ((align_Code.f kj6 l0 l1).bind fun bt298 => ((align_Code.f kj6 (y265 ++ y268) (y288 ++ y291)).bind fun bt303 => (if bt298.2.2 = bt303.2.2 then (some ((bt298.1.length : Int) == (bt303.1.length : Int))) else (some false)))) else (none)))) else (none)))) else (none))) else (none)) else (none))) else (none)))) else (none))) = some r := by first | (rw [hy259]; with_reducible exact H) | (have H2_ := (Option.bind_some _ _).symm.trans H; rw [hy259]; with_reducible exact H2_) | (have H2_ := (Option.bind_some _ _).symm.trans H; with_reducible exact H2_) | with_reducible exact H | (rw [hy259]; exact H) | exact H
         have Ny259 := As0 hy259
         clear hy259
         obtain ⟨y262, hy262⟩ : ∃ y_ : List (S25), y_ = (([(⟨2, a4_1, a4_2, a4_3, a4_4⟩ : S25)] : List (S25))) := ⟨_, rfl⟩
         replace H : (if y259.length + y262.length < 3518437208883 then ((some (y259 ++ y262 : List (S25))).bind fun y265 => ((some (l0.drop ((ji21) : Int).toNat : List (S25))).bind fun y268 => (if y265.length + y268.length < 3518437208883 then ((some (([] : List (S28)) : List (S28))).bind fun y275 => (if 0 ≤ (Int.tmod (wrap64 (a3)) (wrap64 ((l1.length : Int) + 1))) then (if (Int.tmod (wrap64 (a3)) (wrap64 ((l1.length : Int) + 1))) ≤ (l1.length : Int) then ((some (l1.take ((Int.tmod (wrap64 (a3)) (wrap64 ((l1.length : Int) + 1))) : Int).toNat : List (S28))).bind fun y278 => (if y275.length + y278.length < 2513169434916 then ((some (y275 ++ y278 : List (S28))).bind fun y282 => ((some (([(⟨18, a5_1, a5_2, a5_3, a5_4, a5_5, a5_6⟩ : S28)] : List (S28)) : List (S28))).bind fun y285 => (if y282.length + y285.length < 2513169434916 then ((some (y282 ++ y285 : List (S28))).bind fun y288 => ((some (l1.drop ((Int.tmod (wrap64 (a3)) (wrap64 ((l1.length : Int) + 1))) : Int).toNat : List (S28))).bind fun y291 => (if y288.length + y291.length < 2513169434916 then ((align_Code.f kj6 l0 l1).bind fun bt298 => ((align_Code.f kj6 (y265 ++ y268) (y288 ++ y291)).bind fun bt303 => (if bt298.2.2 = bt303.2.2 then (some ((bt298.1.length : Int) == (bt303.1.length : Int))) else (some false)))) else (none)))) else (none)))) else (none))) else (none)) else (none))) else (none)))) else (none)) = some r := by first | (rw [hy262]; with_reducible exact H) | (have H2_ := (Option.bind_some _ _).symm.trans H; rw [hy262]; with_reducible exact H2_) | (have H2_ := (Option.bind_some _ _).symm.trans H; with_reducible exact H2_) | with_reducible exact H | (rw [hy262]; exact H) | exact H
         have Ny262 := As0 hy262
         clear hy262
         by_cases c25 : y259.length + y262.length < 3518437208883
         ·rw [if_pos c25] at H
          have LMc25 := As0 c25
          clear c25
          obtain ⟨y265, hy265⟩ : ∃ y_ : List (S25), y_ = (y259 ++ y262) := ⟨_, rfl⟩
          replace H : ((some (l0.drop ((ji21) : Int).toNat : List (S25))).bind fun y268 => (if y265.length + y268.length < 3518437208883 then ((some (([] : List (S28)) : List (S28))).bind fun y275 => (if 0 ≤ (Int.tmod (wrap64 (a3)) (wrap64 ((l1.length : Int) + 1))) then (if (Int.tmod (wrap64 (a3)) (wrap64 ((l1.length : Int) + 1))) ≤ (l1.length : Int) then ((some (l1.take ((Int.tmod (wrap64 (a3)) (wrap64 ((l1.length : Int) + 1))) : Int).toNat : List (S28))).bind fun y278 => (if y275.length + y278.length < 2513169434916 then ((some (y275 ++ y278 : List (S28))).bind fun y282 => ((some (([(⟨18, a5_1, a5_2, a5_3, a5_4, a5_5, a5_6⟩ : S28)] : List (S28)) : List (S28))).bind fun y285 => (if y282.length + y285.length < 2513169434916 then ((some (y282 ++ y285 : List (S28))).bind fun y288 => ((some (l1.drop ((Int.tmod (wrap64 (a3)) (wrap64 ((l1.length : Int) + 1))) : Int).toNat : List (S28))).bind fun y291 => (if y288.length + y291.length < 2513169434916 then ((align_Code.f kj6 l0 l1).bind fun bt298 => ((align_Code.f kj6 (y265 ++ y268) (y288 ++ y291)).bind fun bt303 => (if bt298.2.2 = bt303.2.2 then (some ((bt298.1.length : Int) == (bt303.1.length : Int))) else (some false)))) else (none)))) else (none)))) else (none))) else (none)) else (none))) else (none))) = some r := by first | (rw [hy265]; with_reducible exact H) | (have H2_ := (Option.bind_some _ _).symm.trans H; rw [hy265]; with_reducible exact H2_) | (have H2_ := (Option.bind_some _ _).symm.trans H; with_reducible exact H2_) | with_reducible exact H | (rw [hy265]; exact H) | exact H
          have Ny265 := As0 hy265
          clear hy265
          have c26b0 := eq_true (of_decide_eq_true (by first | (with_reducible assumption) | assumption) : 0 ≤ (ji21))
          have c27b0 := eq_true (of_decide_eq_true (by first | (with_reducible assumption) | assumption) : (ji21) ≤ (l0.length : Int))
          obtain ⟨y268, hy268⟩ : ∃ y_ : List (S25), y_ = (l0.drop ((ji21) : Int).toNat) := ⟨_, rfl⟩
          replace H : (if y265.length + y268.length < 3518437208883 then ((some (([] : List (S28)) : List (S28))).bind fun y275 => (if 0 ≤ (Int.tmod (wrap64 (a3)) (wrap64 ((l1.length : Int) + 1))) then (if (Int.tmod (wrap64 (a3)) (wrap64 ((l1.length : Int) + 1))) ≤ (l1.length : Int) then ((some (l1.take ((Int.tmod (wrap64 (a3)) (wrap64 ((l1.length : Int) + 1))) : Int).toNat : List (S28))).bind fun y278 => (if y275.length + y278.length < 2513169434916 then ((some (y275 ++ y278 : List (S28))).bind fun y282 => ((some (([(⟨18, a5_1, a5_2, a5_3, a5_4, a5_5, a5_6⟩ : S28)] : List (S28)) : List (S28))).bind fun y285 => (if y282.length + y285.length < 2513169434916 then ((some (y282 ++ y285 : List (S28))).bind fun y288 => ((some (l1.drop ((Int.tmod (wrap64 (a3)) (wrap64 ((l1.length : Int) + 1))) : Int).toNat : List (S28))).bind fun y291 => (if y288.length + y291.length < 2513169434916 then ((align_Code.f kj6 l0 l1).bind fun bt298 => ((align_Code.f kj6 (y265 ++ y268) (y288 ++ y291)).bind fun bt303 => (if bt298.2.2 = bt303.2.2 then (some ((bt298.1.length : Int) == (bt303.1.length : Int))) else (some false)))) else (none)))) else (none)))) else (none))) else (none)) else (none))) else (none)) = some r := by first | (rw [hy268]; with_reducible exact H) | (have H2_ := (Option.bind_some _ _).symm.trans H; rw [hy268]; with_reducible exact H2_) | (have H2_ := (Option.bind_some _ _).symm.trans H; with_reducible exact H2_) | with_reducible exact H | (rw [hy268]; exact H) | exact H
          have Ny268 := As0 hy268
          clear hy268
          by_cases c28 : y265.length + y268.length < 3518437208883
          ·rw [if_pos c28] at H
           have LMc28 := As0 c28
           clear c28
           obtain ⟨y272, hy272⟩ : ∃ y_ : List (S25), y_ = (y265 ++ y268) := ⟨_, rfl⟩
           replace H : ((some (([] : List (S28)) : List (S28))).bind fun y275 => (if 0 ≤ (Int.tmod (wrap64 (a3)) (wrap64 ((l1.length : Int) + 1))) then (if (Int.tmod (wrap64 (a3)) (wrap64 ((l1.length : Int) + 1))) ≤ (l1.length : Int) then ((some (l1.take ((Int.tmod (wrap64 (a3)) (wrap64 ((l1.length : Int) + 1))) : Int).toNat : List (S28))).bind fun y278 => (if y275.length + y278.length < 2513169434916 then ((some (y275 ++ y278 : List (S28))).bind fun y282 => ((some (([(⟨18, a5_1, a5_2, a5_3, a5_4, a5_5, a5_6⟩ : S28)] : List (S28)) : List (S28))).bind fun y285 => (if y282.length + y285.length < 2513169434916 then ((some (y282 ++ y285 : List (S28))).bind fun y288 => ((some (l1.drop ((Int.tmod (wrap64 (a3)) (wrap64 ((l1.length : Int) + 1))) : Int).toNat : List (S28))).bind fun y291 => (if y288.length + y291.length < 2513169434916 then ((align_Code.f kj6 l0 l1).bind fun bt298 => ((align_Code.f kj6 y272 (y288 ++ y291)).bind fun bt303 => (if bt298.2.2 = bt303.2.2 then (some ((bt298.1.length : Int) == (bt303.1.length : Int))) else (some false)))) else (none)))) else (none)))) else (none))) else (none)) else (none))) = some r := by first | (rw [hy272]; with_reducible exact H) | (have H2_ := (Option.bind_some _ _).symm.trans H; rw [hy272]; with_reducible exact H2_) | (have H2_ := (Option.bind_some _ _).symm.trans H; with_reducible exact H2_) | with_reducible exact H | (rw [hy272]; exact H) | exact H
           have Ny272 := As0 hy272
           clear hy272
           obtain ⟨y275, hy275⟩ : ∃ y_ : List (S28), y_ = (([] : List (S28))) := ⟨_, rfl⟩
           replace H : (if 0 ≤ (Int.tmod (wrap64 (a3)) (wrap64 ((l1.length : Int) + 1))) then (if (Int.tmod (wrap64 (a3)) (wrap64 ((l1.length : Int) + 1))) ≤ (l1.length : Int) then ((some (l1.take ((Int.tmod (wrap64 (a3)) (wrap64 ((l1.length : Int) + 1))) : Int).toNat : List (S28))).bind fun y278 => (if y275.length + y278.length < 2513169434916 then ((some (y275 ++ y278 : List (S28))).bind fun y282 => ((some (([(⟨18, a5_1, a5_2, a5_3, a5_4, a5_5, a5_6⟩ : S28)] : List (S28)) : List (S28))).bind fun y285 => (if y282.length + y285.length < 2513169434916 then ((some (y282 ++ y285 : List (S28))).bind fun y288 => ((some (l1.drop ((Int.tmod (wrap64 (a3)) (wrap64 ((l1.length : Int) + 1))) : Int).toNat : List (S28))).bind fun y291 => (if y288.length + y291.length < 2513169434916 then ((align_Code.f kj6 l0 l1).bind fun bt298 => ((align_Code.f kj6 y272 (y288 ++ y291)).bind fun bt303 => (if bt298.2.2 = bt303.2.2 then (some ((bt298.1.length : Int) == (bt303.1.length : Int))) else (some false)))) else (none)))) else (none)))) else (none))) else (none)) else (none)) = some r := by first | (rw [hy275]; with_reducible exact H) | (have H2_ := (Option.bind_some _ _).symm.trans H; rw [hy275]; with_reducible exact H2_) | (have H2_ := (Option.bind_some _ _).symm.trans H; with_reducible exact H2_) | with_reducible exact H | (rw [hy275]; exact H) | exact H
           have Ny275 := As0 hy275
           clear hy275
           obtain ⟨ji29, hji29⟩ : ∃ j_ : Int, (Int.tmod (wrap64 (a3)) (wrap64 ((l1.length : Int) + 1))) = j_ := ⟨_, rfl⟩
           replace H : (if 0 ≤ (ji29) then (if (ji29) ≤ (l1.length : Int) then ((some (l1.take ((ji29) : Int).toNat : List (S28))).bind fun y278 => (if y275.length + y278.length < 2513169434916 then ((some (y275 ++ y278 : List (S28))).bind fun y282 => ((some (([(⟨18, a5_1, a5_2, a5_3, a5_4, a5_5, a5_6⟩ : S28)] : List (S28)) : List (S28))).bind fun y285 => (if y282.length + y285.length < 2513169434916 then ((some (y282 ++ y285 : List (S28))).bind fun y288 => ((some (l1.drop ((ji29) : Int).toNat : List (S28))).bind fun y291 => (if y288.length + y291.length < 2513169434916 then ((align_Code.f kj6 l0 l1).bind fun bt298 => ((align_Code.f kj6 y272 (y288 ++ y291)).bind fun bt303 => (if bt298.2.2 = bt303.2.2 then (some ((bt298.1.length : Int) == (bt303.1.length : Int))) else (some false)))) else (none)))) else (none)))) else (none))) else (none)) else (none)) = some r := by first | (rw [hji29] at H; exact H) | (simp only [hji29] at H ⊢; exact H)
           by_cases c30 : 0 ≤ (ji29)
           ·rw [if_pos c30] at H
            have c30b0 := eq_true c30
            have c30b1 : decide (0 ≤ (ji29)) = true := decide_eq_true c30
            clear c30
            by_cases c31 : (ji29) ≤ (l1.length : Int)
            ·rw [if_pos c31] at H
             have c31b0 := eq_true c31
             have c31b1 : decide ((ji29) ≤ (l1.length : Int)) = true := decide_eq_true c31
             clear c31
             obtain ⟨y278, hy278⟩ : ∃ y_ : List (S28), y_ = (l1.take ((ji29) : Int).toNat) := ⟨_, rfl⟩
             replace H : (if y275.length + y278.length < 2513169434916 then ((some (y275 ++ y278 : List (S28))).bind fun y282 => ((some (([(⟨18, a5_1, a5_2, a5_3, a5_4, a5_5, a5_6⟩ : S28)] : List (S28)) : List (S28))).bind fun y285 => (if y282.length + y285.length < 2513169434916 then ((some (y282 ++ y285 : List (S28))).bind fun y288 => ((some (l1.drop ((ji29) : Int).toNat : List (S28))).bind fun y291 => (if y288.length + y291.length < 2513169434916 then ((align_Code.f kj6 l0 l1).bind fun bt298 => ((align_Code.f kj6 y272 (y288 ++ y291)).bind fun bt303 => (if bt298.2.2 = bt303.2.2 then (some ((bt298.1.length : Int) == (bt303.1.length : Int))) else (some false)))) else (none)))) else (none)))) else (none)) = some r := by first | (rw [hy278]; with_reducible exact H) | (have H2_ := (Option.bind_some _ _).symm.trans H; rw [hy278]; with_reducible exact H2_) | (have H2_ := (Option.bind_some _ _).symm.trans H; with_reducible exact H2_) | with_reducible exact H | (rw [hy278]; exact H) | exact H
             have Ny278 := As0 hy278
             clear hy278
             by_cases c32 : y275.length + y278.length < 2513169434916
             ·rw [if_pos c32] at H
              have LMc32 := As0 c32
              clear c32
              obtain ⟨y282, hy282⟩ : ∃ y_ : List (S28), y_ = (y275 ++ y278) := ⟨_, rfl⟩
              replace H : ((some (([(⟨18, a5_1, a5_2, a5_3, a5_4, a5_5, a5_6⟩ : S28)] : List (S28)) : List (S28))).bind fun y285 => (if y282.length + y285.length < 2513169434916 then ((some (y282 ++ y285 : List (S28))).bind fun y288 => ((some (l1.drop ((ji29) : Int).toNat : List (S28))).bind fun y291 => (if y288.length + y291.length < 2513169434916 then ((align_Code.f kj6 l0 l1).bind fun bt298 => ((align_Code.f kj6 y272 (y288 ++ y291)).bind fun bt303 => (if bt298.2.2 = bt303.2.2 then (some ((bt298.1.length : Int) == (bt303.1.length : Int))) else (some false)))) else (none)))) else (none))) = some r := by first | (rw [hy282]; with_reducible exact H) | (have H2_ := (Option.bind_some _ _).symm.trans H; rw [hy282]; with_reducible exact H2_) | (have H2_ := (Option.bind_some _ _).symm.trans H; with_reducible exact H2_) | with_reducible exact H | (rw [hy282]; exact H) | exact H
              have Ny282 := As0 hy282
              clear hy282
              obtain ⟨y285, hy285⟩ : ∃ y_ : List (S28), y_ = (([(⟨18, a5_1, a5_2, a5_3, a5_4, a5_5, a5_6⟩ : S28)] : List (S28))) := ⟨_, rfl⟩
              replace H : (if y282.length + y285.length < 2513169434916 then ((some (y282 ++ y285 : List (S28))).bind fun y288 => ((some (l1.drop ((ji29) : Int).toNat : List (S28))).bind fun y291 => (if y288.length + y291.length < 2513169434916 then ((align_Code.f kj6 l0 l1).bind fun bt298 => ((align_Code.f kj6 y272 (y288 ++ y291)).bind fun bt303 => (if bt298.2.2 = bt303.2.2 then (some ((bt298.1.length : Int) == (bt303.1.length : Int))) else (some false)))) else (none)))) else (none)) = some r := by first | (rw [hy285]; with_reducible exact H) | (have H2_ := (Option.bind_some _ _).symm.trans H; rw [hy285]; with_reducible exact H2_) | (have H2_ := (Option.bind_some _ _).symm.trans H; with_reducible exact H2_) | with_reducible exact H | (rw [hy285]; exact H) | exact H
              have Ny285 := As0 hy285
              clear hy285
              by_cases c33 : y282.length + y285.length < 2513169434916
              ·rw [if_pos c33] at H
               have LMc33 := As0 c33
               clear c33
               obtain ⟨y288, hy288⟩ : ∃ y_ : List (S28), y_ = (y282 ++ y285) := ⟨_, rfl⟩
               replace H : ((some (l1.drop ((ji29) : Int).toNat : List (S28))).bind fun y291 => (if y288.length + y291.length < 2513169434916 then ((align_Code.f kj6 l0 l1).bind fun bt298 => ((align_Code.f kj6 y272 (y288 ++ y291)).bind fun bt303 => (if bt298.2.2 = bt303.2.2 then (some ((bt298.1.length : Int) == (bt303.1.length : Int))) else (some false)))) else (none))) = some r := by first | (rw [hy288]; with_reducible exact H) | (have H2_ := (Option.bind_some _ _).symm.trans H; rw [hy288]; with_reducible exact H2_) | (have H2_ := (Option.bind_some _ _).symm.trans H; with_reducible exact H2_) | with_reducible exact H | (rw [hy288]; exact H) | exact H
               have Ny288 := As0 hy288
               clear hy288
               have c34b0 := eq_true (of_decide_eq_true (by first | (with_reducible assumption) | assumption) : 0 ≤ (ji29))
               have c35b0 := eq_true (of_decide_eq_true (by first | (with_reducible assumption) | assumption) : (ji29) ≤ (l1.length : Int))
               obtain ⟨y291, hy291⟩ : ∃ y_ : List (S28), y_ = (l1.drop ((ji29) : Int).toNat) := ⟨_, rfl⟩
               replace H : (if y288.length + y291.length < 2513169434916 then ((align_Code.f kj6 l0 l1).bind fun bt298 => ((align_Code.f kj6 y272 (y288 ++ y291)).bind fun bt303 => (if bt298.2.2 = bt303.2.2 then (some ((bt298.1.length : Int) == (bt303.1.length : Int))) else (some false)))) else (none)) = some r := by first | (rw [hy291]; with_reducible exact H) | (have H2_ := (Option.bind_some _ _).symm.trans H; rw [hy291]; with_reducible exact H2_) | (have H2_ := (Option.bind_some _ _).symm.trans H; with_reducible exact H2_) | with_reducible exact H | (rw [hy291]; exact H) | exact H
               have Ny291 := As0 hy291
               clear hy291
               by_cases c36 : y288.length + y291.length < 2513169434916
               ·rw [if_pos c36] at H
                have LMc36 := As0 c36
                clear c36
                obtain ⟨y295, hy295⟩ : ∃ y_ : List (S28), y_ = (y288 ++ y291) := ⟨_, rfl⟩
                replace H : ((align_Code.f kj6 l0 l1).bind fun bt298 => ((align_Code.f kj6 y272 y295).bind fun bt303 => (if bt298.2.2 = bt303.2.2 then (some ((bt298.1.length : Int) == (bt303.1.length : Int))) else (some false)))) = some r := by first | (rw [hy295]; with_reducible exact H) | (have H2_ := (Option.bind_some _ _).symm.trans H; rw [hy295]; with_reducible exact H2_) | (have H2_ := (Option.bind_some _ _).symm.trans H; with_reducible exact H2_) | with_reducible exact H | (rw [hy295]; exact H) | exact H
                have Ny295 := As0 hy295
                clear hy295
                replace H := Option.bind_eq_some_iff.mp H
                obtain ⟨⟨t298, t299, t300⟩, A370, H⟩ := H
                replace H : ((align_Code.f kj6 y272 y295).bind fun bt303 => (if t300 = bt303.2.2 then (some ((t298.length : Int) == (bt303.1.length : Int))) else (some false))) = some r := H
                have A37 := As0 A370
                clear A370
                replace H := Option.bind_eq_some_iff.mp H
                obtain ⟨⟨t303, t304, t305⟩, A380, H⟩ := H
                replace H : (if t300 = t305 then (some ((t298.length : Int) == (t303.length : Int))) else (some false)) = some r := H
                have A38 := As0 A380
                clear A380
                by_cases c39 : t300 = t305
                ·rw [if_pos c39] at H
                 have c39b0 : (t300 == t305) = true := beq_iff_eq.mpr c39
                 have c39b1 : (t300 != t305) = false := bne_eq_false_iff_eq.mpr c39
                 clear c39
                 obtain rfl := Option.some.inj H
                 have hnb40 := NB248_249.out
                 have hnc40 := NB249_248.out
                 have hcz41_0 : wc.cell? ⟨gb248, 0, none⟩ = some (.int .i64 a4_0) := (blk_cell BK248.out 0).trans rfl
                 have hcz41_1 : wc.cell? ⟨gb248, 1, none⟩ = some (.int .i64 a4_1) := (blk_cell BK248.out 1).trans rfl
                 have hcz41_2 : wc.cell? ⟨gb248, 2, none⟩ = some (.int .i64 a4_2) := (blk_cell BK248.out 2).trans rfl
                 have hcz41_3 : wc.cell? ⟨gb248, 3, none⟩ = some (.int .i64 a4_3) := (blk_cell BK248.out 3).trans rfl
                 have hcz41_4 : wc.cell? ⟨gb248, 4, none⟩ = some (.int .i64 a4_4) := (blk_cell BK248.out 4).trans rfl
                 have hfz41_0 := blk_frozen BK248.out 0
                 have hfz41_1 := blk_frozen BK248.out 1
                 have hfz41_2 := blk_frozen BK248.out 2
                 have hfz41_3 := blk_frozen BK248.out 3
                 have hfz41_4 := blk_frozen BK248.out 4
                 have hcz42_0 : wc.cell? ⟨gb249, 0, none⟩ = some (.int .i64 a5_0) := (blk_cell BK249.out 0).trans rfl
                 have hcz42_1 : wc.cell? ⟨gb249, 1, none⟩ = some (.int .i64 a5_1) := (blk_cell BK249.out 1).trans rfl
                 have hcz42_2 : wc.cell? ⟨gb249, 2, none⟩ = some (.int .i64 a5_2) := (blk_cell BK249.out 2).trans rfl
                 have hcz42_3 : wc.cell? ⟨gb249, 3, none⟩ = some (.int .i64 a5_3) := (blk_cell BK249.out 3).trans rfl
                 have hcz42_4 : wc.cell? ⟨gb249, 4, none⟩ = some (.int .i64 a5_4) := (blk_cell BK249.out 4).trans rfl
                 have hcz42_5 : wc.cell? ⟨gb249, 5, none⟩ = some (.int .i64 a5_5) := (blk_cell BK249.out 5).trans rfl
                 have hcz42_6 : wc.cell? ⟨gb249, 6, none⟩ = some (.int .i64 a5_6) := (blk_cell BK249.out 6).trans rfl
                 have hfz42_0 := blk_frozen BK249.out 0
                 have hfz42_1 := blk_frozen BK249.out 1
                 have hfz42_2 := blk_frozen BK249.out 2
                 have hfz42_3 := blk_frozen BK249.out 3
                 have hfz42_4 := blk_frozen BK249.out 4
                 have hfz42_5 := blk_frozen BK249.out 5
                 have hfz42_6 := blk_frozen BK249.out 6
                 try go_wp2
                 have n0_ : Aside0 (((wc.setCell ⟨gb248, 0, none⟩ (.int .i64 2)).setCell ⟨gb249, 0, none⟩ (.int .i64 18)).heap[gb248]? = some (.cells #[.int .i64 2, .int .i64 a4_1, .int .i64 a4_2, .int .i64 a4_3, .int .i64 a4_4] 25 (0, 0))) := ⟨by (with_reducible repeat (first | refine blk_drewN ?_ _ | refine blk_drew ?_ | refine blk_alloc ?_ _)); refine blk_far ?_ NB248_249.out _; (with_reducible repeat (first | refine blk_drewN ?_ _ | refine blk_drew ?_ | refine blk_alloc ?_ _)); refine blk_put (cs := #[.int .i64 a4_0, .int .i64 a4_1, .int .i64 a4_2, .int .i64 a4_3, .int .i64 a4_4]) ?_ 0 _ rfl; (with_reducible repeat (first | refine blk_drewN ?_ _ | refine blk_drew ?_ | refine blk_alloc ?_ _)); exact BK248.out⟩
                 have n1_ : Aside0 (((wc.setCell ⟨gb248, 0, none⟩ (.int .i64 2)).setCell ⟨gb249, 0, none⟩ (.int .i64 18)).heap[gb249]? = some (.cells #[.int .i64 18, .int .i64 a5_1, .int .i64 a5_2, .int .i64 a5_3, .int .i64 a5_4, .int .i64 a5_5, .int .i64 a5_6] 28 (0, 0))) := ⟨by (with_reducible repeat (first | refine blk_drewN ?_ _ | refine blk_drew ?_ | refine blk_alloc ?_ _)); refine blk_put (cs := #[.int .i64 a5_0, .int .i64 a5_1, .int .i64 a5_2, .int .i64 a5_3, .int .i64 a5_4, .int .i64 a5_5, .int .i64 a5_6]) ?_ 0 _ rfl; (with_reducible repeat (first | refine blk_drewN ?_ _ | refine blk_drew ?_ | refine blk_alloc ?_ _)); refine blk_far ?_ NB249_248.out _; (with_reducible repeat (first | refine blk_drewN ?_ _ | refine blk_drew ?_ | refine blk_alloc ?_ _)); exact BK249.out⟩
                 have n2_ : Aside0 (Below w.heap.size w ((wc.setCell ⟨gb248, 0, none⟩ (.int .i64 2)).setCell ⟨gb249, 0, none⟩ (.int .i64 18))) := ⟨by repeat (first | (with_reducible first | exact HB.out | apply below_alloc | apply bdN | apply bd1 | refine below_set ?_ GE248.out | refine below_set ?_ GE249.out) | exact HB.out)⟩
                 (try clear BK248)
                 (try clear BK249)
                 (try clear HB)
                 generalize ((wc.setCell ⟨gb248, 0, none⟩ (.int .i64 2)).setCell ⟨gb249, 0, none⟩ (.int .i64 18)) = w43 at n0_ n1_ n2_ ⊢
                 have BK248 := n0_
                 have BK249 := n1_
                 have HB := n2_
                 clear n0_ n1_ n2_
                 have n0_ := As0 (blk_drew BK248.out)
                 have n1_ := As0 (blk_drew BK249.out)
                 have n2_ := As0 (bd1 HB.out)
                 clear BK248
                 clear BK249
                 clear HB
                 have BK248 := n0_
                 have BK249 := n1_
                 have HB := n2_
                 clear n0_ n1_ n2_
                 have q45 : ((ji21) : Int) ≤ ((l0.length : Int) : Int) := of_decide_eq_true (by first | (with_reducible assumption) | assumption)
                 obtain ⟨i045, hi045, _, hsz45, _⟩ := info_parts info25
                 have hroom45 : l0.length ≤ c0 := HC0.out
                 have hC45 : Kd.C k25 _ A0 l0.length l0 := HR0.out
                 have hcut45 := cut_to (P := Try.prog) 22 25 .i64 Try.underlying22 hi045 A0 l0.length c0 (ji21) (of_decide_eq_true (by first | (with_reducible assumption) | assumption)) q45 hroom45
                 have hr45 := Kd.C_take (m := ((ji21) : Int).toNat) hC45 (by omega)
                 have hy45 : y255.length = ((ji21) : Int).toNat := (by rw [Ny255.out, List.length_take]; omega)
                 rw [← Ny255.out] at hr45
                 rw [← hy45] at hcut45
                 have HR258 := As0 hr45
                 have HC258 := As0 (show y255.length ≤ c0 from by omega)
                 clear hr45 hC45 hroom45 hi045 hsz45
                 have KY45 := As0 hy45
                 clear hy45
                 replace q45 := eq_true q45
                 have q46 : ((ji21) : Int) ≤ ((l0.length : Int) : Int) := of_decide_eq_true (by first | (with_reducible assumption) | assumption)
                 obtain ⟨i046, hi046, _, hsz46, _⟩ := info_parts info25
                 have hroom46 : l0.length ≤ c0 := HC0.out
                 have hC46 : Kd.C k25 _ A0 l0.length l0 := HR0.out
                 have q046 : (0 : Int) ≤ ((ji21) : Int) := of_decide_eq_true (by first | (with_reducible assumption) | assumption)
                 have hcut46 := cut_from (P := Try.prog) 22 25 .i64 Try.underlying22 hi046 5 hsz46 A0 l0.length c0 (ji21) q046 q46
                 have hr46 := Kd.C_drop (m := ((ji21) : Int).toNat) (c := c0) hC46 (by omega) hroom46
                 obtain ⟨A46, hA46⟩ : ∃ Aq_, Aq_ = (if c0 = ((ji21) : Int).toNat then A0 else (A0 : Option Addr).map (·.add (((ji21) : Int).toNat * 5))) := ⟨_, rfl⟩
                 obtain ⟨c46, hc46⟩ : ∃ cq_, cq_ = c0 - ((ji21) : Int).toNat := ⟨_, rfl⟩
                 have hy46 : y268.length = l0.length - ((ji21) : Int).toNat := (by rw [Ny268.out, List.length_drop] <;> omega)
                 rw [show (l0).drop ((ji21) : Int).toNat = y268 from Ny268.out.symm] at hr46
                 replace hr46 : Kd.C k25 _ A46 y268.length y268 := (by rw [hA46]; exact hr46)
                 rw [← hy46, ← hA46, ← hc46] at hcut46
                 have HR271 := As0 hr46
                 have HC271 := As0 (show y268.length ≤ c46 from by rw [hy46, hc46]; exact Nat.sub_le_sub_right hroom46 _)
                 clear hr46 hC46 hroom46 hi046 hsz46 hc46
                 have KY46 := As0 hy46
                 have KA46 := As0 hA46
                 clear hy46 hA46
                 replace q46 := eq_true q46
                 refine start_ (n := 13) (S := fun w' => w'.cell? ⟨gb248, 0, none⟩ = some (.int .i64 2) ∧ w'.cell? ⟨gb248, 1, none⟩ = some (.int .i64 a4_1) ∧ w'.cell? ⟨gb248, 2, none⟩ = some (.int .i64 a4_2) ∧ w'.cell? ⟨gb248, 3, none⟩ = some (.int .i64 a4_3) ∧ w'.cell? ⟨gb248, 4, none⟩ = some (.int .i64 a4_4)) (ds := []) #[false, false, false, false, false, false, false, false, false, false, false, false, false] (by kernel_rfl) rfl rfl ⟨(blk_cell BK248.out 0).trans rfl, (blk_cell BK248.out 1).trans rfl, (blk_cell BK248.out 2).trans rfl, (blk_cell BK248.out 3).trans rfl, (blk_cell BK248.out 4).trans rfl⟩ (fun hHeld => ?_); refine with_tabW regcertlaw13_AlignIgnoresMoves.tab7 regcertlaw13_AlignIgnoresMoves.bits7 (fun HT_ HW_ => ?_)
                 generalize w43.drew = w44 at BK248 BK249 HB HR258 HR271 hHeld ⊢
                 refine pure_ (i := 1) (N := some 51) (v := ?_) (a' := ?_) #[false, true, false, false, false, false, false, false, false, false, false, false, false] rfl rfl (any_of HT_.out (by kernel_rfl)) (fun _ _ _ h => h) (Or.inl ⟨by rfl, ?_⟩) ?_ ?_
                 rotate_left
                 ·intro w'
                  go_simp
                  with_reducible rfl
                 rotate_left
                 ·simp only [Act.put, sL1, sL2, sL3, i64_w, i32_w]
                  rfl
                 refine pure_ (i := 2) (N := some 52) (v := ?_) (a' := ?_) #[false, true, true, false, false, false, false, false, false, false, false, false, false] rfl rfl (any_of HT_.out (by kernel_rfl)) (fun _ _ _ h => h) (Or.inl ⟨by rfl, ?_⟩) ?_ ?_
                 rotate_left
                 ·intro w'
                  go_simp
                  with_reducible rfl
                 rotate_left
                 ·simp only [Act.put, sL1, sL2, sL3, i64_w, i32_w]
                  rfl
                 refine pure_ (i := 3) (N := some 53) (v := ?_) (a' := ?_) #[false, true, true, true, false, false, false, false, false, false, false, false, false] rfl rfl (any_of HT_.out (by kernel_rfl)) (fun _ _ _ h => h) (Or.inl ⟨by rfl, ?_⟩) ?_ ?_
                 rotate_left
                 ·intro w'
                  go_simp
                  with_reducible rfl
                 rotate_left
                 ·simp only [Act.put, sL1, sL2, sL3, i64_w, i32_w]
                  rfl
                 refine pure_ (i := 8) (N := some 58) (v := ?_) (a' := ?_) #[false, true, true, true, false, false, false, false, true, false, false, false, false] rfl rfl (any_of HT_.out (by kernel_rfl)) (fun _ _ _ h => h) (Or.inl ⟨by rfl, ?_⟩) ?_ ?_
                 rotate_left
                 ·intro w'
                  go_simp
                  with_reducible rfl
                 rotate_left
                 ·simp only [Act.put, sL1, sL2, sL3, i64_w, i32_w]
                  rfl
                 refine pure_ (i := 9) (N := some 59) (v := ?_) (a' := ?_) #[false, true, true, true, false, false, false, false, true, true, false, false, false] rfl rfl (any_of HT_.out (by kernel_rfl)) (fun _ _ _ h => h) (Or.inl ⟨by rfl, ?_⟩) ?_ ?_
                 rotate_left
                 ·intro w'
                  go_simp
                  with_reducible rfl
                 rotate_left
                 ·simp only [Act.put, sL1, sL2, sL3, i64_w, i32_w]
                  rfl
                 refine pure_ (i := 10) (N := some 60) (v := ?_) (a' := ?_) #[false, true, true, true, false, false, false, false, true, true, true, false, false] rfl rfl (any_of HT_.out (by kernel_rfl)) (fun _ _ _ h => h) (Or.inl ⟨by rfl, ?_⟩) ?_ ?_
                 rotate_left
                 ·intro w'
                  go_simp
                  with_reducible rfl
                 rotate_left
                 ·simp only [Act.put, sL1, sL2, sL3, i64_w, i32_w]
                  rfl
                 refine take_ (i := 5) (N := some 55) (v := ?_) (a' := ?_) #[false, true, true, true, false, true, false, false, true, true, true, false, false] rfl rfl (take_ofW HT_.out HW_.out (by kernel_rfl)) (fun _ _ _ h => h) (Or.inl ⟨by rfl, ?_⟩) hHeld ?_ ?_
                 rotate_left
                 ·rintro w' ⟨s0, s1, s2, s3, s4⟩
                  go_simp
                  with_reducible rfl
                 rotate_left
                 ·simp only [Act.put, sL1, sL2, sL3, i64_w, i32_w]
                  rfl
                 refine join_ (σ := Value × Value × Value) 3 #[true, true, true, true, true, true, true, false, true, true, true, false, false] (fun s_ => [(50, s_.1), (54, s_.2.1), (56, s_.2.2)]) (fun s_ w' => (w'.cell? ⟨gb248, 0, none⟩ = some (.int .i64 2) ∧ w'.cell? ⟨gb248, 1, none⟩ = some (.int .i64 a4_1) ∧ w'.cell? ⟨gb248, 2, none⟩ = some (.int .i64 a4_2) ∧ w'.cell? ⟨gb248, 3, none⟩ = some (.int .i64 a4_3) ∧ w'.cell? ⟨gb248, 4, none⟩ = some (.int .i64 a4_4)) ∧ (Kd.R k25 25 w' w.heap.size (fun k_ => some k_ ≠ (s_.2.2 : Value).ownBlock ∧ k_ ≠ gb248) s_.2.1 y259) ∧ (Kd.R k25 25 w' w.heap.size (fun k_ => some k_ ≠ (s_.2.1 : Value).ownBlock ∧ k_ ≠ gb248) s_.2.2 y262) ∧ (w'.heap[gb248]? = some (.cells #[.int .i64 2, .int .i64 a4_1, .int .i64 a4_2, .int .i64 a4_3, .int .i64 a4_4] 25 (0, 0))) ∧ (w'.heap[gb249]? = some (.cells #[.int .i64 18, .int .i64 a5_1, .int .i64 a5_2, .int .i64 a5_3, .int .i64 a5_4, .int .i64 a5_5, .int .i64 a5_6] 28 (0, 0))) ∧ (Below w.heap.size w w')) ?_ ?_
                 rotate_left
                 ·intro hCont
                  refine two_ (i := 0) (j := 6) (Ni := some 50) (Nj := some 56) #[true, true, true, true, false, true, false, false, true, true, true, false, false] #[false, true, true, true, false, true, true, false, true, true, true, false, false] rfl rfl rfl rfl (two_of HT_.out (by kernel_rfl)) (by decide) (by decide) (fun K hK => ?_) (fun K hK => ?_)
                  ·skip
                   refine Kd.R_lit_step k25 _ 25 ?hg (N := 50) ?hd (xs := ([] : List (S25))) (inner := []) (ok := fun _ => True) (okp := fun _ => True) ?hr ?hp (fun _ hk => hk) trivial (Below.refl _ _) (Nat.le_refl _) (by simp) ?_; (case hd => rfl); (case hg => rfl); (case hr => first | (go_simp; done) | (go_simp; rfl)); (case hp => exact (Reps.none _ _))
                   intro v253 w47 ho48 hb hg_ hnew_
                   clear hg_ hnew_
                   (first | rw [← Ny252.out] at ho48 | (simp only [Int.reduceToNat] at ho48; rw [← Ny252.out] at ho48))
                   have n0_ := As0 (Kd.R_lower (Kd.R_newB ho48 (g := gb248) (o := .cells #[.int .i64 2, .int .i64 a4_1, .int .i64 a4_2, .int .i64 a4_3, .int .i64 a4_4] 25 (0, 0)) (by (with_reducible repeat (first | refine blk_drewN ?_ _ | refine blk_drew ?_ | refine blk_alloc ?_ _)); exact BK248.out)) (below_size (by repeat (first | (with_reducible first | exact HB.out | apply below_alloc | apply bdN | apply bd1 | refine below_set ?_ GE248.out | refine below_set ?_ GE249.out) | exact HB.out))))
                   have n1_ := As0 (blk_below (g := gb248) (o := .cells #[.int .i64 2, .int .i64 a4_1, .int .i64 a4_2, .int .i64 a4_3, .int .i64 a4_4] 25 (0, 0)) (by (with_reducible repeat (first | refine blk_drewN ?_ _ | refine blk_drew ?_ | refine blk_alloc ?_ _)); exact BK248.out) hb)
                   have n2_ := As0 (blk_below (g := gb249) (o := .cells #[.int .i64 18, .int .i64 a5_1, .int .i64 a5_2, .int .i64 a5_3, .int .i64 a5_4, .int .i64 a5_5, .int .i64 a5_6] 28 (0, 0)) (by (with_reducible repeat (first | refine blk_drewN ?_ _ | refine blk_drew ?_ | refine blk_alloc ?_ _)); exact BK249.out) hb)
                   have n3_ := As0 (below_step (by repeat (first | (with_reducible first | exact HB.out | apply below_alloc | apply bdN | apply bd1 | refine below_set ?_ GE248.out | refine below_set ?_ GE249.out) | exact HB.out)) hb)
                   clear BK248
                   clear BK249
                   clear HB
                   have HO254 := n0_
                   have BK248 := n1_
                   have BK249 := n2_
                   have HB := n3_
                   clear n0_ n1_ n2_ n3_
                   clear hb ho48
                   refine hK.out _ _ ⟨(blk_cell BK248.out 0).trans rfl, (blk_cell BK248.out 1).trans rfl, (blk_cell BK248.out 2).trans rfl, (blk_cell BK248.out 3).trans rfl, (blk_cell BK248.out 4).trans rfl⟩ (fun hHeld => ?_)
                   clear hK K
                   refine norm_ (a' := ?_) ?_ ?_
                   rotate_left
                   ·show Act.put _ (some 50) _ = _
                    simp only [Act.put, sL1, sL2, sL3, i64_w, i32_w]
                    rfl
                   refine two_ (i := 4) (j := 6) (Ni := some 54) (Nj := some 56) #[true, true, true, true, true, true, false, false, true, true, true, false, false] #[true, true, true, true, false, true, true, false, true, true, true, false, false] rfl rfl rfl rfl (two_of HT_.out (by kernel_rfl)) (by decide) (by decide) (fun K hK => ?_) (fun K hK => ?_)
                   ·skip
                    refine Kd.R_append_rows_step k25 (w0 := w) w.heap.size (by rfl) (.tmp 50) (.tmp 53) 22 25 (.agg #[(.int .i64 0), (.int .i64 0), (.int .i64 0), (.int .i64 0), (.int .i64 0)]) 40 rfl Try.underlying22 info25 rfl (by decide) (by omega) v253 y252 y255 _ _ _ (fun k_ => k_ ≠ gb248) (fun _ => False) rfl rfl ?aO ?aR (fun _ _ h => h) (fun _ h => h.elim) ?aF ?aB ?aS ?aL ?_
                    (case aR => repeat (first | exact (Kd.C_below HR258.out HB.out) | (with_reducible refine Kd.C_alloc ?_ _) | (with_reducible refine Kd.C_drewN ?_ _) | (with_reducible refine Kd.C_drew ?_)))
                    (case aB => exact (by repeat (first | (with_reducible first | exact HB.out | apply below_alloc | apply bdN | apply bd1 | refine below_set ?_ GE248.out | refine below_set ?_ GE249.out) | exact HB.out)))
                    (case aF => exact (fun k_ hk => Kd.freshB (g := gb248) (o := .cells #[.int .i64 2, .int .i64 a4_1, .int .i64 a4_2, .int .i64 a4_3, .int .i64 a4_4] 25 (0, 0)) (by (with_reducible repeat (first | refine blk_drewN ?_ _ | refine blk_drew ?_ | refine blk_alloc ?_ _)); exact BK248.out) k_ hk))
                    (case aO => exact (by (with_reducible repeat (first | apply Kd.R_alloc | apply Kd.R_drewN | apply Kd.R_drew)); exact Kd.R_mono HO254.out (fun _ hk => hk.2)))
                    (case aS => exact (below_size (by repeat (first | (with_reducible first | exact HB.out | apply below_alloc | apply bdN | apply bd1 | refine below_set ?_ GE248.out | refine below_set ?_ GE249.out) | exact HB.out))))
                    (case aL => have := LMc24.out; omega)
                    intro v260 w49 ho hb hg hat
                    rw [← Ny259.out] at ho
                    have n0_ := As0 (blk_grown (g := gb248) (o := .cells #[.int .i64 2, .int .i64 a4_1, .int .i64 a4_2, .int .i64 a4_3, .int .i64 a4_4] 25 (0, 0)) (by (with_reducible repeat (first | refine blk_drewN ?_ _ | refine blk_drew ?_ | refine blk_alloc ?_ _)); exact BK248.out) hg (Kd.R_away HO254.out (fun _ hk => hk.2)))
                    have n1_ := As0 (blk_grown (g := gb249) (o := .cells #[.int .i64 18, .int .i64 a5_1, .int .i64 a5_2, .int .i64 a5_3, .int .i64 a5_4, .int .i64 a5_5, .int .i64 a5_6] 28 (0, 0)) (by (with_reducible repeat (first | refine blk_drewN ?_ _ | refine blk_drew ?_ | refine blk_alloc ?_ _)); exact BK249.out) hg (Kd.R_ne HO254.out BK249.out (by decide)))
                    have n2_ := As0 (hb)
                    have n3_ := As0 (ho)
                    clear BK248
                    clear BK249
                    clear HB
                    clear HO254
                    have BK248 := n0_
                    have BK249 := n1_
                    have HB := n2_
                    have HO261 := n3_
                    clear n0_ n1_ n2_ n3_
                    clear ho hb hg hat
                    refine hK.out _ _ ⟨(blk_cell BK248.out 0).trans rfl, (blk_cell BK248.out 1).trans rfl, (blk_cell BK248.out 2).trans rfl, (blk_cell BK248.out 3).trans rfl, (blk_cell BK248.out 4).trans rfl⟩ (fun hHeld => ?_)
                    clear hK K
                    refine norm_ (a' := ?_) ?_ ?_
                    rotate_left
                    ·show Act.put _ (some 54) _ = _
                     simp only [Act.put, sL1, sL2, sL3, i64_w, i32_w]
                     rfl
                    refine one_ (i := 6) (N := some 56) #[true, true, true, true, true, true, true, false, true, true, true, false, false] rfl rfl (one_of HT_.out (by kernel_rfl)) (by decide) (fun K hK => ?_)
                    refine Kd.R_lit_step k25 _ 25 ?hg (N := 56) ?hd (xs := ([(⟨2, a4_1, a4_2, a4_3, a4_4⟩ : S25)] : List (S25))) (inner := [.int .i64 2, .int .i64 a4_1, .int .i64 a4_2, .int .i64 a4_3, .int .i64 a4_4]) (ok := fun _ => True) (okp := fun _ => True) ?hr ?hp (fun _ hk => hk) trivial (Below.refl _ _) (Nat.le_refl _) (by simp) ?_; (case hd => rfl); (case hg => rfl); (case hr => first | (go_simp; done) | (go_simp; rfl)); (case hp => exact (Reps.c5 (show Kd.M k25 _ _ _ (⟨2, a4_1, a4_2, a4_3, a4_4⟩ : S25) [.int .i64 2, .int .i64 a4_1, .int .i64 a4_2, .int .i64 a4_3, .int .i64 a4_4] from (k25_mkM _ _ _ (⟨2, a4_1, a4_2, a4_3, a4_4⟩ : S25) )) (Reps.none _ _)))
                    intro v263 w50 ho51 hb hg_ hnew_
                    clear hg_ hnew_
                    (first | rw [← Ny262.out] at ho51 | (simp only [Int.reduceToNat] at ho51; rw [← Ny262.out] at ho51))
                    have n0_ := As0 (Kd.R_elder' (by (with_reducible repeat (first | apply Kd.R_alloc | apply Kd.R_drewN | apply Kd.R_drew)); exact HO261.out) (Kd.R_base ho51) hb)
                    have n1_ := As0 (Kd.R_lower (Kd.R_newB (Kd.R_new' ho51 (Kd.R_lt (by (with_reducible repeat (first | apply Kd.R_alloc | apply Kd.R_drewN | apply Kd.R_drew)); exact HO261.out))) (g := gb248) (o := .cells #[.int .i64 2, .int .i64 a4_1, .int .i64 a4_2, .int .i64 a4_3, .int .i64 a4_4] 25 (0, 0)) (by (with_reducible repeat (first | refine blk_drewN ?_ _ | refine blk_drew ?_ | refine blk_alloc ?_ _)); exact BK248.out)) (below_size (by repeat (first | (with_reducible first | exact HB.out | apply below_alloc | apply bdN | apply bd1 | refine below_set ?_ GE248.out | refine below_set ?_ GE249.out) | exact HB.out))))
                    have n2_ := As0 (blk_below (g := gb248) (o := .cells #[.int .i64 2, .int .i64 a4_1, .int .i64 a4_2, .int .i64 a4_3, .int .i64 a4_4] 25 (0, 0)) (by (with_reducible repeat (first | refine blk_drewN ?_ _ | refine blk_drew ?_ | refine blk_alloc ?_ _)); exact BK248.out) hb)
                    have n3_ := As0 (blk_below (g := gb249) (o := .cells #[.int .i64 18, .int .i64 a5_1, .int .i64 a5_2, .int .i64 a5_3, .int .i64 a5_4, .int .i64 a5_5, .int .i64 a5_6] 28 (0, 0)) (by (with_reducible repeat (first | refine blk_drewN ?_ _ | refine blk_drew ?_ | refine blk_alloc ?_ _)); exact BK249.out) hb)
                    have n4_ := As0 (below_step (by repeat (first | (with_reducible first | exact HB.out | apply below_alloc | apply bdN | apply bd1 | refine below_set ?_ GE248.out | refine below_set ?_ GE249.out) | exact HB.out)) hb)
                    clear HO261
                    clear BK248
                    clear BK249
                    clear HB
                    have HO261 := n0_
                    have HO264 := n1_
                    have BK248 := n2_
                    have BK249 := n3_
                    have HB := n4_
                    clear n0_ n1_ n2_ n3_ n4_
                    clear hb ho51
                    refine hK.out _ _ ⟨(blk_cell BK248.out 0).trans rfl, (blk_cell BK248.out 1).trans rfl, (blk_cell BK248.out 2).trans rfl, (blk_cell BK248.out 3).trans rfl, (blk_cell BK248.out 4).trans rfl⟩ (fun hHeld => ?_)
                    clear hK K
                    refine norm_ (a' := ?_) ?_ ?_
                    rotate_left
                    ·show Act.put _ (some 56) _ = _
                     simp only [Act.put, sL1, sL2, sL3, i64_w, i32_w]
                     rfl
                    exact norm_ (by simp only [putAll, Act.put, sL1, sL2, sL3]) (hCont (v253, v260, v263) _ ⟨hHeld, (by (with_reducible repeat (first | apply Kd.R_alloc | apply Kd.R_drewN | apply Kd.R_drew)); exact Kd.R_mono HO261.out (fun _ hk => ⟨hk.2, hk.1⟩)), (by (with_reducible repeat (first | apply Kd.R_alloc | apply Kd.R_drewN | apply Kd.R_drew)); exact Kd.R_mono HO264.out (fun _ hk => ⟨hk.1.2, hk.2⟩)), (by (with_reducible repeat (first | refine blk_drewN ?_ _ | refine blk_drew ?_ | refine blk_alloc ?_ _)); exact BK248.out), (by (with_reducible repeat (first | refine blk_drewN ?_ _ | refine blk_drew ?_ | refine blk_alloc ?_ _)); exact BK249.out), (by repeat (first | (with_reducible first | exact HB.out | apply below_alloc | apply bdN | apply bd1 | refine below_set ?_ GE248.out | refine below_set ?_ GE249.out) | exact HB.out))⟩)
                   ·skip
                    refine Kd.R_lit_step k25 _ 25 ?hg (N := 56) ?hd (xs := ([(⟨2, a4_1, a4_2, a4_3, a4_4⟩ : S25)] : List (S25))) (inner := [.int .i64 2, .int .i64 a4_1, .int .i64 a4_2, .int .i64 a4_3, .int .i64 a4_4]) (ok := fun _ => True) (okp := fun _ => True) ?hr ?hp (fun _ hk => hk) trivial (Below.refl _ _) (Nat.le_refl _) (by simp) ?_; (case hd => rfl); (case hg => rfl); (case hr => first | (go_simp; done) | (go_simp; rfl)); (case hp => exact (Reps.c5 (show Kd.M k25 _ _ _ (⟨2, a4_1, a4_2, a4_3, a4_4⟩ : S25) [.int .i64 2, .int .i64 a4_1, .int .i64 a4_2, .int .i64 a4_3, .int .i64 a4_4] from (k25_mkM _ _ _ (⟨2, a4_1, a4_2, a4_3, a4_4⟩ : S25) )) (Reps.none _ _)))
                    intro v263 w49 ho50 hb hg_ hnew_
                    clear hg_ hnew_
                    (first | rw [← Ny262.out] at ho50 | (simp only [Int.reduceToNat] at ho50; rw [← Ny262.out] at ho50))
                    have n0_ := As0 (Kd.R_elder' (by (with_reducible repeat (first | apply Kd.R_alloc | apply Kd.R_drewN | apply Kd.R_drew)); exact HO254.out) (Kd.R_base ho50) hb)
                    have n1_ := As0 (Kd.R_lower (Kd.R_newB (Kd.R_new' ho50 (Kd.R_lt (by (with_reducible repeat (first | apply Kd.R_alloc | apply Kd.R_drewN | apply Kd.R_drew)); exact HO254.out))) (g := gb248) (o := .cells #[.int .i64 2, .int .i64 a4_1, .int .i64 a4_2, .int .i64 a4_3, .int .i64 a4_4] 25 (0, 0)) (by (with_reducible repeat (first | refine blk_drewN ?_ _ | refine blk_drew ?_ | refine blk_alloc ?_ _)); exact BK248.out)) (below_size (by repeat (first | (with_reducible first | exact HB.out | apply below_alloc | apply bdN | apply bd1 | refine below_set ?_ GE248.out | refine below_set ?_ GE249.out) | exact HB.out))))
                    have n2_ := As0 (blk_below (g := gb248) (o := .cells #[.int .i64 2, .int .i64 a4_1, .int .i64 a4_2, .int .i64 a4_3, .int .i64 a4_4] 25 (0, 0)) (by (with_reducible repeat (first | refine blk_drewN ?_ _ | refine blk_drew ?_ | refine blk_alloc ?_ _)); exact BK248.out) hb)
                    have n3_ := As0 (blk_below (g := gb249) (o := .cells #[.int .i64 18, .int .i64 a5_1, .int .i64 a5_2, .int .i64 a5_3, .int .i64 a5_4, .int .i64 a5_5, .int .i64 a5_6] 28 (0, 0)) (by (with_reducible repeat (first | refine blk_drewN ?_ _ | refine blk_drew ?_ | refine blk_alloc ?_ _)); exact BK249.out) hb)
                    have n4_ := As0 (below_step (by repeat (first | (with_reducible first | exact HB.out | apply below_alloc | apply bdN | apply bd1 | refine below_set ?_ GE248.out | refine below_set ?_ GE249.out) | exact HB.out)) hb)
                    clear HO254
                    clear BK248
                    clear BK249
                    clear HB
                    have HO254 := n0_
                    have HO264 := n1_
                    have BK248 := n2_
                    have BK249 := n3_
                    have HB := n4_
                    clear n0_ n1_ n2_ n3_ n4_
                    clear hb ho50
                    refine hK.out _ _ ⟨(blk_cell BK248.out 0).trans rfl, (blk_cell BK248.out 1).trans rfl, (blk_cell BK248.out 2).trans rfl, (blk_cell BK248.out 3).trans rfl, (blk_cell BK248.out 4).trans rfl⟩ (fun hHeld => ?_)
                    clear hK K
                    refine norm_ (a' := ?_) ?_ ?_
                    rotate_left
                    ·show Act.put _ (some 56) _ = _
                     simp only [Act.put, sL1, sL2, sL3, i64_w, i32_w]
                     rfl
                    refine one_ (i := 4) (N := some 54) #[true, true, true, true, true, true, true, false, true, true, true, false, false] rfl rfl (one_of HT_.out (by kernel_rfl)) (by decide) (fun K hK => ?_)
                    refine Kd.R_append_rows_step k25 (w0 := w) w.heap.size (by rfl) (.tmp 50) (.tmp 53) 22 25 (.agg #[(.int .i64 0), (.int .i64 0), (.int .i64 0), (.int .i64 0), (.int .i64 0)]) 40 rfl Try.underlying22 info25 rfl (by decide) (by omega) v253 y252 y255 _ _ _ (fun k_ => some k_ ≠ (v263 : Value).ownBlock ∧ k_ ≠ gb248) (fun _ => False) rfl rfl ?aO ?aR (fun _ _ h => h) (fun _ h => h.elim) ?aF ?aB ?aS ?aL ?_
                    (case aR => repeat (first | exact (Kd.C_below HR258.out HB.out) | (with_reducible refine Kd.C_alloc ?_ _) | (with_reducible refine Kd.C_drewN ?_ _) | (with_reducible refine Kd.C_drew ?_)))
                    (case aB => exact (by repeat (first | (with_reducible first | exact HB.out | apply below_alloc | apply bdN | apply bd1 | refine below_set ?_ GE248.out | refine below_set ?_ GE249.out) | exact HB.out)))
                    (case aF => exact (fun k_ hk => ⟨Kd.fresh' (Kd.R_lt (by (with_reducible repeat (first | apply Kd.R_alloc | apply Kd.R_drewN | apply Kd.R_drew)); exact HO264.out)) k_ hk, Kd.freshB (g := gb248) (o := .cells #[.int .i64 2, .int .i64 a4_1, .int .i64 a4_2, .int .i64 a4_3, .int .i64 a4_4] 25 (0, 0)) (by (with_reducible repeat (first | refine blk_drewN ?_ _ | refine blk_drew ?_ | refine blk_alloc ?_ _)); exact BK248.out) k_ hk⟩))
                    (case aO => exact (by (with_reducible repeat (first | apply Kd.R_alloc | apply Kd.R_drewN | apply Kd.R_drew)); exact Kd.R_mono HO254.out (fun _ hk => ⟨hk.2, hk.1.2⟩)))
                    (case aS => exact (below_size (by repeat (first | (with_reducible first | exact HB.out | apply below_alloc | apply bdN | apply bd1 | refine below_set ?_ GE248.out | refine below_set ?_ GE249.out) | exact HB.out))))
                    (case aL => have := LMc24.out; omega)
                    intro v260 w51 ho hb hg hat
                    rw [← Ny259.out] at ho
                    have n0_ := As0 (blk_grown (g := gb248) (o := .cells #[.int .i64 2, .int .i64 a4_1, .int .i64 a4_2, .int .i64 a4_3, .int .i64 a4_4] 25 (0, 0)) (by (with_reducible repeat (first | refine blk_drewN ?_ _ | refine blk_drew ?_ | refine blk_alloc ?_ _)); exact BK248.out) hg (Kd.R_away HO254.out (fun _ hk => hk.1.2)))
                    have n1_ := As0 (blk_grown (g := gb249) (o := .cells #[.int .i64 18, .int .i64 a5_1, .int .i64 a5_2, .int .i64 a5_3, .int .i64 a5_4, .int .i64 a5_5, .int .i64 a5_6] 28 (0, 0)) (by (with_reducible repeat (first | refine blk_drewN ?_ _ | refine blk_drew ?_ | refine blk_alloc ?_ _)); exact BK249.out) hg (Kd.R_ne HO254.out BK249.out (by decide)))
                    have n2_ := As0 (Kd.R_after (ok := (fun k_ => k_ ≠ gb248)) (by (with_reducible repeat (first | apply Kd.R_alloc | apply Kd.R_drewN | apply Kd.R_drew)); exact Kd.R_mono HO264.out (fun _ hk => ⟨hk.2, hk.1.2⟩)) hg hat)
                    have n3_ := As0 (hb)
                    have n4_ := As0 (ho)
                    clear BK248
                    clear BK249
                    clear HO264
                    clear HB
                    clear HO254
                    have BK248 := n0_
                    have BK249 := n1_
                    have HO264 := n2_
                    have HB := n3_
                    have HO261 := n4_
                    clear n0_ n1_ n2_ n3_ n4_
                    clear ho hb hg hat
                    refine hK.out _ _ ⟨(blk_cell BK248.out 0).trans rfl, (blk_cell BK248.out 1).trans rfl, (blk_cell BK248.out 2).trans rfl, (blk_cell BK248.out 3).trans rfl, (blk_cell BK248.out 4).trans rfl⟩ (fun hHeld => ?_)
                    clear hK K
                    refine norm_ (a' := ?_) ?_ ?_
                    rotate_left
                    ·show Act.put _ (some 54) _ = _
                     simp only [Act.put, sL1, sL2, sL3, i64_w, i32_w]
                     rfl
                    exact norm_ (by simp only [putAll, Act.put, sL1, sL2, sL3]) (hCont (v253, v260, v263) _ ⟨hHeld, (by (with_reducible repeat (first | apply Kd.R_alloc | apply Kd.R_drewN | apply Kd.R_drew)); exact HO261.out), (by (with_reducible repeat (first | apply Kd.R_alloc | apply Kd.R_drewN | apply Kd.R_drew)); exact Kd.R_mono HO264.out (fun _ hk => ⟨hk.2, hk.1⟩)), (by (with_reducible repeat (first | refine blk_drewN ?_ _ | refine blk_drew ?_ | refine blk_alloc ?_ _)); exact BK248.out), (by (with_reducible repeat (first | refine blk_drewN ?_ _ | refine blk_drew ?_ | refine blk_alloc ?_ _)); exact BK249.out), (by repeat (first | (with_reducible first | exact HB.out | apply below_alloc | apply bdN | apply bd1 | refine below_set ?_ GE248.out | refine below_set ?_ GE249.out) | exact HB.out))⟩)
                  ·skip
                   refine Kd.R_lit_step k25 _ 25 ?hg (N := 56) ?hd (xs := ([(⟨2, a4_1, a4_2, a4_3, a4_4⟩ : S25)] : List (S25))) (inner := [.int .i64 2, .int .i64 a4_1, .int .i64 a4_2, .int .i64 a4_3, .int .i64 a4_4]) (ok := fun _ => True) (okp := fun _ => True) ?hr ?hp (fun _ hk => hk) trivial (Below.refl _ _) (Nat.le_refl _) (by simp) ?_; (case hd => rfl); (case hg => rfl); (case hr => first | (go_simp; done) | (go_simp; rfl)); (case hp => exact (Reps.c5 (show Kd.M k25 _ _ _ (⟨2, a4_1, a4_2, a4_3, a4_4⟩ : S25) [.int .i64 2, .int .i64 a4_1, .int .i64 a4_2, .int .i64 a4_3, .int .i64 a4_4] from (k25_mkM _ _ _ (⟨2, a4_1, a4_2, a4_3, a4_4⟩ : S25) )) (Reps.none _ _)))
                   intro v263 w47 ho48 hb hg_ hnew_
                   clear hg_ hnew_
                   (first | rw [← Ny262.out] at ho48 | (simp only [Int.reduceToNat] at ho48; rw [← Ny262.out] at ho48))
                   have n0_ := As0 (Kd.R_lower (Kd.R_newB ho48 (g := gb248) (o := .cells #[.int .i64 2, .int .i64 a4_1, .int .i64 a4_2, .int .i64 a4_3, .int .i64 a4_4] 25 (0, 0)) (by (with_reducible repeat (first | refine blk_drewN ?_ _ | refine blk_drew ?_ | refine blk_alloc ?_ _)); exact BK248.out)) (below_size (by repeat (first | (with_reducible first | exact HB.out | apply below_alloc | apply bdN | apply bd1 | refine below_set ?_ GE248.out | refine below_set ?_ GE249.out) | exact HB.out))))
                   have n1_ := As0 (blk_below (g := gb248) (o := .cells #[.int .i64 2, .int .i64 a4_1, .int .i64 a4_2, .int .i64 a4_3, .int .i64 a4_4] 25 (0, 0)) (by (with_reducible repeat (first | refine blk_drewN ?_ _ | refine blk_drew ?_ | refine blk_alloc ?_ _)); exact BK248.out) hb)
                   have n2_ := As0 (blk_below (g := gb249) (o := .cells #[.int .i64 18, .int .i64 a5_1, .int .i64 a5_2, .int .i64 a5_3, .int .i64 a5_4, .int .i64 a5_5, .int .i64 a5_6] 28 (0, 0)) (by (with_reducible repeat (first | refine blk_drewN ?_ _ | refine blk_drew ?_ | refine blk_alloc ?_ _)); exact BK249.out) hb)
                   have n3_ := As0 (below_step (by repeat (first | (with_reducible first | exact HB.out | apply below_alloc | apply bdN | apply bd1 | refine below_set ?_ GE248.out | refine below_set ?_ GE249.out) | exact HB.out)) hb)
                   clear BK248
                   clear BK249
                   clear HB
                   have HO264 := n0_
                   have BK248 := n1_
                   have BK249 := n2_
                   have HB := n3_
                   clear n0_ n1_ n2_ n3_
                   clear hb ho48
                   refine hK.out _ _ ⟨(blk_cell BK248.out 0).trans rfl, (blk_cell BK248.out 1).trans rfl, (blk_cell BK248.out 2).trans rfl, (blk_cell BK248.out 3).trans rfl, (blk_cell BK248.out 4).trans rfl⟩ (fun hHeld => ?_)
                   clear hK K
                   refine norm_ (a' := ?_) ?_ ?_
                   rotate_left
                   ·show Act.put _ (some 56) _ = _
                    simp only [Act.put, sL1, sL2, sL3, i64_w, i32_w]
                    rfl
                   refine one_ (i := 0) (N := some 50) #[true, true, true, true, false, true, true, false, true, true, true, false, false] rfl rfl (one_of HT_.out (by kernel_rfl)) (by decide) (fun K hK => ?_)
                   refine Kd.R_lit_step k25 _ 25 ?hg (N := 50) ?hd (xs := ([] : List (S25))) (inner := []) (ok := fun _ => True) (okp := fun _ => True) ?hr ?hp (fun _ hk => hk) trivial (Below.refl _ _) (Nat.le_refl _) (by simp) ?_; (case hd => rfl); (case hg => rfl); (case hr => first | (go_simp; done) | (go_simp; rfl)); (case hp => exact (Reps.none _ _))
                   intro v253 w49 ho50 hb hg_ hnew_
                   clear hg_ hnew_
                   (first | rw [← Ny252.out] at ho50 | (simp only [Int.reduceToNat] at ho50; rw [← Ny252.out] at ho50))
                   have n0_ := As0 (Kd.R_elder' (by (with_reducible repeat (first | apply Kd.R_alloc | apply Kd.R_drewN | apply Kd.R_drew)); exact HO264.out) (Kd.R_base ho50) hb)
                   have n1_ := As0 (Kd.R_lower (Kd.R_newB (Kd.R_new' ho50 (Kd.R_lt (by (with_reducible repeat (first | apply Kd.R_alloc | apply Kd.R_drewN | apply Kd.R_drew)); exact HO264.out))) (g := gb248) (o := .cells #[.int .i64 2, .int .i64 a4_1, .int .i64 a4_2, .int .i64 a4_3, .int .i64 a4_4] 25 (0, 0)) (by (with_reducible repeat (first | refine blk_drewN ?_ _ | refine blk_drew ?_ | refine blk_alloc ?_ _)); exact BK248.out)) (below_size (by repeat (first | (with_reducible first | exact HB.out | apply below_alloc | apply bdN | apply bd1 | refine below_set ?_ GE248.out | refine below_set ?_ GE249.out) | exact HB.out))))
                   have n2_ := As0 (blk_below (g := gb248) (o := .cells #[.int .i64 2, .int .i64 a4_1, .int .i64 a4_2, .int .i64 a4_3, .int .i64 a4_4] 25 (0, 0)) (by (with_reducible repeat (first | refine blk_drewN ?_ _ | refine blk_drew ?_ | refine blk_alloc ?_ _)); exact BK248.out) hb)
                   have n3_ := As0 (blk_below (g := gb249) (o := .cells #[.int .i64 18, .int .i64 a5_1, .int .i64 a5_2, .int .i64 a5_3, .int .i64 a5_4, .int .i64 a5_5, .int .i64 a5_6] 28 (0, 0)) (by (with_reducible repeat (first | refine blk_drewN ?_ _ | refine blk_drew ?_ | refine blk_alloc ?_ _)); exact BK249.out) hb)
                   have n4_ := As0 (below_step (by repeat (first | (with_reducible first | exact HB.out | apply below_alloc | apply bdN | apply bd1 | refine below_set ?_ GE248.out | refine below_set ?_ GE249.out) | exact HB.out)) hb)
                   clear HO264
                   clear BK248
                   clear BK249
                   clear HB
                   have HO264 := n0_
                   have HO254 := n1_
                   have BK248 := n2_
                   have BK249 := n3_
                   have HB := n4_
                   clear n0_ n1_ n2_ n3_ n4_
                   clear hb ho50
                   refine hK.out _ _ ⟨(blk_cell BK248.out 0).trans rfl, (blk_cell BK248.out 1).trans rfl, (blk_cell BK248.out 2).trans rfl, (blk_cell BK248.out 3).trans rfl, (blk_cell BK248.out 4).trans rfl⟩ (fun hHeld => ?_)
                   clear hK K
                   refine norm_ (a' := ?_) ?_ ?_
                   rotate_left
                   ·show Act.put _ (some 50) _ = _
                    simp only [Act.put, sL1, sL2, sL3, i64_w, i32_w]
                    rfl
                   refine one_ (i := 4) (N := some 54) #[true, true, true, true, true, true, true, false, true, true, true, false, false] rfl rfl (one_of HT_.out (by kernel_rfl)) (by decide) (fun K hK => ?_)
                   refine Kd.R_append_rows_step k25 (w0 := w) w.heap.size (by rfl) (.tmp 50) (.tmp 53) 22 25 (.agg #[(.int .i64 0), (.int .i64 0), (.int .i64 0), (.int .i64 0), (.int .i64 0)]) 40 rfl Try.underlying22 info25 rfl (by decide) (by omega) v253 y252 y255 _ _ _ (fun k_ => some k_ ≠ (v263 : Value).ownBlock ∧ k_ ≠ gb248) (fun _ => False) rfl rfl ?aO ?aR (fun _ _ h => h) (fun _ h => h.elim) ?aF ?aB ?aS ?aL ?_
                   (case aR => repeat (first | exact (Kd.C_below HR258.out HB.out) | (with_reducible refine Kd.C_alloc ?_ _) | (with_reducible refine Kd.C_drewN ?_ _) | (with_reducible refine Kd.C_drew ?_)))
                   (case aB => exact (by repeat (first | (with_reducible first | exact HB.out | apply below_alloc | apply bdN | apply bd1 | refine below_set ?_ GE248.out | refine below_set ?_ GE249.out) | exact HB.out)))
                   (case aF => exact (fun k_ hk => ⟨Kd.fresh' (Kd.R_lt (by (with_reducible repeat (first | apply Kd.R_alloc | apply Kd.R_drewN | apply Kd.R_drew)); exact HO264.out)) k_ hk, Kd.freshB (g := gb248) (o := .cells #[.int .i64 2, .int .i64 a4_1, .int .i64 a4_2, .int .i64 a4_3, .int .i64 a4_4] 25 (0, 0)) (by (with_reducible repeat (first | refine blk_drewN ?_ _ | refine blk_drew ?_ | refine blk_alloc ?_ _)); exact BK248.out) k_ hk⟩))
                   (case aO => exact (by (with_reducible repeat (first | apply Kd.R_alloc | apply Kd.R_drewN | apply Kd.R_drew)); exact Kd.R_mono HO254.out (fun _ hk => ⟨hk.1.2, hk.2⟩)))
                   (case aS => exact (below_size (by repeat (first | (with_reducible first | exact HB.out | apply below_alloc | apply bdN | apply bd1 | refine below_set ?_ GE248.out | refine below_set ?_ GE249.out) | exact HB.out))))
                   (case aL => have := LMc24.out; omega)
                   intro v260 w51 ho hb hg hat
                   rw [← Ny259.out] at ho
                   have n0_ := As0 (blk_grown (g := gb248) (o := .cells #[.int .i64 2, .int .i64 a4_1, .int .i64 a4_2, .int .i64 a4_3, .int .i64 a4_4] 25 (0, 0)) (by (with_reducible repeat (first | refine blk_drewN ?_ _ | refine blk_drew ?_ | refine blk_alloc ?_ _)); exact BK248.out) hg (Kd.R_away HO254.out (fun _ hk => hk.2)))
                   have n1_ := As0 (blk_grown (g := gb249) (o := .cells #[.int .i64 18, .int .i64 a5_1, .int .i64 a5_2, .int .i64 a5_3, .int .i64 a5_4, .int .i64 a5_5, .int .i64 a5_6] 28 (0, 0)) (by (with_reducible repeat (first | refine blk_drewN ?_ _ | refine blk_drew ?_ | refine blk_alloc ?_ _)); exact BK249.out) hg (Kd.R_ne HO254.out BK249.out (by decide)))
                   have n2_ := As0 (Kd.R_after (ok := (fun k_ => k_ ≠ gb248)) (by (with_reducible repeat (first | apply Kd.R_alloc | apply Kd.R_drewN | apply Kd.R_drew)); exact Kd.R_mono HO264.out (fun _ hk => ⟨hk.1.2, hk.2⟩)) hg hat)
                   have n3_ := As0 (hb)
                   have n4_ := As0 (ho)
                   clear BK248
                   clear BK249
                   clear HO264
                   clear HB
                   clear HO254
                   have BK248 := n0_
                   have BK249 := n1_
                   have HO264 := n2_
                   have HB := n3_
                   have HO261 := n4_
                   clear n0_ n1_ n2_ n3_ n4_
                   clear ho hb hg hat
                   refine hK.out _ _ ⟨(blk_cell BK248.out 0).trans rfl, (blk_cell BK248.out 1).trans rfl, (blk_cell BK248.out 2).trans rfl, (blk_cell BK248.out 3).trans rfl, (blk_cell BK248.out 4).trans rfl⟩ (fun hHeld => ?_)
                   clear hK K
                   refine norm_ (a' := ?_) ?_ ?_
                   rotate_left
                   ·show Act.put _ (some 54) _ = _
                    simp only [Act.put, sL1, sL2, sL3, i64_w, i32_w]
                    rfl
                   exact norm_ (by simp only [putAll, Act.put, sL1, sL2, sL3]) (hCont (v253, v260, v263) _ ⟨hHeld, (by (with_reducible repeat (first | apply Kd.R_alloc | apply Kd.R_drewN | apply Kd.R_drew)); exact HO261.out), (by (with_reducible repeat (first | apply Kd.R_alloc | apply Kd.R_drewN | apply Kd.R_drew)); exact Kd.R_mono HO264.out (fun _ hk => ⟨hk.2, hk.1⟩)), (by (with_reducible repeat (first | refine blk_drewN ?_ _ | refine blk_drew ?_ | refine blk_alloc ?_ _)); exact BK248.out), (by (with_reducible repeat (first | refine blk_drewN ?_ _ | refine blk_drew ?_ | refine blk_alloc ?_ _)); exact BK249.out), (by repeat (first | (with_reducible first | exact HB.out | apply below_alloc | apply bdN | apply bd1 | refine below_set ?_ GE248.out | refine below_set ?_ GE249.out) | exact HB.out))⟩)
                 rintro ⟨v253, v260, v263⟩ w52 ⟨hS_, h0_, h1_, h2_, h3_, h4_⟩
                 have n0_ : Aside0 (Kd.R k25 25 w52 w.heap.size (fun k_ => some k_ ≠ (v263 : Value).ownBlock ∧ k_ ≠ gb248) v260 y259) := ⟨h0_⟩
                 have n1_ : Aside0 (Kd.R k25 25 w52 w.heap.size (fun k_ => some k_ ≠ (v260 : Value).ownBlock ∧ k_ ≠ gb248) v263 y262) := ⟨h1_⟩
                 have n2_ : Aside0 (w52.heap[gb248]? = some (.cells #[.int .i64 2, .int .i64 a4_1, .int .i64 a4_2, .int .i64 a4_3, .int .i64 a4_4] 25 (0, 0))) := ⟨h2_⟩
                 have n3_ : Aside0 (w52.heap[gb249]? = some (.cells #[.int .i64 18, .int .i64 a5_1, .int .i64 a5_2, .int .i64 a5_3, .int .i64 a5_4, .int .i64 a5_5, .int .i64 a5_6] 28 (0, 0))) := ⟨h3_⟩
                 have n4_ : Aside0 (Below w.heap.size w w52) := ⟨h4_⟩
                 clear BK248
                 clear BK249
                 clear HB
                 clear h0_ h1_ h2_ h3_ h4_
                 have HO261 := n0_
                 have HO264 := n1_
                 have BK248 := n2_
                 have BK249 := n3_
                 have HB := n4_
                 clear n0_ n1_ n2_ n3_ n4_
                 have hHeld : w52.cell? ⟨gb248, 0, none⟩ = some (.int .i64 2) ∧ w52.cell? ⟨gb248, 1, none⟩ = some (.int .i64 a4_1) ∧ w52.cell? ⟨gb248, 2, none⟩ = some (.int .i64 a4_2) ∧ w52.cell? ⟨gb248, 3, none⟩ = some (.int .i64 a4_3) ∧ w52.cell? ⟨gb248, 4, none⟩ = some (.int .i64 a4_4) := hS_
                 obtain ⟨Ao54, co54, eo54⟩ := Kd.R_slice HO264.out
                 (first | subst eo54 | (injection eo54 with f1_ f2_ f3_; have f4_ := f1_.symm; have f5_ := f3_.symm; clear f1_ f2_ f3_; subst f4_; subst f5_))
                 refine norm_ (a' := ?_) ?_ ?_
                 rotate_left
                 ·simp only [putAll, Act.put, sL1, sL2, sL3]
                  rfl
                 refine one_ (i := 7) (N := some 57) #[true, true, true, true, true, true, true, true, true, true, true, false, false] rfl rfl (one_of HT_.out (by kernel_rfl)) (by decide) (fun K hK => ?_)
                 refine Kd.R_append_rows_step k25 (w0 := w) w.heap.size (by rfl) (.tmp 54) (.tmp 56) 22 25 (.agg #[(.int .i64 0), (.int .i64 0), (.int .i64 0), (.int .i64 0), (.int .i64 0)]) 40 rfl Try.underlying22 info25 rfl (by decide) (by omega) v260 y259 y262 _ _ _ (fun k_ => some k_ ≠ (.slice Ao54 y262.length co54 : Value).ownBlock ∧ k_ ≠ gb248) (fun _ => False) rfl rfl ?aO ?aR (fun _ _ h => h) (fun _ h => h.elim) ?aF ?aB ?aS ?aL ?_
                 (case aR => repeat (first | exact (Kd.R_reads' HO264.out).2.2 | (with_reducible refine Kd.C_alloc ?_ _) | (with_reducible refine Kd.C_drewN ?_ _) | (with_reducible refine Kd.C_drew ?_)))
                 (case aB => exact (by repeat (first | (with_reducible first | exact HB.out | apply below_alloc | apply bdN | apply bd1 | refine below_set ?_ GE248.out | refine below_set ?_ GE249.out) | exact HB.out)))
                 (case aF => exact (fun k_ hk => ⟨Kd.fresh' (Kd.R_lt (by (with_reducible repeat (first | apply Kd.R_alloc | apply Kd.R_drewN | apply Kd.R_drew)); exact HO264.out)) k_ hk, Kd.freshB (g := gb248) (o := .cells #[.int .i64 2, .int .i64 a4_1, .int .i64 a4_2, .int .i64 a4_3, .int .i64 a4_4] 25 (0, 0)) (by (with_reducible repeat (first | refine blk_drewN ?_ _ | refine blk_drew ?_ | refine blk_alloc ?_ _)); exact BK248.out) k_ hk⟩))
                 (case aO => exact (by (with_reducible repeat (first | apply Kd.R_alloc | apply Kd.R_drewN | apply Kd.R_drew)); exact HO261.out))
                 (case aS => exact (below_size (by repeat (first | (with_reducible first | exact HB.out | apply below_alloc | apply bdN | apply bd1 | refine below_set ?_ GE248.out | refine below_set ?_ GE249.out) | exact HB.out))))
                 (case aL => have := LMc25.out; omega)
                 intro v266 w53 ho hb hg hat
                 rw [← Ny265.out] at ho
                 have n0_ := As0 (blk_grown (g := gb248) (o := .cells #[.int .i64 2, .int .i64 a4_1, .int .i64 a4_2, .int .i64 a4_3, .int .i64 a4_4] 25 (0, 0)) (by (with_reducible repeat (first | refine blk_drewN ?_ _ | refine blk_drew ?_ | refine blk_alloc ?_ _)); exact BK248.out) hg (Kd.R_away HO261.out (fun _ hk => hk.2)))
                 have n1_ := As0 (blk_grown (g := gb249) (o := .cells #[.int .i64 18, .int .i64 a5_1, .int .i64 a5_2, .int .i64 a5_3, .int .i64 a5_4, .int .i64 a5_5, .int .i64 a5_6] 28 (0, 0)) (by (with_reducible repeat (first | refine blk_drewN ?_ _ | refine blk_drew ?_ | refine blk_alloc ?_ _)); exact BK249.out) hg (Kd.R_ne HO261.out BK249.out (by decide)))
                 have n2_ := As0 (Kd.R_after (ok := (fun k_ => k_ ≠ gb248)) (by (with_reducible repeat (first | apply Kd.R_alloc | apply Kd.R_drewN | apply Kd.R_drew)); exact Kd.R_mono HO264.out (fun _ hk => ⟨hk.2, hk.1⟩)) hg hat)
                 have n3_ := As0 (hb)
                 have n4_ := As0 (ho)
                 clear BK248
                 clear BK249
                 clear HO264
                 clear HB
                 clear HO261
                 have BK248 := n0_
                 have BK249 := n1_
                 have HO264 := n2_
                 have HB := n3_
                 have HO267 := n4_
                 clear n0_ n1_ n2_ n3_ n4_
                 clear ho hb hg hat
                 refine hK.out _ _ ⟨(blk_cell BK248.out 0).trans rfl, (blk_cell BK248.out 1).trans rfl, (blk_cell BK248.out 2).trans rfl, (blk_cell BK248.out 3).trans rfl, (blk_cell BK248.out 4).trans rfl⟩ (fun hHeld => ?_)
                 clear hK K
                 refine norm_ (a' := ?_) ?_ ?_
                 rotate_left
                 ·show Act.put _ (some 57) _ = _
                  simp only [Act.put, sL1, sL2, sL3, i64_w, i32_w]
                  rfl
                 refine one_ (i := 11) (N := some 61) #[true, true, true, true, true, true, true, true, true, true, true, true, false] rfl rfl (one_of HT_.out (by kernel_rfl)) (by decide) (fun K hK => ?_)
                 refine Kd.R_append_rows_step k25 (w0 := w) w.heap.size (by rfl) (.tmp 57) (.tmp 60) 22 25 (.agg #[(.int .i64 0), (.int .i64 0), (.int .i64 0), (.int .i64 0), (.int .i64 0)]) 40 rfl Try.underlying22 info25 rfl (by decide) (by omega) v266 y265 y268 _ _ _ (fun k_ => some k_ ≠ (.slice Ao54 y262.length co54 : Value).ownBlock ∧ k_ ≠ gb248) (fun _ => False) rfl rfl ?aO ?aR (fun _ _ h => h) (fun _ h => h.elim) ?aF ?aB ?aS ?aL ?_
                 (case aR => repeat (first | exact (Kd.C_below HR271.out HB.out) | (with_reducible refine Kd.C_alloc ?_ _) | (with_reducible refine Kd.C_drewN ?_ _) | (with_reducible refine Kd.C_drew ?_)))
                 (case aB => exact (by repeat (first | (with_reducible first | exact HB.out | apply below_alloc | apply bdN | apply bd1 | refine below_set ?_ GE248.out | refine below_set ?_ GE249.out) | exact HB.out)))
                 (case aF => exact (fun k_ hk => ⟨Kd.fresh' (Kd.R_lt (by (with_reducible repeat (first | apply Kd.R_alloc | apply Kd.R_drewN | apply Kd.R_drew)); exact HO264.out)) k_ hk, Kd.freshB (g := gb248) (o := .cells #[.int .i64 2, .int .i64 a4_1, .int .i64 a4_2, .int .i64 a4_3, .int .i64 a4_4] 25 (0, 0)) (by (with_reducible repeat (first | refine blk_drewN ?_ _ | refine blk_drew ?_ | refine blk_alloc ?_ _)); exact BK248.out) k_ hk⟩))
                 (case aO => exact (by (with_reducible repeat (first | apply Kd.R_alloc | apply Kd.R_drewN | apply Kd.R_drew)); exact HO267.out))
                 (case aS => exact (below_size (by repeat (first | (with_reducible first | exact HB.out | apply below_alloc | apply bdN | apply bd1 | refine below_set ?_ GE248.out | refine below_set ?_ GE249.out) | exact HB.out))))
                 (case aL => have := LMc28.out; omega)
                 intro v273 w55 ho hb hg hat
                 rw [← Ny272.out] at ho
                 have n0_ := As0 (blk_grown (g := gb248) (o := .cells #[.int .i64 2, .int .i64 a4_1, .int .i64 a4_2, .int .i64 a4_3, .int .i64 a4_4] 25 (0, 0)) (by (with_reducible repeat (first | refine blk_drewN ?_ _ | refine blk_drew ?_ | refine blk_alloc ?_ _)); exact BK248.out) hg (Kd.R_away HO267.out (fun _ hk => hk.2)))
                 have n1_ := As0 (blk_grown (g := gb249) (o := .cells #[.int .i64 18, .int .i64 a5_1, .int .i64 a5_2, .int .i64 a5_3, .int .i64 a5_4, .int .i64 a5_5, .int .i64 a5_6] 28 (0, 0)) (by (with_reducible repeat (first | refine blk_drewN ?_ _ | refine blk_drew ?_ | refine blk_alloc ?_ _)); exact BK249.out) hg (Kd.R_ne HO267.out BK249.out (by decide)))
                 have n2_ := As0 (Kd.R_after (ok := (fun k_ => k_ ≠ gb248)) (by (with_reducible repeat (first | apply Kd.R_alloc | apply Kd.R_drewN | apply Kd.R_drew)); exact HO264.out) hg hat)
                 have n3_ := As0 (hb)
                 have n4_ := As0 (ho)
                 clear BK248
                 clear BK249
                 clear HO264
                 clear HB
                 clear HO267
                 have BK248 := n0_
                 have BK249 := n1_
                 have HO264 := n2_
                 have HB := n3_
                 have HO274 := n4_
                 clear n0_ n1_ n2_ n3_ n4_
                 clear ho hb hg hat
                 refine hK.out _ _ ⟨(blk_cell BK248.out 0).trans rfl, (blk_cell BK248.out 1).trans rfl, (blk_cell BK248.out 2).trans rfl, (blk_cell BK248.out 3).trans rfl, (blk_cell BK248.out 4).trans rfl⟩ (fun hHeld => ?_)
                 clear hK K
                 refine norm_ (a' := ?_) ?_ ?_
                 rotate_left
                 ·show Act.put _ (some 61) _ = _
                  simp only [Act.put, sL1, sL2, sL3, i64_w, i32_w]
                  rfl
                 refine pure_ (i := 12) (N := some 15) (v := ?_) (a' := ?_) #[true, true, true, true, true, true, true, true, true, true, true, true, true] rfl rfl (any_of HT_.out (by kernel_rfl)) (fun _ _ _ h => h) (Or.inl ⟨by rfl, ?_⟩) ?_ ?_
                 rotate_left
                 ·intro w'
                  go_simp
                  with_reducible rfl
                 rotate_left
                 ·simp only [Act.put, sL1, sL2, sL3, i64_w, i32_w]
                  rfl
                 refine done_ (done_of HT_.out (by kernel_rfl)) ?_
                 try go_wp2
                 have n0_ := As0 (Kd.R_drew HO264.out)
                 have n1_ := As0 (Kd.R_drew HO274.out)
                 have n2_ := As0 (blk_drew BK248.out)
                 have n3_ := As0 (blk_drew BK249.out)
                 have n4_ := As0 (bd1 HB.out)
                 clear HO264
                 clear HO274
                 clear BK248
                 clear BK249
                 clear HB
                 have HO264 := n0_
                 have HO274 := n1_
                 have BK248 := n2_
                 have BK249 := n3_
                 have HB := n4_
                 clear n0_ n1_ n2_ n3_ n4_
                 have q57 : ((ji29) : Int) ≤ ((l1.length : Int) : Int) := of_decide_eq_true (by first | (with_reducible assumption) | assumption)
                 obtain ⟨i057, hi057, _, hsz57, _⟩ := info_parts info28
                 have hroom57 : l1.length ≤ c1 := HC1.out
                 have hC57 : Kd.C k28 _ A1 l1.length l1 := HR1.out
                 have hcut57 := cut_to (P := Try.prog) 23 28 .i64 Try.underlying23 hi057 A1 l1.length c1 (ji29) (of_decide_eq_true (by first | (with_reducible assumption) | assumption)) q57 hroom57
                 have hr57 := Kd.C_take (m := ((ji29) : Int).toNat) hC57 (by omega)
                 have hy57 : y278.length = ((ji29) : Int).toNat := (by rw [Ny278.out, List.length_take]; omega)
                 rw [← Ny278.out] at hr57
                 rw [← hy57] at hcut57
                 have HR281 := As0 hr57
                 have HC281 := As0 (show y278.length ≤ c1 from by omega)
                 clear hr57 hC57 hroom57 hi057 hsz57
                 have KY57 := As0 hy57
                 clear hy57
                 replace q57 := eq_true q57
                 have q58 : ((ji29) : Int) ≤ ((l1.length : Int) : Int) := of_decide_eq_true (by first | (with_reducible assumption) | assumption)
                 obtain ⟨i058, hi058, _, hsz58, _⟩ := info_parts info28
                 have hroom58 : l1.length ≤ c1 := HC1.out
                 have hC58 : Kd.C k28 _ A1 l1.length l1 := HR1.out
                 have q058 : (0 : Int) ≤ ((ji29) : Int) := of_decide_eq_true (by first | (with_reducible assumption) | assumption)
                 have hcut58 := cut_from (P := Try.prog) 23 28 .i64 Try.underlying23 hi058 7 hsz58 A1 l1.length c1 (ji29) q058 q58
                 have hr58 := Kd.C_drop (m := ((ji29) : Int).toNat) (c := c1) hC58 (by omega) hroom58
                 obtain ⟨A58, hA58⟩ : ∃ Aq_, Aq_ = (if c1 = ((ji29) : Int).toNat then A1 else (A1 : Option Addr).map (·.add (((ji29) : Int).toNat * 7))) := ⟨_, rfl⟩
                 obtain ⟨c58, hc58⟩ : ∃ cq_, cq_ = c1 - ((ji29) : Int).toNat := ⟨_, rfl⟩
                 have hy58 : y291.length = l1.length - ((ji29) : Int).toNat := (by rw [Ny291.out, List.length_drop] <;> omega)
                 rw [show (l1).drop ((ji29) : Int).toNat = y291 from Ny291.out.symm] at hr58
                 replace hr58 : Kd.C k28 _ A58 y291.length y291 := (by rw [hA58]; exact hr58)
                 rw [← hy58, ← hA58, ← hc58] at hcut58
                 have HR294 := As0 hr58
                 have HC294 := As0 (show y291.length ≤ c58 from by rw [hy58, hc58]; exact Nat.sub_le_sub_right hroom58 _)
                 clear hr58 hC58 hroom58 hi058 hsz58 hc58
                 have KY58 := As0 hy58
                 have KA58 := As0 hA58
                 clear hy58 hA58
                 replace q58 := eq_true q58
                 refine start_ (n := 13) (S := fun w' => w'.cell? ⟨gb249, 0, none⟩ = some (.int .i64 18) ∧ w'.cell? ⟨gb249, 1, none⟩ = some (.int .i64 a5_1) ∧ w'.cell? ⟨gb249, 2, none⟩ = some (.int .i64 a5_2) ∧ w'.cell? ⟨gb249, 3, none⟩ = some (.int .i64 a5_3) ∧ w'.cell? ⟨gb249, 4, none⟩ = some (.int .i64 a5_4) ∧ w'.cell? ⟨gb249, 5, none⟩ = some (.int .i64 a5_5) ∧ w'.cell? ⟨gb249, 6, none⟩ = some (.int .i64 a5_6)) (ds := []) #[false, false, false, false, false, false, false, false, false, false, false, false, false] (by kernel_rfl) rfl rfl ⟨(blk_cell BK249.out 0).trans rfl, (blk_cell BK249.out 1).trans rfl, (blk_cell BK249.out 2).trans rfl, (blk_cell BK249.out 3).trans rfl, (blk_cell BK249.out 4).trans rfl, (blk_cell BK249.out 5).trans rfl, (blk_cell BK249.out 6).trans rfl⟩ (fun hHeld => ?_); refine with_tabW regcertlaw13_AlignIgnoresMoves.tab8 regcertlaw13_AlignIgnoresMoves.bits8 (fun HT_ HW_ => ?_)
                 generalize w55.drew = w56 at HO264 HO274 BK248 BK249 HB HR281 HR294 hHeld ⊢
                 refine pure_ (i := 1) (N := some 63) (v := ?_) (a' := ?_) #[false, true, false, false, false, false, false, false, false, false, false, false, false] rfl rfl (any_of HT_.out (by kernel_rfl)) (fun _ _ _ h => h) (Or.inl ⟨by rfl, ?_⟩) ?_ ?_
                 rotate_left
                 ·intro w'
                  go_simp
                  with_reducible rfl
                 rotate_left
                 ·simp only [Act.put, sL1, sL2, sL3, i64_w, i32_w]
                  rfl
                 refine pure_ (i := 2) (N := some 64) (v := ?_) (a' := ?_) #[false, true, true, false, false, false, false, false, false, false, false, false, false] rfl rfl (any_of HT_.out (by kernel_rfl)) (fun _ _ _ h => h) (Or.inl ⟨by rfl, ?_⟩) ?_ ?_
                 rotate_left
                 ·intro w'
                  go_simp
                  with_reducible rfl
                 rotate_left
                 ·simp only [Act.put, sL1, sL2, sL3, i64_w, i32_w]
                  rfl
                 refine pure_ (i := 3) (N := some 65) (v := ?_) (a' := ?_) #[false, true, true, true, false, false, false, false, false, false, false, false, false] rfl rfl (any_of HT_.out (by kernel_rfl)) (fun _ _ _ h => h) (Or.inl ⟨by rfl, ?_⟩) ?_ ?_
                 rotate_left
                 ·intro w'
                  go_simp
                  with_reducible rfl
                 rotate_left
                 ·simp only [Act.put, sL1, sL2, sL3, i64_w, i32_w]
                  rfl
                 refine pure_ (i := 8) (N := some 70) (v := ?_) (a' := ?_) #[false, true, true, true, false, false, false, false, true, false, false, false, false] rfl rfl (any_of HT_.out (by kernel_rfl)) (fun _ _ _ h => h) (Or.inl ⟨by rfl, ?_⟩) ?_ ?_
                 rotate_left
                 ·intro w'
                  go_simp
                  with_reducible rfl
                 rotate_left
                 ·simp only [Act.put, sL1, sL2, sL3, i64_w, i32_w]
                  rfl
                 refine pure_ (i := 9) (N := some 71) (v := ?_) (a' := ?_) #[false, true, true, true, false, false, false, false, true, true, false, false, false] rfl rfl (any_of HT_.out (by kernel_rfl)) (fun _ _ _ h => h) (Or.inl ⟨by rfl, ?_⟩) ?_ ?_
                 rotate_left
                 ·intro w'
                  go_simp
                  with_reducible rfl
                 rotate_left
                 ·simp only [Act.put, sL1, sL2, sL3, i64_w, i32_w]
                  rfl
                 refine pure_ (i := 10) (N := some 72) (v := ?_) (a' := ?_) #[false, true, true, true, false, false, false, false, true, true, true, false, false] rfl rfl (any_of HT_.out (by kernel_rfl)) (fun _ _ _ h => h) (Or.inl ⟨by rfl, ?_⟩) ?_ ?_
                 rotate_left
                 ·intro w'
                  go_simp
                  with_reducible rfl
                 rotate_left
                 ·simp only [Act.put, sL1, sL2, sL3, i64_w, i32_w]
                  rfl
                 refine take_ (i := 5) (N := some 67) (v := ?_) (a' := ?_) #[false, true, true, true, false, true, false, false, true, true, true, false, false] rfl rfl (take_ofW HT_.out HW_.out (by kernel_rfl)) (fun _ _ _ h => h) (Or.inl ⟨by rfl, ?_⟩) hHeld ?_ ?_
                 rotate_left
                 ·rintro w' ⟨s0, s1, s2, s3, s4, s5, s6⟩
                  go_simp
                  with_reducible rfl
                 rotate_left
                 ·simp only [Act.put, sL1, sL2, sL3, i64_w, i32_w]
                  rfl
                 refine join_ (σ := Value × Value × Value) 3 #[true, true, true, true, true, true, true, false, true, true, true, false, false] (fun s_ => [(62, s_.1), (66, s_.2.1), (68, s_.2.2)]) (fun s_ w' => (w'.cell? ⟨gb249, 0, none⟩ = some (.int .i64 18) ∧ w'.cell? ⟨gb249, 1, none⟩ = some (.int .i64 a5_1) ∧ w'.cell? ⟨gb249, 2, none⟩ = some (.int .i64 a5_2) ∧ w'.cell? ⟨gb249, 3, none⟩ = some (.int .i64 a5_3) ∧ w'.cell? ⟨gb249, 4, none⟩ = some (.int .i64 a5_4) ∧ w'.cell? ⟨gb249, 5, none⟩ = some (.int .i64 a5_5) ∧ w'.cell? ⟨gb249, 6, none⟩ = some (.int .i64 a5_6)) ∧ (Kd.R k25 25 w' w.heap.size (fun k_ => some k_ ≠ (v273 : Value).ownBlock ∧ k_ ≠ gb248) (.slice Ao54 y262.length co54) y262) ∧ (Kd.R k25 25 w' w.heap.size (fun k_ => some k_ ≠ (.slice Ao54 y262.length co54 : Value).ownBlock ∧ k_ ≠ gb248) v273 y272) ∧ (Kd.R k28 28 w' w.heap.size (fun k_ => some k_ ≠ (s_.2.2 : Value).ownBlock ∧ k_ ≠ gb249) s_.2.1 y282) ∧ (Kd.R k28 28 w' w.heap.size (fun k_ => some k_ ≠ (s_.2.1 : Value).ownBlock ∧ k_ ≠ gb249) s_.2.2 y285) ∧ (w'.heap[gb248]? = some (.cells #[.int .i64 2, .int .i64 a4_1, .int .i64 a4_2, .int .i64 a4_3, .int .i64 a4_4] 25 (0, 0))) ∧ (w'.heap[gb249]? = some (.cells #[.int .i64 18, .int .i64 a5_1, .int .i64 a5_2, .int .i64 a5_3, .int .i64 a5_4, .int .i64 a5_5, .int .i64 a5_6] 28 (0, 0))) ∧ (Below w.heap.size w w')) ?_ ?_
                 rotate_left
                 ·intro hCont
                  refine two_ (i := 0) (j := 6) (Ni := some 62) (Nj := some 68) #[true, true, true, true, false, true, false, false, true, true, true, false, false] #[false, true, true, true, false, true, true, false, true, true, true, false, false] rfl rfl rfl rfl (two_of HT_.out (by kernel_rfl)) (by decide) (by decide) (fun K hK => ?_) (fun K hK => ?_)
                  ·skip
                   refine Kd.R_lit_step k28 _ 28 ?hg (N := 62) ?hd (xs := ([] : List (S28))) (inner := []) (ok := fun _ => True) (okp := fun _ => True) ?hr ?hp (fun _ hk => hk) trivial (Below.refl _ _) (Nat.le_refl _) (by simp) ?_; (case hd => rfl); (case hg => rfl); (case hr => first | (go_simp; done) | (go_simp; rfl)); (case hp => exact (Reps.none _ _))
                   intro v276 w59 ho60 hb hg_ hnew_
                   clear hg_ hnew_
                   (first | rw [← Ny275.out] at ho60 | (simp only [Int.reduceToNat] at ho60; rw [← Ny275.out] at ho60))
                   have n0_ := As0 (Kd.R_below (by (with_reducible repeat (first | apply Kd.R_alloc | apply Kd.R_drewN | apply Kd.R_drew)); exact HO264.out) hb)
                   have n1_ := As0 (Kd.R_below (by (with_reducible repeat (first | apply Kd.R_alloc | apply Kd.R_drewN | apply Kd.R_drew)); exact HO274.out) hb)
                   have n2_ := As0 (Kd.R_lower (Kd.R_newB ho60 (g := gb249) (o := .cells #[.int .i64 18, .int .i64 a5_1, .int .i64 a5_2, .int .i64 a5_3, .int .i64 a5_4, .int .i64 a5_5, .int .i64 a5_6] 28 (0, 0)) (by (with_reducible repeat (first | refine blk_drewN ?_ _ | refine blk_drew ?_ | refine blk_alloc ?_ _)); exact BK249.out)) (below_size (by repeat (first | (with_reducible first | exact HB.out | apply below_alloc | apply bdN | apply bd1 | refine below_set ?_ GE248.out | refine below_set ?_ GE249.out) | exact HB.out))))
                   have n3_ := As0 (blk_below (g := gb248) (o := .cells #[.int .i64 2, .int .i64 a4_1, .int .i64 a4_2, .int .i64 a4_3, .int .i64 a4_4] 25 (0, 0)) (by (with_reducible repeat (first | refine blk_drewN ?_ _ | refine blk_drew ?_ | refine blk_alloc ?_ _)); exact BK248.out) hb)
                   have n4_ := As0 (blk_below (g := gb249) (o := .cells #[.int .i64 18, .int .i64 a5_1, .int .i64 a5_2, .int .i64 a5_3, .int .i64 a5_4, .int .i64 a5_5, .int .i64 a5_6] 28 (0, 0)) (by (with_reducible repeat (first | refine blk_drewN ?_ _ | refine blk_drew ?_ | refine blk_alloc ?_ _)); exact BK249.out) hb)
                   have n5_ := As0 (below_step (by repeat (first | (with_reducible first | exact HB.out | apply below_alloc | apply bdN | apply bd1 | refine below_set ?_ GE248.out | refine below_set ?_ GE249.out) | exact HB.out)) hb)
                   clear HO264
                   clear HO274
                   clear BK248
                   clear BK249
                   clear HB
                   have HO264 := n0_
                   have HO274 := n1_
                   have HO277 := n2_
                   have BK248 := n3_
                   have BK249 := n4_
                   have HB := n5_
                   clear n0_ n1_ n2_ n3_ n4_ n5_
                   clear hb ho60
                   refine hK.out _ _ ⟨(blk_cell BK249.out 0).trans rfl, (blk_cell BK249.out 1).trans rfl, (blk_cell BK249.out 2).trans rfl, (blk_cell BK249.out 3).trans rfl, (blk_cell BK249.out 4).trans rfl, (blk_cell BK249.out 5).trans rfl, (blk_cell BK249.out 6).trans rfl⟩ (fun hHeld => ?_)
                   clear hK K
                   refine norm_ (a' := ?_) ?_ ?_
                   rotate_left
                   ·show Act.put _ (some 62) _ = _
                    simp only [Act.put, sL1, sL2, sL3, i64_w, i32_w]
                    rfl
                   refine two_ (i := 4) (j := 6) (Ni := some 66) (Nj := some 68) #[true, true, true, true, true, true, false, false, true, true, true, false, false] #[true, true, true, true, false, true, true, false, true, true, true, false, false] rfl rfl rfl rfl (two_of HT_.out (by kernel_rfl)) (by decide) (by decide) (fun K hK => ?_) (fun K hK => ?_)
                   ·skip
                    refine Kd.R_append_rows_step k28 (w0 := w) w.heap.size (by rfl) (.tmp 62) (.tmp 65) 23 28 (.agg #[(.int .i64 0), (.int .i64 0), (.int .i64 0), (.int .i64 0), (.int .i64 0), (.int .i64 0), (.int .i64 0)]) 56 rfl Try.underlying23 info28 rfl (by decide) (by omega) v276 y275 y278 _ _ _ (fun k_ => k_ ≠ gb249) (fun _ => False) rfl rfl ?aO ?aR (fun _ _ h => h) (fun _ h => h.elim) ?aF ?aB ?aS ?aL ?_
                    (case aR => repeat (first | exact (Kd.C_below HR281.out HB.out) | (with_reducible refine Kd.C_alloc ?_ _) | (with_reducible refine Kd.C_drewN ?_ _) | (with_reducible refine Kd.C_drew ?_)))
                    (case aB => exact (by repeat (first | (with_reducible first | exact HB.out | apply below_alloc | apply bdN | apply bd1 | refine below_set ?_ GE248.out | refine below_set ?_ GE249.out) | exact HB.out)))
                    (case aF => exact (fun k_ hk => Kd.freshB (g := gb249) (o := .cells #[.int .i64 18, .int .i64 a5_1, .int .i64 a5_2, .int .i64 a5_3, .int .i64 a5_4, .int .i64 a5_5, .int .i64 a5_6] 28 (0, 0)) (by (with_reducible repeat (first | refine blk_drewN ?_ _ | refine blk_drew ?_ | refine blk_alloc ?_ _)); exact BK249.out) k_ hk))
                    (case aO => exact (by (with_reducible repeat (first | apply Kd.R_alloc | apply Kd.R_drewN | apply Kd.R_drew)); exact Kd.R_mono HO277.out (fun _ hk => hk.2)))
                    (case aS => exact (below_size (by repeat (first | (with_reducible first | exact HB.out | apply below_alloc | apply bdN | apply bd1 | refine below_set ?_ GE248.out | refine below_set ?_ GE249.out) | exact HB.out))))
                    (case aL => have := LMc32.out; omega)
                    intro v283 w61 ho hb hg hat
                    rw [← Ny282.out] at ho
                    have n0_ := As0 (blk_grown (g := gb248) (o := .cells #[.int .i64 2, .int .i64 a4_1, .int .i64 a4_2, .int .i64 a4_3, .int .i64 a4_4] 25 (0, 0)) (by (with_reducible repeat (first | refine blk_drewN ?_ _ | refine blk_drew ?_ | refine blk_alloc ?_ _)); exact BK248.out) hg (Kd.R_ne HO277.out BK248.out (by decide)))
                    have n1_ := As0 (blk_grown (g := gb249) (o := .cells #[.int .i64 18, .int .i64 a5_1, .int .i64 a5_2, .int .i64 a5_3, .int .i64 a5_4, .int .i64 a5_5, .int .i64 a5_6] 28 (0, 0)) (by (with_reducible repeat (first | refine blk_drewN ?_ _ | refine blk_drew ?_ | refine blk_alloc ?_ _)); exact BK249.out) hg (Kd.R_away HO277.out (fun _ hk => hk.2)))
                    have n2_ := As0 (Kd.R_over' (by (with_reducible repeat (first | apply Kd.R_alloc | apply Kd.R_drewN | apply Kd.R_drew)); exact HO264.out) (Kd.R_typed (by (with_reducible repeat (first | apply Kd.R_alloc | apply Kd.R_drewN | apply Kd.R_drew)); exact HO277.out)) (by decide) hg)
                    have n3_ := As0 (Kd.R_over' (by (with_reducible repeat (first | apply Kd.R_alloc | apply Kd.R_drewN | apply Kd.R_drew)); exact HO274.out) (Kd.R_typed (by (with_reducible repeat (first | apply Kd.R_alloc | apply Kd.R_drewN | apply Kd.R_drew)); exact HO277.out)) (by decide) hg)
                    have n4_ := As0 (hb)
                    have n5_ := As0 (ho)
                    clear BK248
                    clear BK249
                    clear HO264
                    clear HO274
                    clear HB
                    clear HO277
                    have BK248 := n0_
                    have BK249 := n1_
                    have HO264 := n2_
                    have HO274 := n3_
                    have HB := n4_
                    have HO284 := n5_
                    clear n0_ n1_ n2_ n3_ n4_ n5_
                    clear ho hb hg hat
                    refine hK.out _ _ ⟨(blk_cell BK249.out 0).trans rfl, (blk_cell BK249.out 1).trans rfl, (blk_cell BK249.out 2).trans rfl, (blk_cell BK249.out 3).trans rfl, (blk_cell BK249.out 4).trans rfl, (blk_cell BK249.out 5).trans rfl, (blk_cell BK249.out 6).trans rfl⟩ (fun hHeld => ?_)
                    clear hK K
                    refine norm_ (a' := ?_) ?_ ?_
                    rotate_left
                    ·show Act.put _ (some 66) _ = _
                     simp only [Act.put, sL1, sL2, sL3, i64_w, i32_w]
                     rfl
                    refine one_ (i := 6) (N := some 68) #[true, true, true, true, true, true, true, false, true, true, true, false, false] rfl rfl (one_of HT_.out (by kernel_rfl)) (by decide) (fun K hK => ?_)
                    refine Kd.R_lit_step k28 _ 28 ?hg (N := 68) ?hd (xs := ([(⟨18, a5_1, a5_2, a5_3, a5_4, a5_5, a5_6⟩ : S28)] : List (S28))) (inner := [.int .i64 18, .int .i64 a5_1, .int .i64 a5_2, .int .i64 a5_3, .int .i64 a5_4, .int .i64 a5_5, .int .i64 a5_6]) (ok := fun _ => True) (okp := fun _ => True) ?hr ?hp (fun _ hk => hk) trivial (Below.refl _ _) (Nat.le_refl _) (by simp) ?_; (case hd => rfl); (case hg => rfl); (case hr => first | (go_simp; done) | (go_simp; rfl)); (case hp => exact (Reps.c7 (show Kd.M k28 _ _ _ (⟨18, a5_1, a5_2, a5_3, a5_4, a5_5, a5_6⟩ : S28) [.int .i64 18, .int .i64 a5_1, .int .i64 a5_2, .int .i64 a5_3, .int .i64 a5_4, .int .i64 a5_5, .int .i64 a5_6] from (k28_mkM _ _ _ (⟨18, a5_1, a5_2, a5_3, a5_4, a5_5, a5_6⟩ : S28) )) (Reps.none _ _)))
                    intro v286 w62 ho63 hb hg_ hnew_
                    clear hg_ hnew_
                    (first | rw [← Ny285.out] at ho63 | (simp only [Int.reduceToNat] at ho63; rw [← Ny285.out] at ho63))
                    have n0_ := As0 (Kd.R_below (by (with_reducible repeat (first | apply Kd.R_alloc | apply Kd.R_drewN | apply Kd.R_drew)); exact HO264.out) hb)
                    have n1_ := As0 (Kd.R_below (by (with_reducible repeat (first | apply Kd.R_alloc | apply Kd.R_drewN | apply Kd.R_drew)); exact HO274.out) hb)
                    have n2_ := As0 (Kd.R_elder' (by (with_reducible repeat (first | apply Kd.R_alloc | apply Kd.R_drewN | apply Kd.R_drew)); exact HO284.out) (Kd.R_base ho63) hb)
                    have n3_ := As0 (Kd.R_lower (Kd.R_newB (Kd.R_new' ho63 (Kd.R_lt (by (with_reducible repeat (first | apply Kd.R_alloc | apply Kd.R_drewN | apply Kd.R_drew)); exact HO284.out))) (g := gb249) (o := .cells #[.int .i64 18, .int .i64 a5_1, .int .i64 a5_2, .int .i64 a5_3, .int .i64 a5_4, .int .i64 a5_5, .int .i64 a5_6] 28 (0, 0)) (by (with_reducible repeat (first | refine blk_drewN ?_ _ | refine blk_drew ?_ | refine blk_alloc ?_ _)); exact BK249.out)) (below_size (by repeat (first | (with_reducible first | exact HB.out | apply below_alloc | apply bdN | apply bd1 | refine below_set ?_ GE248.out | refine below_set ?_ GE249.out) | exact HB.out))))
                    have n4_ := As0 (blk_below (g := gb248) (o := .cells #[.int .i64 2, .int .i64 a4_1, .int .i64 a4_2, .int .i64 a4_3, .int .i64 a4_4] 25 (0, 0)) (by (with_reducible repeat (first | refine blk_drewN ?_ _ | refine blk_drew ?_ | refine blk_alloc ?_ _)); exact BK248.out) hb)
                    have n5_ := As0 (blk_below (g := gb249) (o := .cells #[.int .i64 18, .int .i64 a5_1, .int .i64 a5_2, .int .i64 a5_3, .int .i64 a5_4, .int .i64 a5_5, .int .i64 a5_6] 28 (0, 0)) (by (with_reducible repeat (first | refine blk_drewN ?_ _ | refine blk_drew ?_ | refine blk_alloc ?_ _)); exact BK249.out) hb)
                    have n6_ := As0 (below_step (by repeat (first | (with_reducible first | exact HB.out | apply below_alloc | apply bdN | apply bd1 | refine below_set ?_ GE248.out | refine below_set ?_ GE249.out) | exact HB.out)) hb)
                    clear HO264
                    clear HO274
                    clear HO284
                    clear BK248
                    clear BK249
                    clear HB
                    have HO264 := n0_
                    have HO274 := n1_
                    have HO284 := n2_
                    have HO287 := n3_
                    have BK248 := n4_
                    have BK249 := n5_
                    have HB := n6_
                    clear n0_ n1_ n2_ n3_ n4_ n5_ n6_
                    clear hb ho63
                    refine hK.out _ _ ⟨(blk_cell BK249.out 0).trans rfl, (blk_cell BK249.out 1).trans rfl, (blk_cell BK249.out 2).trans rfl, (blk_cell BK249.out 3).trans rfl, (blk_cell BK249.out 4).trans rfl, (blk_cell BK249.out 5).trans rfl, (blk_cell BK249.out 6).trans rfl⟩ (fun hHeld => ?_)
                    clear hK K
                    refine norm_ (a' := ?_) ?_ ?_
                    rotate_left
                    ·show Act.put _ (some 68) _ = _
                     simp only [Act.put, sL1, sL2, sL3, i64_w, i32_w]
                     rfl
                    exact norm_ (by simp only [putAll, Act.put, sL1, sL2, sL3]) (hCont (v276, v283, v286) _ ⟨hHeld, (by (with_reducible repeat (first | apply Kd.R_alloc | apply Kd.R_drewN | apply Kd.R_drew)); exact Kd.R_mono HO264.out (fun _ hk => ⟨hk.2, hk.1⟩)), (by (with_reducible repeat (first | apply Kd.R_alloc | apply Kd.R_drewN | apply Kd.R_drew)); exact HO274.out), (by (with_reducible repeat (first | apply Kd.R_alloc | apply Kd.R_drewN | apply Kd.R_drew)); exact Kd.R_mono HO284.out (fun _ hk => ⟨hk.2, hk.1⟩)), (by (with_reducible repeat (first | apply Kd.R_alloc | apply Kd.R_drewN | apply Kd.R_drew)); exact Kd.R_mono HO287.out (fun _ hk => ⟨hk.1.2, hk.2⟩)), (by (with_reducible repeat (first | refine blk_drewN ?_ _ | refine blk_drew ?_ | refine blk_alloc ?_ _)); exact BK248.out), (by (with_reducible repeat (first | refine blk_drewN ?_ _ | refine blk_drew ?_ | refine blk_alloc ?_ _)); exact BK249.out), (by repeat (first | (with_reducible first | exact HB.out | apply below_alloc | apply bdN | apply bd1 | refine below_set ?_ GE248.out | refine below_set ?_ GE249.out) | exact HB.out))⟩)
                   ·skip
                    refine Kd.R_lit_step k28 _ 28 ?hg (N := 68) ?hd (xs := ([(⟨18, a5_1, a5_2, a5_3, a5_4, a5_5, a5_6⟩ : S28)] : List (S28))) (inner := [.int .i64 18, .int .i64 a5_1, .int .i64 a5_2, .int .i64 a5_3, .int .i64 a5_4, .int .i64 a5_5, .int .i64 a5_6]) (ok := fun _ => True) (okp := fun _ => True) ?hr ?hp (fun _ hk => hk) trivial (Below.refl _ _) (Nat.le_refl _) (by simp) ?_; (case hd => rfl); (case hg => rfl); (case hr => first | (go_simp; done) | (go_simp; rfl)); (case hp => exact (Reps.c7 (show Kd.M k28 _ _ _ (⟨18, a5_1, a5_2, a5_3, a5_4, a5_5, a5_6⟩ : S28) [.int .i64 18, .int .i64 a5_1, .int .i64 a5_2, .int .i64 a5_3, .int .i64 a5_4, .int .i64 a5_5, .int .i64 a5_6] from (k28_mkM _ _ _ (⟨18, a5_1, a5_2, a5_3, a5_4, a5_5, a5_6⟩ : S28) )) (Reps.none _ _)))
                    intro v286 w61 ho62 hb hg_ hnew_
                    clear hg_ hnew_
                    (first | rw [← Ny285.out] at ho62 | (simp only [Int.reduceToNat] at ho62; rw [← Ny285.out] at ho62))
                    have n0_ := As0 (Kd.R_below (by (with_reducible repeat (first | apply Kd.R_alloc | apply Kd.R_drewN | apply Kd.R_drew)); exact HO264.out) hb)
                    have n1_ := As0 (Kd.R_below (by (with_reducible repeat (first | apply Kd.R_alloc | apply Kd.R_drewN | apply Kd.R_drew)); exact HO274.out) hb)
                    have n2_ := As0 (Kd.R_elder' (by (with_reducible repeat (first | apply Kd.R_alloc | apply Kd.R_drewN | apply Kd.R_drew)); exact HO277.out) (Kd.R_base ho62) hb)
                    have n3_ := As0 (Kd.R_lower (Kd.R_newB (Kd.R_new' ho62 (Kd.R_lt (by (with_reducible repeat (first | apply Kd.R_alloc | apply Kd.R_drewN | apply Kd.R_drew)); exact HO277.out))) (g := gb249) (o := .cells #[.int .i64 18, .int .i64 a5_1, .int .i64 a5_2, .int .i64 a5_3, .int .i64 a5_4, .int .i64 a5_5, .int .i64 a5_6] 28 (0, 0)) (by (with_reducible repeat (first | refine blk_drewN ?_ _ | refine blk_drew ?_ | refine blk_alloc ?_ _)); exact BK249.out)) (below_size (by repeat (first | (with_reducible first | exact HB.out | apply below_alloc | apply bdN | apply bd1 | refine below_set ?_ GE248.out | refine below_set ?_ GE249.out) | exact HB.out))))
                    have n4_ := As0 (blk_below (g := gb248) (o := .cells #[.int .i64 2, .int .i64 a4_1, .int .i64 a4_2, .int .i64 a4_3, .int .i64 a4_4] 25 (0, 0)) (by (with_reducible repeat (first | refine blk_drewN ?_ _ | refine blk_drew ?_ | refine blk_alloc ?_ _)); exact BK248.out) hb)
                    have n5_ := As0 (blk_below (g := gb249) (o := .cells #[.int .i64 18, .int .i64 a5_1, .int .i64 a5_2, .int .i64 a5_3, .int .i64 a5_4, .int .i64 a5_5, .int .i64 a5_6] 28 (0, 0)) (by (with_reducible repeat (first | refine blk_drewN ?_ _ | refine blk_drew ?_ | refine blk_alloc ?_ _)); exact BK249.out) hb)
                    have n6_ := As0 (below_step (by repeat (first | (with_reducible first | exact HB.out | apply below_alloc | apply bdN | apply bd1 | refine below_set ?_ GE248.out | refine below_set ?_ GE249.out) | exact HB.out)) hb)
                    clear HO264
                    clear HO274
                    clear HO277
                    clear BK248
                    clear BK249
                    clear HB
                    have HO264 := n0_
                    have HO274 := n1_
                    have HO277 := n2_
                    have HO287 := n3_
                    have BK248 := n4_
                    have BK249 := n5_
                    have HB := n6_
                    clear n0_ n1_ n2_ n3_ n4_ n5_ n6_
                    clear hb ho62
                    refine hK.out _ _ ⟨(blk_cell BK249.out 0).trans rfl, (blk_cell BK249.out 1).trans rfl, (blk_cell BK249.out 2).trans rfl, (blk_cell BK249.out 3).trans rfl, (blk_cell BK249.out 4).trans rfl, (blk_cell BK249.out 5).trans rfl, (blk_cell BK249.out 6).trans rfl⟩ (fun hHeld => ?_)
                    clear hK K
                    refine norm_ (a' := ?_) ?_ ?_
                    rotate_left
                    ·show Act.put _ (some 68) _ = _
                     simp only [Act.put, sL1, sL2, sL3, i64_w, i32_w]
                     rfl
                    refine one_ (i := 4) (N := some 66) #[true, true, true, true, true, true, true, false, true, true, true, false, false] rfl rfl (one_of HT_.out (by kernel_rfl)) (by decide) (fun K hK => ?_)
                    refine Kd.R_append_rows_step k28 (w0 := w) w.heap.size (by rfl) (.tmp 62) (.tmp 65) 23 28 (.agg #[(.int .i64 0), (.int .i64 0), (.int .i64 0), (.int .i64 0), (.int .i64 0), (.int .i64 0), (.int .i64 0)]) 56 rfl Try.underlying23 info28 rfl (by decide) (by omega) v276 y275 y278 _ _ _ (fun k_ => some k_ ≠ (v286 : Value).ownBlock ∧ k_ ≠ gb249) (fun _ => False) rfl rfl ?aO ?aR (fun _ _ h => h) (fun _ h => h.elim) ?aF ?aB ?aS ?aL ?_
                    (case aR => repeat (first | exact (Kd.C_below HR281.out HB.out) | (with_reducible refine Kd.C_alloc ?_ _) | (with_reducible refine Kd.C_drewN ?_ _) | (with_reducible refine Kd.C_drew ?_)))
                    (case aB => exact (by repeat (first | (with_reducible first | exact HB.out | apply below_alloc | apply bdN | apply bd1 | refine below_set ?_ GE248.out | refine below_set ?_ GE249.out) | exact HB.out)))
                    (case aF => exact (fun k_ hk => ⟨Kd.fresh' (Kd.R_lt (by (with_reducible repeat (first | apply Kd.R_alloc | apply Kd.R_drewN | apply Kd.R_drew)); exact HO287.out)) k_ hk, Kd.freshB (g := gb249) (o := .cells #[.int .i64 18, .int .i64 a5_1, .int .i64 a5_2, .int .i64 a5_3, .int .i64 a5_4, .int .i64 a5_5, .int .i64 a5_6] 28 (0, 0)) (by (with_reducible repeat (first | refine blk_drewN ?_ _ | refine blk_drew ?_ | refine blk_alloc ?_ _)); exact BK249.out) k_ hk⟩))
                    (case aO => exact (by (with_reducible repeat (first | apply Kd.R_alloc | apply Kd.R_drewN | apply Kd.R_drew)); exact Kd.R_mono HO277.out (fun _ hk => ⟨hk.2, hk.1.2⟩)))
                    (case aS => exact (below_size (by repeat (first | (with_reducible first | exact HB.out | apply below_alloc | apply bdN | apply bd1 | refine below_set ?_ GE248.out | refine below_set ?_ GE249.out) | exact HB.out))))
                    (case aL => have := LMc32.out; omega)
                    intro v283 w63 ho hb hg hat
                    rw [← Ny282.out] at ho
                    have n0_ := As0 (blk_grown (g := gb248) (o := .cells #[.int .i64 2, .int .i64 a4_1, .int .i64 a4_2, .int .i64 a4_3, .int .i64 a4_4] 25 (0, 0)) (by (with_reducible repeat (first | refine blk_drewN ?_ _ | refine blk_drew ?_ | refine blk_alloc ?_ _)); exact BK248.out) hg (Kd.R_ne HO277.out BK248.out (by decide)))
                    have n1_ := As0 (blk_grown (g := gb249) (o := .cells #[.int .i64 18, .int .i64 a5_1, .int .i64 a5_2, .int .i64 a5_3, .int .i64 a5_4, .int .i64 a5_5, .int .i64 a5_6] 28 (0, 0)) (by (with_reducible repeat (first | refine blk_drewN ?_ _ | refine blk_drew ?_ | refine blk_alloc ?_ _)); exact BK249.out) hg (Kd.R_away HO277.out (fun _ hk => hk.1.2)))
                    have n2_ := As0 (Kd.R_over' (by (with_reducible repeat (first | apply Kd.R_alloc | apply Kd.R_drewN | apply Kd.R_drew)); exact HO264.out) (Kd.R_typed (by (with_reducible repeat (first | apply Kd.R_alloc | apply Kd.R_drewN | apply Kd.R_drew)); exact HO277.out)) (by decide) hg)
                    have n3_ := As0 (Kd.R_over' (by (with_reducible repeat (first | apply Kd.R_alloc | apply Kd.R_drewN | apply Kd.R_drew)); exact HO274.out) (Kd.R_typed (by (with_reducible repeat (first | apply Kd.R_alloc | apply Kd.R_drewN | apply Kd.R_drew)); exact HO277.out)) (by decide) hg)
                    have n4_ := As0 (Kd.R_after (ok := (fun k_ => k_ ≠ gb249)) (by (with_reducible repeat (first | apply Kd.R_alloc | apply Kd.R_drewN | apply Kd.R_drew)); exact Kd.R_mono HO287.out (fun _ hk => ⟨hk.2, hk.1.2⟩)) hg hat)
                    have n5_ := As0 (hb)
                    have n6_ := As0 (ho)
                    clear BK248
                    clear BK249
                    clear HO264
                    clear HO274
                    clear HO287
                    clear HB
                    clear HO277
                    have BK248 := n0_
                    have BK249 := n1_
                    have HO264 := n2_
                    have HO274 := n3_
                    have HO287 := n4_
                    have HB := n5_
                    have HO284 := n6_
                    clear n0_ n1_ n2_ n3_ n4_ n5_ n6_
                    clear ho hb hg hat
                    refine hK.out _ _ ⟨(blk_cell BK249.out 0).trans rfl, (blk_cell BK249.out 1).trans rfl, (blk_cell BK249.out 2).trans rfl, (blk_cell BK249.out 3).trans rfl, (blk_cell BK249.out 4).trans rfl, (blk_cell BK249.out 5).trans rfl, (blk_cell BK249.out 6).trans rfl⟩ (fun hHeld => ?_)
                    clear hK K
                    refine norm_ (a' := ?_) ?_ ?_
                    rotate_left
                    ·show Act.put _ (some 66) _ = _
                     simp only [Act.put, sL1, sL2, sL3, i64_w, i32_w]
                     rfl
                    exact norm_ (by simp only [putAll, Act.put, sL1, sL2, sL3]) (hCont (v276, v283, v286) _ ⟨hHeld, (by (with_reducible repeat (first | apply Kd.R_alloc | apply Kd.R_drewN | apply Kd.R_drew)); exact Kd.R_mono HO264.out (fun _ hk => ⟨hk.2, hk.1⟩)), (by (with_reducible repeat (first | apply Kd.R_alloc | apply Kd.R_drewN | apply Kd.R_drew)); exact HO274.out), (by (with_reducible repeat (first | apply Kd.R_alloc | apply Kd.R_drewN | apply Kd.R_drew)); exact HO284.out), (by (with_reducible repeat (first | apply Kd.R_alloc | apply Kd.R_drewN | apply Kd.R_drew)); exact Kd.R_mono HO287.out (fun _ hk => ⟨hk.2, hk.1⟩)), (by (with_reducible repeat (first | refine blk_drewN ?_ _ | refine blk_drew ?_ | refine blk_alloc ?_ _)); exact BK248.out), (by (with_reducible repeat (first | refine blk_drewN ?_ _ | refine blk_drew ?_ | refine blk_alloc ?_ _)); exact BK249.out), (by repeat (first | (with_reducible first | exact HB.out | apply below_alloc | apply bdN | apply bd1 | refine below_set ?_ GE248.out | refine below_set ?_ GE249.out) | exact HB.out))⟩)
                  ·skip
                   refine Kd.R_lit_step k28 _ 28 ?hg (N := 68) ?hd (xs := ([(⟨18, a5_1, a5_2, a5_3, a5_4, a5_5, a5_6⟩ : S28)] : List (S28))) (inner := [.int .i64 18, .int .i64 a5_1, .int .i64 a5_2, .int .i64 a5_3, .int .i64 a5_4, .int .i64 a5_5, .int .i64 a5_6]) (ok := fun _ => True) (okp := fun _ => True) ?hr ?hp (fun _ hk => hk) trivial (Below.refl _ _) (Nat.le_refl _) (by simp) ?_; (case hd => rfl); (case hg => rfl); (case hr => first | (go_simp; done) | (go_simp; rfl)); (case hp => exact (Reps.c7 (show Kd.M k28 _ _ _ (⟨18, a5_1, a5_2, a5_3, a5_4, a5_5, a5_6⟩ : S28) [.int .i64 18, .int .i64 a5_1, .int .i64 a5_2, .int .i64 a5_3, .int .i64 a5_4, .int .i64 a5_5, .int .i64 a5_6] from (k28_mkM _ _ _ (⟨18, a5_1, a5_2, a5_3, a5_4, a5_5, a5_6⟩ : S28) )) (Reps.none _ _)))
                   intro v286 w59 ho60 hb hg_ hnew_
                   clear hg_ hnew_
                   (first | rw [← Ny285.out] at ho60 | (simp only [Int.reduceToNat] at ho60; rw [← Ny285.out] at ho60))
                   have n0_ := As0 (Kd.R_below (by (with_reducible repeat (first | apply Kd.R_alloc | apply Kd.R_drewN | apply Kd.R_drew)); exact HO264.out) hb)
                   have n1_ := As0 (Kd.R_below (by (with_reducible repeat (first | apply Kd.R_alloc | apply Kd.R_drewN | apply Kd.R_drew)); exact HO274.out) hb)
                   have n2_ := As0 (Kd.R_lower (Kd.R_newB ho60 (g := gb249) (o := .cells #[.int .i64 18, .int .i64 a5_1, .int .i64 a5_2, .int .i64 a5_3, .int .i64 a5_4, .int .i64 a5_5, .int .i64 a5_6] 28 (0, 0)) (by (with_reducible repeat (first | refine blk_drewN ?_ _ | refine blk_drew ?_ | refine blk_alloc ?_ _)); exact BK249.out)) (below_size (by repeat (first | (with_reducible first | exact HB.out | apply below_alloc | apply bdN | apply bd1 | refine below_set ?_ GE248.out | refine below_set ?_ GE249.out) | exact HB.out))))
                   have n3_ := As0 (blk_below (g := gb248) (o := .cells #[.int .i64 2, .int .i64 a4_1, .int .i64 a4_2, .int .i64 a4_3, .int .i64 a4_4] 25 (0, 0)) (by (with_reducible repeat (first | refine blk_drewN ?_ _ | refine blk_drew ?_ | refine blk_alloc ?_ _)); exact BK248.out) hb)
                   have n4_ := As0 (blk_below (g := gb249) (o := .cells #[.int .i64 18, .int .i64 a5_1, .int .i64 a5_2, .int .i64 a5_3, .int .i64 a5_4, .int .i64 a5_5, .int .i64 a5_6] 28 (0, 0)) (by (with_reducible repeat (first | refine blk_drewN ?_ _ | refine blk_drew ?_ | refine blk_alloc ?_ _)); exact BK249.out) hb)
                   have n5_ := As0 (below_step (by repeat (first | (with_reducible first | exact HB.out | apply below_alloc | apply bdN | apply bd1 | refine below_set ?_ GE248.out | refine below_set ?_ GE249.out) | exact HB.out)) hb)
                   clear HO264
                   clear HO274
                   clear BK248
                   clear BK249
                   clear HB
                   have HO264 := n0_
                   have HO274 := n1_
                   have HO287 := n2_
                   have BK248 := n3_
                   have BK249 := n4_
                   have HB := n5_
                   clear n0_ n1_ n2_ n3_ n4_ n5_
                   clear hb ho60
                   refine hK.out _ _ ⟨(blk_cell BK249.out 0).trans rfl, (blk_cell BK249.out 1).trans rfl, (blk_cell BK249.out 2).trans rfl, (blk_cell BK249.out 3).trans rfl, (blk_cell BK249.out 4).trans rfl, (blk_cell BK249.out 5).trans rfl, (blk_cell BK249.out 6).trans rfl⟩ (fun hHeld => ?_)
                   clear hK K
                   refine norm_ (a' := ?_) ?_ ?_
                   rotate_left
                   ·show Act.put _ (some 68) _ = _
                    simp only [Act.put, sL1, sL2, sL3, i64_w, i32_w]
                    rfl
                   refine one_ (i := 0) (N := some 62) #[true, true, true, true, false, true, true, false, true, true, true, false, false] rfl rfl (one_of HT_.out (by kernel_rfl)) (by decide) (fun K hK => ?_)
                   refine Kd.R_lit_step k28 _ 28 ?hg (N := 62) ?hd (xs := ([] : List (S28))) (inner := []) (ok := fun _ => True) (okp := fun _ => True) ?hr ?hp (fun _ hk => hk) trivial (Below.refl _ _) (Nat.le_refl _) (by simp) ?_; (case hd => rfl); (case hg => rfl); (case hr => first | (go_simp; done) | (go_simp; rfl)); (case hp => exact (Reps.none _ _))
                   intro v276 w61 ho62 hb hg_ hnew_
                   clear hg_ hnew_
                   (first | rw [← Ny275.out] at ho62 | (simp only [Int.reduceToNat] at ho62; rw [← Ny275.out] at ho62))
                   have n0_ := As0 (Kd.R_below (by (with_reducible repeat (first | apply Kd.R_alloc | apply Kd.R_drewN | apply Kd.R_drew)); exact HO264.out) hb)
                   have n1_ := As0 (Kd.R_below (by (with_reducible repeat (first | apply Kd.R_alloc | apply Kd.R_drewN | apply Kd.R_drew)); exact HO274.out) hb)
                   have n2_ := As0 (Kd.R_elder' (by (with_reducible repeat (first | apply Kd.R_alloc | apply Kd.R_drewN | apply Kd.R_drew)); exact HO287.out) (Kd.R_base ho62) hb)
                   have n3_ := As0 (Kd.R_lower (Kd.R_newB (Kd.R_new' ho62 (Kd.R_lt (by (with_reducible repeat (first | apply Kd.R_alloc | apply Kd.R_drewN | apply Kd.R_drew)); exact HO287.out))) (g := gb249) (o := .cells #[.int .i64 18, .int .i64 a5_1, .int .i64 a5_2, .int .i64 a5_3, .int .i64 a5_4, .int .i64 a5_5, .int .i64 a5_6] 28 (0, 0)) (by (with_reducible repeat (first | refine blk_drewN ?_ _ | refine blk_drew ?_ | refine blk_alloc ?_ _)); exact BK249.out)) (below_size (by repeat (first | (with_reducible first | exact HB.out | apply below_alloc | apply bdN | apply bd1 | refine below_set ?_ GE248.out | refine below_set ?_ GE249.out) | exact HB.out))))
                   have n4_ := As0 (blk_below (g := gb248) (o := .cells #[.int .i64 2, .int .i64 a4_1, .int .i64 a4_2, .int .i64 a4_3, .int .i64 a4_4] 25 (0, 0)) (by (with_reducible repeat (first | refine blk_drewN ?_ _ | refine blk_drew ?_ | refine blk_alloc ?_ _)); exact BK248.out) hb)
                   have n5_ := As0 (blk_below (g := gb249) (o := .cells #[.int .i64 18, .int .i64 a5_1, .int .i64 a5_2, .int .i64 a5_3, .int .i64 a5_4, .int .i64 a5_5, .int .i64 a5_6] 28 (0, 0)) (by (with_reducible repeat (first | refine blk_drewN ?_ _ | refine blk_drew ?_ | refine blk_alloc ?_ _)); exact BK249.out) hb)
                   have n6_ := As0 (below_step (by repeat (first | (with_reducible first | exact HB.out | apply below_alloc | apply bdN | apply bd1 | refine below_set ?_ GE248.out | refine below_set ?_ GE249.out) | exact HB.out)) hb)
                   clear HO264
                   clear HO274
                   clear HO287
                   clear BK248
                   clear BK249
                   clear HB
                   have HO264 := n0_
                   have HO274 := n1_
                   have HO287 := n2_
                   have HO277 := n3_
                   have BK248 := n4_
                   have BK249 := n5_
                   have HB := n6_
                   clear n0_ n1_ n2_ n3_ n4_ n5_ n6_
                   clear hb ho62
                   refine hK.out _ _ ⟨(blk_cell BK249.out 0).trans rfl, (blk_cell BK249.out 1).trans rfl, (blk_cell BK249.out 2).trans rfl, (blk_cell BK249.out 3).trans rfl, (blk_cell BK249.out 4).trans rfl, (blk_cell BK249.out 5).trans rfl, (blk_cell BK249.out 6).trans rfl⟩ (fun hHeld => ?_)
                   clear hK K
                   refine norm_ (a' := ?_) ?_ ?_
                   rotate_left
                   ·show Act.put _ (some 62) _ = _
                    simp only [Act.put, sL1, sL2, sL3, i64_w, i32_w]
                    rfl
                   refine one_ (i := 4) (N := some 66) #[true, true, true, true, true, true, true, false, true, true, true, false, false] rfl rfl (one_of HT_.out (by kernel_rfl)) (by decide) (fun K hK => ?_)
                   refine Kd.R_append_rows_step k28 (w0 := w) w.heap.size (by rfl) (.tmp 62) (.tmp 65) 23 28 (.agg #[(.int .i64 0), (.int .i64 0), (.int .i64 0), (.int .i64 0), (.int .i64 0), (.int .i64 0), (.int .i64 0)]) 56 rfl Try.underlying23 info28 rfl (by decide) (by omega) v276 y275 y278 _ _ _ (fun k_ => some k_ ≠ (v286 : Value).ownBlock ∧ k_ ≠ gb249) (fun _ => False) rfl rfl ?aO ?aR (fun _ _ h => h) (fun _ h => h.elim) ?aF ?aB ?aS ?aL ?_
                   (case aR => repeat (first | exact (Kd.C_below HR281.out HB.out) | (with_reducible refine Kd.C_alloc ?_ _) | (with_reducible refine Kd.C_drewN ?_ _) | (with_reducible refine Kd.C_drew ?_)))
                   (case aB => exact (by repeat (first | (with_reducible first | exact HB.out | apply below_alloc | apply bdN | apply bd1 | refine below_set ?_ GE248.out | refine below_set ?_ GE249.out) | exact HB.out)))
                   (case aF => exact (fun k_ hk => ⟨Kd.fresh' (Kd.R_lt (by (with_reducible repeat (first | apply Kd.R_alloc | apply Kd.R_drewN | apply Kd.R_drew)); exact HO287.out)) k_ hk, Kd.freshB (g := gb249) (o := .cells #[.int .i64 18, .int .i64 a5_1, .int .i64 a5_2, .int .i64 a5_3, .int .i64 a5_4, .int .i64 a5_5, .int .i64 a5_6] 28 (0, 0)) (by (with_reducible repeat (first | refine blk_drewN ?_ _ | refine blk_drew ?_ | refine blk_alloc ?_ _)); exact BK249.out) k_ hk⟩))
                   (case aO => exact (by (with_reducible repeat (first | apply Kd.R_alloc | apply Kd.R_drewN | apply Kd.R_drew)); exact Kd.R_mono HO277.out (fun _ hk => ⟨hk.1.2, hk.2⟩)))
                   (case aS => exact (below_size (by repeat (first | (with_reducible first | exact HB.out | apply below_alloc | apply bdN | apply bd1 | refine below_set ?_ GE248.out | refine below_set ?_ GE249.out) | exact HB.out))))
                   (case aL => have := LMc32.out; omega)
                   intro v283 w63 ho hb hg hat
                   rw [← Ny282.out] at ho
                   have n0_ := As0 (blk_grown (g := gb248) (o := .cells #[.int .i64 2, .int .i64 a4_1, .int .i64 a4_2, .int .i64 a4_3, .int .i64 a4_4] 25 (0, 0)) (by (with_reducible repeat (first | refine blk_drewN ?_ _ | refine blk_drew ?_ | refine blk_alloc ?_ _)); exact BK248.out) hg (Kd.R_ne HO277.out BK248.out (by decide)))
                   have n1_ := As0 (blk_grown (g := gb249) (o := .cells #[.int .i64 18, .int .i64 a5_1, .int .i64 a5_2, .int .i64 a5_3, .int .i64 a5_4, .int .i64 a5_5, .int .i64 a5_6] 28 (0, 0)) (by (with_reducible repeat (first | refine blk_drewN ?_ _ | refine blk_drew ?_ | refine blk_alloc ?_ _)); exact BK249.out) hg (Kd.R_away HO277.out (fun _ hk => hk.2)))
                   have n2_ := As0 (Kd.R_over' (by (with_reducible repeat (first | apply Kd.R_alloc | apply Kd.R_drewN | apply Kd.R_drew)); exact HO264.out) (Kd.R_typed (by (with_reducible repeat (first | apply Kd.R_alloc | apply Kd.R_drewN | apply Kd.R_drew)); exact HO277.out)) (by decide) hg)
                   have n3_ := As0 (Kd.R_over' (by (with_reducible repeat (first | apply Kd.R_alloc | apply Kd.R_drewN | apply Kd.R_drew)); exact HO274.out) (Kd.R_typed (by (with_reducible repeat (first | apply Kd.R_alloc | apply Kd.R_drewN | apply Kd.R_drew)); exact HO277.out)) (by decide) hg)
                   have n4_ := As0 (Kd.R_after (ok := (fun k_ => k_ ≠ gb249)) (by (with_reducible repeat (first | apply Kd.R_alloc | apply Kd.R_drewN | apply Kd.R_drew)); exact Kd.R_mono HO287.out (fun _ hk => ⟨hk.1.2, hk.2⟩)) hg hat)
                   have n5_ := As0 (hb)
                   have n6_ := As0 (ho)
                   clear BK248
                   clear BK249
                   clear HO264
                   clear HO274
                   clear HO287
                   clear HB
                   clear HO277
                   have BK248 := n0_
                   have BK249 := n1_
                   have HO264 := n2_
                   have HO274 := n3_
                   have HO287 := n4_
                   have HB := n5_
                   have HO284 := n6_
                   clear n0_ n1_ n2_ n3_ n4_ n5_ n6_
                   clear ho hb hg hat
                   refine hK.out _ _ ⟨(blk_cell BK249.out 0).trans rfl, (blk_cell BK249.out 1).trans rfl, (blk_cell BK249.out 2).trans rfl, (blk_cell BK249.out 3).trans rfl, (blk_cell BK249.out 4).trans rfl, (blk_cell BK249.out 5).trans rfl, (blk_cell BK249.out 6).trans rfl⟩ (fun hHeld => ?_)
                   clear hK K
                   refine norm_ (a' := ?_) ?_ ?_
                   rotate_left
                   ·show Act.put _ (some 66) _ = _
                    simp only [Act.put, sL1, sL2, sL3, i64_w, i32_w]
                    rfl
                   exact norm_ (by simp only [putAll, Act.put, sL1, sL2, sL3]) (hCont (v276, v283, v286) _ ⟨hHeld, (by (with_reducible repeat (first | apply Kd.R_alloc | apply Kd.R_drewN | apply Kd.R_drew)); exact Kd.R_mono HO264.out (fun _ hk => ⟨hk.2, hk.1⟩)), (by (with_reducible repeat (first | apply Kd.R_alloc | apply Kd.R_drewN | apply Kd.R_drew)); exact HO274.out), (by (with_reducible repeat (first | apply Kd.R_alloc | apply Kd.R_drewN | apply Kd.R_drew)); exact HO284.out), (by (with_reducible repeat (first | apply Kd.R_alloc | apply Kd.R_drewN | apply Kd.R_drew)); exact Kd.R_mono HO287.out (fun _ hk => ⟨hk.2, hk.1⟩)), (by (with_reducible repeat (first | refine blk_drewN ?_ _ | refine blk_drew ?_ | refine blk_alloc ?_ _)); exact BK248.out), (by (with_reducible repeat (first | refine blk_drewN ?_ _ | refine blk_drew ?_ | refine blk_alloc ?_ _)); exact BK249.out), (by repeat (first | (with_reducible first | exact HB.out | apply below_alloc | apply bdN | apply bd1 | refine below_set ?_ GE248.out | refine below_set ?_ GE249.out) | exact HB.out))⟩)
                 rintro ⟨v276, v283, v286⟩ w64 ⟨hS_, h0_, h1_, h2_, h3_, h4_, h5_, h6_⟩
                 have n0_ : Aside0 (Kd.R k25 25 w64 w.heap.size (fun k_ => some k_ ≠ (v273 : Value).ownBlock ∧ k_ ≠ gb248) (.slice Ao54 y262.length co54) y262) := ⟨h0_⟩
                 have n1_ : Aside0 (Kd.R k25 25 w64 w.heap.size (fun k_ => some k_ ≠ (.slice Ao54 y262.length co54 : Value).ownBlock ∧ k_ ≠ gb248) v273 y272) := ⟨h1_⟩
                 have n2_ : Aside0 (Kd.R k28 28 w64 w.heap.size (fun k_ => some k_ ≠ (v286 : Value).ownBlock ∧ k_ ≠ gb249) v283 y282) := ⟨h2_⟩
                 have n3_ : Aside0 (Kd.R k28 28 w64 w.heap.size (fun k_ => some k_ ≠ (v283 : Value).ownBlock ∧ k_ ≠ gb249) v286 y285) := ⟨h3_⟩
                 have n4_ : Aside0 (w64.heap[gb248]? = some (.cells #[.int .i64 2, .int .i64 a4_1, .int .i64 a4_2, .int .i64 a4_3, .int .i64 a4_4] 25 (0, 0))) := ⟨h4_⟩
                 have n5_ : Aside0 (w64.heap[gb249]? = some (.cells #[.int .i64 18, .int .i64 a5_1, .int .i64 a5_2, .int .i64 a5_3, .int .i64 a5_4, .int .i64 a5_5, .int .i64 a5_6] 28 (0, 0))) := ⟨h5_⟩
                 have n6_ : Aside0 (Below w.heap.size w w64) := ⟨h6_⟩
                 clear HO264
                 clear HO274
                 clear BK248
                 clear BK249
                 clear HB
                 clear h0_ h1_ h2_ h3_ h4_ h5_ h6_
                 have HO264 := n0_
                 have HO274 := n1_
                 have HO284 := n2_
                 have HO287 := n3_
                 have BK248 := n4_
                 have BK249 := n5_
                 have HB := n6_
                 clear n0_ n1_ n2_ n3_ n4_ n5_ n6_
                 have hHeld : w64.cell? ⟨gb249, 0, none⟩ = some (.int .i64 18) ∧ w64.cell? ⟨gb249, 1, none⟩ = some (.int .i64 a5_1) ∧ w64.cell? ⟨gb249, 2, none⟩ = some (.int .i64 a5_2) ∧ w64.cell? ⟨gb249, 3, none⟩ = some (.int .i64 a5_3) ∧ w64.cell? ⟨gb249, 4, none⟩ = some (.int .i64 a5_4) ∧ w64.cell? ⟨gb249, 5, none⟩ = some (.int .i64 a5_5) ∧ w64.cell? ⟨gb249, 6, none⟩ = some (.int .i64 a5_6) := hS_
                 obtain ⟨Ao66, co66, eo66⟩ := Kd.R_slice HO287.out
                 (first | subst eo66 | (injection eo66 with f1_ f2_ f3_; have f4_ := f1_.symm; have f5_ := f3_.symm; clear f1_ f2_ f3_; subst f4_; subst f5_))
                 refine norm_ (a' := ?_) ?_ ?_
                 rotate_left
                 ·simp only [putAll, Act.put, sL1, sL2, sL3]
                  rfl
                 refine one_ (i := 7) (N := some 69) #[true, true, true, true, true, true, true, true, true, true, true, false, false] rfl rfl (one_of HT_.out (by kernel_rfl)) (by decide) (fun K hK => ?_)
                 refine Kd.R_append_rows_step k28 (w0 := w) w.heap.size (by rfl) (.tmp 66) (.tmp 68) 23 28 (.agg #[(.int .i64 0), (.int .i64 0), (.int .i64 0), (.int .i64 0), (.int .i64 0), (.int .i64 0), (.int .i64 0)]) 56 rfl Try.underlying23 info28 rfl (by decide) (by omega) v283 y282 y285 _ _ _ (fun k_ => some k_ ≠ (.slice Ao66 y285.length co66 : Value).ownBlock ∧ k_ ≠ gb249) (fun _ => False) rfl rfl ?aO ?aR (fun _ _ h => h) (fun _ h => h.elim) ?aF ?aB ?aS ?aL ?_
                 (case aR => repeat (first | exact (Kd.R_reads' HO287.out).2.2 | (with_reducible refine Kd.C_alloc ?_ _) | (with_reducible refine Kd.C_drewN ?_ _) | (with_reducible refine Kd.C_drew ?_)))
                 (case aB => exact (by repeat (first | (with_reducible first | exact HB.out | apply below_alloc | apply bdN | apply bd1 | refine below_set ?_ GE248.out | refine below_set ?_ GE249.out) | exact HB.out)))
                 (case aF => exact (fun k_ hk => ⟨Kd.fresh' (Kd.R_lt (by (with_reducible repeat (first | apply Kd.R_alloc | apply Kd.R_drewN | apply Kd.R_drew)); exact HO287.out)) k_ hk, Kd.freshB (g := gb249) (o := .cells #[.int .i64 18, .int .i64 a5_1, .int .i64 a5_2, .int .i64 a5_3, .int .i64 a5_4, .int .i64 a5_5, .int .i64 a5_6] 28 (0, 0)) (by (with_reducible repeat (first | refine blk_drewN ?_ _ | refine blk_drew ?_ | refine blk_alloc ?_ _)); exact BK249.out) k_ hk⟩))
                 (case aO => exact (by (with_reducible repeat (first | apply Kd.R_alloc | apply Kd.R_drewN | apply Kd.R_drew)); exact HO284.out))
                 (case aS => exact (below_size (by repeat (first | (with_reducible first | exact HB.out | apply below_alloc | apply bdN | apply bd1 | refine below_set ?_ GE248.out | refine below_set ?_ GE249.out) | exact HB.out))))
                 (case aL => have := LMc33.out; omega)
                 intro v289 w65 ho hb hg hat
                 rw [← Ny288.out] at ho
                 have n0_ := As0 (blk_grown (g := gb248) (o := .cells #[.int .i64 2, .int .i64 a4_1, .int .i64 a4_2, .int .i64 a4_3, .int .i64 a4_4] 25 (0, 0)) (by (with_reducible repeat (first | refine blk_drewN ?_ _ | refine blk_drew ?_ | refine blk_alloc ?_ _)); exact BK248.out) hg (Kd.R_ne HO284.out BK248.out (by decide)))
                 have n1_ := As0 (blk_grown (g := gb249) (o := .cells #[.int .i64 18, .int .i64 a5_1, .int .i64 a5_2, .int .i64 a5_3, .int .i64 a5_4, .int .i64 a5_5, .int .i64 a5_6] 28 (0, 0)) (by (with_reducible repeat (first | refine blk_drewN ?_ _ | refine blk_drew ?_ | refine blk_alloc ?_ _)); exact BK249.out) hg (Kd.R_away HO284.out (fun _ hk => hk.2)))
                 have n2_ := As0 (Kd.R_over' (by (with_reducible repeat (first | apply Kd.R_alloc | apply Kd.R_drewN | apply Kd.R_drew)); exact HO264.out) (Kd.R_typed (by (with_reducible repeat (first | apply Kd.R_alloc | apply Kd.R_drewN | apply Kd.R_drew)); exact HO284.out)) (by decide) hg)
                 have n3_ := As0 (Kd.R_over' (by (with_reducible repeat (first | apply Kd.R_alloc | apply Kd.R_drewN | apply Kd.R_drew)); exact HO274.out) (Kd.R_typed (by (with_reducible repeat (first | apply Kd.R_alloc | apply Kd.R_drewN | apply Kd.R_drew)); exact HO284.out)) (by decide) hg)
                 have n4_ := As0 (Kd.R_after (ok := (fun k_ => k_ ≠ gb249)) (by (with_reducible repeat (first | apply Kd.R_alloc | apply Kd.R_drewN | apply Kd.R_drew)); exact Kd.R_mono HO287.out (fun _ hk => ⟨hk.2, hk.1⟩)) hg hat)
                 have n5_ := As0 (hb)
                 have n6_ := As0 (ho)
                 clear BK248
                 clear BK249
                 clear HO264
                 clear HO274
                 clear HO287
                 clear HB
                 clear HO284
                 have BK248 := n0_
                 have BK249 := n1_
                 have HO264 := n2_
                 have HO274 := n3_
                 have HO287 := n4_
                 have HB := n5_
                 have HO290 := n6_
                 clear n0_ n1_ n2_ n3_ n4_ n5_ n6_
                 clear ho hb hg hat
                 refine hK.out _ _ ⟨(blk_cell BK249.out 0).trans rfl, (blk_cell BK249.out 1).trans rfl, (blk_cell BK249.out 2).trans rfl, (blk_cell BK249.out 3).trans rfl, (blk_cell BK249.out 4).trans rfl, (blk_cell BK249.out 5).trans rfl, (blk_cell BK249.out 6).trans rfl⟩ (fun hHeld => ?_)
                 clear hK K
                 refine norm_ (a' := ?_) ?_ ?_
                 rotate_left
                 ·show Act.put _ (some 69) _ = _
                  simp only [Act.put, sL1, sL2, sL3, i64_w, i32_w]
                  rfl
                 refine one_ (i := 11) (N := some 73) #[true, true, true, true, true, true, true, true, true, true, true, true, false] rfl rfl (one_of HT_.out (by kernel_rfl)) (by decide) (fun K hK => ?_)
                 refine Kd.R_append_rows_step k28 (w0 := w) w.heap.size (by rfl) (.tmp 69) (.tmp 72) 23 28 (.agg #[(.int .i64 0), (.int .i64 0), (.int .i64 0), (.int .i64 0), (.int .i64 0), (.int .i64 0), (.int .i64 0)]) 56 rfl Try.underlying23 info28 rfl (by decide) (by omega) v289 y288 y291 _ _ _ (fun k_ => some k_ ≠ (.slice Ao66 y285.length co66 : Value).ownBlock ∧ k_ ≠ gb249) (fun _ => False) rfl rfl ?aO ?aR (fun _ _ h => h) (fun _ h => h.elim) ?aF ?aB ?aS ?aL ?_
                 (case aR => repeat (first | exact (Kd.C_below HR294.out HB.out) | (with_reducible refine Kd.C_alloc ?_ _) | (with_reducible refine Kd.C_drewN ?_ _) | (with_reducible refine Kd.C_drew ?_)))
                 (case aB => exact (by repeat (first | (with_reducible first | exact HB.out | apply below_alloc | apply bdN | apply bd1 | refine below_set ?_ GE248.out | refine below_set ?_ GE249.out) | exact HB.out)))
                 (case aF => exact (fun k_ hk => ⟨Kd.fresh' (Kd.R_lt (by (with_reducible repeat (first | apply Kd.R_alloc | apply Kd.R_drewN | apply Kd.R_drew)); exact HO287.out)) k_ hk, Kd.freshB (g := gb249) (o := .cells #[.int .i64 18, .int .i64 a5_1, .int .i64 a5_2, .int .i64 a5_3, .int .i64 a5_4, .int .i64 a5_5, .int .i64 a5_6] 28 (0, 0)) (by (with_reducible repeat (first | refine blk_drewN ?_ _ | refine blk_drew ?_ | refine blk_alloc ?_ _)); exact BK249.out) k_ hk⟩))
                 (case aO => exact (by (with_reducible repeat (first | apply Kd.R_alloc | apply Kd.R_drewN | apply Kd.R_drew)); exact HO290.out))
                 (case aS => exact (below_size (by repeat (first | (with_reducible first | exact HB.out | apply below_alloc | apply bdN | apply bd1 | refine below_set ?_ GE248.out | refine below_set ?_ GE249.out) | exact HB.out))))
                 (case aL => have := LMc36.out; omega)
                 intro v296 w67 ho hb hg hat
                 rw [← Ny295.out] at ho
                 have n0_ := As0 (blk_grown (g := gb248) (o := .cells #[.int .i64 2, .int .i64 a4_1, .int .i64 a4_2, .int .i64 a4_3, .int .i64 a4_4] 25 (0, 0)) (by (with_reducible repeat (first | refine blk_drewN ?_ _ | refine blk_drew ?_ | refine blk_alloc ?_ _)); exact BK248.out) hg (Kd.R_ne HO290.out BK248.out (by decide)))
                 have n1_ := As0 (blk_grown (g := gb249) (o := .cells #[.int .i64 18, .int .i64 a5_1, .int .i64 a5_2, .int .i64 a5_3, .int .i64 a5_4, .int .i64 a5_5, .int .i64 a5_6] 28 (0, 0)) (by (with_reducible repeat (first | refine blk_drewN ?_ _ | refine blk_drew ?_ | refine blk_alloc ?_ _)); exact BK249.out) hg (Kd.R_away HO290.out (fun _ hk => hk.2)))
                 have n2_ := As0 (Kd.R_over' (by (with_reducible repeat (first | apply Kd.R_alloc | apply Kd.R_drewN | apply Kd.R_drew)); exact HO264.out) (Kd.R_typed (by (with_reducible repeat (first | apply Kd.R_alloc | apply Kd.R_drewN | apply Kd.R_drew)); exact HO290.out)) (by decide) hg)
                 have n3_ := As0 (Kd.R_over' (by (with_reducible repeat (first | apply Kd.R_alloc | apply Kd.R_drewN | apply Kd.R_drew)); exact HO274.out) (Kd.R_typed (by (with_reducible repeat (first | apply Kd.R_alloc | apply Kd.R_drewN | apply Kd.R_drew)); exact HO290.out)) (by decide) hg)
                 have n4_ := As0 (Kd.R_after (ok := (fun k_ => k_ ≠ gb249)) (by (with_reducible repeat (first | apply Kd.R_alloc | apply Kd.R_drewN | apply Kd.R_drew)); exact HO287.out) hg hat)
                 have n5_ := As0 (hb)
                 have n6_ := As0 (ho)
                 clear BK248
                 clear BK249
                 clear HO264
                 clear HO274
                 clear HO287
                 clear HB
                 clear HO290
                 have BK248 := n0_
                 have BK249 := n1_
                 have HO264 := n2_
                 have HO274 := n3_
                 have HO287 := n4_
                 have HB := n5_
                 have HO297 := n6_
                 clear n0_ n1_ n2_ n3_ n4_ n5_ n6_
                 clear ho hb hg hat
                 refine hK.out _ _ ⟨(blk_cell BK249.out 0).trans rfl, (blk_cell BK249.out 1).trans rfl, (blk_cell BK249.out 2).trans rfl, (blk_cell BK249.out 3).trans rfl, (blk_cell BK249.out 4).trans rfl, (blk_cell BK249.out 5).trans rfl, (blk_cell BK249.out 6).trans rfl⟩ (fun hHeld => ?_)
                 clear hK K
                 refine norm_ (a' := ?_) ?_ ?_
                 rotate_left
                 ·show Act.put _ (some 73) _ = _
                  simp only [Act.put, sL1, sL2, sL3, i64_w, i32_w]
                  rfl
                 refine pure_ (i := 12) (N := some 16) (v := ?_) (a' := ?_) #[true, true, true, true, true, true, true, true, true, true, true, true, true] rfl rfl (any_of HT_.out (by kernel_rfl)) (fun _ _ _ h => h) (Or.inl ⟨by rfl, ?_⟩) ?_ ?_
                 rotate_left
                 ·intro w'
                  go_simp
                  with_reducible rfl
                 rotate_left
                 ·simp only [Act.put, sL1, sL2, sL3, i64_w, i32_w]
                  rfl
                 refine done_ (done_of HT_.out (by kernel_rfl)) ?_
                 try go_wp2_with (first | ((with_reducible refine gate_callee (f := 9) rfl ?_); refine goesL_ (some 77) rfl rfl Try.func9 (by kernel_rfl) rfl #[.slice A0 l0.length c0, .slice A1 l1.length c1] rfl (by (try simp only [List.map_toArray, List.map_cons, List.map_nil]); first | done | rfl | (simp only [List.length_drop, List.length_take]; rfl)) ?_; (with_reducible refine (align_Code.calls kj6 _ _ l0 _ _ l1 t298 t299 t300 _ ?side1 ?side2 ?side3 ?side4 A37.out).mono ?_); (case side1 => repeat (first | exact (Kd.C_below HR0.out HB.out) | (with_reducible refine Kd.C_alloc ?_ _) | (with_reducible refine Kd.C_drewN ?_ _) | (with_reducible refine Kd.C_drew ?_))); (case side2 => exact HC0.out); (case side3 => repeat (first | exact (Kd.C_below HR1.out HB.out) | (with_reducible refine Kd.C_alloc ?_ _) | (with_reducible refine Kd.C_drewN ?_ _) | (with_reducible refine Kd.C_drew ?_))); (case side4 => exact HC1.out); rintro e w68 ⟨v301, rfl, ho0, hb⟩; refine ⟨_, rfl, ?_⟩; have n0_ := As0 (Kd.R_below (by (with_reducible repeat (first | apply Kd.R_alloc | apply Kd.R_drewN | apply Kd.R_drew)); exact HO264.out) hb); have n1_ := As0 (Kd.R_below (by (with_reducible repeat (first | apply Kd.R_alloc | apply Kd.R_drewN | apply Kd.R_drew)); exact HO274.out) hb); have n2_ := As0 (Kd.R_below (by (with_reducible repeat (first | apply Kd.R_alloc | apply Kd.R_drewN | apply Kd.R_drew)); exact HO287.out) hb); have n3_ := As0 (Kd.R_below (by (with_reducible repeat (first | apply Kd.R_alloc | apply Kd.R_drewN | apply Kd.R_drew)); exact HO297.out) hb); have n4_ := As0 (Kd.R_lower ho0 (below_size (by repeat (first | (with_reducible first | exact HB.out | apply below_alloc | apply bdN | apply bd1 | refine below_set ?_ GE248.out | refine below_set ?_ GE249.out) | exact HB.out)))); have n5_ := As0 (blk_below (g := gb248) (o := .cells #[.int .i64 2, .int .i64 a4_1, .int .i64 a4_2, .int .i64 a4_3, .int .i64 a4_4] 25 (0, 0)) (by (with_reducible repeat (first | refine blk_drewN ?_ _ | refine blk_drew ?_ | refine blk_alloc ?_ _)); exact BK248.out) hb); have n6_ := As0 (blk_below (g := gb249) (o := .cells #[.int .i64 18, .int .i64 a5_1, .int .i64 a5_2, .int .i64 a5_3, .int .i64 a5_4, .int .i64 a5_5, .int .i64 a5_6] 28 (0, 0)) (by (with_reducible repeat (first | refine blk_drewN ?_ _ | refine blk_drew ?_ | refine blk_alloc ?_ _)); exact BK249.out) hb); have n7_ := As0 (below_step (by repeat (first | (with_reducible first | exact HB.out | apply below_alloc | apply bdN | apply bd1 | refine below_set ?_ GE248.out | refine below_set ?_ GE249.out) | exact HB.out)) hb); clear HO264; clear HO274; clear HO287; clear HO297; clear BK248; clear BK249; clear HB; have HO264 := n0_; have HO274 := n1_; have HO287 := n2_; have HO297 := n3_; have HO302 := n4_; have BK248 := n5_; have BK249 := n6_; have HB := n7_; clear n0_ n1_ n2_ n3_ n4_ n5_ n6_ n7_; (try clear hb); (try clear hb2); (try clear hk); (try clear hi); (try clear ho0); obtain ⟨Ao69, co69, eo69⟩ := Kd.R_slice HO274.out; subst eo69; obtain ⟨Ao70, co70, eo70⟩ := Kd.R_slice HO297.out; subst eo70) | ((with_reducible refine gate_callee (f := 9) rfl ?_); refine goesL_ (some 84) rfl rfl Try.func9 (by kernel_rfl) rfl #[.slice Ao69 y272.length co69, .slice Ao70 y295.length co70] rfl (by (try simp only [List.map_toArray, List.map_cons, List.map_nil]); first | done | rfl | (simp only [List.length_drop, List.length_take]; rfl)) ?_; (with_reducible refine (align_Code.calls kj6 _ _ y272 _ _ y295 t303 t304 t305 _ ?side1 ?side2 ?side3 ?side4 A38.out).mono ?_); (case side1 => repeat (first | exact (Kd.R_reads' HO274.out).2.2 | (with_reducible refine Kd.C_alloc ?_ _) | (with_reducible refine Kd.C_drewN ?_ _) | (with_reducible refine Kd.C_drew ?_))); (case side2 => exact (Kd.R_reads' HO274.out).2.1); (case side3 => repeat (first | exact (Kd.R_reads' HO297.out).2.2 | (with_reducible refine Kd.C_alloc ?_ _) | (with_reducible refine Kd.C_drewN ?_ _) | (with_reducible refine Kd.C_drew ?_))); (case side4 => exact (Kd.R_reads' HO297.out).2.1); rintro e w71 ⟨v306, rfl, ho0, hb⟩; refine ⟨_, rfl, ?_⟩; have n0_ := As0 (Kd.R_below (by (with_reducible repeat (first | apply Kd.R_alloc | apply Kd.R_drewN | apply Kd.R_drew)); exact HO264.out) hb); have n1_ := As0 (Kd.R_below (by (with_reducible repeat (first | apply Kd.R_alloc | apply Kd.R_drewN | apply Kd.R_drew)); exact HO274.out) hb); have n2_ := As0 (Kd.R_below (by (with_reducible repeat (first | apply Kd.R_alloc | apply Kd.R_drewN | apply Kd.R_drew)); exact HO287.out) hb); have n3_ := As0 (Kd.R_below (by (with_reducible repeat (first | apply Kd.R_alloc | apply Kd.R_drewN | apply Kd.R_drew)); exact HO297.out) hb); have n4_ := As0 (Kd.R_elder' (by (with_reducible repeat (first | apply Kd.R_alloc | apply Kd.R_drewN | apply Kd.R_drew)); exact HO302.out) (Kd.R_base ho0) hb); have n5_ := As0 (Kd.R_lower (Kd.R_new' ho0 (Kd.R_lt (by (with_reducible repeat (first | apply Kd.R_alloc | apply Kd.R_drewN | apply Kd.R_drew)); exact HO302.out))) (below_size (by repeat (first | (with_reducible first | exact HB.out | apply below_alloc | apply bdN | apply bd1 | refine below_set ?_ GE248.out | refine below_set ?_ GE249.out) | exact HB.out)))); have n6_ := As0 (blk_below (g := gb248) (o := .cells #[.int .i64 2, .int .i64 a4_1, .int .i64 a4_2, .int .i64 a4_3, .int .i64 a4_4] 25 (0, 0)) (by (with_reducible repeat (first | refine blk_drewN ?_ _ | refine blk_drew ?_ | refine blk_alloc ?_ _)); exact BK248.out) hb); have n7_ := As0 (blk_below (g := gb249) (o := .cells #[.int .i64 18, .int .i64 a5_1, .int .i64 a5_2, .int .i64 a5_3, .int .i64 a5_4, .int .i64 a5_5, .int .i64 a5_6] 28 (0, 0)) (by (with_reducible repeat (first | refine blk_drewN ?_ _ | refine blk_drew ?_ | refine blk_alloc ?_ _)); exact BK249.out) hb); have n8_ := As0 (below_step (by repeat (first | (with_reducible first | exact HB.out | apply below_alloc | apply bdN | apply bd1 | refine below_set ?_ GE248.out | refine below_set ?_ GE249.out) | exact HB.out)) hb); clear HO264; clear HO274; clear HO287; clear HO297; clear HO302; clear BK248; clear BK249; clear HB; have HO264 := n0_; have HO274 := n1_; have HO287 := n2_; have HO297 := n3_; have HO302 := n4_; have HO307 := n5_; have BK248 := n6_; have BK249 := n7_; have HB := n8_; clear n0_ n1_ n2_ n3_ n4_ n5_ n6_ n7_ n8_; (try clear hb); (try clear hb2); (try clear hk); (try clear hi); (try clear ho0); obtain ⟨Ao72, co72, eo72⟩ := Kd.R_slice HO302.out; subst eo72; obtain ⟨Ao73, co73, eo73⟩ := Kd.R_slice HO307.out; subst eo73))
                 go_ret
                 exact ⟨by first | rfl | (simp [errW_none, errW_some] <;> rfl) | (simp only [← hji21, ← hji29]; first | rfl | (simp [errW_none, errW_some] <;> rfl)) | (simp [*, errW_none, errW_some] <;> rfl), by repeat (first | (with_reducible first | exact HB.out | apply below_alloc | apply bdN | apply bd1 | refine below_set ?_ GE248.out | refine below_set ?_ GE249.out) | exact HB.out)⟩
                ·rw [if_neg c39] at H
                 have c39b0 : (t300 == t305) = false := beq_eq_false_iff_ne.mpr c39
                 have c39b1 : (t300 != t305) = true := bne_iff_ne.mpr c39
                 obtain rfl := Option.some.inj H
                 have hnb74 := NB248_249.out
                 have hnc74 := NB249_248.out
                 have hcz75_0 : wc.cell? ⟨gb248, 0, none⟩ = some (.int .i64 a4_0) := (blk_cell BK248.out 0).trans rfl
                 have hcz75_1 : wc.cell? ⟨gb248, 1, none⟩ = some (.int .i64 a4_1) := (blk_cell BK248.out 1).trans rfl
                 have hcz75_2 : wc.cell? ⟨gb248, 2, none⟩ = some (.int .i64 a4_2) := (blk_cell BK248.out 2).trans rfl
                 have hcz75_3 : wc.cell? ⟨gb248, 3, none⟩ = some (.int .i64 a4_3) := (blk_cell BK248.out 3).trans rfl
                 have hcz75_4 : wc.cell? ⟨gb248, 4, none⟩ = some (.int .i64 a4_4) := (blk_cell BK248.out 4).trans rfl
                 have hfz75_0 := blk_frozen BK248.out 0
                 have hfz75_1 := blk_frozen BK248.out 1
                 have hfz75_2 := blk_frozen BK248.out 2
                 have hfz75_3 := blk_frozen BK248.out 3
                 have hfz75_4 := blk_frozen BK248.out 4
                 have hcz76_0 : wc.cell? ⟨gb249, 0, none⟩ = some (.int .i64 a5_0) := (blk_cell BK249.out 0).trans rfl
                 have hcz76_1 : wc.cell? ⟨gb249, 1, none⟩ = some (.int .i64 a5_1) := (blk_cell BK249.out 1).trans rfl
                 have hcz76_2 : wc.cell? ⟨gb249, 2, none⟩ = some (.int .i64 a5_2) := (blk_cell BK249.out 2).trans rfl
                 have hcz76_3 : wc.cell? ⟨gb249, 3, none⟩ = some (.int .i64 a5_3) := (blk_cell BK249.out 3).trans rfl
                 have hcz76_4 : wc.cell? ⟨gb249, 4, none⟩ = some (.int .i64 a5_4) := (blk_cell BK249.out 4).trans rfl
                 have hcz76_5 : wc.cell? ⟨gb249, 5, none⟩ = some (.int .i64 a5_5) := (blk_cell BK249.out 5).trans rfl
                 have hcz76_6 : wc.cell? ⟨gb249, 6, none⟩ = some (.int .i64 a5_6) := (blk_cell BK249.out 6).trans rfl
                 have hfz76_0 := blk_frozen BK249.out 0
                 have hfz76_1 := blk_frozen BK249.out 1
                 have hfz76_2 := blk_frozen BK249.out 2
                 have hfz76_3 := blk_frozen BK249.out 3
                 have hfz76_4 := blk_frozen BK249.out 4
                 have hfz76_5 := blk_frozen BK249.out 5
                 have hfz76_6 := blk_frozen BK249.out 6
                 try go_wp2
                 have n0_ : Aside0 (((wc.setCell ⟨gb248, 0, none⟩ (.int .i64 2)).setCell ⟨gb249, 0, none⟩ (.int .i64 18)).heap[gb248]? = some (.cells #[.int .i64 2, .int .i64 a4_1, .int .i64 a4_2, .int .i64 a4_3, .int .i64 a4_4] 25 (0, 0))) := ⟨by (with_reducible repeat (first | refine blk_drewN ?_ _ | refine blk_drew ?_ | refine blk_alloc ?_ _)); refine blk_far ?_ NB248_249.out _; (with_reducible repeat (first | refine blk_drewN ?_ _ | refine blk_drew ?_ | refine blk_alloc ?_ _)); refine blk_put (cs := #[.int .i64 a4_0, .int .i64 a4_1, .int .i64 a4_2, .int .i64 a4_3, .int .i64 a4_4]) ?_ 0 _ rfl; (with_reducible repeat (first | refine blk_drewN ?_ _ | refine blk_drew ?_ | refine blk_alloc ?_ _)); exact BK248.out⟩
                 have n1_ : Aside0 (((wc.setCell ⟨gb248, 0, none⟩ (.int .i64 2)).setCell ⟨gb249, 0, none⟩ (.int .i64 18)).heap[gb249]? = some (.cells #[.int .i64 18, .int .i64 a5_1, .int .i64 a5_2, .int .i64 a5_3, .int .i64 a5_4, .int .i64 a5_5, .int .i64 a5_6] 28 (0, 0))) := ⟨by (with_reducible repeat (first | refine blk_drewN ?_ _ | refine blk_drew ?_ | refine blk_alloc ?_ _)); refine blk_put (cs := #[.int .i64 a5_0, .int .i64 a5_1, .int .i64 a5_2, .int .i64 a5_3, .int .i64 a5_4, .int .i64 a5_5, .int .i64 a5_6]) ?_ 0 _ rfl; (with_reducible repeat (first | refine blk_drewN ?_ _ | refine blk_drew ?_ | refine blk_alloc ?_ _)); refine blk_far ?_ NB249_248.out _; (with_reducible repeat (first | refine blk_drewN ?_ _ | refine blk_drew ?_ | refine blk_alloc ?_ _)); exact BK249.out⟩
                 have n2_ : Aside0 (Below w.heap.size w ((wc.setCell ⟨gb248, 0, none⟩ (.int .i64 2)).setCell ⟨gb249, 0, none⟩ (.int .i64 18))) := ⟨by repeat (first | (with_reducible first | exact HB.out | apply below_alloc | apply bdN | apply bd1 | refine below_set ?_ GE248.out | refine below_set ?_ GE249.out) | exact HB.out)⟩
                 (try clear BK248)
                 (try clear BK249)
                 (try clear HB)
                 generalize ((wc.setCell ⟨gb248, 0, none⟩ (.int .i64 2)).setCell ⟨gb249, 0, none⟩ (.int .i64 18)) = w77 at n0_ n1_ n2_ ⊢
                 have BK248 := n0_
                 have BK249 := n1_
                 have HB := n2_
                 clear n0_ n1_ n2_
                 have n0_ := As0 (blk_drew BK248.out)
                 have n1_ := As0 (blk_drew BK249.out)
                 have n2_ := As0 (bd1 HB.out)
                 clear BK248
                 clear BK249
                 clear HB
                 have BK248 := n0_
                 have BK249 := n1_
                 have HB := n2_
                 clear n0_ n1_ n2_
                 have q79 : ((ji21) : Int) ≤ ((l0.length : Int) : Int) := of_decide_eq_true (by first | (with_reducible assumption) | assumption)
                 obtain ⟨i079, hi079, _, hsz79, _⟩ := info_parts info25
                 have hroom79 : l0.length ≤ c0 := HC0.out
                 have hC79 : Kd.C k25 _ A0 l0.length l0 := HR0.out
                 have hcut79 := cut_to (P := Try.prog) 22 25 .i64 Try.underlying22 hi079 A0 l0.length c0 (ji21) (of_decide_eq_true (by first | (with_reducible assumption) | assumption)) q79 hroom79
                 have hr79 := Kd.C_take (m := ((ji21) : Int).toNat) hC79 (by omega)
                 have hy79 : y255.length = ((ji21) : Int).toNat := (by rw [Ny255.out, List.length_take]; omega)
                 rw [← Ny255.out] at hr79
                 rw [← hy79] at hcut79
                 have HR258 := As0 hr79
                 have HC258 := As0 (show y255.length ≤ c0 from by omega)
                 clear hr79 hC79 hroom79 hi079 hsz79
                 have KY79 := As0 hy79
                 clear hy79
                 replace q79 := eq_true q79
                 have q80 : ((ji21) : Int) ≤ ((l0.length : Int) : Int) := of_decide_eq_true (by first | (with_reducible assumption) | assumption)
                 obtain ⟨i080, hi080, _, hsz80, _⟩ := info_parts info25
                 have hroom80 : l0.length ≤ c0 := HC0.out
                 have hC80 : Kd.C k25 _ A0 l0.length l0 := HR0.out
                 have q080 : (0 : Int) ≤ ((ji21) : Int) := of_decide_eq_true (by first | (with_reducible assumption) | assumption)
                 have hcut80 := cut_from (P := Try.prog) 22 25 .i64 Try.underlying22 hi080 5 hsz80 A0 l0.length c0 (ji21) q080 q80
                 have hr80 := Kd.C_drop (m := ((ji21) : Int).toNat) (c := c0) hC80 (by omega) hroom80
                 obtain ⟨A80, hA80⟩ : ∃ Aq_, Aq_ = (if c0 = ((ji21) : Int).toNat then A0 else (A0 : Option Addr).map (·.add (((ji21) : Int).toNat * 5))) := ⟨_, rfl⟩
                 obtain ⟨c80, hc80⟩ : ∃ cq_, cq_ = c0 - ((ji21) : Int).toNat := ⟨_, rfl⟩
                 have hy80 : y268.length = l0.length - ((ji21) : Int).toNat := (by rw [Ny268.out, List.length_drop] <;> omega)
                 rw [show (l0).drop ((ji21) : Int).toNat = y268 from Ny268.out.symm] at hr80
                 replace hr80 : Kd.C k25 _ A80 y268.length y268 := (by rw [hA80]; exact hr80)
                 rw [← hy80, ← hA80, ← hc80] at hcut80
                 have HR271 := As0 hr80
                 have HC271 := As0 (show y268.length ≤ c80 from by rw [hy80, hc80]; exact Nat.sub_le_sub_right hroom80 _)
                 clear hr80 hC80 hroom80 hi080 hsz80 hc80
                 have KY80 := As0 hy80
                 have KA80 := As0 hA80
                 clear hy80 hA80
                 replace q80 := eq_true q80
                 refine start_ (n := 13) (S := fun w' => w'.cell? ⟨gb248, 0, none⟩ = some (.int .i64 2) ∧ w'.cell? ⟨gb248, 1, none⟩ = some (.int .i64 a4_1) ∧ w'.cell? ⟨gb248, 2, none⟩ = some (.int .i64 a4_2) ∧ w'.cell? ⟨gb248, 3, none⟩ = some (.int .i64 a4_3) ∧ w'.cell? ⟨gb248, 4, none⟩ = some (.int .i64 a4_4)) (ds := []) #[false, false, false, false, false, false, false, false, false, false, false, false, false] (by kernel_rfl) rfl rfl ⟨(blk_cell BK248.out 0).trans rfl, (blk_cell BK248.out 1).trans rfl, (blk_cell BK248.out 2).trans rfl, (blk_cell BK248.out 3).trans rfl, (blk_cell BK248.out 4).trans rfl⟩ (fun hHeld => ?_); refine with_tabW regcertlaw13_AlignIgnoresMoves.tab7 regcertlaw13_AlignIgnoresMoves.bits7 (fun HT_ HW_ => ?_)
                 generalize w77.drew = w78 at BK248 BK249 HB HR258 HR271 hHeld ⊢
                 refine pure_ (i := 1) (N := some 51) (v := ?_) (a' := ?_) #[false, true, false, false, false, false, false, false, false, false, false, false, false] rfl rfl (any_of HT_.out (by kernel_rfl)) (fun _ _ _ h => h) (Or.inl ⟨by rfl, ?_⟩) ?_ ?_
                 rotate_left
                 ·intro w'
                  go_simp
                  with_reducible rfl
                 rotate_left
                 ·simp only [Act.put, sL1, sL2, sL3, i64_w, i32_w]
                  rfl
                 refine pure_ (i := 2) (N := some 52) (v := ?_) (a' := ?_) #[false, true, true, false, false, false, false, false, false, false, false, false, false] rfl rfl (any_of HT_.out (by kernel_rfl)) (fun _ _ _ h => h) (Or.inl ⟨by rfl, ?_⟩) ?_ ?_
                 rotate_left
                 ·intro w'
                  go_simp
                  with_reducible rfl
                 rotate_left
                 ·simp only [Act.put, sL1, sL2, sL3, i64_w, i32_w]
                  rfl
                 refine pure_ (i := 3) (N := some 53) (v := ?_) (a' := ?_) #[false, true, true, true, false, false, false, false, false, false, false, false, false] rfl rfl (any_of HT_.out (by kernel_rfl)) (fun _ _ _ h => h) (Or.inl ⟨by rfl, ?_⟩) ?_ ?_
                 rotate_left
                 ·intro w'
                  go_simp
                  with_reducible rfl
                 rotate_left
                 ·simp only [Act.put, sL1, sL2, sL3, i64_w, i32_w]
                  rfl
                 refine pure_ (i := 8) (N := some 58) (v := ?_) (a' := ?_) #[false, true, true, true, false, false, false, false, true, false, false, false, false] rfl rfl (any_of HT_.out (by kernel_rfl)) (fun _ _ _ h => h) (Or.inl ⟨by rfl, ?_⟩) ?_ ?_
                 rotate_left
                 ·intro w'
                  go_simp
                  with_reducible rfl
                 rotate_left
                 ·simp only [Act.put, sL1, sL2, sL3, i64_w, i32_w]
                  rfl
                 refine pure_ (i := 9) (N := some 59) (v := ?_) (a' := ?_) #[false, true, true, true, false, false, false, false, true, true, false, false, false] rfl rfl (any_of HT_.out (by kernel_rfl)) (fun _ _ _ h => h) (Or.inl ⟨by rfl, ?_⟩) ?_ ?_
                 rotate_left
                 ·intro w'
                  go_simp
                  with_reducible rfl
                 rotate_left
                 ·simp only [Act.put, sL1, sL2, sL3, i64_w, i32_w]
                  rfl
                 refine pure_ (i := 10) (N := some 60) (v := ?_) (a' := ?_) #[false, true, true, true, false, false, false, false, true, true, true, false, false] rfl rfl (any_of HT_.out (by kernel_rfl)) (fun _ _ _ h => h) (Or.inl ⟨by rfl, ?_⟩) ?_ ?_
                 rotate_left
                 ·intro w'
                  go_simp
                  with_reducible rfl
                 rotate_left
                 ·simp only [Act.put, sL1, sL2, sL3, i64_w, i32_w]
                  rfl
                 refine take_ (i := 5) (N := some 55) (v := ?_) (a' := ?_) #[false, true, true, true, false, true, false, false, true, true, true, false, false] rfl rfl (take_ofW HT_.out HW_.out (by kernel_rfl)) (fun _ _ _ h => h) (Or.inl ⟨by rfl, ?_⟩) hHeld ?_ ?_
                 rotate_left
                 ·rintro w' ⟨s0, s1, s2, s3, s4⟩
                  go_simp
                  with_reducible rfl
                 rotate_left
                 ·simp only [Act.put, sL1, sL2, sL3, i64_w, i32_w]
                  rfl
                 refine join_ (σ := Value × Value × Value) 3 #[true, true, true, true, true, true, true, false, true, true, true, false, false] (fun s_ => [(50, s_.1), (54, s_.2.1), (56, s_.2.2)]) (fun s_ w' => (w'.cell? ⟨gb248, 0, none⟩ = some (.int .i64 2) ∧ w'.cell? ⟨gb248, 1, none⟩ = some (.int .i64 a4_1) ∧ w'.cell? ⟨gb248, 2, none⟩ = some (.int .i64 a4_2) ∧ w'.cell? ⟨gb248, 3, none⟩ = some (.int .i64 a4_3) ∧ w'.cell? ⟨gb248, 4, none⟩ = some (.int .i64 a4_4)) ∧ (Kd.R k25 25 w' w.heap.size (fun k_ => some k_ ≠ (s_.2.2 : Value).ownBlock ∧ k_ ≠ gb248) s_.2.1 y259) ∧ (Kd.R k25 25 w' w.heap.size (fun k_ => some k_ ≠ (s_.2.1 : Value).ownBlock ∧ k_ ≠ gb248) s_.2.2 y262) ∧ (w'.heap[gb248]? = some (.cells #[.int .i64 2, .int .i64 a4_1, .int .i64 a4_2, .int .i64 a4_3, .int .i64 a4_4] 25 (0, 0))) ∧ (w'.heap[gb249]? = some (.cells #[.int .i64 18, .int .i64 a5_1, .int .i64 a5_2, .int .i64 a5_3, .int .i64 a5_4, .int .i64 a5_5, .int .i64 a5_6] 28 (0, 0))) ∧ (Below w.heap.size w w')) ?_ ?_
                 rotate_left
                 ·intro hCont
                  refine two_ (i := 0) (j := 6) (Ni := some 50) (Nj := some 56) #[true, true, true, true, false, true, false, false, true, true, true, false, false] #[false, true, true, true, false, true, true, false, true, true, true, false, false] rfl rfl rfl rfl (two_of HT_.out (by kernel_rfl)) (by decide) (by decide) (fun K hK => ?_) (fun K hK => ?_)
                  ·skip
                   refine Kd.R_lit_step k25 _ 25 ?hg (N := 50) ?hd (xs := ([] : List (S25))) (inner := []) (ok := fun _ => True) (okp := fun _ => True) ?hr ?hp (fun _ hk => hk) trivial (Below.refl _ _) (Nat.le_refl _) (by simp) ?_; (case hd => rfl); (case hg => rfl); (case hr => first | (go_simp; done) | (go_simp; rfl)); (case hp => exact (Reps.none _ _))
                   intro v253 w81 ho82 hb hg_ hnew_
                   clear hg_ hnew_
                   (first | rw [← Ny252.out] at ho82 | (simp only [Int.reduceToNat] at ho82; rw [← Ny252.out] at ho82))
                   have n0_ := As0 (Kd.R_lower (Kd.R_newB ho82 (g := gb248) (o := .cells #[.int .i64 2, .int .i64 a4_1, .int .i64 a4_2, .int .i64 a4_3, .int .i64 a4_4] 25 (0, 0)) (by (with_reducible repeat (first | refine blk_drewN ?_ _ | refine blk_drew ?_ | refine blk_alloc ?_ _)); exact BK248.out)) (below_size (by repeat (first | (with_reducible first | exact HB.out | apply below_alloc | apply bdN | apply bd1 | refine below_set ?_ GE248.out | refine below_set ?_ GE249.out) | exact HB.out))))
                   have n1_ := As0 (blk_below (g := gb248) (o := .cells #[.int .i64 2, .int .i64 a4_1, .int .i64 a4_2, .int .i64 a4_3, .int .i64 a4_4] 25 (0, 0)) (by (with_reducible repeat (first | refine blk_drewN ?_ _ | refine blk_drew ?_ | refine blk_alloc ?_ _)); exact BK248.out) hb)
                   have n2_ := As0 (blk_below (g := gb249) (o := .cells #[.int .i64 18, .int .i64 a5_1, .int .i64 a5_2, .int .i64 a5_3, .int .i64 a5_4, .int .i64 a5_5, .int .i64 a5_6] 28 (0, 0)) (by (with_reducible repeat (first | refine blk_drewN ?_ _ | refine blk_drew ?_ | refine blk_alloc ?_ _)); exact BK249.out) hb)
                   have n3_ := As0 (below_step (by repeat (first | (with_reducible first | exact HB.out | apply below_alloc | apply bdN | apply bd1 | refine below_set ?_ GE248.out | refine below_set ?_ GE249.out) | exact HB.out)) hb)
                   clear BK248
                   clear BK249
                   clear HB
                   have HO254 := n0_
                   have BK248 := n1_
                   have BK249 := n2_
                   have HB := n3_
                   clear n0_ n1_ n2_ n3_
                   clear hb ho82
                   refine hK.out _ _ ⟨(blk_cell BK248.out 0).trans rfl, (blk_cell BK248.out 1).trans rfl, (blk_cell BK248.out 2).trans rfl, (blk_cell BK248.out 3).trans rfl, (blk_cell BK248.out 4).trans rfl⟩ (fun hHeld => ?_)
                   clear hK K
                   refine norm_ (a' := ?_) ?_ ?_
                   rotate_left
                   ·show Act.put _ (some 50) _ = _
                    simp only [Act.put, sL1, sL2, sL3, i64_w, i32_w]
                    rfl
                   refine two_ (i := 4) (j := 6) (Ni := some 54) (Nj := some 56) #[true, true, true, true, true, true, false, false, true, true, true, false, false] #[true, true, true, true, false, true, true, false, true, true, true, false, false] rfl rfl rfl rfl (two_of HT_.out (by kernel_rfl)) (by decide) (by decide) (fun K hK => ?_) (fun K hK => ?_)
                   ·skip
                    refine Kd.R_append_rows_step k25 (w0 := w) w.heap.size (by rfl) (.tmp 50) (.tmp 53) 22 25 (.agg #[(.int .i64 0), (.int .i64 0), (.int .i64 0), (.int .i64 0), (.int .i64 0)]) 40 rfl Try.underlying22 info25 rfl (by decide) (by omega) v253 y252 y255 _ _ _ (fun k_ => k_ ≠ gb248) (fun _ => False) rfl rfl ?aO ?aR (fun _ _ h => h) (fun _ h => h.elim) ?aF ?aB ?aS ?aL ?_
                    (case aR => repeat (first | exact (Kd.C_below HR258.out HB.out) | (with_reducible refine Kd.C_alloc ?_ _) | (with_reducible refine Kd.C_drewN ?_ _) | (with_reducible refine Kd.C_drew ?_)))
                    (case aB => exact (by repeat (first | (with_reducible first | exact HB.out | apply below_alloc | apply bdN | apply bd1 | refine below_set ?_ GE248.out | refine below_set ?_ GE249.out) | exact HB.out)))
                    (case aF => exact (fun k_ hk => Kd.freshB (g := gb248) (o := .cells #[.int .i64 2, .int .i64 a4_1, .int .i64 a4_2, .int .i64 a4_3, .int .i64 a4_4] 25 (0, 0)) (by (with_reducible repeat (first | refine blk_drewN ?_ _ | refine blk_drew ?_ | refine blk_alloc ?_ _)); exact BK248.out) k_ hk))
                    (case aO => exact (by (with_reducible repeat (first | apply Kd.R_alloc | apply Kd.R_drewN | apply Kd.R_drew)); exact Kd.R_mono HO254.out (fun _ hk => hk.2)))
                    (case aS => exact (below_size (by repeat (first | (with_reducible first | exact HB.out | apply below_alloc | apply bdN | apply bd1 | refine below_set ?_ GE248.out | refine below_set ?_ GE249.out) | exact HB.out))))
                    (case aL => have := LMc24.out; omega)
                    intro v260 w83 ho hb hg hat
                    rw [← Ny259.out] at ho
                    have n0_ := As0 (blk_grown (g := gb248) (o := .cells #[.int .i64 2, .int .i64 a4_1, .int .i64 a4_2, .int .i64 a4_3, .int .i64 a4_4] 25 (0, 0)) (by (with_reducible repeat (first | refine blk_drewN ?_ _ | refine blk_drew ?_ | refine blk_alloc ?_ _)); exact BK248.out) hg (Kd.R_away HO254.out (fun _ hk => hk.2)))
                    have n1_ := As0 (blk_grown (g := gb249) (o := .cells #[.int .i64 18, .int .i64 a5_1, .int .i64 a5_2, .int .i64 a5_3, .int .i64 a5_4, .int .i64 a5_5, .int .i64 a5_6] 28 (0, 0)) (by (with_reducible repeat (first | refine blk_drewN ?_ _ | refine blk_drew ?_ | refine blk_alloc ?_ _)); exact BK249.out) hg (Kd.R_ne HO254.out BK249.out (by decide)))
                    have n2_ := As0 (hb)
                    have n3_ := As0 (ho)
                    clear BK248
                    clear BK249
                    clear HB
                    clear HO254
                    have BK248 := n0_
                    have BK249 := n1_
                    have HB := n2_
                    have HO261 := n3_
                    clear n0_ n1_ n2_ n3_
                    clear ho hb hg hat
                    refine hK.out _ _ ⟨(blk_cell BK248.out 0).trans rfl, (blk_cell BK248.out 1).trans rfl, (blk_cell BK248.out 2).trans rfl, (blk_cell BK248.out 3).trans rfl, (blk_cell BK248.out 4).trans rfl⟩ (fun hHeld => ?_)
                    clear hK K
                    refine norm_ (a' := ?_) ?_ ?_
                    rotate_left
                    ·show Act.put _ (some 54) _ = _
                     simp only [Act.put, sL1, sL2, sL3, i64_w, i32_w]
                     rfl
                    refine one_ (i := 6) (N := some 56) #[true, true, true, true, true, true, true, false, true, true, true, false, false] rfl rfl (one_of HT_.out (by kernel_rfl)) (by decide) (fun K hK => ?_)
                    refine Kd.R_lit_step k25 _ 25 ?hg (N := 56) ?hd (xs := ([(⟨2, a4_1, a4_2, a4_3, a4_4⟩ : S25)] : List (S25))) (inner := [.int .i64 2, .int .i64 a4_1, .int .i64 a4_2, .int .i64 a4_3, .int .i64 a4_4]) (ok := fun _ => True) (okp := fun _ => True) ?hr ?hp (fun _ hk => hk) trivial (Below.refl _ _) (Nat.le_refl _) (by simp) ?_; (case hd => rfl); (case hg => rfl); (case hr => first | (go_simp; done) | (go_simp; rfl)); (case hp => exact (Reps.c5 (show Kd.M k25 _ _ _ (⟨2, a4_1, a4_2, a4_3, a4_4⟩ : S25) [.int .i64 2, .int .i64 a4_1, .int .i64 a4_2, .int .i64 a4_3, .int .i64 a4_4] from (k25_mkM _ _ _ (⟨2, a4_1, a4_2, a4_3, a4_4⟩ : S25) )) (Reps.none _ _)))
                    intro v263 w84 ho85 hb hg_ hnew_
                    clear hg_ hnew_
                    (first | rw [← Ny262.out] at ho85 | (simp only [Int.reduceToNat] at ho85; rw [← Ny262.out] at ho85))
                    have n0_ := As0 (Kd.R_elder' (by (with_reducible repeat (first | apply Kd.R_alloc | apply Kd.R_drewN | apply Kd.R_drew)); exact HO261.out) (Kd.R_base ho85) hb)
                    have n1_ := As0 (Kd.R_lower (Kd.R_newB (Kd.R_new' ho85 (Kd.R_lt (by (with_reducible repeat (first | apply Kd.R_alloc | apply Kd.R_drewN | apply Kd.R_drew)); exact HO261.out))) (g := gb248) (o := .cells #[.int .i64 2, .int .i64 a4_1, .int .i64 a4_2, .int .i64 a4_3, .int .i64 a4_4] 25 (0, 0)) (by (with_reducible repeat (first | refine blk_drewN ?_ _ | refine blk_drew ?_ | refine blk_alloc ?_ _)); exact BK248.out)) (below_size (by repeat (first | (with_reducible first | exact HB.out | apply below_alloc | apply bdN | apply bd1 | refine below_set ?_ GE248.out | refine below_set ?_ GE249.out) | exact HB.out))))
                    have n2_ := As0 (blk_below (g := gb248) (o := .cells #[.int .i64 2, .int .i64 a4_1, .int .i64 a4_2, .int .i64 a4_3, .int .i64 a4_4] 25 (0, 0)) (by (with_reducible repeat (first | refine blk_drewN ?_ _ | refine blk_drew ?_ | refine blk_alloc ?_ _)); exact BK248.out) hb)
                    have n3_ := As0 (blk_below (g := gb249) (o := .cells #[.int .i64 18, .int .i64 a5_1, .int .i64 a5_2, .int .i64 a5_3, .int .i64 a5_4, .int .i64 a5_5, .int .i64 a5_6] 28 (0, 0)) (by (with_reducible repeat (first | refine blk_drewN ?_ _ | refine blk_drew ?_ | refine blk_alloc ?_ _)); exact BK249.out) hb)
                    have n4_ := As0 (below_step (by repeat (first | (with_reducible first | exact HB.out | apply below_alloc | apply bdN | apply bd1 | refine below_set ?_ GE248.out | refine below_set ?_ GE249.out) | exact HB.out)) hb)
                    clear HO261
                    clear BK248
                    clear BK249
                    clear HB
                    have HO261 := n0_
                    have HO264 := n1_
                    have BK248 := n2_
                    have BK249 := n3_
                    have HB := n4_
                    clear n0_ n1_ n2_ n3_ n4_
                    clear hb ho85
                    refine hK.out _ _ ⟨(blk_cell BK248.out 0).trans rfl, (blk_cell BK248.out 1).trans rfl, (blk_cell BK248.out 2).trans rfl, (blk_cell BK248.out 3).trans rfl, (blk_cell BK248.out 4).trans rfl⟩ (fun hHeld => ?_)
                    clear hK K
                    refine norm_ (a' := ?_) ?_ ?_
                    rotate_left
                    ·show Act.put _ (some 56) _ = _
                     simp only [Act.put, sL1, sL2, sL3, i64_w, i32_w]
                     rfl
                    exact norm_ (by simp only [putAll, Act.put, sL1, sL2, sL3]) (hCont (v253, v260, v263) _ ⟨hHeld, (by (with_reducible repeat (first | apply Kd.R_alloc | apply Kd.R_drewN | apply Kd.R_drew)); exact Kd.R_mono HO261.out (fun _ hk => ⟨hk.2, hk.1⟩)), (by (with_reducible repeat (first | apply Kd.R_alloc | apply Kd.R_drewN | apply Kd.R_drew)); exact Kd.R_mono HO264.out (fun _ hk => ⟨hk.1.2, hk.2⟩)), (by (with_reducible repeat (first | refine blk_drewN ?_ _ | refine blk_drew ?_ | refine blk_alloc ?_ _)); exact BK248.out), (by (with_reducible repeat (first | refine blk_drewN ?_ _ | refine blk_drew ?_ | refine blk_alloc ?_ _)); exact BK249.out), (by repeat (first | (with_reducible first | exact HB.out | apply below_alloc | apply bdN | apply bd1 | refine below_set ?_ GE248.out | refine below_set ?_ GE249.out) | exact HB.out))⟩)
                   ·skip
                    refine Kd.R_lit_step k25 _ 25 ?hg (N := 56) ?hd (xs := ([(⟨2, a4_1, a4_2, a4_3, a4_4⟩ : S25)] : List (S25))) (inner := [.int .i64 2, .int .i64 a4_1, .int .i64 a4_2, .int .i64 a4_3, .int .i64 a4_4]) (ok := fun _ => True) (okp := fun _ => True) ?hr ?hp (fun _ hk => hk) trivial (Below.refl _ _) (Nat.le_refl _) (by simp) ?_; (case hd => rfl); (case hg => rfl); (case hr => first | (go_simp; done) | (go_simp; rfl)); (case hp => exact (Reps.c5 (show Kd.M k25 _ _ _ (⟨2, a4_1, a4_2, a4_3, a4_4⟩ : S25) [.int .i64 2, .int .i64 a4_1, .int .i64 a4_2, .int .i64 a4_3, .int .i64 a4_4] from (k25_mkM _ _ _ (⟨2, a4_1, a4_2, a4_3, a4_4⟩ : S25) )) (Reps.none _ _)))
                    intro v263 w83 ho84 hb hg_ hnew_
                    clear hg_ hnew_
                    (first | rw [← Ny262.out] at ho84 | (simp only [Int.reduceToNat] at ho84; rw [← Ny262.out] at ho84))
                    have n0_ := As0 (Kd.R_elder' (by (with_reducible repeat (first | apply Kd.R_alloc | apply Kd.R_drewN | apply Kd.R_drew)); exact HO254.out) (Kd.R_base ho84) hb)
                    have n1_ := As0 (Kd.R_lower (Kd.R_newB (Kd.R_new' ho84 (Kd.R_lt (by (with_reducible repeat (first | apply Kd.R_alloc | apply Kd.R_drewN | apply Kd.R_drew)); exact HO254.out))) (g := gb248) (o := .cells #[.int .i64 2, .int .i64 a4_1, .int .i64 a4_2, .int .i64 a4_3, .int .i64 a4_4] 25 (0, 0)) (by (with_reducible repeat (first | refine blk_drewN ?_ _ | refine blk_drew ?_ | refine blk_alloc ?_ _)); exact BK248.out)) (below_size (by repeat (first | (with_reducible first | exact HB.out | apply below_alloc | apply bdN | apply bd1 | refine below_set ?_ GE248.out | refine below_set ?_ GE249.out) | exact HB.out))))
                    have n2_ := As0 (blk_below (g := gb248) (o := .cells #[.int .i64 2, .int .i64 a4_1, .int .i64 a4_2, .int .i64 a4_3, .int .i64 a4_4] 25 (0, 0)) (by (with_reducible repeat (first | refine blk_drewN ?_ _ | refine blk_drew ?_ | refine blk_alloc ?_ _)); exact BK248.out) hb)
                    have n3_ := As0 (blk_below (g := gb249) (o := .cells #[.int .i64 18, .int .i64 a5_1, .int .i64 a5_2, .int .i64 a5_3, .int .i64 a5_4, .int .i64 a5_5, .int .i64 a5_6] 28 (0, 0)) (by (with_reducible repeat (first | refine blk_drewN ?_ _ | refine blk_drew ?_ | refine blk_alloc ?_ _)); exact BK249.out) hb)
                    have n4_ := As0 (below_step (by repeat (first | (with_reducible first | exact HB.out | apply below_alloc | apply bdN | apply bd1 | refine below_set ?_ GE248.out | refine below_set ?_ GE249.out) | exact HB.out)) hb)
                    clear HO254
                    clear BK248
                    clear BK249
                    clear HB
                    have HO254 := n0_
                    have HO264 := n1_
                    have BK248 := n2_
                    have BK249 := n3_
                    have HB := n4_
                    clear n0_ n1_ n2_ n3_ n4_
                    clear hb ho84
                    refine hK.out _ _ ⟨(blk_cell BK248.out 0).trans rfl, (blk_cell BK248.out 1).trans rfl, (blk_cell BK248.out 2).trans rfl, (blk_cell BK248.out 3).trans rfl, (blk_cell BK248.out 4).trans rfl⟩ (fun hHeld => ?_)
                    clear hK K
                    refine norm_ (a' := ?_) ?_ ?_
                    rotate_left
                    ·show Act.put _ (some 56) _ = _
                     simp only [Act.put, sL1, sL2, sL3, i64_w, i32_w]
                     rfl
                    refine one_ (i := 4) (N := some 54) #[true, true, true, true, true, true, true, false, true, true, true, false, false] rfl rfl (one_of HT_.out (by kernel_rfl)) (by decide) (fun K hK => ?_)
                    refine Kd.R_append_rows_step k25 (w0 := w) w.heap.size (by rfl) (.tmp 50) (.tmp 53) 22 25 (.agg #[(.int .i64 0), (.int .i64 0), (.int .i64 0), (.int .i64 0), (.int .i64 0)]) 40 rfl Try.underlying22 info25 rfl (by decide) (by omega) v253 y252 y255 _ _ _ (fun k_ => some k_ ≠ (v263 : Value).ownBlock ∧ k_ ≠ gb248) (fun _ => False) rfl rfl ?aO ?aR (fun _ _ h => h) (fun _ h => h.elim) ?aF ?aB ?aS ?aL ?_
                    (case aR => repeat (first | exact (Kd.C_below HR258.out HB.out) | (with_reducible refine Kd.C_alloc ?_ _) | (with_reducible refine Kd.C_drewN ?_ _) | (with_reducible refine Kd.C_drew ?_)))
                    (case aB => exact (by repeat (first | (with_reducible first | exact HB.out | apply below_alloc | apply bdN | apply bd1 | refine below_set ?_ GE248.out | refine below_set ?_ GE249.out) | exact HB.out)))
                    (case aF => exact (fun k_ hk => ⟨Kd.fresh' (Kd.R_lt (by (with_reducible repeat (first | apply Kd.R_alloc | apply Kd.R_drewN | apply Kd.R_drew)); exact HO264.out)) k_ hk, Kd.freshB (g := gb248) (o := .cells #[.int .i64 2, .int .i64 a4_1, .int .i64 a4_2, .int .i64 a4_3, .int .i64 a4_4] 25 (0, 0)) (by (with_reducible repeat (first | refine blk_drewN ?_ _ | refine blk_drew ?_ | refine blk_alloc ?_ _)); exact BK248.out) k_ hk⟩))
                    (case aO => exact (by (with_reducible repeat (first | apply Kd.R_alloc | apply Kd.R_drewN | apply Kd.R_drew)); exact Kd.R_mono HO254.out (fun _ hk => ⟨hk.2, hk.1.2⟩)))
                    (case aS => exact (below_size (by repeat (first | (with_reducible first | exact HB.out | apply below_alloc | apply bdN | apply bd1 | refine below_set ?_ GE248.out | refine below_set ?_ GE249.out) | exact HB.out))))
                    (case aL => have := LMc24.out; omega)
                    intro v260 w85 ho hb hg hat
                    rw [← Ny259.out] at ho
                    have n0_ := As0 (blk_grown (g := gb248) (o := .cells #[.int .i64 2, .int .i64 a4_1, .int .i64 a4_2, .int .i64 a4_3, .int .i64 a4_4] 25 (0, 0)) (by (with_reducible repeat (first | refine blk_drewN ?_ _ | refine blk_drew ?_ | refine blk_alloc ?_ _)); exact BK248.out) hg (Kd.R_away HO254.out (fun _ hk => hk.1.2)))
                    have n1_ := As0 (blk_grown (g := gb249) (o := .cells #[.int .i64 18, .int .i64 a5_1, .int .i64 a5_2, .int .i64 a5_3, .int .i64 a5_4, .int .i64 a5_5, .int .i64 a5_6] 28 (0, 0)) (by (with_reducible repeat (first | refine blk_drewN ?_ _ | refine blk_drew ?_ | refine blk_alloc ?_ _)); exact BK249.out) hg (Kd.R_ne HO254.out BK249.out (by decide)))
                    have n2_ := As0 (Kd.R_after (ok := (fun k_ => k_ ≠ gb248)) (by (with_reducible repeat (first | apply Kd.R_alloc | apply Kd.R_drewN | apply Kd.R_drew)); exact Kd.R_mono HO264.out (fun _ hk => ⟨hk.2, hk.1.2⟩)) hg hat)
                    have n3_ := As0 (hb)
                    have n4_ := As0 (ho)
                    clear BK248
                    clear BK249
                    clear HO264
                    clear HB
                    clear HO254
                    have BK248 := n0_
                    have BK249 := n1_
                    have HO264 := n2_
                    have HB := n3_
                    have HO261 := n4_
                    clear n0_ n1_ n2_ n3_ n4_
                    clear ho hb hg hat
                    refine hK.out _ _ ⟨(blk_cell BK248.out 0).trans rfl, (blk_cell BK248.out 1).trans rfl, (blk_cell BK248.out 2).trans rfl, (blk_cell BK248.out 3).trans rfl, (blk_cell BK248.out 4).trans rfl⟩ (fun hHeld => ?_)
                    clear hK K
                    refine norm_ (a' := ?_) ?_ ?_
                    rotate_left
                    ·show Act.put _ (some 54) _ = _
                     simp only [Act.put, sL1, sL2, sL3, i64_w, i32_w]
                     rfl
                    exact norm_ (by simp only [putAll, Act.put, sL1, sL2, sL3]) (hCont (v253, v260, v263) _ ⟨hHeld, (by (with_reducible repeat (first | apply Kd.R_alloc | apply Kd.R_drewN | apply Kd.R_drew)); exact HO261.out), (by (with_reducible repeat (first | apply Kd.R_alloc | apply Kd.R_drewN | apply Kd.R_drew)); exact Kd.R_mono HO264.out (fun _ hk => ⟨hk.2, hk.1⟩)), (by (with_reducible repeat (first | refine blk_drewN ?_ _ | refine blk_drew ?_ | refine blk_alloc ?_ _)); exact BK248.out), (by (with_reducible repeat (first | refine blk_drewN ?_ _ | refine blk_drew ?_ | refine blk_alloc ?_ _)); exact BK249.out), (by repeat (first | (with_reducible first | exact HB.out | apply below_alloc | apply bdN | apply bd1 | refine below_set ?_ GE248.out | refine below_set ?_ GE249.out) | exact HB.out))⟩)
                  ·skip
                   refine Kd.R_lit_step k25 _ 25 ?hg (N := 56) ?hd (xs := ([(⟨2, a4_1, a4_2, a4_3, a4_4⟩ : S25)] : List (S25))) (inner := [.int .i64 2, .int .i64 a4_1, .int .i64 a4_2, .int .i64 a4_3, .int .i64 a4_4]) (ok := fun _ => True) (okp := fun _ => True) ?hr ?hp (fun _ hk => hk) trivial (Below.refl _ _) (Nat.le_refl _) (by simp) ?_; (case hd => rfl); (case hg => rfl); (case hr => first | (go_simp; done) | (go_simp; rfl)); (case hp => exact (Reps.c5 (show Kd.M k25 _ _ _ (⟨2, a4_1, a4_2, a4_3, a4_4⟩ : S25) [.int .i64 2, .int .i64 a4_1, .int .i64 a4_2, .int .i64 a4_3, .int .i64 a4_4] from (k25_mkM _ _ _ (⟨2, a4_1, a4_2, a4_3, a4_4⟩ : S25) )) (Reps.none _ _)))
                   intro v263 w81 ho82 hb hg_ hnew_
                   clear hg_ hnew_
                   (first | rw [← Ny262.out] at ho82 | (simp only [Int.reduceToNat] at ho82; rw [← Ny262.out] at ho82))
                   have n0_ := As0 (Kd.R_lower (Kd.R_newB ho82 (g := gb248) (o := .cells #[.int .i64 2, .int .i64 a4_1, .int .i64 a4_2, .int .i64 a4_3, .int .i64 a4_4] 25 (0, 0)) (by (with_reducible repeat (first | refine blk_drewN ?_ _ | refine blk_drew ?_ | refine blk_alloc ?_ _)); exact BK248.out)) (below_size (by repeat (first | (with_reducible first | exact HB.out | apply below_alloc | apply bdN | apply bd1 | refine below_set ?_ GE248.out | refine below_set ?_ GE249.out) | exact HB.out))))
                   have n1_ := As0 (blk_below (g := gb248) (o := .cells #[.int .i64 2, .int .i64 a4_1, .int .i64 a4_2, .int .i64 a4_3, .int .i64 a4_4] 25 (0, 0)) (by (with_reducible repeat (first | refine blk_drewN ?_ _ | refine blk_drew ?_ | refine blk_alloc ?_ _)); exact BK248.out) hb)
                   have n2_ := As0 (blk_below (g := gb249) (o := .cells #[.int .i64 18, .int .i64 a5_1, .int .i64 a5_2, .int .i64 a5_3, .int .i64 a5_4, .int .i64 a5_5, .int .i64 a5_6] 28 (0, 0)) (by (with_reducible repeat (first | refine blk_drewN ?_ _ | refine blk_drew ?_ | refine blk_alloc ?_ _)); exact BK249.out) hb)
                   have n3_ := As0 (below_step (by repeat (first | (with_reducible first | exact HB.out | apply below_alloc | apply bdN | apply bd1 | refine below_set ?_ GE248.out | refine below_set ?_ GE249.out) | exact HB.out)) hb)
                   clear BK248
                   clear BK249
                   clear HB
                   have HO264 := n0_
                   have BK248 := n1_
                   have BK249 := n2_
                   have HB := n3_
                   clear n0_ n1_ n2_ n3_
                   clear hb ho82
                   refine hK.out _ _ ⟨(blk_cell BK248.out 0).trans rfl, (blk_cell BK248.out 1).trans rfl, (blk_cell BK248.out 2).trans rfl, (blk_cell BK248.out 3).trans rfl, (blk_cell BK248.out 4).trans rfl⟩ (fun hHeld => ?_)
                   clear hK K
                   refine norm_ (a' := ?_) ?_ ?_
                   rotate_left
                   ·show Act.put _ (some 56) _ = _
                    simp only [Act.put, sL1, sL2, sL3, i64_w, i32_w]
                    rfl
                   refine one_ (i := 0) (N := some 50) #[true, true, true, true, false, true, true, false, true, true, true, false, false] rfl rfl (one_of HT_.out (by kernel_rfl)) (by decide) (fun K hK => ?_)
                   refine Kd.R_lit_step k25 _ 25 ?hg (N := 50) ?hd (xs := ([] : List (S25))) (inner := []) (ok := fun _ => True) (okp := fun _ => True) ?hr ?hp (fun _ hk => hk) trivial (Below.refl _ _) (Nat.le_refl _) (by simp) ?_; (case hd => rfl); (case hg => rfl); (case hr => first | (go_simp; done) | (go_simp; rfl)); (case hp => exact (Reps.none _ _))
                   intro v253 w83 ho84 hb hg_ hnew_
                   clear hg_ hnew_
                   (first | rw [← Ny252.out] at ho84 | (simp only [Int.reduceToNat] at ho84; rw [← Ny252.out] at ho84))
                   have n0_ := As0 (Kd.R_elder' (by (with_reducible repeat (first | apply Kd.R_alloc | apply Kd.R_drewN | apply Kd.R_drew)); exact HO264.out) (Kd.R_base ho84) hb)
                   have n1_ := As0 (Kd.R_lower (Kd.R_newB (Kd.R_new' ho84 (Kd.R_lt (by (with_reducible repeat (first | apply Kd.R_alloc | apply Kd.R_drewN | apply Kd.R_drew)); exact HO264.out))) (g := gb248) (o := .cells #[.int .i64 2, .int .i64 a4_1, .int .i64 a4_2, .int .i64 a4_3, .int .i64 a4_4] 25 (0, 0)) (by (with_reducible repeat (first | refine blk_drewN ?_ _ | refine blk_drew ?_ | refine blk_alloc ?_ _)); exact BK248.out)) (below_size (by repeat (first | (with_reducible first | exact HB.out | apply below_alloc | apply bdN | apply bd1 | refine below_set ?_ GE248.out | refine below_set ?_ GE249.out) | exact HB.out))))
                   have n2_ := As0 (blk_below (g := gb248) (o := .cells #[.int .i64 2, .int .i64 a4_1, .int .i64 a4_2, .int .i64 a4_3, .int .i64 a4_4] 25 (0, 0)) (by (with_reducible repeat (first | refine blk_drewN ?_ _ | refine blk_drew ?_ | refine blk_alloc ?_ _)); exact BK248.out) hb)
                   have n3_ := As0 (blk_below (g := gb249) (o := .cells #[.int .i64 18, .int .i64 a5_1, .int .i64 a5_2, .int .i64 a5_3, .int .i64 a5_4, .int .i64 a5_5, .int .i64 a5_6] 28 (0, 0)) (by (with_reducible repeat (first | refine blk_drewN ?_ _ | refine blk_drew ?_ | refine blk_alloc ?_ _)); exact BK249.out) hb)
                   have n4_ := As0 (below_step (by repeat (first | (with_reducible first | exact HB.out | apply below_alloc | apply bdN | apply bd1 | refine below_set ?_ GE248.out | refine below_set ?_ GE249.out) | exact HB.out)) hb)
                   clear HO264
                   clear BK248
                   clear BK249
                   clear HB
                   have HO264 := n0_
                   have HO254 := n1_
                   have BK248 := n2_
                   have BK249 := n3_
                   have HB := n4_
                   clear n0_ n1_ n2_ n3_ n4_
                   clear hb ho84
                   refine hK.out _ _ ⟨(blk_cell BK248.out 0).trans rfl, (blk_cell BK248.out 1).trans rfl, (blk_cell BK248.out 2).trans rfl, (blk_cell BK248.out 3).trans rfl, (blk_cell BK248.out 4).trans rfl⟩ (fun hHeld => ?_)
                   clear hK K
                   refine norm_ (a' := ?_) ?_ ?_
                   rotate_left
                   ·show Act.put _ (some 50) _ = _
                    simp only [Act.put, sL1, sL2, sL3, i64_w, i32_w]
                    rfl
                   refine one_ (i := 4) (N := some 54) #[true, true, true, true, true, true, true, false, true, true, true, false, false] rfl rfl (one_of HT_.out (by kernel_rfl)) (by decide) (fun K hK => ?_)
                   refine Kd.R_append_rows_step k25 (w0 := w) w.heap.size (by rfl) (.tmp 50) (.tmp 53) 22 25 (.agg #[(.int .i64 0), (.int .i64 0), (.int .i64 0), (.int .i64 0), (.int .i64 0)]) 40 rfl Try.underlying22 info25 rfl (by decide) (by omega) v253 y252 y255 _ _ _ (fun k_ => some k_ ≠ (v263 : Value).ownBlock ∧ k_ ≠ gb248) (fun _ => False) rfl rfl ?aO ?aR (fun _ _ h => h) (fun _ h => h.elim) ?aF ?aB ?aS ?aL ?_
                   (case aR => repeat (first | exact (Kd.C_below HR258.out HB.out) | (with_reducible refine Kd.C_alloc ?_ _) | (with_reducible refine Kd.C_drewN ?_ _) | (with_reducible refine Kd.C_drew ?_)))
                   (case aB => exact (by repeat (first | (with_reducible first | exact HB.out | apply below_alloc | apply bdN | apply bd1 | refine below_set ?_ GE248.out | refine below_set ?_ GE249.out) | exact HB.out)))
                   (case aF => exact (fun k_ hk => ⟨Kd.fresh' (Kd.R_lt (by (with_reducible repeat (first | apply Kd.R_alloc | apply Kd.R_drewN | apply Kd.R_drew)); exact HO264.out)) k_ hk, Kd.freshB (g := gb248) (o := .cells #[.int .i64 2, .int .i64 a4_1, .int .i64 a4_2, .int .i64 a4_3, .int .i64 a4_4] 25 (0, 0)) (by (with_reducible repeat (first | refine blk_drewN ?_ _ | refine blk_drew ?_ | refine blk_alloc ?_ _)); exact BK248.out) k_ hk⟩))
                   (case aO => exact (by (with_reducible repeat (first | apply Kd.R_alloc | apply Kd.R_drewN | apply Kd.R_drew)); exact Kd.R_mono HO254.out (fun _ hk => ⟨hk.1.2, hk.2⟩)))
                   (case aS => exact (below_size (by repeat (first | (with_reducible first | exact HB.out | apply below_alloc | apply bdN | apply bd1 | refine below_set ?_ GE248.out | refine below_set ?_ GE249.out) | exact HB.out))))
                   (case aL => have := LMc24.out; omega)
                   intro v260 w85 ho hb hg hat
                   rw [← Ny259.out] at ho
                   have n0_ := As0 (blk_grown (g := gb248) (o := .cells #[.int .i64 2, .int .i64 a4_1, .int .i64 a4_2, .int .i64 a4_3, .int .i64 a4_4] 25 (0, 0)) (by (with_reducible repeat (first | refine blk_drewN ?_ _ | refine blk_drew ?_ | refine blk_alloc ?_ _)); exact BK248.out) hg (Kd.R_away HO254.out (fun _ hk => hk.2)))
                   have n1_ := As0 (blk_grown (g := gb249) (o := .cells #[.int .i64 18, .int .i64 a5_1, .int .i64 a5_2, .int .i64 a5_3, .int .i64 a5_4, .int .i64 a5_5, .int .i64 a5_6] 28 (0, 0)) (by (with_reducible repeat (first | refine blk_drewN ?_ _ | refine blk_drew ?_ | refine blk_alloc ?_ _)); exact BK249.out) hg (Kd.R_ne HO254.out BK249.out (by decide)))
                   have n2_ := As0 (Kd.R_after (ok := (fun k_ => k_ ≠ gb248)) (by (with_reducible repeat (first | apply Kd.R_alloc | apply Kd.R_drewN | apply Kd.R_drew)); exact Kd.R_mono HO264.out (fun _ hk => ⟨hk.1.2, hk.2⟩)) hg hat)
                   have n3_ := As0 (hb)
                   have n4_ := As0 (ho)
                   clear BK248
                   clear BK249
                   clear HO264
                   clear HB
                   clear HO254
                   have BK248 := n0_
                   have BK249 := n1_
                   have HO264 := n2_
                   have HB := n3_
                   have HO261 := n4_
                   clear n0_ n1_ n2_ n3_ n4_
                   clear ho hb hg hat
                   refine hK.out _ _ ⟨(blk_cell BK248.out 0).trans rfl, (blk_cell BK248.out 1).trans rfl, (blk_cell BK248.out 2).trans rfl, (blk_cell BK248.out 3).trans rfl, (blk_cell BK248.out 4).trans rfl⟩ (fun hHeld => ?_)
                   clear hK K
                   refine norm_ (a' := ?_) ?_ ?_
                   rotate_left
                   ·show Act.put _ (some 54) _ = _
                    simp only [Act.put, sL1, sL2, sL3, i64_w, i32_w]
                    rfl
                   exact norm_ (by simp only [putAll, Act.put, sL1, sL2, sL3]) (hCont (v253, v260, v263) _ ⟨hHeld, (by (with_reducible repeat (first | apply Kd.R_alloc | apply Kd.R_drewN | apply Kd.R_drew)); exact HO261.out), (by (with_reducible repeat (first | apply Kd.R_alloc | apply Kd.R_drewN | apply Kd.R_drew)); exact Kd.R_mono HO264.out (fun _ hk => ⟨hk.2, hk.1⟩)), (by (with_reducible repeat (first | refine blk_drewN ?_ _ | refine blk_drew ?_ | refine blk_alloc ?_ _)); exact BK248.out), (by (with_reducible repeat (first | refine blk_drewN ?_ _ | refine blk_drew ?_ | refine blk_alloc ?_ _)); exact BK249.out), (by repeat (first | (with_reducible first | exact HB.out | apply below_alloc | apply bdN | apply bd1 | refine below_set ?_ GE248.out | refine below_set ?_ GE249.out) | exact HB.out))⟩)
                 rintro ⟨v253, v260, v263⟩ w86 ⟨hS_, h0_, h1_, h2_, h3_, h4_⟩
                 have n0_ : Aside0 (Kd.R k25 25 w86 w.heap.size (fun k_ => some k_ ≠ (v263 : Value).ownBlock ∧ k_ ≠ gb248) v260 y259) := ⟨h0_⟩
                 have n1_ : Aside0 (Kd.R k25 25 w86 w.heap.size (fun k_ => some k_ ≠ (v260 : Value).ownBlock ∧ k_ ≠ gb248) v263 y262) := ⟨h1_⟩
                 have n2_ : Aside0 (w86.heap[gb248]? = some (.cells #[.int .i64 2, .int .i64 a4_1, .int .i64 a4_2, .int .i64 a4_3, .int .i64 a4_4] 25 (0, 0))) := ⟨h2_⟩
                 have n3_ : Aside0 (w86.heap[gb249]? = some (.cells #[.int .i64 18, .int .i64 a5_1, .int .i64 a5_2, .int .i64 a5_3, .int .i64 a5_4, .int .i64 a5_5, .int .i64 a5_6] 28 (0, 0))) := ⟨h3_⟩
                 have n4_ : Aside0 (Below w.heap.size w w86) := ⟨h4_⟩
                 clear BK248
                 clear BK249
                 clear HB
                 clear h0_ h1_ h2_ h3_ h4_
                 have HO261 := n0_
                 have HO264 := n1_
                 have BK248 := n2_
                 have BK249 := n3_
                 have HB := n4_
                 clear n0_ n1_ n2_ n3_ n4_
                 have hHeld : w86.cell? ⟨gb248, 0, none⟩ = some (.int .i64 2) ∧ w86.cell? ⟨gb248, 1, none⟩ = some (.int .i64 a4_1) ∧ w86.cell? ⟨gb248, 2, none⟩ = some (.int .i64 a4_2) ∧ w86.cell? ⟨gb248, 3, none⟩ = some (.int .i64 a4_3) ∧ w86.cell? ⟨gb248, 4, none⟩ = some (.int .i64 a4_4) := hS_
                 obtain ⟨Ao88, co88, eo88⟩ := Kd.R_slice HO264.out
                 (first | subst eo88 | (injection eo88 with f1_ f2_ f3_; have f4_ := f1_.symm; have f5_ := f3_.symm; clear f1_ f2_ f3_; subst f4_; subst f5_))
                 refine norm_ (a' := ?_) ?_ ?_
                 rotate_left
                 ·simp only [putAll, Act.put, sL1, sL2, sL3]
                  rfl
                 refine one_ (i := 7) (N := some 57) #[true, true, true, true, true, true, true, true, true, true, true, false, false] rfl rfl (one_of HT_.out (by kernel_rfl)) (by decide) (fun K hK => ?_)
                 refine Kd.R_append_rows_step k25 (w0 := w) w.heap.size (by rfl) (.tmp 54) (.tmp 56) 22 25 (.agg #[(.int .i64 0), (.int .i64 0), (.int .i64 0), (.int .i64 0), (.int .i64 0)]) 40 rfl Try.underlying22 info25 rfl (by decide) (by omega) v260 y259 y262 _ _ _ (fun k_ => some k_ ≠ (.slice Ao88 y262.length co88 : Value).ownBlock ∧ k_ ≠ gb248) (fun _ => False) rfl rfl ?aO ?aR (fun _ _ h => h) (fun _ h => h.elim) ?aF ?aB ?aS ?aL ?_
                 (case aR => repeat (first | exact (Kd.R_reads' HO264.out).2.2 | (with_reducible refine Kd.C_alloc ?_ _) | (with_reducible refine Kd.C_drewN ?_ _) | (with_reducible refine Kd.C_drew ?_)))
                 (case aB => exact (by repeat (first | (with_reducible first | exact HB.out | apply below_alloc | apply bdN | apply bd1 | refine below_set ?_ GE248.out | refine below_set ?_ GE249.out) | exact HB.out)))
                 (case aF => exact (fun k_ hk => ⟨Kd.fresh' (Kd.R_lt (by (with_reducible repeat (first | apply Kd.R_alloc | apply Kd.R_drewN | apply Kd.R_drew)); exact HO264.out)) k_ hk, Kd.freshB (g := gb248) (o := .cells #[.int .i64 2, .int .i64 a4_1, .int .i64 a4_2, .int .i64 a4_3, .int .i64 a4_4] 25 (0, 0)) (by (with_reducible repeat (first | refine blk_drewN ?_ _ | refine blk_drew ?_ | refine blk_alloc ?_ _)); exact BK248.out) k_ hk⟩))
                 (case aO => exact (by (with_reducible repeat (first | apply Kd.R_alloc | apply Kd.R_drewN | apply Kd.R_drew)); exact HO261.out))
                 (case aS => exact (below_size (by repeat (first | (with_reducible first | exact HB.out | apply below_alloc | apply bdN | apply bd1 | refine below_set ?_ GE248.out | refine below_set ?_ GE249.out) | exact HB.out))))
                 (case aL => have := LMc25.out; omega)
                 intro v266 w87 ho hb hg hat
                 rw [← Ny265.out] at ho
                 have n0_ := As0 (blk_grown (g := gb248) (o := .cells #[.int .i64 2, .int .i64 a4_1, .int .i64 a4_2, .int .i64 a4_3, .int .i64 a4_4] 25 (0, 0)) (by (with_reducible repeat (first | refine blk_drewN ?_ _ | refine blk_drew ?_ | refine blk_alloc ?_ _)); exact BK248.out) hg (Kd.R_away HO261.out (fun _ hk => hk.2)))
                 have n1_ := As0 (blk_grown (g := gb249) (o := .cells #[.int .i64 18, .int .i64 a5_1, .int .i64 a5_2, .int .i64 a5_3, .int .i64 a5_4, .int .i64 a5_5, .int .i64 a5_6] 28 (0, 0)) (by (with_reducible repeat (first | refine blk_drewN ?_ _ | refine blk_drew ?_ | refine blk_alloc ?_ _)); exact BK249.out) hg (Kd.R_ne HO261.out BK249.out (by decide)))
                 have n2_ := As0 (Kd.R_after (ok := (fun k_ => k_ ≠ gb248)) (by (with_reducible repeat (first | apply Kd.R_alloc | apply Kd.R_drewN | apply Kd.R_drew)); exact Kd.R_mono HO264.out (fun _ hk => ⟨hk.2, hk.1⟩)) hg hat)
                 have n3_ := As0 (hb)
                 have n4_ := As0 (ho)
                 clear BK248
                 clear BK249
                 clear HO264
                 clear HB
                 clear HO261
                 have BK248 := n0_
                 have BK249 := n1_
                 have HO264 := n2_
                 have HB := n3_
                 have HO267 := n4_
                 clear n0_ n1_ n2_ n3_ n4_
                 clear ho hb hg hat
                 refine hK.out _ _ ⟨(blk_cell BK248.out 0).trans rfl, (blk_cell BK248.out 1).trans rfl, (blk_cell BK248.out 2).trans rfl, (blk_cell BK248.out 3).trans rfl, (blk_cell BK248.out 4).trans rfl⟩ (fun hHeld => ?_)
                 clear hK K
                 refine norm_ (a' := ?_) ?_ ?_
                 rotate_left
                 ·show Act.put _ (some 57) _ = _
                  simp only [Act.put, sL1, sL2, sL3, i64_w, i32_w]
                  rfl
                 refine one_ (i := 11) (N := some 61) #[true, true, true, true, true, true, true, true, true, true, true, true, false] rfl rfl (one_of HT_.out (by kernel_rfl)) (by decide) (fun K hK => ?_)
                 refine Kd.R_append_rows_step k25 (w0 := w) w.heap.size (by rfl) (.tmp 57) (.tmp 60) 22 25 (.agg #[(.int .i64 0), (.int .i64 0), (.int .i64 0), (.int .i64 0), (.int .i64 0)]) 40 rfl Try.underlying22 info25 rfl (by decide) (by omega) v266 y265 y268 _ _ _ (fun k_ => some k_ ≠ (.slice Ao88 y262.length co88 : Value).ownBlock ∧ k_ ≠ gb248) (fun _ => False) rfl rfl ?aO ?aR (fun _ _ h => h) (fun _ h => h.elim) ?aF ?aB ?aS ?aL ?_
                 (case aR => repeat (first | exact (Kd.C_below HR271.out HB.out) | (with_reducible refine Kd.C_alloc ?_ _) | (with_reducible refine Kd.C_drewN ?_ _) | (with_reducible refine Kd.C_drew ?_)))
                 (case aB => exact (by repeat (first | (with_reducible first | exact HB.out | apply below_alloc | apply bdN | apply bd1 | refine below_set ?_ GE248.out | refine below_set ?_ GE249.out) | exact HB.out)))
                 (case aF => exact (fun k_ hk => ⟨Kd.fresh' (Kd.R_lt (by (with_reducible repeat (first | apply Kd.R_alloc | apply Kd.R_drewN | apply Kd.R_drew)); exact HO264.out)) k_ hk, Kd.freshB (g := gb248) (o := .cells #[.int .i64 2, .int .i64 a4_1, .int .i64 a4_2, .int .i64 a4_3, .int .i64 a4_4] 25 (0, 0)) (by (with_reducible repeat (first | refine blk_drewN ?_ _ | refine blk_drew ?_ | refine blk_alloc ?_ _)); exact BK248.out) k_ hk⟩))
                 (case aO => exact (by (with_reducible repeat (first | apply Kd.R_alloc | apply Kd.R_drewN | apply Kd.R_drew)); exact HO267.out))
                 (case aS => exact (below_size (by repeat (first | (with_reducible first | exact HB.out | apply below_alloc | apply bdN | apply bd1 | refine below_set ?_ GE248.out | refine below_set ?_ GE249.out) | exact HB.out))))
                 (case aL => have := LMc28.out; omega)
                 intro v273 w89 ho hb hg hat
                 rw [← Ny272.out] at ho
                 have n0_ := As0 (blk_grown (g := gb248) (o := .cells #[.int .i64 2, .int .i64 a4_1, .int .i64 a4_2, .int .i64 a4_3, .int .i64 a4_4] 25 (0, 0)) (by (with_reducible repeat (first | refine blk_drewN ?_ _ | refine blk_drew ?_ | refine blk_alloc ?_ _)); exact BK248.out) hg (Kd.R_away HO267.out (fun _ hk => hk.2)))
                 have n1_ := As0 (blk_grown (g := gb249) (o := .cells #[.int .i64 18, .int .i64 a5_1, .int .i64 a5_2, .int .i64 a5_3, .int .i64 a5_4, .int .i64 a5_5, .int .i64 a5_6] 28 (0, 0)) (by (with_reducible repeat (first | refine blk_drewN ?_ _ | refine blk_drew ?_ | refine blk_alloc ?_ _)); exact BK249.out) hg (Kd.R_ne HO267.out BK249.out (by decide)))
                 have n2_ := As0 (Kd.R_after (ok := (fun k_ => k_ ≠ gb248)) (by (with_reducible repeat (first | apply Kd.R_alloc | apply Kd.R_drewN | apply Kd.R_drew)); exact HO264.out) hg hat)
                 have n3_ := As0 (hb)
                 have n4_ := As0 (ho)
                 clear BK248
                 clear BK249
                 clear HO264
                 clear HB
                 clear HO267
                 have BK248 := n0_
                 have BK249 := n1_
                 have HO264 := n2_
                 have HB := n3_
                 have HO274 := n4_
                 clear n0_ n1_ n2_ n3_ n4_
                 clear ho hb hg hat
                 refine hK.out _ _ ⟨(blk_cell BK248.out 0).trans rfl, (blk_cell BK248.out 1).trans rfl, (blk_cell BK248.out 2).trans rfl, (blk_cell BK248.out 3).trans rfl, (blk_cell BK248.out 4).trans rfl⟩ (fun hHeld => ?_)
                 clear hK K
                 refine norm_ (a' := ?_) ?_ ?_
                 rotate_left
                 ·show Act.put _ (some 61) _ = _
                  simp only [Act.put, sL1, sL2, sL3, i64_w, i32_w]
                  rfl
                 refine pure_ (i := 12) (N := some 15) (v := ?_) (a' := ?_) #[true, true, true, true, true, true, true, true, true, true, true, true, true] rfl rfl (any_of HT_.out (by kernel_rfl)) (fun _ _ _ h => h) (Or.inl ⟨by rfl, ?_⟩) ?_ ?_
                 rotate_left
                 ·intro w'
                  go_simp
                  with_reducible rfl
                 rotate_left
                 ·simp only [Act.put, sL1, sL2, sL3, i64_w, i32_w]
                  rfl
                 refine done_ (done_of HT_.out (by kernel_rfl)) ?_
                 try go_wp2
                 have n0_ := As0 (Kd.R_drew HO264.out)
                 have n1_ := As0 (Kd.R_drew HO274.out)
                 have n2_ := As0 (blk_drew BK248.out)
                 have n3_ := As0 (blk_drew BK249.out)
                 have n4_ := As0 (bd1 HB.out)
                 clear HO264
                 clear HO274
                 clear BK248
                 clear BK249
                 clear HB
                 have HO264 := n0_
                 have HO274 := n1_
                 have BK248 := n2_
                 have BK249 := n3_
                 have HB := n4_
                 clear n0_ n1_ n2_ n3_ n4_
                 have q91 : ((ji29) : Int) ≤ ((l1.length : Int) : Int) := of_decide_eq_true (by first | (with_reducible assumption) | assumption)
                 obtain ⟨i091, hi091, _, hsz91, _⟩ := info_parts info28
                 have hroom91 : l1.length ≤ c1 := HC1.out
                 have hC91 : Kd.C k28 _ A1 l1.length l1 := HR1.out
                 have hcut91 := cut_to (P := Try.prog) 23 28 .i64 Try.underlying23 hi091 A1 l1.length c1 (ji29) (of_decide_eq_true (by first | (with_reducible assumption) | assumption)) q91 hroom91
                 have hr91 := Kd.C_take (m := ((ji29) : Int).toNat) hC91 (by omega)
                 have hy91 : y278.length = ((ji29) : Int).toNat := (by rw [Ny278.out, List.length_take]; omega)
                 rw [← Ny278.out] at hr91
                 rw [← hy91] at hcut91
                 have HR281 := As0 hr91
                 have HC281 := As0 (show y278.length ≤ c1 from by omega)
                 clear hr91 hC91 hroom91 hi091 hsz91
                 have KY91 := As0 hy91
                 clear hy91
                 replace q91 := eq_true q91
                 have q92 : ((ji29) : Int) ≤ ((l1.length : Int) : Int) := of_decide_eq_true (by first | (with_reducible assumption) | assumption)
                 obtain ⟨i092, hi092, _, hsz92, _⟩ := info_parts info28
                 have hroom92 : l1.length ≤ c1 := HC1.out
                 have hC92 : Kd.C k28 _ A1 l1.length l1 := HR1.out
                 have q092 : (0 : Int) ≤ ((ji29) : Int) := of_decide_eq_true (by first | (with_reducible assumption) | assumption)
                 have hcut92 := cut_from (P := Try.prog) 23 28 .i64 Try.underlying23 hi092 7 hsz92 A1 l1.length c1 (ji29) q092 q92
                 have hr92 := Kd.C_drop (m := ((ji29) : Int).toNat) (c := c1) hC92 (by omega) hroom92
                 obtain ⟨A92, hA92⟩ : ∃ Aq_, Aq_ = (if c1 = ((ji29) : Int).toNat then A1 else (A1 : Option Addr).map (·.add (((ji29) : Int).toNat * 7))) := ⟨_, rfl⟩
                 obtain ⟨c92, hc92⟩ : ∃ cq_, cq_ = c1 - ((ji29) : Int).toNat := ⟨_, rfl⟩
                 have hy92 : y291.length = l1.length - ((ji29) : Int).toNat := (by rw [Ny291.out, List.length_drop] <;> omega)
                 rw [show (l1).drop ((ji29) : Int).toNat = y291 from Ny291.out.symm] at hr92
                 replace hr92 : Kd.C k28 _ A92 y291.length y291 := (by rw [hA92]; exact hr92)
                 rw [← hy92, ← hA92, ← hc92] at hcut92
                 have HR294 := As0 hr92
                 have HC294 := As0 (show y291.length ≤ c92 from by rw [hy92, hc92]; exact Nat.sub_le_sub_right hroom92 _)
                 clear hr92 hC92 hroom92 hi092 hsz92 hc92
                 have KY92 := As0 hy92
                 have KA92 := As0 hA92
                 clear hy92 hA92
                 replace q92 := eq_true q92
                 refine start_ (n := 13) (S := fun w' => w'.cell? ⟨gb249, 0, none⟩ = some (.int .i64 18) ∧ w'.cell? ⟨gb249, 1, none⟩ = some (.int .i64 a5_1) ∧ w'.cell? ⟨gb249, 2, none⟩ = some (.int .i64 a5_2) ∧ w'.cell? ⟨gb249, 3, none⟩ = some (.int .i64 a5_3) ∧ w'.cell? ⟨gb249, 4, none⟩ = some (.int .i64 a5_4) ∧ w'.cell? ⟨gb249, 5, none⟩ = some (.int .i64 a5_5) ∧ w'.cell? ⟨gb249, 6, none⟩ = some (.int .i64 a5_6)) (ds := []) #[false, false, false, false, false, false, false, false, false, false, false, false, false] (by kernel_rfl) rfl rfl ⟨(blk_cell BK249.out 0).trans rfl, (blk_cell BK249.out 1).trans rfl, (blk_cell BK249.out 2).trans rfl, (blk_cell BK249.out 3).trans rfl, (blk_cell BK249.out 4).trans rfl, (blk_cell BK249.out 5).trans rfl, (blk_cell BK249.out 6).trans rfl⟩ (fun hHeld => ?_); refine with_tabW regcertlaw13_AlignIgnoresMoves.tab8 regcertlaw13_AlignIgnoresMoves.bits8 (fun HT_ HW_ => ?_)
                 generalize w89.drew = w90 at HO264 HO274 BK248 BK249 HB HR281 HR294 hHeld ⊢
                 refine pure_ (i := 1) (N := some 63) (v := ?_) (a' := ?_) #[false, true, false, false, false, false, false, false, false, false, false, false, false] rfl rfl (any_of HT_.out (by kernel_rfl)) (fun _ _ _ h => h) (Or.inl ⟨by rfl, ?_⟩) ?_ ?_
                 rotate_left
                 ·intro w'
                  go_simp
                  with_reducible rfl
                 rotate_left
                 ·simp only [Act.put, sL1, sL2, sL3, i64_w, i32_w]
                  rfl
                 refine pure_ (i := 2) (N := some 64) (v := ?_) (a' := ?_) #[false, true, true, false, false, false, false, false, false, false, false, false, false] rfl rfl (any_of HT_.out (by kernel_rfl)) (fun _ _ _ h => h) (Or.inl ⟨by rfl, ?_⟩) ?_ ?_
                 rotate_left
                 ·intro w'
                  go_simp
                  with_reducible rfl
                 rotate_left
                 ·simp only [Act.put, sL1, sL2, sL3, i64_w, i32_w]
                  rfl
                 refine pure_ (i := 3) (N := some 65) (v := ?_) (a' := ?_) #[false, true, true, true, false, false, false, false, false, false, false, false, false] rfl rfl (any_of HT_.out (by kernel_rfl)) (fun _ _ _ h => h) (Or.inl ⟨by rfl, ?_⟩) ?_ ?_
                 rotate_left
                 ·intro w'
                  go_simp
                  with_reducible rfl
                 rotate_left
                 ·simp only [Act.put, sL1, sL2, sL3, i64_w, i32_w]
                  rfl
                 refine pure_ (i := 8) (N := some 70) (v := ?_) (a' := ?_) #[false, true, true, true, false, false, false, false, true, false, false, false, false] rfl rfl (any_of HT_.out (by kernel_rfl)) (fun _ _ _ h => h) (Or.inl ⟨by rfl, ?_⟩) ?_ ?_
                 rotate_left
                 ·intro w'
                  go_simp
                  with_reducible rfl
                 rotate_left
                 ·simp only [Act.put, sL1, sL2, sL3, i64_w, i32_w]
                  rfl
                 refine pure_ (i := 9) (N := some 71) (v := ?_) (a' := ?_) #[false, true, true, true, false, false, false, false, true, true, false, false, false] rfl rfl (any_of HT_.out (by kernel_rfl)) (fun _ _ _ h => h) (Or.inl ⟨by rfl, ?_⟩) ?_ ?_
                 rotate_left
                 ·intro w'
                  go_simp
                  with_reducible rfl
                 rotate_left
                 ·simp only [Act.put, sL1, sL2, sL3, i64_w, i32_w]
                  rfl
                 refine pure_ (i := 10) (N := some 72) (v := ?_) (a' := ?_) #[false, true, true, true, false, false, false, false, true, true, true, false, false] rfl rfl (any_of HT_.out (by kernel_rfl)) (fun _ _ _ h => h) (Or.inl ⟨by rfl, ?_⟩) ?_ ?_
                 rotate_left
                 ·intro w'
                  go_simp
                  with_reducible rfl
                 rotate_left
                 ·simp only [Act.put, sL1, sL2, sL3, i64_w, i32_w]
                  rfl
                 refine take_ (i := 5) (N := some 67) (v := ?_) (a' := ?_) #[false, true, true, true, false, true, false, false, true, true, true, false, false] rfl rfl (take_ofW HT_.out HW_.out (by kernel_rfl)) (fun _ _ _ h => h) (Or.inl ⟨by rfl, ?_⟩) hHeld ?_ ?_
                 rotate_left
                 ·rintro w' ⟨s0, s1, s2, s3, s4, s5, s6⟩
                  go_simp
                  with_reducible rfl
                 rotate_left
                 ·simp only [Act.put, sL1, sL2, sL3, i64_w, i32_w]
                  rfl
                 refine join_ (σ := Value × Value × Value) 3 #[true, true, true, true, true, true, true, false, true, true, true, false, false] (fun s_ => [(62, s_.1), (66, s_.2.1), (68, s_.2.2)]) (fun s_ w' => (w'.cell? ⟨gb249, 0, none⟩ = some (.int .i64 18) ∧ w'.cell? ⟨gb249, 1, none⟩ = some (.int .i64 a5_1) ∧ w'.cell? ⟨gb249, 2, none⟩ = some (.int .i64 a5_2) ∧ w'.cell? ⟨gb249, 3, none⟩ = some (.int .i64 a5_3) ∧ w'.cell? ⟨gb249, 4, none⟩ = some (.int .i64 a5_4) ∧ w'.cell? ⟨gb249, 5, none⟩ = some (.int .i64 a5_5) ∧ w'.cell? ⟨gb249, 6, none⟩ = some (.int .i64 a5_6)) ∧ (Kd.R k25 25 w' w.heap.size (fun k_ => some k_ ≠ (v273 : Value).ownBlock ∧ k_ ≠ gb248) (.slice Ao88 y262.length co88) y262) ∧ (Kd.R k25 25 w' w.heap.size (fun k_ => some k_ ≠ (.slice Ao88 y262.length co88 : Value).ownBlock ∧ k_ ≠ gb248) v273 y272) ∧ (Kd.R k28 28 w' w.heap.size (fun k_ => some k_ ≠ (s_.2.2 : Value).ownBlock ∧ k_ ≠ gb249) s_.2.1 y282) ∧ (Kd.R k28 28 w' w.heap.size (fun k_ => some k_ ≠ (s_.2.1 : Value).ownBlock ∧ k_ ≠ gb249) s_.2.2 y285) ∧ (w'.heap[gb248]? = some (.cells #[.int .i64 2, .int .i64 a4_1, .int .i64 a4_2, .int .i64 a4_3, .int .i64 a4_4] 25 (0, 0))) ∧ (w'.heap[gb249]? = some (.cells #[.int .i64 18, .int .i64 a5_1, .int .i64 a5_2, .int .i64 a5_3, .int .i64 a5_4, .int .i64 a5_5, .int .i64 a5_6] 28 (0, 0))) ∧ (Below w.heap.size w w')) ?_ ?_
                 rotate_left
                 ·intro hCont
                  refine two_ (i := 0) (j := 6) (Ni := some 62) (Nj := some 68) #[true, true, true, true, false, true, false, false, true, true, true, false, false] #[false, true, true, true, false, true, true, false, true, true, true, false, false] rfl rfl rfl rfl (two_of HT_.out (by kernel_rfl)) (by decide) (by decide) (fun K hK => ?_) (fun K hK => ?_)
                  ·skip
                   refine Kd.R_lit_step k28 _ 28 ?hg (N := 62) ?hd (xs := ([] : List (S28))) (inner := []) (ok := fun _ => True) (okp := fun _ => True) ?hr ?hp (fun _ hk => hk) trivial (Below.refl _ _) (Nat.le_refl _) (by simp) ?_; (case hd => rfl); (case hg => rfl); (case hr => first | (go_simp; done) | (go_simp; rfl)); (case hp => exact (Reps.none _ _))
                   intro v276 w93 ho94 hb hg_ hnew_
                   clear hg_ hnew_
                   (first | rw [← Ny275.out] at ho94 | (simp only [Int.reduceToNat] at ho94; rw [← Ny275.out] at ho94))
                   have n0_ := As0 (Kd.R_below (by (with_reducible repeat (first | apply Kd.R_alloc | apply Kd.R_drewN | apply Kd.R_drew)); exact HO264.out) hb)
                   have n1_ := As0 (Kd.R_below (by (with_reducible repeat (first | apply Kd.R_alloc | apply Kd.R_drewN | apply Kd.R_drew)); exact HO274.out) hb)
                   have n2_ := As0 (Kd.R_lower (Kd.R_newB ho94 (g := gb249) (o := .cells #[.int .i64 18, .int .i64 a5_1, .int .i64 a5_2, .int .i64 a5_3, .int .i64 a5_4, .int .i64 a5_5, .int .i64 a5_6] 28 (0, 0)) (by (with_reducible repeat (first | refine blk_drewN ?_ _ | refine blk_drew ?_ | refine blk_alloc ?_ _)); exact BK249.out)) (below_size (by repeat (first | (with_reducible first | exact HB.out | apply below_alloc | apply bdN | apply bd1 | refine below_set ?_ GE248.out | refine below_set ?_ GE249.out) | exact HB.out))))
                   have n3_ := As0 (blk_below (g := gb248) (o := .cells #[.int .i64 2, .int .i64 a4_1, .int .i64 a4_2, .int .i64 a4_3, .int .i64 a4_4] 25 (0, 0)) (by (with_reducible repeat (first | refine blk_drewN ?_ _ | refine blk_drew ?_ | refine blk_alloc ?_ _)); exact BK248.out) hb)
                   have n4_ := As0 (blk_below (g := gb249) (o := .cells #[.int .i64 18, .int .i64 a5_1, .int .i64 a5_2, .int .i64 a5_3, .int .i64 a5_4, .int .i64 a5_5, .int .i64 a5_6] 28 (0, 0)) (by (with_reducible repeat (first | refine blk_drewN ?_ _ | refine blk_drew ?_ | refine blk_alloc ?_ _)); exact BK249.out) hb)
                   have n5_ := As0 (below_step (by repeat (first | (with_reducible first | exact HB.out | apply below_alloc | apply bdN | apply bd1 | refine below_set ?_ GE248.out | refine below_set ?_ GE249.out) | exact HB.out)) hb)
                   clear HO264
                   clear HO274
                   clear BK248
                   clear BK249
                   clear HB
                   have HO264 := n0_
                   have HO274 := n1_
                   have HO277 := n2_
                   have BK248 := n3_
                   have BK249 := n4_
                   have HB := n5_
                   clear n0_ n1_ n2_ n3_ n4_ n5_
                   clear hb ho94
                   refine hK.out _ _ ⟨(blk_cell BK249.out 0).trans rfl, (blk_cell BK249.out 1).trans rfl, (blk_cell BK249.out 2).trans rfl, (blk_cell BK249.out 3).trans rfl, (blk_cell BK249.out 4).trans rfl, (blk_cell BK249.out 5).trans rfl, (blk_cell BK249.out 6).trans rfl⟩ (fun hHeld => ?_)
                   clear hK K
                   refine norm_ (a' := ?_) ?_ ?_
                   rotate_left
                   ·show Act.put _ (some 62) _ = _
                    simp only [Act.put, sL1, sL2, sL3, i64_w, i32_w]
                    rfl
                   refine two_ (i := 4) (j := 6) (Ni := some 66) (Nj := some 68) #[true, true, true, true, true, true, false, false, true, true, true, false, false] #[true, true, true, true, false, true, true, false, true, true, true, false, false] rfl rfl rfl rfl (two_of HT_.out (by kernel_rfl)) (by decide) (by decide) (fun K hK => ?_) (fun K hK => ?_)
                   ·skip
                    refine Kd.R_append_rows_step k28 (w0 := w) w.heap.size (by rfl) (.tmp 62) (.tmp 65) 23 28 (.agg #[(.int .i64 0), (.int .i64 0), (.int .i64 0), (.int .i64 0), (.int .i64 0), (.int .i64 0), (.int .i64 0)]) 56 rfl Try.underlying23 info28 rfl (by decide) (by omega) v276 y275 y278 _ _ _ (fun k_ => k_ ≠ gb249) (fun _ => False) rfl rfl ?aO ?aR (fun _ _ h => h) (fun _ h => h.elim) ?aF ?aB ?aS ?aL ?_
                    (case aR => repeat (first | exact (Kd.C_below HR281.out HB.out) | (with_reducible refine Kd.C_alloc ?_ _) | (with_reducible refine Kd.C_drewN ?_ _) | (with_reducible refine Kd.C_drew ?_)))
                    (case aB => exact (by repeat (first | (with_reducible first | exact HB.out | apply below_alloc | apply bdN | apply bd1 | refine below_set ?_ GE248.out | refine below_set ?_ GE249.out) | exact HB.out)))
                    (case aF => exact (fun k_ hk => Kd.freshB (g := gb249) (o := .cells #[.int .i64 18, .int .i64 a5_1, .int .i64 a5_2, .int .i64 a5_3, .int .i64 a5_4, .int .i64 a5_5, .int .i64 a5_6] 28 (0, 0)) (by (with_reducible repeat (first | refine blk_drewN ?_ _ | refine blk_drew ?_ | refine blk_alloc ?_ _)); exact BK249.out) k_ hk))
                    (case aO => exact (by (with_reducible repeat (first | apply Kd.R_alloc | apply Kd.R_drewN | apply Kd.R_drew)); exact Kd.R_mono HO277.out (fun _ hk => hk.2)))
                    (case aS => exact (below_size (by repeat (first | (with_reducible first | exact HB.out | apply below_alloc | apply bdN | apply bd1 | refine below_set ?_ GE248.out | refine below_set ?_ GE249.out) | exact HB.out))))
                    (case aL => have := LMc32.out; omega)
                    intro v283 w95 ho hb hg hat
                    rw [← Ny282.out] at ho
                    have n0_ := As0 (blk_grown (g := gb248) (o := .cells #[.int .i64 2, .int .i64 a4_1, .int .i64 a4_2, .int .i64 a4_3, .int .i64 a4_4] 25 (0, 0)) (by (with_reducible repeat (first | refine blk_drewN ?_ _ | refine blk_drew ?_ | refine blk_alloc ?_ _)); exact BK248.out) hg (Kd.R_ne HO277.out BK248.out (by decide)))
                    have n1_ := As0 (blk_grown (g := gb249) (o := .cells #[.int .i64 18, .int .i64 a5_1, .int .i64 a5_2, .int .i64 a5_3, .int .i64 a5_4, .int .i64 a5_5, .int .i64 a5_6] 28 (0, 0)) (by (with_reducible repeat (first | refine blk_drewN ?_ _ | refine blk_drew ?_ | refine blk_alloc ?_ _)); exact BK249.out) hg (Kd.R_away HO277.out (fun _ hk => hk.2)))
                    have n2_ := As0 (Kd.R_over' (by (with_reducible repeat (first | apply Kd.R_alloc | apply Kd.R_drewN | apply Kd.R_drew)); exact HO264.out) (Kd.R_typed (by (with_reducible repeat (first | apply Kd.R_alloc | apply Kd.R_drewN | apply Kd.R_drew)); exact HO277.out)) (by decide) hg)
                    have n3_ := As0 (Kd.R_over' (by (with_reducible repeat (first | apply Kd.R_alloc | apply Kd.R_drewN | apply Kd.R_drew)); exact HO274.out) (Kd.R_typed (by (with_reducible repeat (first | apply Kd.R_alloc | apply Kd.R_drewN | apply Kd.R_drew)); exact HO277.out)) (by decide) hg)
                    have n4_ := As0 (hb)
                    have n5_ := As0 (ho)
                    clear BK248
                    clear BK249
                    clear HO264
                    clear HO274
                    clear HB
                    clear HO277
                    have BK248 := n0_
                    have BK249 := n1_
                    have HO264 := n2_
                    have HO274 := n3_
                    have HB := n4_
                    have HO284 := n5_
                    clear n0_ n1_ n2_ n3_ n4_ n5_
                    clear ho hb hg hat
                    refine hK.out _ _ ⟨(blk_cell BK249.out 0).trans rfl, (blk_cell BK249.out 1).trans rfl, (blk_cell BK249.out 2).trans rfl, (blk_cell BK249.out 3).trans rfl, (blk_cell BK249.out 4).trans rfl, (blk_cell BK249.out 5).trans rfl, (blk_cell BK249.out 6).trans rfl⟩ (fun hHeld => ?_)
                    clear hK K
                    refine norm_ (a' := ?_) ?_ ?_
                    rotate_left
                    ·show Act.put _ (some 66) _ = _
                     simp only [Act.put, sL1, sL2, sL3, i64_w, i32_w]
                     rfl
                    refine one_ (i := 6) (N := some 68) #[true, true, true, true, true, true, true, false, true, true, true, false, false] rfl rfl (one_of HT_.out (by kernel_rfl)) (by decide) (fun K hK => ?_)
                    refine Kd.R_lit_step k28 _ 28 ?hg (N := 68) ?hd (xs := ([(⟨18, a5_1, a5_2, a5_3, a5_4, a5_5, a5_6⟩ : S28)] : List (S28))) (inner := [.int .i64 18, .int .i64 a5_1, .int .i64 a5_2, .int .i64 a5_3, .int .i64 a5_4, .int .i64 a5_5, .int .i64 a5_6]) (ok := fun _ => True) (okp := fun _ => True) ?hr ?hp (fun _ hk => hk) trivial (Below.refl _ _) (Nat.le_refl _) (by simp) ?_; (case hd => rfl); (case hg => rfl); (case hr => first | (go_simp; done) | (go_simp; rfl)); (case hp => exact (Reps.c7 (show Kd.M k28 _ _ _ (⟨18, a5_1, a5_2, a5_3, a5_4, a5_5, a5_6⟩ : S28) [.int .i64 18, .int .i64 a5_1, .int .i64 a5_2, .int .i64 a5_3, .int .i64 a5_4, .int .i64 a5_5, .int .i64 a5_6] from (k28_mkM _ _ _ (⟨18, a5_1, a5_2, a5_3, a5_4, a5_5, a5_6⟩ : S28) )) (Reps.none _ _)))
                    intro v286 w96 ho97 hb hg_ hnew_
                    clear hg_ hnew_
                    (first | rw [← Ny285.out] at ho97 | (simp only [Int.reduceToNat] at ho97; rw [← Ny285.out] at ho97))
                    have n0_ := As0 (Kd.R_below (by (with_reducible repeat (first | apply Kd.R_alloc | apply Kd.R_drewN | apply Kd.R_drew)); exact HO264.out) hb)
                    have n1_ := As0 (Kd.R_below (by (with_reducible repeat (first | apply Kd.R_alloc | apply Kd.R_drewN | apply Kd.R_drew)); exact HO274.out) hb)
                    have n2_ := As0 (Kd.R_elder' (by (with_reducible repeat (first | apply Kd.R_alloc | apply Kd.R_drewN | apply Kd.R_drew)); exact HO284.out) (Kd.R_base ho97) hb)
                    have n3_ := As0 (Kd.R_lower (Kd.R_newB (Kd.R_new' ho97 (Kd.R_lt (by (with_reducible repeat (first | apply Kd.R_alloc | apply Kd.R_drewN | apply Kd.R_drew)); exact HO284.out))) (g := gb249) (o := .cells #[.int .i64 18, .int .i64 a5_1, .int .i64 a5_2, .int .i64 a5_3, .int .i64 a5_4, .int .i64 a5_5, .int .i64 a5_6] 28 (0, 0)) (by (with_reducible repeat (first | refine blk_drewN ?_ _ | refine blk_drew ?_ | refine blk_alloc ?_ _)); exact BK249.out)) (below_size (by repeat (first | (with_reducible first | exact HB.out | apply below_alloc | apply bdN | apply bd1 | refine below_set ?_ GE248.out | refine below_set ?_ GE249.out) | exact HB.out))))
                    have n4_ := As0 (blk_below (g := gb248) (o := .cells #[.int .i64 2, .int .i64 a4_1, .int .i64 a4_2, .int .i64 a4_3, .int .i64 a4_4] 25 (0, 0)) (by (with_reducible repeat (first | refine blk_drewN ?_ _ | refine blk_drew ?_ | refine blk_alloc ?_ _)); exact BK248.out) hb)
                    have n5_ := As0 (blk_below (g := gb249) (o := .cells #[.int .i64 18, .int .i64 a5_1, .int .i64 a5_2, .int .i64 a5_3, .int .i64 a5_4, .int .i64 a5_5, .int .i64 a5_6] 28 (0, 0)) (by (with_reducible repeat (first | refine blk_drewN ?_ _ | refine blk_drew ?_ | refine blk_alloc ?_ _)); exact BK249.out) hb)
                    have n6_ := As0 (below_step (by repeat (first | (with_reducible first | exact HB.out | apply below_alloc | apply bdN | apply bd1 | refine below_set ?_ GE248.out | refine below_set ?_ GE249.out) | exact HB.out)) hb)
                    clear HO264
                    clear HO274
                    clear HO284
                    clear BK248
                    clear BK249
                    clear HB
                    have HO264 := n0_
                    have HO274 := n1_
                    have HO284 := n2_
                    have HO287 := n3_
                    have BK248 := n4_
                    have BK249 := n5_
                    have HB := n6_
                    clear n0_ n1_ n2_ n3_ n4_ n5_ n6_
                    clear hb ho97
                    refine hK.out _ _ ⟨(blk_cell BK249.out 0).trans rfl, (blk_cell BK249.out 1).trans rfl, (blk_cell BK249.out 2).trans rfl, (blk_cell BK249.out 3).trans rfl, (blk_cell BK249.out 4).trans rfl, (blk_cell BK249.out 5).trans rfl, (blk_cell BK249.out 6).trans rfl⟩ (fun hHeld => ?_)
                    clear hK K
                    refine norm_ (a' := ?_) ?_ ?_
                    rotate_left
                    ·show Act.put _ (some 68) _ = _
                     simp only [Act.put, sL1, sL2, sL3, i64_w, i32_w]
                     rfl
                    exact norm_ (by simp only [putAll, Act.put, sL1, sL2, sL3]) (hCont (v276, v283, v286) _ ⟨hHeld, (by (with_reducible repeat (first | apply Kd.R_alloc | apply Kd.R_drewN | apply Kd.R_drew)); exact Kd.R_mono HO264.out (fun _ hk => ⟨hk.2, hk.1⟩)), (by (with_reducible repeat (first | apply Kd.R_alloc | apply Kd.R_drewN | apply Kd.R_drew)); exact HO274.out), (by (with_reducible repeat (first | apply Kd.R_alloc | apply Kd.R_drewN | apply Kd.R_drew)); exact Kd.R_mono HO284.out (fun _ hk => ⟨hk.2, hk.1⟩)), (by (with_reducible repeat (first | apply Kd.R_alloc | apply Kd.R_drewN | apply Kd.R_drew)); exact Kd.R_mono HO287.out (fun _ hk => ⟨hk.1.2, hk.2⟩)), (by (with_reducible repeat (first | refine blk_drewN ?_ _ | refine blk_drew ?_ | refine blk_alloc ?_ _)); exact BK248.out), (by (with_reducible repeat (first | refine blk_drewN ?_ _ | refine blk_drew ?_ | refine blk_alloc ?_ _)); exact BK249.out), (by repeat (first | (with_reducible first | exact HB.out | apply below_alloc | apply bdN | apply bd1 | refine below_set ?_ GE248.out | refine below_set ?_ GE249.out) | exact HB.out))⟩)
                   ·skip
                    refine Kd.R_lit_step k28 _ 28 ?hg (N := 68) ?hd (xs := ([(⟨18, a5_1, a5_2, a5_3, a5_4, a5_5, a5_6⟩ : S28)] : List (S28))) (inner := [.int .i64 18, .int .i64 a5_1, .int .i64 a5_2, .int .i64 a5_3, .int .i64 a5_4, .int .i64 a5_5, .int .i64 a5_6]) (ok := fun _ => True) (okp := fun _ => True) ?hr ?hp (fun _ hk => hk) trivial (Below.refl _ _) (Nat.le_refl _) (by simp) ?_; (case hd => rfl); (case hg => rfl); (case hr => first | (go_simp; done) | (go_simp; rfl)); (case hp => exact (Reps.c7 (show Kd.M k28 _ _ _ (⟨18, a5_1, a5_2, a5_3, a5_4, a5_5, a5_6⟩ : S28) [.int .i64 18, .int .i64 a5_1, .int .i64 a5_2, .int .i64 a5_3, .int .i64 a5_4, .int .i64 a5_5, .int .i64 a5_6] from (k28_mkM _ _ _ (⟨18, a5_1, a5_2, a5_3, a5_4, a5_5, a5_6⟩ : S28) )) (Reps.none _ _)))
                    intro v286 w95 ho96 hb hg_ hnew_
                    clear hg_ hnew_
                    (first | rw [← Ny285.out] at ho96 | (simp only [Int.reduceToNat] at ho96; rw [← Ny285.out] at ho96))
                    have n0_ := As0 (Kd.R_below (by (with_reducible repeat (first | apply Kd.R_alloc | apply Kd.R_drewN | apply Kd.R_drew)); exact HO264.out) hb)
                    have n1_ := As0 (Kd.R_below (by (with_reducible repeat (first | apply Kd.R_alloc | apply Kd.R_drewN | apply Kd.R_drew)); exact HO274.out) hb)
                    have n2_ := As0 (Kd.R_elder' (by (with_reducible repeat (first | apply Kd.R_alloc | apply Kd.R_drewN | apply Kd.R_drew)); exact HO277.out) (Kd.R_base ho96) hb)
                    have n3_ := As0 (Kd.R_lower (Kd.R_newB (Kd.R_new' ho96 (Kd.R_lt (by (with_reducible repeat (first | apply Kd.R_alloc | apply Kd.R_drewN | apply Kd.R_drew)); exact HO277.out))) (g := gb249) (o := .cells #[.int .i64 18, .int .i64 a5_1, .int .i64 a5_2, .int .i64 a5_3, .int .i64 a5_4, .int .i64 a5_5, .int .i64 a5_6] 28 (0, 0)) (by (with_reducible repeat (first | refine blk_drewN ?_ _ | refine blk_drew ?_ | refine blk_alloc ?_ _)); exact BK249.out)) (below_size (by repeat (first | (with_reducible first | exact HB.out | apply below_alloc | apply bdN | apply bd1 | refine below_set ?_ GE248.out | refine below_set ?_ GE249.out) | exact HB.out))))
                    have n4_ := As0 (blk_below (g := gb248) (o := .cells #[.int .i64 2, .int .i64 a4_1, .int .i64 a4_2, .int .i64 a4_3, .int .i64 a4_4] 25 (0, 0)) (by (with_reducible repeat (first | refine blk_drewN ?_ _ | refine blk_drew ?_ | refine blk_alloc ?_ _)); exact BK248.out) hb)
                    have n5_ := As0 (blk_below (g := gb249) (o := .cells #[.int .i64 18, .int .i64 a5_1, .int .i64 a5_2, .int .i64 a5_3, .int .i64 a5_4, .int .i64 a5_5, .int .i64 a5_6] 28 (0, 0)) (by (with_reducible repeat (first | refine blk_drewN ?_ _ | refine blk_drew ?_ | refine blk_alloc ?_ _)); exact BK249.out) hb)
                    have n6_ := As0 (below_step (by repeat (first | (with_reducible first | exact HB.out | apply below_alloc | apply bdN | apply bd1 | refine below_set ?_ GE248.out | refine below_set ?_ GE249.out) | exact HB.out)) hb)
                    clear HO264
                    clear HO274
                    clear HO277
                    clear BK248
                    clear BK249
                    clear HB
                    have HO264 := n0_
                    have HO274 := n1_
                    have HO277 := n2_
                    have HO287 := n3_
                    have BK248 := n4_
                    have BK249 := n5_
                    have HB := n6_
                    clear n0_ n1_ n2_ n3_ n4_ n5_ n6_
                    clear hb ho96
                    refine hK.out _ _ ⟨(blk_cell BK249.out 0).trans rfl, (blk_cell BK249.out 1).trans rfl, (blk_cell BK249.out 2).trans rfl, (blk_cell BK249.out 3).trans rfl, (blk_cell BK249.out 4).trans rfl, (blk_cell BK249.out 5).trans rfl, (blk_cell BK249.out 6).trans rfl⟩ (fun hHeld => ?_)
                    clear hK K
                    refine norm_ (a' := ?_) ?_ ?_
                    rotate_left
                    ·show Act.put _ (some 68) _ = _
                     simp only [Act.put, sL1, sL2, sL3, i64_w, i32_w]
                     rfl
                    refine one_ (i := 4) (N := some 66) #[true, true, true, true, true, true, true, false, true, true, true, false, false] rfl rfl (one_of HT_.out (by kernel_rfl)) (by decide) (fun K hK => ?_)
                    refine Kd.R_append_rows_step k28 (w0 := w) w.heap.size (by rfl) (.tmp 62) (.tmp 65) 23 28 (.agg #[(.int .i64 0), (.int .i64 0), (.int .i64 0), (.int .i64 0), (.int .i64 0), (.int .i64 0), (.int .i64 0)]) 56 rfl Try.underlying23 info28 rfl (by decide) (by omega) v276 y275 y278 _ _ _ (fun k_ => some k_ ≠ (v286 : Value).ownBlock ∧ k_ ≠ gb249) (fun _ => False) rfl rfl ?aO ?aR (fun _ _ h => h) (fun _ h => h.elim) ?aF ?aB ?aS ?aL ?_
                    (case aR => repeat (first | exact (Kd.C_below HR281.out HB.out) | (with_reducible refine Kd.C_alloc ?_ _) | (with_reducible refine Kd.C_drewN ?_ _) | (with_reducible refine Kd.C_drew ?_)))
                    (case aB => exact (by repeat (first | (with_reducible first | exact HB.out | apply below_alloc | apply bdN | apply bd1 | refine below_set ?_ GE248.out | refine below_set ?_ GE249.out) | exact HB.out)))
                    (case aF => exact (fun k_ hk => ⟨Kd.fresh' (Kd.R_lt (by (with_reducible repeat (first | apply Kd.R_alloc | apply Kd.R_drewN | apply Kd.R_drew)); exact HO287.out)) k_ hk, Kd.freshB (g := gb249) (o := .cells #[.int .i64 18, .int .i64 a5_1, .int .i64 a5_2, .int .i64 a5_3, .int .i64 a5_4, .int .i64 a5_5, .int .i64 a5_6] 28 (0, 0)) (by (with_reducible repeat (first | refine blk_drewN ?_ _ | refine blk_drew ?_ | refine blk_alloc ?_ _)); exact BK249.out) k_ hk⟩))
                    (case aO => exact (by (with_reducible repeat (first | apply Kd.R_alloc | apply Kd.R_drewN | apply Kd.R_drew)); exact Kd.R_mono HO277.out (fun _ hk => ⟨hk.2, hk.1.2⟩)))
                    (case aS => exact (below_size (by repeat (first | (with_reducible first | exact HB.out | apply below_alloc | apply bdN | apply bd1 | refine below_set ?_ GE248.out | refine below_set ?_ GE249.out) | exact HB.out))))
                    (case aL => have := LMc32.out; omega)
                    intro v283 w97 ho hb hg hat
                    rw [← Ny282.out] at ho
                    have n0_ := As0 (blk_grown (g := gb248) (o := .cells #[.int .i64 2, .int .i64 a4_1, .int .i64 a4_2, .int .i64 a4_3, .int .i64 a4_4] 25 (0, 0)) (by (with_reducible repeat (first | refine blk_drewN ?_ _ | refine blk_drew ?_ | refine blk_alloc ?_ _)); exact BK248.out) hg (Kd.R_ne HO277.out BK248.out (by decide)))
                    have n1_ := As0 (blk_grown (g := gb249) (o := .cells #[.int .i64 18, .int .i64 a5_1, .int .i64 a5_2, .int .i64 a5_3, .int .i64 a5_4, .int .i64 a5_5, .int .i64 a5_6] 28 (0, 0)) (by (with_reducible repeat (first | refine blk_drewN ?_ _ | refine blk_drew ?_ | refine blk_alloc ?_ _)); exact BK249.out) hg (Kd.R_away HO277.out (fun _ hk => hk.1.2)))
                    have n2_ := As0 (Kd.R_over' (by (with_reducible repeat (first | apply Kd.R_alloc | apply Kd.R_drewN | apply Kd.R_drew)); exact HO264.out) (Kd.R_typed (by (with_reducible repeat (first | apply Kd.R_alloc | apply Kd.R_drewN | apply Kd.R_drew)); exact HO277.out)) (by decide) hg)
                    have n3_ := As0 (Kd.R_over' (by (with_reducible repeat (first | apply Kd.R_alloc | apply Kd.R_drewN | apply Kd.R_drew)); exact HO274.out) (Kd.R_typed (by (with_reducible repeat (first | apply Kd.R_alloc | apply Kd.R_drewN | apply Kd.R_drew)); exact HO277.out)) (by decide) hg)
                    have n4_ := As0 (Kd.R_after (ok := (fun k_ => k_ ≠ gb249)) (by (with_reducible repeat (first | apply Kd.R_alloc | apply Kd.R_drewN | apply Kd.R_drew)); exact Kd.R_mono HO287.out (fun _ hk => ⟨hk.2, hk.1.2⟩)) hg hat)
                    have n5_ := As0 (hb)
                    have n6_ := As0 (ho)
                    clear BK248
                    clear BK249
                    clear HO264
                    clear HO274
                    clear HO287
                    clear HB
                    clear HO277
                    have BK248 := n0_
                    have BK249 := n1_
                    have HO264 := n2_
                    have HO274 := n3_
                    have HO287 := n4_
                    have HB := n5_
                    have HO284 := n6_
                    clear n0_ n1_ n2_ n3_ n4_ n5_ n6_
                    clear ho hb hg hat
                    refine hK.out _ _ ⟨(blk_cell BK249.out 0).trans rfl, (blk_cell BK249.out 1).trans rfl, (blk_cell BK249.out 2).trans rfl, (blk_cell BK249.out 3).trans rfl, (blk_cell BK249.out 4).trans rfl, (blk_cell BK249.out 5).trans rfl, (blk_cell BK249.out 6).trans rfl⟩ (fun hHeld => ?_)
                    clear hK K
                    refine norm_ (a' := ?_) ?_ ?_
                    rotate_left
                    ·show Act.put _ (some 66) _ = _
                     simp only [Act.put, sL1, sL2, sL3, i64_w, i32_w]
                     rfl
                    exact norm_ (by simp only [putAll, Act.put, sL1, sL2, sL3]) (hCont (v276, v283, v286) _ ⟨hHeld, (by (with_reducible repeat (first | apply Kd.R_alloc | apply Kd.R_drewN | apply Kd.R_drew)); exact Kd.R_mono HO264.out (fun _ hk => ⟨hk.2, hk.1⟩)), (by (with_reducible repeat (first | apply Kd.R_alloc | apply Kd.R_drewN | apply Kd.R_drew)); exact HO274.out), (by (with_reducible repeat (first | apply Kd.R_alloc | apply Kd.R_drewN | apply Kd.R_drew)); exact HO284.out), (by (with_reducible repeat (first | apply Kd.R_alloc | apply Kd.R_drewN | apply Kd.R_drew)); exact Kd.R_mono HO287.out (fun _ hk => ⟨hk.2, hk.1⟩)), (by (with_reducible repeat (first | refine blk_drewN ?_ _ | refine blk_drew ?_ | refine blk_alloc ?_ _)); exact BK248.out), (by (with_reducible repeat (first | refine blk_drewN ?_ _ | refine blk_drew ?_ | refine blk_alloc ?_ _)); exact BK249.out), (by repeat (first | (with_reducible first | exact HB.out | apply below_alloc | apply bdN | apply bd1 | refine below_set ?_ GE248.out | refine below_set ?_ GE249.out) | exact HB.out))⟩)
                  ·skip
                   refine Kd.R_lit_step k28 _ 28 ?hg (N := 68) ?hd (xs := ([(⟨18, a5_1, a5_2, a5_3, a5_4, a5_5, a5_6⟩ : S28)] : List (S28))) (inner := [.int .i64 18, .int .i64 a5_1, .int .i64 a5_2, .int .i64 a5_3, .int .i64 a5_4, .int .i64 a5_5, .int .i64 a5_6]) (ok := fun _ => True) (okp := fun _ => True) ?hr ?hp (fun _ hk => hk) trivial (Below.refl _ _) (Nat.le_refl _) (by simp) ?_; (case hd => rfl); (case hg => rfl); (case hr => first | (go_simp; done) | (go_simp; rfl)); (case hp => exact (Reps.c7 (show Kd.M k28 _ _ _ (⟨18, a5_1, a5_2, a5_3, a5_4, a5_5, a5_6⟩ : S28) [.int .i64 18, .int .i64 a5_1, .int .i64 a5_2, .int .i64 a5_3, .int .i64 a5_4, .int .i64 a5_5, .int .i64 a5_6] from (k28_mkM _ _ _ (⟨18, a5_1, a5_2, a5_3, a5_4, a5_5, a5_6⟩ : S28) )) (Reps.none _ _)))
                   intro v286 w93 ho94 hb hg_ hnew_
                   clear hg_ hnew_
                   (first | rw [← Ny285.out] at ho94 | (simp only [Int.reduceToNat] at ho94; rw [← Ny285.out] at ho94))
                   have n0_ := As0 (Kd.R_below (by (with_reducible repeat (first | apply Kd.R_alloc | apply Kd.R_drewN | apply Kd.R_drew)); exact HO264.out) hb)
                   have n1_ := As0 (Kd.R_below (by (with_reducible repeat (first | apply Kd.R_alloc | apply Kd.R_drewN | apply Kd.R_drew)); exact HO274.out) hb)
                   have n2_ := As0 (Kd.R_lower (Kd.R_newB ho94 (g := gb249) (o := .cells #[.int .i64 18, .int .i64 a5_1, .int .i64 a5_2, .int .i64 a5_3, .int .i64 a5_4, .int .i64 a5_5, .int .i64 a5_6] 28 (0, 0)) (by (with_reducible repeat (first | refine blk_drewN ?_ _ | refine blk_drew ?_ | refine blk_alloc ?_ _)); exact BK249.out)) (below_size (by repeat (first | (with_reducible first | exact HB.out | apply below_alloc | apply bdN | apply bd1 | refine below_set ?_ GE248.out | refine below_set ?_ GE249.out) | exact HB.out))))
                   have n3_ := As0 (blk_below (g := gb248) (o := .cells #[.int .i64 2, .int .i64 a4_1, .int .i64 a4_2, .int .i64 a4_3, .int .i64 a4_4] 25 (0, 0)) (by (with_reducible repeat (first | refine blk_drewN ?_ _ | refine blk_drew ?_ | refine blk_alloc ?_ _)); exact BK248.out) hb)
                   have n4_ := As0 (blk_below (g := gb249) (o := .cells #[.int .i64 18, .int .i64 a5_1, .int .i64 a5_2, .int .i64 a5_3, .int .i64 a5_4, .int .i64 a5_5, .int .i64 a5_6] 28 (0, 0)) (by (with_reducible repeat (first | refine blk_drewN ?_ _ | refine blk_drew ?_ | refine blk_alloc ?_ _)); exact BK249.out) hb)
                   have n5_ := As0 (below_step (by repeat (first | (with_reducible first | exact HB.out | apply below_alloc | apply bdN | apply bd1 | refine below_set ?_ GE248.out | refine below_set ?_ GE249.out) | exact HB.out)) hb)
                   clear HO264
                   clear HO274
                   clear BK248
                   clear BK249
                   clear HB
                   have HO264 := n0_
                   have HO274 := n1_
                   have HO287 := n2_
                   have BK248 := n3_
                   have BK249 := n4_
                   have HB := n5_
                   clear n0_ n1_ n2_ n3_ n4_ n5_
                   clear hb ho94
                   refine hK.out _ _ ⟨(blk_cell BK249.out 0).trans rfl, (blk_cell BK249.out 1).trans rfl, (blk_cell BK249.out 2).trans rfl, (blk_cell BK249.out 3).trans rfl, (blk_cell BK249.out 4).trans rfl, (blk_cell BK249.out 5).trans rfl, (blk_cell BK249.out 6).trans rfl⟩ (fun hHeld => ?_)
                   clear hK K
                   refine norm_ (a' := ?_) ?_ ?_
                   rotate_left
                   ·show Act.put _ (some 68) _ = _
                    simp only [Act.put, sL1, sL2, sL3, i64_w, i32_w]
                    rfl
                   refine one_ (i := 0) (N := some 62) #[true, true, true, true, false, true, true, false, true, true, true, false, false] rfl rfl (one_of HT_.out (by kernel_rfl)) (by decide) (fun K hK => ?_)
                   refine Kd.R_lit_step k28 _ 28 ?hg (N := 62) ?hd (xs := ([] : List (S28))) (inner := []) (ok := fun _ => True) (okp := fun _ => True) ?hr ?hp (fun _ hk => hk) trivial (Below.refl _ _) (Nat.le_refl _) (by simp) ?_; (case hd => rfl); (case hg => rfl); (case hr => first | (go_simp; done) | (go_simp; rfl)); (case hp => exact (Reps.none _ _))
                   intro v276 w95 ho96 hb hg_ hnew_
                   clear hg_ hnew_
                   (first | rw [← Ny275.out] at ho96 | (simp only [Int.reduceToNat] at ho96; rw [← Ny275.out] at ho96))
                   have n0_ := As0 (Kd.R_below (by (with_reducible repeat (first | apply Kd.R_alloc | apply Kd.R_drewN | apply Kd.R_drew)); exact HO264.out) hb)
                   have n1_ := As0 (Kd.R_below (by (with_reducible repeat (first | apply Kd.R_alloc | apply Kd.R_drewN | apply Kd.R_drew)); exact HO274.out) hb)
                   have n2_ := As0 (Kd.R_elder' (by (with_reducible repeat (first | apply Kd.R_alloc | apply Kd.R_drewN | apply Kd.R_drew)); exact HO287.out) (Kd.R_base ho96) hb)
                   have n3_ := As0 (Kd.R_lower (Kd.R_newB (Kd.R_new' ho96 (Kd.R_lt (by (with_reducible repeat (first | apply Kd.R_alloc | apply Kd.R_drewN | apply Kd.R_drew)); exact HO287.out))) (g := gb249) (o := .cells #[.int .i64 18, .int .i64 a5_1, .int .i64 a5_2, .int .i64 a5_3, .int .i64 a5_4, .int .i64 a5_5, .int .i64 a5_6] 28 (0, 0)) (by (with_reducible repeat (first | refine blk_drewN ?_ _ | refine blk_drew ?_ | refine blk_alloc ?_ _)); exact BK249.out)) (below_size (by repeat (first | (with_reducible first | exact HB.out | apply below_alloc | apply bdN | apply bd1 | refine below_set ?_ GE248.out | refine below_set ?_ GE249.out) | exact HB.out))))
                   have n4_ := As0 (blk_below (g := gb248) (o := .cells #[.int .i64 2, .int .i64 a4_1, .int .i64 a4_2, .int .i64 a4_3, .int .i64 a4_4] 25 (0, 0)) (by (with_reducible repeat (first | refine blk_drewN ?_ _ | refine blk_drew ?_ | refine blk_alloc ?_ _)); exact BK248.out) hb)
                   have n5_ := As0 (blk_below (g := gb249) (o := .cells #[.int .i64 18, .int .i64 a5_1, .int .i64 a5_2, .int .i64 a5_3, .int .i64 a5_4, .int .i64 a5_5, .int .i64 a5_6] 28 (0, 0)) (by (with_reducible repeat (first | refine blk_drewN ?_ _ | refine blk_drew ?_ | refine blk_alloc ?_ _)); exact BK249.out) hb)
                   have n6_ := As0 (below_step (by repeat (first | (with_reducible first | exact HB.out | apply below_alloc | apply bdN | apply bd1 | refine below_set ?_ GE248.out | refine below_set ?_ GE249.out) | exact HB.out)) hb)
                   clear HO264
                   clear HO274
                   clear HO287
                   clear BK248
                   clear BK249
                   clear HB
                   have HO264 := n0_
                   have HO274 := n1_
                   have HO287 := n2_
                   have HO277 := n3_
                   have BK248 := n4_
                   have BK249 := n5_
                   have HB := n6_
                   clear n0_ n1_ n2_ n3_ n4_ n5_ n6_
                   clear hb ho96
                   refine hK.out _ _ ⟨(blk_cell BK249.out 0).trans rfl, (blk_cell BK249.out 1).trans rfl, (blk_cell BK249.out 2).trans rfl, (blk_cell BK249.out 3).trans rfl, (blk_cell BK249.out 4).trans rfl, (blk_cell BK249.out 5).trans rfl, (blk_cell BK249.out 6).trans rfl⟩ (fun hHeld => ?_)
                   clear hK K
                   refine norm_ (a' := ?_) ?_ ?_
                   rotate_left
                   ·show Act.put _ (some 62) _ = _
                    simp only [Act.put, sL1, sL2, sL3, i64_w, i32_w]
                    rfl
                   refine one_ (i := 4) (N := some 66) #[true, true, true, true, true, true, true, false, true, true, true, false, false] rfl rfl (one_of HT_.out (by kernel_rfl)) (by decide) (fun K hK => ?_)
                   refine Kd.R_append_rows_step k28 (w0 := w) w.heap.size (by rfl) (.tmp 62) (.tmp 65) 23 28 (.agg #[(.int .i64 0), (.int .i64 0), (.int .i64 0), (.int .i64 0), (.int .i64 0), (.int .i64 0), (.int .i64 0)]) 56 rfl Try.underlying23 info28 rfl (by decide) (by omega) v276 y275 y278 _ _ _ (fun k_ => some k_ ≠ (v286 : Value).ownBlock ∧ k_ ≠ gb249) (fun _ => False) rfl rfl ?aO ?aR (fun _ _ h => h) (fun _ h => h.elim) ?aF ?aB ?aS ?aL ?_
                   (case aR => repeat (first | exact (Kd.C_below HR281.out HB.out) | (with_reducible refine Kd.C_alloc ?_ _) | (with_reducible refine Kd.C_drewN ?_ _) | (with_reducible refine Kd.C_drew ?_)))
                   (case aB => exact (by repeat (first | (with_reducible first | exact HB.out | apply below_alloc | apply bdN | apply bd1 | refine below_set ?_ GE248.out | refine below_set ?_ GE249.out) | exact HB.out)))
                   (case aF => exact (fun k_ hk => ⟨Kd.fresh' (Kd.R_lt (by (with_reducible repeat (first | apply Kd.R_alloc | apply Kd.R_drewN | apply Kd.R_drew)); exact HO287.out)) k_ hk, Kd.freshB (g := gb249) (o := .cells #[.int .i64 18, .int .i64 a5_1, .int .i64 a5_2, .int .i64 a5_3, .int .i64 a5_4, .int .i64 a5_5, .int .i64 a5_6] 28 (0, 0)) (by (with_reducible repeat (first | refine blk_drewN ?_ _ | refine blk_drew ?_ | refine blk_alloc ?_ _)); exact BK249.out) k_ hk⟩))
                   (case aO => exact (by (with_reducible repeat (first | apply Kd.R_alloc | apply Kd.R_drewN | apply Kd.R_drew)); exact Kd.R_mono HO277.out (fun _ hk => ⟨hk.1.2, hk.2⟩)))
                   (case aS => exact (below_size (by repeat (first | (with_reducible first | exact HB.out | apply below_alloc | apply bdN | apply bd1 | refine below_set ?_ GE248.out | refine below_set ?_ GE249.out) | exact HB.out))))
                   (case aL => have := LMc32.out; omega)
                   intro v283 w97 ho hb hg hat
                   rw [← Ny282.out] at ho
                   have n0_ := As0 (blk_grown (g := gb248) (o := .cells #[.int .i64 2, .int .i64 a4_1, .int .i64 a4_2, .int .i64 a4_3, .int .i64 a4_4] 25 (0, 0)) (by (with_reducible repeat (first | refine blk_drewN ?_ _ | refine blk_drew ?_ | refine blk_alloc ?_ _)); exact BK248.out) hg (Kd.R_ne HO277.out BK248.out (by decide)))
                   have n1_ := As0 (blk_grown (g := gb249) (o := .cells #[.int .i64 18, .int .i64 a5_1, .int .i64 a5_2, .int .i64 a5_3, .int .i64 a5_4, .int .i64 a5_5, .int .i64 a5_6] 28 (0, 0)) (by (with_reducible repeat (first | refine blk_drewN ?_ _ | refine blk_drew ?_ | refine blk_alloc ?_ _)); exact BK249.out) hg (Kd.R_away HO277.out (fun _ hk => hk.2)))
                   have n2_ := As0 (Kd.R_over' (by (with_reducible repeat (first | apply Kd.R_alloc | apply Kd.R_drewN | apply Kd.R_drew)); exact HO264.out) (Kd.R_typed (by (with_reducible repeat (first | apply Kd.R_alloc | apply Kd.R_drewN | apply Kd.R_drew)); exact HO277.out)) (by decide) hg)
                   have n3_ := As0 (Kd.R_over' (by (with_reducible repeat (first | apply Kd.R_alloc | apply Kd.R_drewN | apply Kd.R_drew)); exact HO274.out) (Kd.R_typed (by (with_reducible repeat (first | apply Kd.R_alloc | apply Kd.R_drewN | apply Kd.R_drew)); exact HO277.out)) (by decide) hg)
                   have n4_ := As0 (Kd.R_after (ok := (fun k_ => k_ ≠ gb249)) (by (with_reducible repeat (first | apply Kd.R_alloc | apply Kd.R_drewN | apply Kd.R_drew)); exact Kd.R_mono HO287.out (fun _ hk => ⟨hk.1.2, hk.2⟩)) hg hat)
                   have n5_ := As0 (hb)
                   have n6_ := As0 (ho)
                   clear BK248
                   clear BK249
                   clear HO264
                   clear HO274
                   clear HO287
                   clear HB
                   clear HO277
                   have BK248 := n0_
                   have BK249 := n1_
                   have HO264 := n2_
                   have HO274 := n3_
                   have HO287 := n4_
                   have HB := n5_
                   have HO284 := n6_
                   clear n0_ n1_ n2_ n3_ n4_ n5_ n6_
                   clear ho hb hg hat
                   refine hK.out _ _ ⟨(blk_cell BK249.out 0).trans rfl, (blk_cell BK249.out 1).trans rfl, (blk_cell BK249.out 2).trans rfl, (blk_cell BK249.out 3).trans rfl, (blk_cell BK249.out 4).trans rfl, (blk_cell BK249.out 5).trans rfl, (blk_cell BK249.out 6).trans rfl⟩ (fun hHeld => ?_)
                   clear hK K
                   refine norm_ (a' := ?_) ?_ ?_
                   rotate_left
                   ·show Act.put _ (some 66) _ = _
                    simp only [Act.put, sL1, sL2, sL3, i64_w, i32_w]
                    rfl
                   exact norm_ (by simp only [putAll, Act.put, sL1, sL2, sL3]) (hCont (v276, v283, v286) _ ⟨hHeld, (by (with_reducible repeat (first | apply Kd.R_alloc | apply Kd.R_drewN | apply Kd.R_drew)); exact Kd.R_mono HO264.out (fun _ hk => ⟨hk.2, hk.1⟩)), (by (with_reducible repeat (first | apply Kd.R_alloc | apply Kd.R_drewN | apply Kd.R_drew)); exact HO274.out), (by (with_reducible repeat (first | apply Kd.R_alloc | apply Kd.R_drewN | apply Kd.R_drew)); exact HO284.out), (by (with_reducible repeat (first | apply Kd.R_alloc | apply Kd.R_drewN | apply Kd.R_drew)); exact Kd.R_mono HO287.out (fun _ hk => ⟨hk.2, hk.1⟩)), (by (with_reducible repeat (first | refine blk_drewN ?_ _ | refine blk_drew ?_ | refine blk_alloc ?_ _)); exact BK248.out), (by (with_reducible repeat (first | refine blk_drewN ?_ _ | refine blk_drew ?_ | refine blk_alloc ?_ _)); exact BK249.out), (by repeat (first | (with_reducible first | exact HB.out | apply below_alloc | apply bdN | apply bd1 | refine below_set ?_ GE248.out | refine below_set ?_ GE249.out) | exact HB.out))⟩)
                 rintro ⟨v276, v283, v286⟩ w98 ⟨hS_, h0_, h1_, h2_, h3_, h4_, h5_, h6_⟩
                 have n0_ : Aside0 (Kd.R k25 25 w98 w.heap.size (fun k_ => some k_ ≠ (v273 : Value).ownBlock ∧ k_ ≠ gb248) (.slice Ao88 y262.length co88) y262) := ⟨h0_⟩
                 have n1_ : Aside0 (Kd.R k25 25 w98 w.heap.size (fun k_ => some k_ ≠ (.slice Ao88 y262.length co88 : Value).ownBlock ∧ k_ ≠ gb248) v273 y272) := ⟨h1_⟩
                 have n2_ : Aside0 (Kd.R k28 28 w98 w.heap.size (fun k_ => some k_ ≠ (v286 : Value).ownBlock ∧ k_ ≠ gb249) v283 y282) := ⟨h2_⟩
                 have n3_ : Aside0 (Kd.R k28 28 w98 w.heap.size (fun k_ => some k_ ≠ (v283 : Value).ownBlock ∧ k_ ≠ gb249) v286 y285) := ⟨h3_⟩
                 have n4_ : Aside0 (w98.heap[gb248]? = some (.cells #[.int .i64 2, .int .i64 a4_1, .int .i64 a4_2, .int .i64 a4_3, .int .i64 a4_4] 25 (0, 0))) := ⟨h4_⟩
                 have n5_ : Aside0 (w98.heap[gb249]? = some (.cells #[.int .i64 18, .int .i64 a5_1, .int .i64 a5_2, .int .i64 a5_3, .int .i64 a5_4, .int .i64 a5_5, .int .i64 a5_6] 28 (0, 0))) := ⟨h5_⟩
                 have n6_ : Aside0 (Below w.heap.size w w98) := ⟨h6_⟩
                 clear HO264
                 clear HO274
                 clear BK248
                 clear BK249
                 clear HB
                 clear h0_ h1_ h2_ h3_ h4_ h5_ h6_
                 have HO264 := n0_
                 have HO274 := n1_
                 have HO284 := n2_
                 have HO287 := n3_
                 have BK248 := n4_
                 have BK249 := n5_
                 have HB := n6_
                 clear n0_ n1_ n2_ n3_ n4_ n5_ n6_
                 have hHeld : w98.cell? ⟨gb249, 0, none⟩ = some (.int .i64 18) ∧ w98.cell? ⟨gb249, 1, none⟩ = some (.int .i64 a5_1) ∧ w98.cell? ⟨gb249, 2, none⟩ = some (.int .i64 a5_2) ∧ w98.cell? ⟨gb249, 3, none⟩ = some (.int .i64 a5_3) ∧ w98.cell? ⟨gb249, 4, none⟩ = some (.int .i64 a5_4) ∧ w98.cell? ⟨gb249, 5, none⟩ = some (.int .i64 a5_5) ∧ w98.cell? ⟨gb249, 6, none⟩ = some (.int .i64 a5_6) := hS_
                 obtain ⟨Ao100, co100, eo100⟩ := Kd.R_slice HO287.out
                 (first | subst eo100 | (injection eo100 with f1_ f2_ f3_; have f4_ := f1_.symm; have f5_ := f3_.symm; clear f1_ f2_ f3_; subst f4_; subst f5_))
                 refine norm_ (a' := ?_) ?_ ?_
                 rotate_left
                 ·simp only [putAll, Act.put, sL1, sL2, sL3]
                  rfl
                 refine one_ (i := 7) (N := some 69) #[true, true, true, true, true, true, true, true, true, true, true, false, false] rfl rfl (one_of HT_.out (by kernel_rfl)) (by decide) (fun K hK => ?_)
                 refine Kd.R_append_rows_step k28 (w0 := w) w.heap.size (by rfl) (.tmp 66) (.tmp 68) 23 28 (.agg #[(.int .i64 0), (.int .i64 0), (.int .i64 0), (.int .i64 0), (.int .i64 0), (.int .i64 0), (.int .i64 0)]) 56 rfl Try.underlying23 info28 rfl (by decide) (by omega) v283 y282 y285 _ _ _ (fun k_ => some k_ ≠ (.slice Ao100 y285.length co100 : Value).ownBlock ∧ k_ ≠ gb249) (fun _ => False) rfl rfl ?aO ?aR (fun _ _ h => h) (fun _ h => h.elim) ?aF ?aB ?aS ?aL ?_
                 (case aR => repeat (first | exact (Kd.R_reads' HO287.out).2.2 | (with_reducible refine Kd.C_alloc ?_ _) | (with_reducible refine Kd.C_drewN ?_ _) | (with_reducible refine Kd.C_drew ?_)))
                 (case aB => exact (by repeat (first | (with_reducible first | exact HB.out | apply below_alloc | apply bdN | apply bd1 | refine below_set ?_ GE248.out | refine below_set ?_ GE249.out) | exact HB.out)))
                 (case aF => exact (fun k_ hk => ⟨Kd.fresh' (Kd.R_lt (by (with_reducible repeat (first | apply Kd.R_alloc | apply Kd.R_drewN | apply Kd.R_drew)); exact HO287.out)) k_ hk, Kd.freshB (g := gb249) (o := .cells #[.int .i64 18, .int .i64 a5_1, .int .i64 a5_2, .int .i64 a5_3, .int .i64 a5_4, .int .i64 a5_5, .int .i64 a5_6] 28 (0, 0)) (by (with_reducible repeat (first | refine blk_drewN ?_ _ | refine blk_drew ?_ | refine blk_alloc ?_ _)); exact BK249.out) k_ hk⟩))
                 (case aO => exact (by (with_reducible repeat (first | apply Kd.R_alloc | apply Kd.R_drewN | apply Kd.R_drew)); exact HO284.out))
                 (case aS => exact (below_size (by repeat (first | (with_reducible first | exact HB.out | apply below_alloc | apply bdN | apply bd1 | refine below_set ?_ GE248.out | refine below_set ?_ GE249.out) | exact HB.out))))
                 (case aL => have := LMc33.out; omega)
                 intro v289 w99 ho hb hg hat
                 rw [← Ny288.out] at ho
                 have n0_ := As0 (blk_grown (g := gb248) (o := .cells #[.int .i64 2, .int .i64 a4_1, .int .i64 a4_2, .int .i64 a4_3, .int .i64 a4_4] 25 (0, 0)) (by (with_reducible repeat (first | refine blk_drewN ?_ _ | refine blk_drew ?_ | refine blk_alloc ?_ _)); exact BK248.out) hg (Kd.R_ne HO284.out BK248.out (by decide)))
                 have n1_ := As0 (blk_grown (g := gb249) (o := .cells #[.int .i64 18, .int .i64 a5_1, .int .i64 a5_2, .int .i64 a5_3, .int .i64 a5_4, .int .i64 a5_5, .int .i64 a5_6] 28 (0, 0)) (by (with_reducible repeat (first | refine blk_drewN ?_ _ | refine blk_drew ?_ | refine blk_alloc ?_ _)); exact BK249.out) hg (Kd.R_away HO284.out (fun _ hk => hk.2)))
                 have n2_ := As0 (Kd.R_over' (by (with_reducible repeat (first | apply Kd.R_alloc | apply Kd.R_drewN | apply Kd.R_drew)); exact HO264.out) (Kd.R_typed (by (with_reducible repeat (first | apply Kd.R_alloc | apply Kd.R_drewN | apply Kd.R_drew)); exact HO284.out)) (by decide) hg)
                 have n3_ := As0 (Kd.R_over' (by (with_reducible repeat (first | apply Kd.R_alloc | apply Kd.R_drewN | apply Kd.R_drew)); exact HO274.out) (Kd.R_typed (by (with_reducible repeat (first | apply Kd.R_alloc | apply Kd.R_drewN | apply Kd.R_drew)); exact HO284.out)) (by decide) hg)
                 have n4_ := As0 (Kd.R_after (ok := (fun k_ => k_ ≠ gb249)) (by (with_reducible repeat (first | apply Kd.R_alloc | apply Kd.R_drewN | apply Kd.R_drew)); exact Kd.R_mono HO287.out (fun _ hk => ⟨hk.2, hk.1⟩)) hg hat)
                 have n5_ := As0 (hb)
                 have n6_ := As0 (ho)
                 clear BK248
                 clear BK249
                 clear HO264
                 clear HO274
                 clear HO287
                 clear HB
                 clear HO284
                 have BK248 := n0_
                 have BK249 := n1_
                 have HO264 := n2_
                 have HO274 := n3_
                 have HO287 := n4_
                 have HB := n5_
                 have HO290 := n6_
                 clear n0_ n1_ n2_ n3_ n4_ n5_ n6_
                 clear ho hb hg hat
                 refine hK.out _ _ ⟨(blk_cell BK249.out 0).trans rfl, (blk_cell BK249.out 1).trans rfl, (blk_cell BK249.out 2).trans rfl, (blk_cell BK249.out 3).trans rfl, (blk_cell BK249.out 4).trans rfl, (blk_cell BK249.out 5).trans rfl, (blk_cell BK249.out 6).trans rfl⟩ (fun hHeld => ?_)
                 clear hK K
                 refine norm_ (a' := ?_) ?_ ?_
                 rotate_left
                 ·show Act.put _ (some 69) _ = _
                  simp only [Act.put, sL1, sL2, sL3, i64_w, i32_w]
                  rfl
                 refine one_ (i := 11) (N := some 73) #[true, true, true, true, true, true, true, true, true, true, true, true, false] rfl rfl (one_of HT_.out (by kernel_rfl)) (by decide) (fun K hK => ?_)
                 refine Kd.R_append_rows_step k28 (w0 := w) w.heap.size (by rfl) (.tmp 69) (.tmp 72) 23 28 (.agg #[(.int .i64 0), (.int .i64 0), (.int .i64 0), (.int .i64 0), (.int .i64 0), (.int .i64 0), (.int .i64 0)]) 56 rfl Try.underlying23 info28 rfl (by decide) (by omega) v289 y288 y291 _ _ _ (fun k_ => some k_ ≠ (.slice Ao100 y285.length co100 : Value).ownBlock ∧ k_ ≠ gb249) (fun _ => False) rfl rfl ?aO ?aR (fun _ _ h => h) (fun _ h => h.elim) ?aF ?aB ?aS ?aL ?_
                 (case aR => repeat (first | exact (Kd.C_below HR294.out HB.out) | (with_reducible refine Kd.C_alloc ?_ _) | (with_reducible refine Kd.C_drewN ?_ _) | (with_reducible refine Kd.C_drew ?_)))
                 (case aB => exact (by repeat (first | (with_reducible first | exact HB.out | apply below_alloc | apply bdN | apply bd1 | refine below_set ?_ GE248.out | refine below_set ?_ GE249.out) | exact HB.out)))
                 (case aF => exact (fun k_ hk => ⟨Kd.fresh' (Kd.R_lt (by (with_reducible repeat (first | apply Kd.R_alloc | apply Kd.R_drewN | apply Kd.R_drew)); exact HO287.out)) k_ hk, Kd.freshB (g := gb249) (o := .cells #[.int .i64 18, .int .i64 a5_1, .int .i64 a5_2, .int .i64 a5_3, .int .i64 a5_4, .int .i64 a5_5, .int .i64 a5_6] 28 (0, 0)) (by (with_reducible repeat (first | refine blk_drewN ?_ _ | refine blk_drew ?_ | refine blk_alloc ?_ _)); exact BK249.out) k_ hk⟩))
                 (case aO => exact (by (with_reducible repeat (first | apply Kd.R_alloc | apply Kd.R_drewN | apply Kd.R_drew)); exact HO290.out))
                 (case aS => exact (below_size (by repeat (first | (with_reducible first | exact HB.out | apply below_alloc | apply bdN | apply bd1 | refine below_set ?_ GE248.out | refine below_set ?_ GE249.out) | exact HB.out))))
                 (case aL => have := LMc36.out; omega)
                 intro v296 w101 ho hb hg hat
                 rw [← Ny295.out] at ho
                 have n0_ := As0 (blk_grown (g := gb248) (o := .cells #[.int .i64 2, .int .i64 a4_1, .int .i64 a4_2, .int .i64 a4_3, .int .i64 a4_4] 25 (0, 0)) (by (with_reducible repeat (first | refine blk_drewN ?_ _ | refine blk_drew ?_ | refine blk_alloc ?_ _)); exact BK248.out) hg (Kd.R_ne HO290.out BK248.out (by decide)))
                 have n1_ := As0 (blk_grown (g := gb249) (o := .cells #[.int .i64 18, .int .i64 a5_1, .int .i64 a5_2, .int .i64 a5_3, .int .i64 a5_4, .int .i64 a5_5, .int .i64 a5_6] 28 (0, 0)) (by (with_reducible repeat (first | refine blk_drewN ?_ _ | refine blk_drew ?_ | refine blk_alloc ?_ _)); exact BK249.out) hg (Kd.R_away HO290.out (fun _ hk => hk.2)))
                 have n2_ := As0 (Kd.R_over' (by (with_reducible repeat (first | apply Kd.R_alloc | apply Kd.R_drewN | apply Kd.R_drew)); exact HO264.out) (Kd.R_typed (by (with_reducible repeat (first | apply Kd.R_alloc | apply Kd.R_drewN | apply Kd.R_drew)); exact HO290.out)) (by decide) hg)
                 have n3_ := As0 (Kd.R_over' (by (with_reducible repeat (first | apply Kd.R_alloc | apply Kd.R_drewN | apply Kd.R_drew)); exact HO274.out) (Kd.R_typed (by (with_reducible repeat (first | apply Kd.R_alloc | apply Kd.R_drewN | apply Kd.R_drew)); exact HO290.out)) (by decide) hg)
                 have n4_ := As0 (Kd.R_after (ok := (fun k_ => k_ ≠ gb249)) (by (with_reducible repeat (first | apply Kd.R_alloc | apply Kd.R_drewN | apply Kd.R_drew)); exact HO287.out) hg hat)
                 have n5_ := As0 (hb)
                 have n6_ := As0 (ho)
                 clear BK248
                 clear BK249
                 clear HO264
                 clear HO274
                 clear HO287
                 clear HB
                 clear HO290
                 have BK248 := n0_
                 have BK249 := n1_
                 have HO264 := n2_
                 have HO274 := n3_
                 have HO287 := n4_
                 have HB := n5_
                 have HO297 := n6_
                 clear n0_ n1_ n2_ n3_ n4_ n5_ n6_
                 clear ho hb hg hat
                 refine hK.out _ _ ⟨(blk_cell BK249.out 0).trans rfl, (blk_cell BK249.out 1).trans rfl, (blk_cell BK249.out 2).trans rfl, (blk_cell BK249.out 3).trans rfl, (blk_cell BK249.out 4).trans rfl, (blk_cell BK249.out 5).trans rfl, (blk_cell BK249.out 6).trans rfl⟩ (fun hHeld => ?_)
                 clear hK K
                 refine norm_ (a' := ?_) ?_ ?_
                 rotate_left
                 ·show Act.put _ (some 73) _ = _
                  simp only [Act.put, sL1, sL2, sL3, i64_w, i32_w]
                  rfl
                 refine pure_ (i := 12) (N := some 16) (v := ?_) (a' := ?_) #[true, true, true, true, true, true, true, true, true, true, true, true, true] rfl rfl (any_of HT_.out (by kernel_rfl)) (fun _ _ _ h => h) (Or.inl ⟨by rfl, ?_⟩) ?_ ?_
                 rotate_left
                 ·intro w'
                  go_simp
                  with_reducible rfl
                 rotate_left
                 ·simp only [Act.put, sL1, sL2, sL3, i64_w, i32_w]
                  rfl
                 refine done_ (done_of HT_.out (by kernel_rfl)) ?_
                 try go_wp2_with (first | ((with_reducible refine gate_callee (f := 9) rfl ?_); refine goesL_ (some 77) rfl rfl Try.func9 (by kernel_rfl) rfl #[.slice A0 l0.length c0, .slice A1 l1.length c1] rfl (by (try simp only [List.map_toArray, List.map_cons, List.map_nil]); first | done | rfl | (simp only [List.length_drop, List.length_take]; rfl)) ?_; (with_reducible refine (align_Code.calls kj6 _ _ l0 _ _ l1 t298 t299 t300 _ ?side1 ?side2 ?side3 ?side4 A37.out).mono ?_); (case side1 => repeat (first | exact (Kd.C_below HR0.out HB.out) | (with_reducible refine Kd.C_alloc ?_ _) | (with_reducible refine Kd.C_drewN ?_ _) | (with_reducible refine Kd.C_drew ?_))); (case side2 => exact HC0.out); (case side3 => repeat (first | exact (Kd.C_below HR1.out HB.out) | (with_reducible refine Kd.C_alloc ?_ _) | (with_reducible refine Kd.C_drewN ?_ _) | (with_reducible refine Kd.C_drew ?_))); (case side4 => exact HC1.out); rintro e w102 ⟨v301, rfl, ho0, hb⟩; refine ⟨_, rfl, ?_⟩; have n0_ := As0 (Kd.R_below (by (with_reducible repeat (first | apply Kd.R_alloc | apply Kd.R_drewN | apply Kd.R_drew)); exact HO264.out) hb); have n1_ := As0 (Kd.R_below (by (with_reducible repeat (first | apply Kd.R_alloc | apply Kd.R_drewN | apply Kd.R_drew)); exact HO274.out) hb); have n2_ := As0 (Kd.R_below (by (with_reducible repeat (first | apply Kd.R_alloc | apply Kd.R_drewN | apply Kd.R_drew)); exact HO287.out) hb); have n3_ := As0 (Kd.R_below (by (with_reducible repeat (first | apply Kd.R_alloc | apply Kd.R_drewN | apply Kd.R_drew)); exact HO297.out) hb); have n4_ := As0 (Kd.R_lower ho0 (below_size (by repeat (first | (with_reducible first | exact HB.out | apply below_alloc | apply bdN | apply bd1 | refine below_set ?_ GE248.out | refine below_set ?_ GE249.out) | exact HB.out)))); have n5_ := As0 (blk_below (g := gb248) (o := .cells #[.int .i64 2, .int .i64 a4_1, .int .i64 a4_2, .int .i64 a4_3, .int .i64 a4_4] 25 (0, 0)) (by (with_reducible repeat (first | refine blk_drewN ?_ _ | refine blk_drew ?_ | refine blk_alloc ?_ _)); exact BK248.out) hb); have n6_ := As0 (blk_below (g := gb249) (o := .cells #[.int .i64 18, .int .i64 a5_1, .int .i64 a5_2, .int .i64 a5_3, .int .i64 a5_4, .int .i64 a5_5, .int .i64 a5_6] 28 (0, 0)) (by (with_reducible repeat (first | refine blk_drewN ?_ _ | refine blk_drew ?_ | refine blk_alloc ?_ _)); exact BK249.out) hb); have n7_ := As0 (below_step (by repeat (first | (with_reducible first | exact HB.out | apply below_alloc | apply bdN | apply bd1 | refine below_set ?_ GE248.out | refine below_set ?_ GE249.out) | exact HB.out)) hb); clear HO264; clear HO274; clear HO287; clear HO297; clear BK248; clear BK249; clear HB; have HO264 := n0_; have HO274 := n1_; have HO287 := n2_; have HO297 := n3_; have HO302 := n4_; have BK248 := n5_; have BK249 := n6_; have HB := n7_; clear n0_ n1_ n2_ n3_ n4_ n5_ n6_ n7_; (try clear hb); (try clear hb2); (try clear hk); (try clear hi); (try clear ho0); obtain ⟨Ao103, co103, eo103⟩ := Kd.R_slice HO274.out; subst eo103; obtain ⟨Ao104, co104, eo104⟩ := Kd.R_slice HO297.out; subst eo104) | ((with_reducible refine gate_callee (f := 9) rfl ?_); refine goesL_ (some 84) rfl rfl Try.func9 (by kernel_rfl) rfl #[.slice Ao103 y272.length co103, .slice Ao104 y295.length co104] rfl (by (try simp only [List.map_toArray, List.map_cons, List.map_nil]); first | done | rfl | (simp only [List.length_drop, List.length_take]; rfl)) ?_; (with_reducible refine (align_Code.calls kj6 _ _ y272 _ _ y295 t303 t304 t305 _ ?side1 ?side2 ?side3 ?side4 A38.out).mono ?_); (case side1 => repeat (first | exact (Kd.R_reads' HO274.out).2.2 | (with_reducible refine Kd.C_alloc ?_ _) | (with_reducible refine Kd.C_drewN ?_ _) | (with_reducible refine Kd.C_drew ?_))); (case side2 => exact (Kd.R_reads' HO274.out).2.1); (case side3 => repeat (first | exact (Kd.R_reads' HO297.out).2.2 | (with_reducible refine Kd.C_alloc ?_ _) | (with_reducible refine Kd.C_drewN ?_ _) | (with_reducible refine Kd.C_drew ?_))); (case side4 => exact (Kd.R_reads' HO297.out).2.1); rintro e w105 ⟨v306, rfl, ho0, hb⟩; refine ⟨_, rfl, ?_⟩; have n0_ := As0 (Kd.R_below (by (with_reducible repeat (first | apply Kd.R_alloc | apply Kd.R_drewN | apply Kd.R_drew)); exact HO264.out) hb); have n1_ := As0 (Kd.R_below (by (with_reducible repeat (first | apply Kd.R_alloc | apply Kd.R_drewN | apply Kd.R_drew)); exact HO274.out) hb); have n2_ := As0 (Kd.R_below (by (with_reducible repeat (first | apply Kd.R_alloc | apply Kd.R_drewN | apply Kd.R_drew)); exact HO287.out) hb); have n3_ := As0 (Kd.R_below (by (with_reducible repeat (first | apply Kd.R_alloc | apply Kd.R_drewN | apply Kd.R_drew)); exact HO297.out) hb); have n4_ := As0 (Kd.R_elder' (by (with_reducible repeat (first | apply Kd.R_alloc | apply Kd.R_drewN | apply Kd.R_drew)); exact HO302.out) (Kd.R_base ho0) hb); have n5_ := As0 (Kd.R_lower (Kd.R_new' ho0 (Kd.R_lt (by (with_reducible repeat (first | apply Kd.R_alloc | apply Kd.R_drewN | apply Kd.R_drew)); exact HO302.out))) (below_size (by repeat (first | (with_reducible first | exact HB.out | apply below_alloc | apply bdN | apply bd1 | refine below_set ?_ GE248.out | refine below_set ?_ GE249.out) | exact HB.out)))); have n6_ := As0 (blk_below (g := gb248) (o := .cells #[.int .i64 2, .int .i64 a4_1, .int .i64 a4_2, .int .i64 a4_3, .int .i64 a4_4] 25 (0, 0)) (by (with_reducible repeat (first | refine blk_drewN ?_ _ | refine blk_drew ?_ | refine blk_alloc ?_ _)); exact BK248.out) hb); have n7_ := As0 (blk_below (g := gb249) (o := .cells #[.int .i64 18, .int .i64 a5_1, .int .i64 a5_2, .int .i64 a5_3, .int .i64 a5_4, .int .i64 a5_5, .int .i64 a5_6] 28 (0, 0)) (by (with_reducible repeat (first | refine blk_drewN ?_ _ | refine blk_drew ?_ | refine blk_alloc ?_ _)); exact BK249.out) hb); have n8_ := As0 (below_step (by repeat (first | (with_reducible first | exact HB.out | apply below_alloc | apply bdN | apply bd1 | refine below_set ?_ GE248.out | refine below_set ?_ GE249.out) | exact HB.out)) hb); clear HO264; clear HO274; clear HO287; clear HO297; clear HO302; clear BK248; clear BK249; clear HB; have HO264 := n0_; have HO274 := n1_; have HO287 := n2_; have HO297 := n3_; have HO302 := n4_; have HO307 := n5_; have BK248 := n6_; have BK249 := n7_; have HB := n8_; clear n0_ n1_ n2_ n3_ n4_ n5_ n6_ n7_ n8_; (try clear hb); (try clear hb2); (try clear hk); (try clear hi); (try clear ho0)))
                 go_ret
                 exact ⟨by first | rfl | (simp [errW_none, errW_some] <;> rfl) | (simp only [← hji21, ← hji29]; first | rfl | (simp [errW_none, errW_some] <;> rfl)) | (simp [*, errW_none, errW_some] <;> rfl), by repeat (first | (with_reducible first | exact HB.out | apply below_alloc | apply bdN | apply bd1 | refine below_set ?_ GE248.out | refine below_set ?_ GE249.out) | exact HB.out)⟩
               ·rw [if_neg c36] at H
                exact absurd H (by simp)
              ·rw [if_neg c33] at H
               exact absurd H (by simp)
             ·rw [if_neg c32] at H
              exact absurd H (by simp)
            ·rw [if_neg c31] at H
             exact absurd H (by simp)
           ·rw [if_neg c30] at H
            exact absurd H (by simp)
          ·rw [if_neg c28] at H
           exact absurd H (by simp)
         ·rw [if_neg c25] at H
          exact absurd H (by simp)
        ·rw [if_neg c24] at H
         exact absurd H (by simp)
       ·rw [if_neg c23] at H
        exact absurd H (by simp)
      ·rw [if_neg c22] at H
       exact absurd H (by simp)

end Go.Proofs.Ytchlilkhgagdeaa.X
