/-
  Step: the walk where a step is taken.
-/
import Derived.Test.YtgkmagfajalnhaaTEStepC
namespace Go.Proofs.Ytgkmagfajalnhaa.E
open Go.RowKit Go.Proofs.YtgkmagfajalnhaaW.PrintWords Go.Proofs.YtgkmagfajalnhaaW.PrintLast Go.Proofs.YtgkmagfajalnhaaW.PrintMore
set_option linter.unusedVariables false
set_option linter.unusedSimpArgs false

set_option maxRecDepth 100000 in
set_option maxHeartbeats 4000000 in
theorem stepc_go (w : World) (fa fr fs : Int) (A A4 A5 A6 : Option Addr) (cB c4 c5 c6 : Nat) (l : List S69) (st blk at_ val : Int) (l4 l5 l6 : List Int) (steps : Int) (sr : PS)
    (hC : Kd.C k69 w A l.length l) (hC4 : (Kd.int .i64).C w A4 l4.length l4) (hC5 : (Kd.int .i64).C w A5 l5.length l5) (hC6 : (Kd.int .i64).C w A6 l6.length l6) (hl4 : l4.length * 8 ≤ 140737488355328) (hl5 : l5.length * 8 ≤ 140737488355328) (hl6 : l6.length * 8 ≤ 140737488355328) (hst : (st == 0) = true) (hs : stepP l (PS.mk st blk at_ val l4 l5 l6 steps) = some sr) :
    Calls Try.prog 56 #[.agg #[.int .i64 fa, .int .i64 fr, .int .i64 fs, .slice A l.length cB], .agg #[.int .i64 st, .int .i64 blk, .int .i64 at_, .int .i64 val, .slice A4 l4.length c4, .slice A5 l5.length c5, .slice A6 l6.length c6, .int .i64 steps]] w fun e W' =>
      ∃ vR vS vT, e = .returned (.agg #[.int .i64 sr.st, .int .i64 sr.blk, .int .i64 sr.at_, .int .i64 sr.val, vR, vS, vT, .int .i64 sr.steps]) ∧
        (Kd.int .i64).R 2 W' w.heap.size (fun _ => True) vR sr.regs ∧ (Kd.int .i64).R 2 W' w.heap.size (fun _ => True) vS sr.slots ∧ (Kd.int .i64).R 2 W' w.heap.size (fun _ => True) vT sr.trace ∧ (∀ k, vR.ownBlock = some k → some k ≠ vT.ownBlock) ∧ (∀ k, vR.ownBlock = some k → some k ≠ vS.ownBlock) ∧ (∀ k, vS.ownBlock = some k → some k ≠ vT.ownBlock) ∧ Below w.heap.size w W' := by
  have hu108 := Try.underlying108
  have hu39 := Try.underlying39
  have hu63 := Try.underlying63
  have hu61 := Try.underlying61
  have hu69 := Try.underlying69
  have hu67 := Try.underlying67
  have hu84 := Try.underlying84
  have hu48 := Try.underlying48
  have hu35 := Try.underlying35
  have HC := Aside0.mk hC
  have HC4 := Aside0.mk hC4
  have HC5 := Aside0.mk hC5
  have HC6 := Aside0.mk hC6
  have HW3 := Aside0.mk (below_alloc (below_alloc (below_alloc (Below.refl w.heap.size w) (.cells #[.int .i64 fa, .int .i64 fr, .int .i64 fs, .slice A l.length cB] 63 (0, 0))) (.cells #[.int .i64 st, .int .i64 blk, .int .i64 at_, .int .i64 val, .slice A4 l4.length c4, .slice A5 l5.length c5, .slice A6 l6.length c6, .int .i64 steps] 39 (0, 0))) (.cells #[.int .i64 0, .int .i64 0, .int .i64 0, .int .i64 0, .slice none 0 0, .slice none 0 0, .slice none 0 0, .int .i64 0] 39 (0, 0)))
  have s1 : (w.alloc (.cells #[.int .i64 fa, .int .i64 fr, .int .i64 fs, .slice A l.length cB] 63 (0, 0))).heap.size = w.heap.size + 1 := by simp
  have s2 : ((w.alloc (.cells #[.int .i64 fa, .int .i64 fr, .int .i64 fs, .slice A l.length cB] 63 (0, 0))).alloc (.cells #[.int .i64 st, .int .i64 blk, .int .i64 at_, .int .i64 val, .slice A4 l4.length c4, .slice A5 l5.length c5, .slice A6 l6.length c6, .int .i64 steps] 39 (0, 0))).heap.size = w.heap.size + 1 + 1 := by simp
  have s3 : (((w.alloc (.cells #[.int .i64 fa, .int .i64 fr, .int .i64 fs, .slice A l.length cB] 63 (0, 0))).alloc (.cells #[.int .i64 st, .int .i64 blk, .int .i64 at_, .int .i64 val, .slice A4 l4.length c4, .slice A5 l5.length c5, .slice A6 l6.length c6, .int .i64 steps] 39 (0, 0))).alloc (.cells #[.int .i64 0, .int .i64 0, .int .i64 0, .int .i64 0, .slice none 0 0, .slice none 0 0, .slice none 0 0, .int .i64 0] 39 (0, 0))).heap.size = w.heap.size + 1 + 1 + 1 := by simp
  have hxr := blk_new (w.alloc (.cells #[.int .i64 fa, .int .i64 fr, .int .i64 fs, .slice A l.length cB] 63 (0, 0))) (.cells #[.int .i64 st, .int .i64 blk, .int .i64 at_, .int .i64 val, .slice A4 l4.length c4, .slice A5 l5.length c5, .slice A6 l6.length c6, .int .i64 steps] 39 (0, 0))
  rw [s1] at hxr
  have hxr2 := blk_alloc hxr (.cells #[.int .i64 0, .int .i64 0, .int .i64 0, .int .i64 0, .slice none 0 0, .slice none 0 0, .slice none 0 0, .int .i64 0] 39 (0, 0))
  have hx2 := blk_new ((w.alloc (.cells #[.int .i64 fa, .int .i64 fr, .int .i64 fs, .slice A l.length cB] 63 (0, 0))).alloc (.cells #[.int .i64 st, .int .i64 blk, .int .i64 at_, .int .i64 val, .slice A4 l4.length c4, .slice A5 l5.length c5, .slice A6 l6.length c6, .int .i64 steps] 39 (0, 0))) (.cells #[.int .i64 0, .int .i64 0, .int .i64 0, .int .i64 0, .slice none 0 0, .slice none 0 0, .slice none 0 0, .int .i64 0] 39 (0, 0))
  rw [s2] at hx2
  have HX2 := Aside0.mk hx2
  have hxs := blk_new (((w.alloc (.cells #[.int .i64 fa, .int .i64 fr, .int .i64 fs, .slice A l.length cB] 63 (0, 0))).alloc (.cells #[.int .i64 st, .int .i64 blk, .int .i64 at_, .int .i64 val, .slice A4 l4.length c4, .slice A5 l5.length c5, .slice A6 l6.length c6, .int .i64 steps] 39 (0, 0))).alloc (.cells #[.int .i64 0, .int .i64 0, .int .i64 0, .int .i64 0, .slice none 0 0, .slice none 0 0, .slice none 0 0, .int .i64 0] 39 (0, 0))) (.cells #[.int .i64 st, .int .i64 blk, .int .i64 at_, .int .i64 val, .slice A4 l4.length c4, .slice A5 l5.length c5, .slice A6 l6.length c6, .int .i64 steps, .int .i64 fa, .int .i64 fr, .int .i64 fs, .slice A l.length cB] 108 (0, 0))
  have HXR := Aside0.mk (blk_alloc hxr2 (.cells #[.int .i64 st, .int .i64 blk, .int .i64 at_, .int .i64 val, .slice A4 l4.length c4, .slice A5 l5.length c5, .slice A6 l6.length c6, .int .i64 steps, .int .i64 fa, .int .i64 fr, .int .i64 fs, .slice A l.length cB] 108 (0, 0)))
  have HB4 := Aside0.mk (below_alloc (Below.refl (((w.alloc (.cells #[.int .i64 fa, .int .i64 fr, .int .i64 fs, .slice A l.length cB] 63 (0, 0))).alloc (.cells #[.int .i64 st, .int .i64 blk, .int .i64 at_, .int .i64 val, .slice A4 l4.length c4, .slice A5 l5.length c5, .slice A6 l6.length c6, .int .i64 steps] 39 (0, 0))).alloc (.cells #[.int .i64 0, .int .i64 0, .int .i64 0, .int .i64 0, .slice none 0 0, .slice none 0 0, .slice none 0 0, .int .i64 0] 39 (0, 0))).heap.size (((w.alloc (.cells #[.int .i64 fa, .int .i64 fr, .int .i64 fs, .slice A l.length cB] 63 (0, 0))).alloc (.cells #[.int .i64 st, .int .i64 blk, .int .i64 at_, .int .i64 val, .slice A4 l4.length c4, .slice A5 l5.length c5, .slice A6 l6.length c6, .int .i64 steps] 39 (0, 0))).alloc (.cells #[.int .i64 0, .int .i64 0, .int .i64 0, .int .i64 0, .slice none 0 0, .slice none 0 0, .slice none 0 0, .int .i64 0] 39 (0, 0)))) (.cells #[.int .i64 st, .int .i64 blk, .int .i64 at_, .int .i64 val, .slice A4 l4.length c4, .slice A5 l5.length c5, .slice A6 l6.length c6, .int .i64 steps, .int .i64 fa, .int .i64 fr, .int .i64 fs, .slice A l.length cB] 108 (0, 0)))
  have hgs : (((w.alloc (.cells #[.int .i64 fa, .int .i64 fr, .int .i64 fs, .slice A l.length cB] 63 (0, 0))).alloc (.cells #[.int .i64 st, .int .i64 blk, .int .i64 at_, .int .i64 val, .slice A4 l4.length c4, .slice A5 l5.length c5, .slice A6 l6.length c6, .int .i64 steps] 39 (0, 0))).alloc (.cells #[.int .i64 0, .int .i64 0, .int .i64 0, .int .i64 0, .slice none 0 0, .slice none 0 0, .slice none 0 0, .int .i64 0] 39 (0, 0))).heap.size ≤ w.heap.size + 1 + 1 + 1 := by rw [s3]; exact Nat.le_refl _
  rw [s3] at hxs
  have HS4 := Aside0.mk (And.intro hxs (And.intro hgs HB4.out))
  clear hC hC4 hC5 hC6 s1 s2 s3 hxr hxr2 hx2 hxs hgs
  go_enter Try.func56, Try.ntmps56
  go_wp2
  generalize hw4 : (((w.alloc (Obj.cells #[.int .i64 fa, .int .i64 fr, .int .i64 fs, .slice A l.length cB] 63)).alloc (Obj.cells #[.int .i64 st, .int .i64 blk, .int .i64 at_, .int .i64 val, .slice A4 l4.length c4, .slice A5 l5.length c5, .slice A6 l6.length c6, .int .i64 steps] 39)).alloc (Obj.cells #[.int .i64 0, .int .i64 0, .int .i64 0, .int .i64 0, .slice none 0 0, .slice none 0 0, .slice none 0 0, .int .i64 0] 39)).alloc (Obj.cells #[.int .i64 st, .int .i64 blk, .int .i64 at_, .int .i64 val, .slice A4 l4.length c4, .slice A5 l5.length c5, .slice A6 l6.length c6, .int .i64 steps, .int .i64 fa, .int .i64 fr, .int .i64 fs, .slice A l.length cB] 108) = w4 at *
  generalize hw3 : ((w.alloc (Obj.cells #[.int .i64 fa, .int .i64 fr, .int .i64 fs, .slice A l.length cB] 63)).alloc (Obj.cells #[.int .i64 st, .int .i64 blk, .int .i64 at_, .int .i64 val, .slice A4 l4.length c4, .slice A5 l5.length c5, .slice A6 l6.length c6, .int .i64 steps] 39)).alloc (Obj.cells #[.int .i64 0, .int .i64 0, .int .i64 0, .int .i64 0, .slice none 0 0, .slice none 0 0, .slice none 0 0, .int .i64 0] 39) = w3 at *
  clear hw4 hw3
  generalize hg3 : w.heap.size + 1 + 1 + 1 = g3 at *
  generalize hg2 : w.heap.size + 1 + 1 = g2 at *
  generalize hg1 : w.heap.size + 1 = g1 at *
  have r4 := (blk_cell HXR.out 4)
  have r5 := (blk_cell HXR.out 5)
  have r6 := (blk_cell HXR.out 6)
  simp only [List.getElem?_toArray, List.getElem?_cons_zero, List.getElem?_cons_succ] at r4 r5 r6
  refine start_ (n := 24) (S := fun w' => w'.cell? ⟨g1, 4, none⟩ = some (.slice A4 l4.length c4) ∧ w'.cell? ⟨g1, 5, none⟩ = some (.slice A5 l5.length c5) ∧ w'.cell? ⟨g1, 6, none⟩ = some (.slice A6 l6.length c6)) (ds := [15, 19, 23]) (bb 24 0) (by kernel_rfl) rfl rfl ⟨r4, r5, r6⟩ (fun hHeld => ?_)
  refine pu 0 10 (bb 24 1) ?_
  refine pu 1 11 (bb 24 3) ?_
  refine pu 2 12 (bb 24 7) ?_
  refine pu 3 13 (bb 24 15) ?_
  refine pu 6 16 (bb 24 79) ?_
  refine pu 9 19 (bb 24 591) ?_
  refine tu hHeld 4 14 (bb 24 607) ?_
  refine tu hHeld 7 17 (bb 24 735) ?_
  refine tu hHeld 10 20 (bb 24 1759) ?_
  refine one_ (i := 5) (N := some 15) (bb 24 1791) rfl rfl (by kernel_rfl) (by decide) (fun K hK => ?_)
  refine goes_ Try.func67 (by kernel_rfl) rfl #[.slice A4 l4.length c4] (by rfl) rfl rfl (by simp only [List.map_toArray, List.map_cons, List.map_nil]; rfl) ?_
  with_reducible refine (clone_calls _ A4 c4 l4 (Kd.C_below (Kd.C_below HC4.out HW3.out) (below_drew1 HB4.out)) hl4).mono ?_
  rintro e x1 ⟨vx1, rfl, HRx1, HBx1⟩
  refine ⟨_, rfl, ?_⟩
  refine hK.out _ _ ⟨((blk_cell (blk_below (blk_drew HXR.out) HBx1) 4).trans rfl), ((blk_cell (blk_below (blk_drew HXR.out) HBx1) 5).trans rfl), ((blk_cell (blk_below (blk_drew HXR.out) HBx1) 6).trans rfl)⟩ (fun hHeld => ?_)
  clear hK K
  refine norm_ (a' := ?_) ?_ ?_
  rotate_left
  · show Act.put _ (some 15) _ = _
    simp only [Act.put, List.setIfInBounds_toArray, List.set_cons_zero, List.set_cons_succ, i64_w, i32_w]
    rfl
  refine one_ (i := 8) (N := some 18) (bb 24 2047) rfl rfl (by kernel_rfl) (by decide) (fun K hK => ?_)
  refine goes_ Try.func67 (by kernel_rfl) rfl #[.slice A5 l5.length c5] (by rfl) rfl rfl (by simp only [List.map_toArray, List.map_cons, List.map_nil]; rfl) ?_
  with_reducible refine (clone_calls _ A5 c5 l5 (Kd.C_below (Kd.C_below (Kd.C_below HC5.out HW3.out) (below_drew1 HB4.out)) HBx1) hl5).mono ?_
  rintro e x2 ⟨vx2, rfl, HRx2, HBx2⟩
  refine ⟨_, rfl, ?_⟩
  refine hK.out _ _ ⟨((blk_cell (blk_below (blk_below (blk_drew HXR.out) HBx1) HBx2) 4).trans rfl), ((blk_cell (blk_below (blk_below (blk_drew HXR.out) HBx1) HBx2) 5).trans rfl), ((blk_cell (blk_below (blk_below (blk_drew HXR.out) HBx1) HBx2) 6).trans rfl)⟩ (fun hHeld => ?_)
  clear hK K
  refine norm_ (a' := ?_) ?_ ?_
  rotate_left
  · show Act.put _ (some 18) _ = _
    simp only [Act.put, List.setIfInBounds_toArray, List.set_cons_zero, List.set_cons_succ, i64_w, i32_w]
    rfl
  refine one_ (i := 11) (N := some 21) (bb 24 4095) rfl rfl (by kernel_rfl) (by decide) (fun K hK => ?_)
  refine goes_ Try.func67 (by kernel_rfl) rfl #[.slice A6 l6.length c6] (by rfl) rfl rfl (by simp only [List.map_toArray, List.map_cons, List.map_nil]; rfl) ?_
  with_reducible refine (clone_calls _ A6 c6 l6 (Kd.C_below (Kd.C_below (Kd.C_below (Kd.C_below HC6.out HW3.out) (below_drew1 HB4.out)) HBx1) HBx2) hl6).mono ?_
  rintro e x3 ⟨vx3, rfl, HRx3, HBx3⟩
  refine ⟨_, rfl, ?_⟩
  have HSS := Aside0.mk (St.cloned (show _ ∧ _ ∧ _ from ⟨blk_drew HS4.out.1, HS4.out.2.1, below_drew1 HS4.out.2.2⟩) HRx1 HBx1 HRx2 HBx2 HRx3 HBx3)
  obtain ⟨AR, cR, eR⟩ := Kd.R_slice HRx1
  generalize l4.length = nR at eR
  subst eR
  obtain ⟨AS, cS, eS⟩ := Kd.R_slice HRx2
  generalize l5.length = nS at eS
  subst eS
  obtain ⟨AT, cT, eT⟩ := Kd.R_slice HRx3
  generalize l6.length = nT at eT
  subst eT
  have g4 := (blk_cell HSS.out.1 4)
  have g5 := (blk_cell HSS.out.1 5)
  have g6 := (blk_cell HSS.out.1 6)
  have h4 := blk_frozen HSS.out.1 4
  have h5 := blk_frozen HSS.out.1 5
  have h6 := blk_frozen HSS.out.1 6
  simp only [List.getElem?_toArray, List.getElem?_cons_zero, List.getElem?_cons_succ] at g4 g5 g6
  refine hK.out _ _ ⟨((blk_cell (blk_below (blk_below (blk_below (blk_drew HXR.out) HBx1) HBx2) HBx3) 4).trans rfl), ((blk_cell (blk_below (blk_below (blk_below (blk_drew HXR.out) HBx1) HBx2) HBx3) 5).trans rfl), ((blk_cell (blk_below (blk_below (blk_below (blk_drew HXR.out) HBx1) HBx2) HBx3) 6).trans rfl)⟩ (fun hHeld => ?_)
  clear hK K
  refine norm_ (a' := ?_) ?_ ?_
  rotate_left
  · show Act.put _ (some 21) _ = _
    simp only [Act.put, List.setIfInBounds_toArray, List.set_cons_zero, List.set_cons_succ, i64_w, i32_w]
    rfl
  refine pu 12 22 (bb 24 8191) ?_
  refine pu 13 23 (bb 24 16383) ?_
  refine pu 14 24 (bb 24 32767) ?_
  refine last_ (i := 15) (N := none) (bb 24 65535) rfl rfl (by kernel_rfl) (by decide) (fun K hK => ?_)
  refine skip_ (w1 := ?_) (by rfl) rfl ?_ ?_
  rotate_left
  · go_simp
    rfl
  refine hK.out _ _ ?_
  clear hK K
  refine pu 16 25 (bb 24 131071) ?_
  refine pu 17 26 (bb 24 262143) ?_
  refine pu 18 27 (bb 24 524287) ?_
  refine last_ (i := 19) (N := none) (bb 24 1048575) rfl rfl (by kernel_rfl) (by decide) (fun K hK => ?_)
  refine skip_ (w1 := ?_) (by rfl) rfl ?_ ?_
  rotate_left
  · go_simp
    rfl
  refine hK.out _ _ ?_
  clear hK K
  refine pu 20 28 (bb 24 2097151) ?_
  refine pu 21 29 (bb 24 4194303) ?_
  refine pu 22 30 (bb 24 8388607) ?_
  refine last_ (i := 23) (N := none) (bb 24 16777215) rfl rfl (by kernel_rfl) (by decide) (fun K hK => ?_)
  refine skip_ (w1 := ?_) (by rfl) rfl ?_ ?_
  rotate_left
  · go_simp
    rfl
  refine hK.out _ _ ?_
  clear hK K
  refine done_ (by kernel_rfl) ?_
  have HS5' := St.three (s := PS.mk st blk at_ val l4 l5 l6 steps) HSS.out
  generalize hw5 : ((x3.setCell ⟨g3, 4, none⟩ (.slice AR nR cR)).setCell ⟨g3, 5, none⟩ (.slice AS nS cS)).setCell ⟨g3, 6, none⟩ (.slice AT nT cT) = w5 at HS5' ⊢
  have HS5 := Aside0.mk HS5'
  have HC3 := Aside0.mk (Kd.C_below HC.out HW3.out)
  clear HS5' hw5 HSS g4 g5 g6 h4 h5 h6 HRx1 HRx2 HRx3 HBx1 HBx2 HBx3 r4 r5 r6 HXR HS4 HB4
  (obtain ⟨q0, q1, q2, q3, q4, q5, q6, q7, q8, q9, q10, q11⟩ := St.cells (Aside0.out HS5); have f0 := St.frozen (Aside0.out HS5) 0; have f1 := St.frozen (Aside0.out HS5) 1; have f2 := St.frozen (Aside0.out HS5) 2; have f3 := St.frozen (Aside0.out HS5) 3; have f4 := St.frozen (Aside0.out HS5) 4; have f5 := St.frozen (Aside0.out HS5) 5; have f6 := St.frozen (Aside0.out HS5) 6; have f7 := St.frozen (Aside0.out HS5) 7; (try dsimp only at q0 q1 q2 q3 q4 q5 q6 q7 q8 q9 q10 q11))
  go_wp2_with (first
    | ((with_reducible refine gate_callee (f := 69) rfl ?_); (clear q0 q1 q2 q3 q4 q5 q6 q7 q8 q9 q10 q11 f0 f1 f2 f3 f4 f5 f6 f7); go_loud (refine goesL_ (some 38) rfl rfl Try.func69 (by kernel_rfl) rfl #[.pointer (some ⟨g3, 0, none⟩)] rfl (by (try simp only [List.map_toArray, List.map_cons, List.map_nil]); rfl) ?_); go_loud (with_reducible refine (step_calls l HC3.out HS5.out hs).mono ?_); rintro e w6 ⟨rfl, vT2, HS6'⟩; refine ⟨_, rfl, ?_⟩; have HS6 := Aside0.mk HS6'; clear HS6' HS5; obtain ⟨AQ, cQ, eQ⟩ := Kd.R_slice HS6.out.trace; generalize sr.trace.length = nQ at eQ; subst eQ; (obtain ⟨q0, q1, q2, q3, q4, q5, q6, q7, q8, q9, q10, q11⟩ := St.cells (Aside0.out HS6); have f0 := St.frozen (Aside0.out HS6) 0; have f1 := St.frozen (Aside0.out HS6) 1; have f2 := St.frozen (Aside0.out HS6) 2; have f3 := St.frozen (Aside0.out HS6) 3; have f4 := St.frozen (Aside0.out HS6) 4; have f5 := St.frozen (Aside0.out HS6) 5; have f6 := St.frozen (Aside0.out HS6) 6; have f7 := St.frozen (Aside0.out HS6) 7; (try dsimp only at q0 q1 q2 q3 q4 q5 q6 q7 q8 q9 q10 q11)))
    | ((with_reducible refine gate_ (.store 39 (.tmp 4) (.tmp 42)) rfl ?_); go_loud (refine X.store_row_event rfl rfl 39 _ _ rfl g2 _ rfl rfl 39 #[.int .i64 0, .int .i64 0, .int .i64 0, .int .i64 0, .slice none 0 0, .slice none 0 0, .slice none 0 0, .int .i64 0] (blk_below HX2.out HS6.out.below) (by kernel_rfl) rfl (by simp [Value.oneCell']) ?_); (clear q0 q1 q2 q3 q4 q5 q6 q7 q8 q9 q10 q11 f0 f1 f2 f3 f4 f5 f6 f7); intro w7 hg5 ho5 hB5; have e0 := (blk_cell hg5 0); have e1 := (blk_cell hg5 1); have e2 := (blk_cell hg5 2); have e3 := (blk_cell hg5 3); have e4 := (blk_cell hg5 4); have e5 := (blk_cell hg5 5); have e6 := (blk_cell hg5 6); have e7 := (blk_cell hg5 7); simp only [List.getElem?_toArray, List.getElem?_cons_zero, List.getElem?_cons_succ] at e0 e1 e2 e3 e4 e5 e6 e7))
  have hlt := blk_lt HX2.out
  have hle : w.heap.size ≤ g2 := by omega
  exact bodyPost_ret (v := .agg #[.int .i64 sr.st, .int .i64 sr.blk, .int .i64 sr.at_, .int .i64 sr.val, .slice AR nR cR, .slice AS nS cS, .slice AQ nQ cQ, .int .i64 sr.steps]) (by simp [results, Try.results56, go_sem, e0, e1, e2, e3, e4, e5, e6, e7]) rfl ⟨_, _, _, rfl, exec_row HS6.out.regs HW3.out.size hlt ho5, exec_row HS6.out.slots HW3.out.size hlt ho5, exec_row HS6.out.trace HW3.out.size hlt ho5, HS6.out.apart, HS6.out.apRS, HS6.out.apST, hB5 _ _ hle (below_step HW3.out HS6.out.below)⟩
end Go.Proofs.Ytgkmagfajalnhaa.E
