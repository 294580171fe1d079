/-
  The walk of a move.
-/
import Derived.Test.YtgkmagfajalnhaaTEAt
namespace Go.Proofs.Ytgkmagfajalnhaa.E
open Go.RowKit Go.Proofs.YtgkmagfajalnhaaW.PrintWords Go.Proofs.YtgkmagfajalnhaaW.PrintLast Go.Proofs.YtgkmagfajalnhaaW.PrintMore
set_option linter.unusedVariables false
set_option linter.unusedSimpArgs false

set_option maxRecDepth 100000 in
set_option maxHeartbeats 4000000 in
theorem do_move (w0 W : World) (g : Nat) (vR : Value) (vT : Value) (s : PS) (vS : Value) (fa fr fs : Int) (vB : Value) (id ia ib im ld ls : Int) (hd : LocOK s ld) (hl : LocOK s ls)
    (HS : St w0 W g vR vT s vS fa fr fs vB) :
    Calls Try.prog 97 #[.pointer (some ⟨g, 0, none⟩), .agg #[.int .i64 18, .int .i64 id, .int .i64 ia, .int .i64 ib, .int .i64 im, .int .i64 ld, .int .i64 ls]] W fun e W' =>
      e = .returned (.bool true) ∧ St w0 W' g vR vT (setLoc s ld (locP s ls)) vS fa fr fs vB := by
  have hu108 := Try.underlying108
  have hu39 := Try.underlying39
  have hu63 := Try.underlying63
  have hu61 := Try.underlying61
  have hu69 := Try.underlying69
  have hu67 := Try.underlying67
  have hu84 := Try.underlying84
  have hu48 := Try.underlying48
  have hu35 := Try.underlying35
  have HS0 := Aside0.mk HS
  clear HS
  go_enter Try.func97, Try.ntmps97
  go_wp2_with ((with_reducible refine gate_dst (N := 3) rfl ?_); go_loud (refine St.box HS0 (N := 3) #[.int .i64 18, .int .i64 id, .int .i64 ia, .int .i64 ib, .int .i64 im, .int .i64 ld, .int .i64 ls] 84 (by decide) rfl rfl (by first | (go_simp; done) | (go_simp; rfl)) ?_); intro gt w1 HS1 HX HN; (have z0 := (blk_cell (Aside0.out HX) 0); have z1 := (blk_cell (Aside0.out HX) 1); have z2 := (blk_cell (Aside0.out HX) 2); have z3 := (blk_cell (Aside0.out HX) 3); have z4 := (blk_cell (Aside0.out HX) 4); have z5 := (blk_cell (Aside0.out HX) 5); have z6 := (blk_cell (Aside0.out HX) 6); simp only [List.getElem?_toArray, List.getElem?_cons_zero, List.getElem?_cons_succ] at z0 z1 z2 z3 z4 z5 z6); (obtain ⟨q0, q1, q2, q3, q4, q5, q6, q7, q8, q9, q10, q11⟩ := St.cells (Aside0.out HS1); have f0 := St.frozen (Aside0.out HS1) 0; have f1 := St.frozen (Aside0.out HS1) 1; have f2 := St.frozen (Aside0.out HS1) 2; have f3 := St.frozen (Aside0.out HS1) 3; have f4 := St.frozen (Aside0.out HS1) 4; have f5 := St.frozen (Aside0.out HS1) 5; have f6 := St.frozen (Aside0.out HS1) 6; have f7 := St.frozen (Aside0.out HS1) 7; (try dsimp only at q0 q1 q2 q3 q4 q5 q6 q7 q8 q9 q10 q11)); obtain ⟨pd, hcd, hcdc, hfd, hset⟩ := at_loc HS1.out ld hd; obtain ⟨ps, hcl, hcs, hfs, _⟩ := at_loc HS1.out ls hl)
  refine start_ (n := 12) (S := fun w' => w'.cell? ⟨gt, 5, none⟩ = some (.int .i64 ld) ∧ w'.cell? ⟨gt, 6, none⟩ = some (.int .i64 ls) ∧ w'.cell? ps = some (.int .i64 (locP s ls))) (ds := [11]) (bb 12 0) (by kernel_rfl) rfl rfl ⟨z5, z6, hcs⟩ (fun hHeld => ?_)
  refine pu 0 5 (bb 12 1) ?_
  refine pu 1 6 (bb 12 3) ?_
  refine pu 4 9 (bb 12 19) ?_
  refine pu 5 10 (bb 12 51) ?_
  refine tu hHeld 2 7 (bb 12 55) ?_
  refine tu hHeld 6 11 (bb 12 119) ?_
  refine one_ (i := 3) (N := some 8) (bb 12 127) rfl rfl (by kernel_rfl) (by decide) (fun K hK => ?_)
  refine goes_ Try.func73 (by kernel_rfl) rfl #[.pointer (some ⟨g, 0, none⟩), .int .i64 ld] (by rfl) rfl rfl (by simp only [List.map_toArray, List.map_cons, List.map_nil]; rfl) ?_
  with_reducible refine (hcd w1.drew 1 rfl).mono ?_
  rintro e w3 ⟨rfl, ⟨m1, rfl⟩⟩
  refine ⟨_, rfl, ?_⟩
  refine hK.out _ _ ⟨z5, z6, hcs⟩ (fun hHeld => ?_)
  clear hK K
  refine norm_ (a' := ?_) ?_ ?_
  rotate_left
  · show Act.put _ (some 8) _ = _
    simp only [Act.put, List.setIfInBounds_toArray, List.set_cons_zero, List.set_cons_succ, i64_w, i32_w]
    rfl
  refine one_ (i := 7) (N := some 12) (bb 12 255) rfl rfl (by kernel_rfl) (by decide) (fun K hK => ?_)
  refine goes_ Try.func73 (by kernel_rfl) rfl #[.pointer (some ⟨g, 0, none⟩), .int .i64 ls] (by rfl) rfl rfl (by simp only [List.map_toArray, List.map_cons, List.map_nil]; rfl) ?_
  with_reducible refine (hcl (w1.drew.drewN m1) _ (World.drewN_drew ..)).mono ?_
  rintro e w4 ⟨rfl, ⟨m2, rfl⟩⟩
  refine ⟨_, rfl, ?_⟩
  refine hK.out _ _ ⟨z5, z6, hcs⟩ (fun hHeld => ?_)
  clear hK K
  refine norm_ (a' := ?_) ?_ ?_
  rotate_left
  · show Act.put _ (some 12) _ = _
    simp only [Act.put, List.setIfInBounds_toArray, List.set_cons_zero, List.set_cons_succ, i64_w, i32_w]
    rfl
  refine pu 8 13 (bb 12 511) ?_
  refine tu hHeld 9 14 (bb 12 1023) ?_
  refine pu 10 15 (bb 12 2047) ?_
  refine last_ (i := 11) (N := none) (bb 12 4095) rfl rfl (by kernel_rfl) (by decide) (fun K hK => ?_)
  refine skip_ (w1 := ?_) (by rfl) rfl ?_ ?_
  rotate_left
  · go_simp
    rfl
  refine hK.out _ _ ?_
  clear hK K
  refine done_ (by kernel_rfl) ?_
  go_wp2
  go_ret
  exact ⟨rfl, hset _ _ _ rfl⟩
end Go.Proofs.Ytgkmagfajalnhaa.E
