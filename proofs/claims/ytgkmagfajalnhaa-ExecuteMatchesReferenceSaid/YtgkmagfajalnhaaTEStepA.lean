/-
  The walk of a step that performs an instruction.
-/
import Derived.Test.YtgkmagfajalnhaaTEMac
namespace Go.Proofs.Ytgkmagfajalnhaa.E
open Go.RowKit Go.Proofs.YtgkmagfajalnhaaW.PrintWords Go.Proofs.YtgkmagfajalnhaaW.PrintLast Go.Proofs.YtgkmagfajalnhaaW.PrintMore
set_option linter.unusedVariables false
set_option linter.unusedSimpArgs false

set_option maxRecDepth 100000 in
set_option maxHeartbeats 4000000 in
theorem step_instr (w0 W : World) (g : Nat) (vR vT : Value) (s s1 : PS) (vS : Value) (fa fr fs : Int) (ad : Addr) (n cB : Nat) (adI : Addr) (m c0 : Nat) (t0 t1 t2 t3 : Int)
    (HS : St w0 W g vR vT s vS fa fr fs (.slice (some ad) n cB)) (h0 : 0 ≤ s.blk) (h1 : s.blk < n) (e0 : W.cell? (ad.add (s.blk.toNat * 5)) = some (.slice (some adI) m c0)) (e1 : W.cell? ⟨(ad.add (s.blk.toNat * 5)).block, (ad.add (s.blk.toNat * 5)).off + 1, none⟩ = some (.int .i64 t0)) (e2 : W.cell? ⟨(ad.add (s.blk.toNat * 5)).block, (ad.add (s.blk.toNat * 5)).off + 2, none⟩ = some (.int .i64 t1)) (e3 : W.cell? ⟨(ad.add (s.blk.toNat * 5)).block, (ad.add (s.blk.toNat * 5)).off + 3, none⟩ = some (.int .i64 t2)) (e4 : W.cell? ⟨(ad.add (s.blk.toNat * 5)).block, (ad.add (s.blk.toNat * 5)).off + 4, none⟩ = some (.int .i64 t3))
    (h2 : 0 ≤ s.at_) (h3 : s.at_ < m) (v0 v1 v2 v3 v4 v5 v6 : Int) (i0 : W.cell? (adI.add (s.at_.toNat * 7)) = some (.int .i64 v0)) (i1 : W.cell? ⟨(adI.add (s.at_.toNat * 7)).block, (adI.add (s.at_.toNat * 7)).off + 1, none⟩ = some (.int .i64 v1)) (i2 : W.cell? ⟨(adI.add (s.at_.toNat * 7)).block, (adI.add (s.at_.toNat * 7)).off + 2, none⟩ = some (.int .i64 v2)) (i3 : W.cell? ⟨(adI.add (s.at_.toNat * 7)).block, (adI.add (s.at_.toNat * 7)).off + 3, none⟩ = some (.int .i64 v3)) (i4 : W.cell? ⟨(adI.add (s.at_.toNat * 7)).block, (adI.add (s.at_.toNat * 7)).off + 4, none⟩ = some (.int .i64 v4)) (i5 : W.cell? ⟨(adI.add (s.at_.toNat * 7)).block, (adI.add (s.at_.toNat * 7)).off + 5, none⟩ = some (.int .i64 v5)) (i6 : W.cell? ⟨(adI.add (s.at_.toNat * 7)).block, (adI.add (s.at_.toNat * 7)).off + 6, none⟩ = some (.int .i64 v6))
    (hcall : ∀ W1, St w0 W1 g vR vT s vS fa fr fs (.slice (some ad) n cB) → Calls Try.prog 92 #[.pointer (some ⟨g, 0, none⟩), .agg #[.int .i64 v0, .int .i64 v1, .int .i64 v2, .int .i64 v3, .int .i64 v4, .int .i64 v5, .int .i64 v6]] W1 fun e W' => e = .returned (.tuple #[]) ∧ ∃ vT1, St w0 W' g vR vT1 s1 vS fa fr fs (.slice (some ad) n cB)) :
    Calls Try.prog 69 #[.pointer (some ⟨g, 0, none⟩)] W fun e W' => e = .returned (.tuple #[]) ∧ ∃ vT1, St w0 W' g vR vT1 s1 vS fa fr fs (.slice (some ad) n cB) := by
  have hu108 := Try.underlying108
  have hu39 := Try.underlying39
  have hu63 := Try.underlying63
  have hu61 := Try.underlying61
  have hu69 := Try.underlying69
  have hu67 := Try.underlying67
  have hu84 := Try.underlying84
  have hu48 := Try.underlying48
  have hu35 := Try.underlying35
  have HS0 := Aside0.mk HS
  clear HS
  have hb : decide (s.at_ < (m : Int)) = true := decide_eq_true h3
  (obtain ⟨q0, q1, q2, q3, q4, q5, q6, q7, q8, q9, q10, q11⟩ := St.cells (Aside0.out HS0); have f0 := St.frozen (Aside0.out HS0) 0; have f1 := St.frozen (Aside0.out HS0) 1; have f2 := St.frozen (Aside0.out HS0) 2; have f3 := St.frozen (Aside0.out HS0) 3; have f4 := St.frozen (Aside0.out HS0) 4; have f5 := St.frozen (Aside0.out HS0) 5; have f6 := St.frozen (Aside0.out HS0) 6; have f7 := St.frozen (Aside0.out HS0) 7; (try dsimp only at q0 q1 q2 q3 q4 q5 q6 q7 q8 q9 q10 q11))
  go_enter Try.func69, Try.ntmps69
  go_wp2
  refine start_ (n := 14) (S := fun w' => w'.cell? ⟨g, 11, none⟩ = some (.slice (some ad) n cB) ∧ w'.cell? ⟨g, 1, none⟩ = some (.int .i64 s.blk) ∧ w'.cell? (ad.add (s.blk.toNat * 5)) = some (.slice (some adI) m c0) ∧ w'.cell? ⟨(ad.add (s.blk.toNat * 5)).block, (ad.add (s.blk.toNat * 5)).off + 1, none⟩ = some (.int .i64 t0) ∧ w'.cell? ⟨(ad.add (s.blk.toNat * 5)).block, (ad.add (s.blk.toNat * 5)).off + 2, none⟩ = some (.int .i64 t1) ∧ w'.cell? ⟨(ad.add (s.blk.toNat * 5)).block, (ad.add (s.blk.toNat * 5)).off + 3, none⟩ = some (.int .i64 t2) ∧ w'.cell? ⟨(ad.add (s.blk.toNat * 5)).block, (ad.add (s.blk.toNat * 5)).off + 4, none⟩ = some (.int .i64 t3)) (ds := [13]) (bb 14 0) (by kernel_rfl) rfl rfl ⟨q11, q1, e0, e1, e2, e3, e4⟩ (fun hHeld => ?_)
  refine pu 0 3 (bb 14 1) ?_
  refine pu 1 4 (bb 14 3) ?_
  refine pu 2 5 (bb 14 7) ?_
  refine pu 3 6 (bb 14 15) ?_
  refine pu 5 8 (bb 14 47) ?_
  refine pu 6 9 (bb 14 111) ?_
  refine pu 7 10 (bb 14 239) ?_
  refine pu 8 11 (bb 14 495) ?_
  refine tu hHeld 4 7 (bb 14 511) ?_
  refine tu hHeld 9 12 (bb 14 1023) ?_
  refine pu 10 13 (bb 14 2047) ?_
  refine tu hHeld 11 14 (bb 14 4095) ?_
  refine one_ (i := 12) (N := some 2) (bb 14 8191) rfl rfl (by kernel_rfl) (by decide) (fun K hK => ?_)
  refine value_ (w1 := ?_) (v := ?_) (by rfl) rfl ?_ ?_
  rotate_left 2
  · go_simp
    constructor
    · rfl
    · rfl
  refine hK.out _ _ ⟨(cell_alloc q11 _), (cell_alloc q1 _), (cell_alloc e0 _), (cell_alloc e1 _), (cell_alloc e2 _), (cell_alloc e3 _), (cell_alloc e4 _)⟩ (fun hHeld => ?_)
  clear hK K
  refine norm_ (a' := ?_) ?_ ?_
  rotate_left
  · show Act.put _ (some 2) _ = _
    simp only [Act.put, List.setIfInBounds_toArray, List.set_cons_zero, List.set_cons_succ, i64_w, i32_w]
    rfl
  refine last_ (i := 13) (N := none) (bb 14 16383) rfl rfl (by kernel_rfl) (by decide) (fun K hK => ?_)
  refine skip_ (w1 := ?_) (by rfl) rfl ?_ ?_
  rotate_left
  · go_simp
    rfl
  refine hK.out _ _ ?_
  clear hK K
  refine done_ (by kernel_rfl) ?_
  have HS2' := (HS0.out.step (below_alloc (Below.refl _ _) (Obj.cells #[.slice (some adI) m c0, .int .i64 t0, .int .i64 t1, .int .i64 t2, .int .i64 t3] 69))).drew
  have HX' := blk_drew (blk_new W (Obj.cells #[.slice (some adI) m c0, .int .i64 t0, .int .i64 t1, .int .i64 t2, .int .i64 t3] 69))
  clear q0 q1 q2 q3 q4 q5 q6 q7 q8 q9 q10 q11 f0 f1 f2 f3 f4 f5 f6 f7 e0 e1 e2 e3 e4 HS0
  have j0 := blk_drewc (cell_alloc i0 (Obj.cells #[.slice (some adI) m c0, .int .i64 t0, .int .i64 t1, .int .i64 t2, .int .i64 t3] 69))
  have j1 := blk_drewc (cell_alloc i1 (Obj.cells #[.slice (some adI) m c0, .int .i64 t0, .int .i64 t1, .int .i64 t2, .int .i64 t3] 69))
  have j2 := blk_drewc (cell_alloc i2 (Obj.cells #[.slice (some adI) m c0, .int .i64 t0, .int .i64 t1, .int .i64 t2, .int .i64 t3] 69))
  have j3 := blk_drewc (cell_alloc i3 (Obj.cells #[.slice (some adI) m c0, .int .i64 t0, .int .i64 t1, .int .i64 t2, .int .i64 t3] 69))
  have j4 := blk_drewc (cell_alloc i4 (Obj.cells #[.slice (some adI) m c0, .int .i64 t0, .int .i64 t1, .int .i64 t2, .int .i64 t3] 69))
  have j5 := blk_drewc (cell_alloc i5 (Obj.cells #[.slice (some adI) m c0, .int .i64 t0, .int .i64 t1, .int .i64 t2, .int .i64 t3] 69))
  have j6 := blk_drewc (cell_alloc i6 (Obj.cells #[.slice (some adI) m c0, .int .i64 t0, .int .i64 t1, .int .i64 t2, .int .i64 t3] 69))
  clear i0 i1 i2 i3 i4 i5 i6
  generalize hw2 : (W.alloc (Obj.cells #[.slice (some adI) m c0, .int .i64 t0, .int .i64 t1, .int .i64 t2, .int .i64 t3] 69)).drew = w2 at *
  generalize hgb : W.heap.size = gb at *
  have HS2 := Aside0.mk HS2'
  have HX := Aside0.mk HX'
  clear HS2' HX' hw2 hgb
  (have z0 := (blk_cell (Aside0.out HX) 0); have z1 := (blk_cell (Aside0.out HX) 1); have z2 := (blk_cell (Aside0.out HX) 2); have z3 := (blk_cell (Aside0.out HX) 3); have z4 := (blk_cell (Aside0.out HX) 4); simp only [List.getElem?_toArray, List.getElem?_cons_zero, List.getElem?_cons_succ] at z0 z1 z2 z3 z4)
  (obtain ⟨q0, q1, q2, q3, q4, q5, q6, q7, q8, q9, q10, q11⟩ := St.cells (Aside0.out HS2); have f0 := St.frozen (Aside0.out HS2) 0; have f1 := St.frozen (Aside0.out HS2) 1; have f2 := St.frozen (Aside0.out HS2) 2; have f3 := St.frozen (Aside0.out HS2) 3; have f4 := St.frozen (Aside0.out HS2) 4; have f5 := St.frozen (Aside0.out HS2) 5; have f6 := St.frozen (Aside0.out HS2) 6; have f7 := St.frozen (Aside0.out HS2) 7; (try dsimp only at q0 q1 q2 q3 q4 q5 q6 q7 q8 q9 q10 q11))
  go_wp2
  go_region
  go_wp2
  refine start_ (n := 11) (S := fun w' => w'.cell? ⟨g, 2, none⟩ = some (.int .i64 s.at_) ∧ w'.cell? ⟨gb, 0, none⟩ = some (.slice (some adI) m c0) ∧ w'.cell? (adI.add (s.at_.toNat * 7)) = some (.int .i64 v0) ∧ w'.cell? ⟨(adI.add (s.at_.toNat * 7)).block, (adI.add (s.at_.toNat * 7)).off + 1, none⟩ = some (.int .i64 v1) ∧ w'.cell? ⟨(adI.add (s.at_.toNat * 7)).block, (adI.add (s.at_.toNat * 7)).off + 2, none⟩ = some (.int .i64 v2) ∧ w'.cell? ⟨(adI.add (s.at_.toNat * 7)).block, (adI.add (s.at_.toNat * 7)).off + 3, none⟩ = some (.int .i64 v3) ∧ w'.cell? ⟨(adI.add (s.at_.toNat * 7)).block, (adI.add (s.at_.toNat * 7)).off + 4, none⟩ = some (.int .i64 v4) ∧ w'.cell? ⟨(adI.add (s.at_.toNat * 7)).block, (adI.add (s.at_.toNat * 7)).off + 5, none⟩ = some (.int .i64 v5) ∧ w'.cell? ⟨(adI.add (s.at_.toNat * 7)).block, (adI.add (s.at_.toNat * 7)).off + 6, none⟩ = some (.int .i64 v6)) (ds := [10]) (bb 11 0) (by kernel_rfl) rfl rfl ⟨q2, z0, j0, j1, j2, j3, j4, j5, j6⟩ (fun hHeld => ?_)
  refine pu 0 24 (bb 11 1) ?_
  refine pu 1 25 (bb 11 3) ?_
  refine pu 3 27 (bb 11 11) ?_
  refine pu 4 28 (bb 11 27) ?_
  refine pu 5 29 (bb 11 59) ?_
  refine pu 6 30 (bb 11 123) ?_
  refine tu hHeld 2 26 (bb 11 127) ?_
  refine tu hHeld 7 31 (bb 11 255) ?_
  refine pu 8 32 (bb 11 511) ?_
  refine tu hHeld 9 33 (bb 11 1023) ?_
  refine last_ (i := 10) (N := some 34) (bb 11 2047) rfl rfl (by kernel_rfl) (by decide) (fun K hK => ?_)
  refine goes_ Try.func92 (by kernel_rfl) rfl #[.pointer (some ⟨g, 0, none⟩), .agg #[.int .i64 v0, .int .i64 v1, .int .i64 v2, .int .i64 v3, .int .i64 v4, .int .i64 v5, .int .i64 v6]] (by rfl) rfl rfl (by simp only [List.map_toArray, List.map_cons, List.map_nil]; rfl) ?_
  with_reducible refine (hcall _ (by first | exact HS2.out.drew | exact HS2.out.drew.drew | exact HS2.out.drewN _ | exact (HS2.out.drewN _).drew)).mono ?_
  rintro e w3 ⟨rfl, vT1, HS3⟩
  refine ⟨_, rfl, ?_⟩
  refine hK.out _ _ ?_
  clear hK K
  refine norm_ (a' := ?_) ?_ ?_
  rotate_left
  · show Act.put _ (some 34) _ = _
    simp only [Act.put, List.setIfInBounds_toArray, List.set_cons_zero, List.set_cons_succ, i64_w, i32_w]
    rfl
  refine done_ (by kernel_rfl) ?_
  go_wp2
  go_returns
  exact ⟨rfl, vT1, HS3⟩
end Go.Proofs.Ytgkmagfajalnhaa.E
