/-
  The reference's Step: the walk of an emission.
-/
import Derived.Test.YtgkmagfajalnhaaTERefC
import Derived.Test.YtgkmagfajalnhaaTXAlu
import Derived.Outline
namespace Go.Proofs.Ytgkmagfajalnhaa.E
open Go.RowKit Go.Proofs.YtgkmagfajalnhaaW.PrintWords Go.Proofs.YtgkmagfajalnhaaW.PrintLast Go.Proofs.YtgkmagfajalnhaaW.PrintMore
set_option linter.unusedVariables false
set_option linter.unusedSimpArgs false

set_option maxRecDepth 100000 in
set_option maxHeartbeats 4000000 in
theorem ref_ret (w : World) (fa fr fs : Int) (A A4 A5 A6 : Option Addr) (cB c4 c5 c6 : Nat) (l : List S69) (st blk at_ val : Int) (l4 l5 l6 : List Int) (steps : Int)
    (hC4 : (Kd.int .i64).C w A4 l4.length l4) (h4 : l4.length ≤ c4) (hC5 : (Kd.int .i64).C w A5 l5.length l5) (h5 : l5.length ≤ c5) (hC6 : (Kd.int .i64).C w A6 l6.length l6) (h6 : l6.length ≤ c6) (hl4 : l4.length < 17592186044416) (hl5 : l5.length < 17592186044416) (hl6 : l6.length < 17592186044416) (hst : (st != 0) = false) (hC : Kd.C k69 w A l.length l) (hb0 : 0 ≤ blk) (hb1 : blk < l.length) (sr : PS) (hsr : sr = PS.mk 1 blk at_ (rd l4 (rd_T69 l blk).f1.f1) l4 l5 l6 (wrap64 (steps + 1))) (hat : (at_ == (((rd_T69 l blk).f0).length : Int)) = true) (k3 : ((rd_T69 l blk).f1.f0 == 3) = true) (ha0 : 0 ≤ (rd_T69 l blk).f1.f1) (ha1 : (rd_T69 l blk).f1.f1 < l4.length) :
    Calls Try.prog 57 #[.agg #[.int .i64 fa, .int .i64 fr, .int .i64 fs, .slice A l.length cB], .agg #[.int .i64 st, .int .i64 blk, .int .i64 at_, .int .i64 val, .slice A4 l4.length c4, .slice A5 l5.length c5, .slice A6 l6.length c6, .int .i64 steps]] w fun e W' => ∃ vR vS vT, e = .returned (.agg #[.int .i64 sr.st, .int .i64 sr.blk, .int .i64 sr.at_, .int .i64 sr.val, vR, vS, vT, .int .i64 sr.steps]) ∧
      (Kd.int .i64).R 2 W' w.heap.size (fun k_ => some k_ ≠ vS.ownBlock ∧ some k_ ≠ vT.ownBlock) vR sr.regs ∧ (Kd.int .i64).R 2 W' w.heap.size (fun k_ => some k_ ≠ vR.ownBlock ∧ some k_ ≠ vT.ownBlock) vS sr.slots ∧ (Kd.int .i64).R 2 W' w.heap.size (fun k_ => some k_ ≠ vR.ownBlock ∧ some k_ ≠ vS.ownBlock) vT sr.trace ∧ Below w.heap.size w W' := by
  subst hsr
  obtain ⟨ad4, eA4, hxc⟩ := Kd.at_int hC4 (rd_T69 l blk).f1.f1 ha0 ha1
  subst eA4
  have HXC := Aside0.mk hxc
  have h0b : decide ((rd_T69 l blk).f1.f1 < 0) = false := decide_eq_false (by omega)
  have h0c : decide (0 ≤ (rd_T69 l blk).f1.f1) = true := decide_eq_true ha0
  have h1b : decide ((rd_T69 l blk).f1.f1 < (l4.length : Int)) = true := decide_eq_true ha1
  clear hxc
  have hu := Try.underlying63
  have hu2 := Try.underlying39
  have hu35 := Try.underlying35
  have hu32 := Try.underlying61
  have hu50 := Try.underlying69
  have hu46 := Try.underlying67
  have hu48 := Try.underlying48
  have hu97 := Try.underlying84
  have HC := Aside0.mk hC
  have HC4 := Aside0.mk hC4
  have HC5 := Aside0.mk hC5
  have HC6 := Aside0.mk hC6
  have hcp : regcertref09_Copy.f st blk at_ val l4 l5 l6 steps = some (st, blk, at_, val, l4, l5, l6, steps) := by
    unfold regcertref09_Copy.f
    simp only [Option.bind_some, List.nil_append, List.length_nil]
    rw [if_pos (by omega), if_pos (by omega), if_pos (by omega)]
  have HW3 := Aside0.mk (below_alloc (below_alloc (below_alloc (Below.refl w.heap.size w) (.cells #[.int .i64 fa, .int .i64 fr, .int .i64 fs, .slice A l.length cB] 63 (0, 0))) (.cells #[.int .i64 st, .int .i64 blk, .int .i64 at_, .int .i64 val, .slice (some ad4) l4.length c4, .slice A5 l5.length c5, .slice A6 l6.length c6, .int .i64 steps] 39 (0, 0))) (.cells #[.int .i64 0, .int .i64 0, .int .i64 0, .int .i64 0, .slice none 0 0, .slice none 0 0, .slice none 0 0, .int .i64 0] 39 (0, 0)))
  have s1 : (w.alloc (.cells #[.int .i64 fa, .int .i64 fr, .int .i64 fs, .slice A l.length cB] 63 (0, 0))).heap.size = w.heap.size + 1 := by simp
  have s2 : ((w.alloc (.cells #[.int .i64 fa, .int .i64 fr, .int .i64 fs, .slice A l.length cB] 63 (0, 0))).alloc (.cells #[.int .i64 st, .int .i64 blk, .int .i64 at_, .int .i64 val, .slice (some ad4) l4.length c4, .slice A5 l5.length c5, .slice A6 l6.length c6, .int .i64 steps] 39 (0, 0))).heap.size = w.heap.size + 1 + 1 := by simp
  have hxr := blk_new (w.alloc (.cells #[.int .i64 fa, .int .i64 fr, .int .i64 fs, .slice A l.length cB] 63 (0, 0))) (.cells #[.int .i64 st, .int .i64 blk, .int .i64 at_, .int .i64 val, .slice (some ad4) l4.length c4, .slice A5 l5.length c5, .slice A6 l6.length c6, .int .i64 steps] 39 (0, 0))
  rw [s1] at hxr
  have hxr2 := Aside0.mk (blk_alloc hxr (.cells #[.int .i64 0, .int .i64 0, .int .i64 0, .int .i64 0, .slice none 0 0, .slice none 0 0, .slice none 0 0, .int .i64 0] 39 (0, 0)))
  have hx2 := blk_new ((w.alloc (.cells #[.int .i64 fa, .int .i64 fr, .int .i64 fs, .slice A l.length cB] 63 (0, 0))).alloc (.cells #[.int .i64 st, .int .i64 blk, .int .i64 at_, .int .i64 val, .slice (some ad4) l4.length c4, .slice A5 l5.length c5, .slice A6 l6.length c6, .int .i64 steps] 39 (0, 0))) (.cells #[.int .i64 0, .int .i64 0, .int .i64 0, .int .i64 0, .slice none 0 0, .slice none 0 0, .slice none 0 0, .int .i64 0] 39 (0, 0))
  rw [s2] at hx2
  have HX2 := Aside0.mk hx2
  have hxf := Aside0.mk (blk_alloc (blk_alloc (blk_new w (.cells #[.int .i64 fa, .int .i64 fr, .int .i64 fs, .slice A l.length cB] 63 (0, 0))) (.cells #[.int .i64 st, .int .i64 blk, .int .i64 at_, .int .i64 val, .slice (some ad4) l4.length c4, .slice A5 l5.length c5, .slice A6 l6.length c6, .int .i64 steps] 39 (0, 0))) (.cells #[.int .i64 0, .int .i64 0, .int .i64 0, .int .i64 0, .slice none 0 0, .slice none 0 0, .slice none 0 0, .int .i64 0] 39 (0, 0)))
  clear hC hC4 hC5 hC6 s1 s2 hxr hx2
  go_enter Try.func57, Try.ntmps57
  go_wp2_with (first
    | ((with_reducible refine gate_callee (f := 38) rfl ?_); generalize hw3 : ((w.alloc (Obj.cells #[.int .i64 fa, .int .i64 fr, .int .i64 fs, .slice A l.length cB] 63)).alloc (Obj.cells #[.int .i64 st, .int .i64 blk, .int .i64 at_, .int .i64 val, .slice (some ad4) l4.length c4, .slice A5 l5.length c5, .slice A6 l6.length c6, .int .i64 steps] 39)).alloc (Obj.cells #[.int .i64 0, .int .i64 0, .int .i64 0, .int .i64 0, .slice none 0 0, .slice none 0 0, .slice none 0 0, .int .i64 0] 39) = w3 at *; clear hw3; go_loud (refine goesL_ (some 12) rfl rfl Try.func38 (by kernel_rfl) rfl #[.agg #[.int .i64 st, .int .i64 blk, .int .i64 at_, .int .i64 val, .slice (some ad4) l4.length c4, .slice A5 l5.length c5, .slice A6 l6.length c6, .int .i64 steps]] rfl (by (try simp only [List.map_toArray, List.map_cons, List.map_nil]); rfl) ?_); go_loud (with_reducible refine (regcertref09_Copy.calls st blk at_ val (some ad4) c4 l4 A5 c5 l5 A6 c6 l6 steps _ _ _ _ _ _ _ _ w3 (Kd.C_below HC4.out HW3.out) h4 (Kd.C_below HC5.out HW3.out) h5 (Kd.C_below HC6.out HW3.out) h6 hcp).mono ?_); rintro e w4 ⟨v4, v5, v6, rfl, hR, hS, hT, hB⟩; refine ⟨_, rfl, ?_⟩; obtain ⟨AR, cR, eR⟩ := Kd.R_slice hR; obtain ⟨AS, cS, eS⟩ := Kd.R_slice hS; obtain ⟨AT, cT, eT⟩ := Kd.R_slice hT; generalize l5.length = nS at eS; generalize l6.length = nT at eT; subst eR eS eT; have XR := blk_cell (blk_below hxr2.out hB) 0; simp only [List.getElem?_toArray, List.getElem?_cons_zero, List.getElem?_cons_succ] at XR; have XA : ∀ o, (w4.alloc o).cell? ⟨w.heap.size + 1, 0, none⟩ = some (.int .i64 st) := fun o => cell_alloc XR o; have YR := Aside0.mk hR; have YS := Aside0.mk hS; have YT := Aside0.mk hT; have YB := Aside0.mk hB; clear hR hS hT hB)
    | ((with_reducible refine gate_ (.store 39 (.tmp 5) (.tmp 12)) rfl ?_); go_loud (refine X.store_row_event rfl rfl 39 _ _ rfl w4.heap.size (rtc st blk at_ val (.slice AR l4.length cR) (.slice AS nS cS) (.slice AT nT cT) steps) rfl rfl 39 #[.int .i64 0, .int .i64 0, .int .i64 0, .int .i64 0, .slice none 0 0, .slice none 0 0, .slice none 0 0, .int .i64 0] (blk_new w4 _) (by kernel_rfl) rfl (by simp [rtc, Value.oneCell']) ?_); intro w5 hg5 ho5 hB5; go_loud (have HS5 := Aside0.mk (Rt.made (s := PS.mk st blk at_ val l4 l5 l6 steps) _ YB.out YR.out YS.out YT.out rfl hg5 ho5 hB5)); clear hg5 ho5 hB5 XR XA YR YS YT; generalize w4.heap.size = g at *; have xr := blk_below hxr2.out HS5.out.below; have r0 := blk_cell xr 0; have r1 := blk_cell xr 1; have r2 := blk_cell xr 2; have r4 := blk_cell xr 4; have xf := blk_cell (blk_below hxf.out HS5.out.below) 3; simp only [List.getElem?_toArray, List.getElem?_cons_zero, List.getElem?_cons_succ] at r0 r1 r2 r4 xf; clear xr YB; go_loud (obtain ⟨ad, A0, c0, eA, e0, e1, e2, e3, e4, _, hI⟩ := at_T69 (Kd.C_below (Kd.C_below HC.out HW3.out) HS5.out.below) blk hb0 hb1); subst eA)
    | ((with_reducible refine gate_ (.store 69 (.tmp 6) (.tmp 22)) rfl ?_); go_loud (refine X.store_row_event rfl rfl 69 _ _ rfl w5.heap.size #[.slice A0 ((rd_T69 l blk).f0).length c0, .int .i64 (rd_T69 l blk).f1.f0, .int .i64 (rd_T69 l blk).f1.f1, .int .i64 (rd_T69 l blk).f1.f2, .int .i64 (rd_T69 l blk).f1.f3] rfl rfl 69 #[.slice none 0 0, .int .i64 0, .int .i64 0, .int .i64 0, .int .i64 0] (blk_new w5 _) (by kernel_rfl) rfl (by simp [Value.oneCell']) ?_); intro w6 hg6 ho6 hB6; go_loud (have hB56 := hB6 w5.heap.size w5 (Nat.le_refl _) (below_alloc (Below.refl _ _) _)); have HB6 := Aside0.mk (below_step HS5.out.below hB56); have HS6 := Aside0.mk (HS5.out.step hB56); have HX6 := Aside0.mk hg6; have HN := Aside0.mk (blk_ne HS6.out.blk hg6 (by decide)); clear hg6 ho6 hB6 hB56 HS5 r0 r1 r2 r4 xf e0 e1 e2 e3 e4 hI; generalize w5.heap.size = gb at *; clear w5; have xr := blk_below hxr2.out HB6.out; have r0 := blk_cell xr 0; have r1 := blk_cell xr 1; have r2 := blk_cell xr 2; have r4 := blk_cell xr 4; have z0 := blk_cell HX6.out 0; have z1 := blk_cell HX6.out 1; have z2 := blk_cell HX6.out 2; have z3 := blk_cell HX6.out 3; have z4 := blk_cell HX6.out 4; simp only [List.getElem?_toArray, List.getElem?_cons_zero, List.getElem?_cons_succ] at r0 r1 r2 r4 z0 z1 z2 z3 z4; clear xr; obtain ⟨q0, q1, q2, q3, q4, q5, q6, q7⟩ := HS6.out.cells; have f0 := HS6.out.frozen 0; have f1 := HS6.out.frozen 1; have f2 := HS6.out.frozen 2; have f3 := HS6.out.frozen 3; have f6 := HS6.out.frozen 6; have f7 := HS6.out.frozen 7; have hx6 := cell_below (below_step HW3.out HS6.out.below) HXC.out)
    | ((with_reducible refine gate_store (t := 3) (p := 32) rfl ?_); go_loud (refine Rt.store HS6 HX6 HN 7 (.int .i64 (wrap64 (steps + 1))) (PS.mk st blk at_ val l4 l5 l6 (wrap64 (steps + 1))) rfl rfl rfl rfl rfl rfl rfl (by first | (go_simp; done) | (go_simp; rfl)) ?_); go_loud (clear hx6 r0 r1 r2 r4 z0 z1 z2 z3 z4 q0 q1 q2 q3 q4 q5 q6 q7 f7 f0 f1 f2 f3 f6); go_loud (intro w7 HSn HXn; clear HS6 HX6; have HS6 := HSn; have HX6 := HXn; clear HSn HXn); go_loud (have xr := blk_below hxr2.out HS6.out.below; have r0 := blk_cell xr 0; have r1 := blk_cell xr 1; have r2 := blk_cell xr 2; have r4 := blk_cell xr 4; have z0 := blk_cell HX6.out 0; have z1 := blk_cell HX6.out 1; have z2 := blk_cell HX6.out 2; have z3 := blk_cell HX6.out 3; have z4 := blk_cell HX6.out 4; simp only [List.getElem?_toArray, List.getElem?_cons_zero, List.getElem?_cons_succ] at r0 r1 r2 r4 z0 z1 z2 z3 z4; clear xr; obtain ⟨q0, q1, q2, q3, q4, q5, q6, q7⟩ := HS6.out.cells; have f0 := HS6.out.frozen 0; have f1 := HS6.out.frozen 1; have f2 := HS6.out.frozen 2; have f3 := HS6.out.frozen 3; have f6 := HS6.out.frozen 6; have f7 := HS6.out.frozen 7; (try dsimp only at q0 q1 q2 q3 q7); have hx6 := cell_below (below_step HW3.out HS6.out.below) HXC.out))
    | ((with_reducible refine gate_store (t := 3) (p := 37) rfl ?_); go_loud (refine Rt.store HS6 HX6 HN 0 (.int .i64 1) (PS.mk 1 blk at_ val l4 l5 l6 (wrap64 (steps + 1))) rfl rfl rfl rfl rfl rfl rfl (by first | (go_simp; done) | (go_simp; rfl)) ?_); go_loud (clear hx6 r0 r1 r2 r4 z0 z1 z2 z3 z4 q0 q1 q2 q3 q4 q5 q6 q7 f7 f0 f1 f2 f3 f6); go_loud (intro w8 HSn HXn; clear HS6 HX6; have HS6 := HSn; have HX6 := HXn; clear HSn HXn); go_loud (have xr := blk_below hxr2.out HS6.out.below; have r0 := blk_cell xr 0; have r1 := blk_cell xr 1; have r2 := blk_cell xr 2; have r4 := blk_cell xr 4; have z0 := blk_cell HX6.out 0; have z1 := blk_cell HX6.out 1; have z2 := blk_cell HX6.out 2; have z3 := blk_cell HX6.out 3; have z4 := blk_cell HX6.out 4; simp only [List.getElem?_toArray, List.getElem?_cons_zero, List.getElem?_cons_succ] at r0 r1 r2 r4 z0 z1 z2 z3 z4; clear xr; obtain ⟨q0, q1, q2, q3, q4, q5, q6, q7⟩ := HS6.out.cells; have f0 := HS6.out.frozen 0; have f1 := HS6.out.frozen 1; have f2 := HS6.out.frozen 2; have f3 := HS6.out.frozen 3; have f6 := HS6.out.frozen 6; have f7 := HS6.out.frozen 7; (try dsimp only at q0 q1 q2 q3 q7); have hx6 := cell_below (below_step HW3.out HS6.out.below) HXC.out))
    | ((with_reducible refine gate_store (t := 2) (p := 45) rfl ?_); go_loud (refine Rt.store HS6 HX6 HN 3 (.int .i64 (rd l4 (rd_T69 l blk).f1.f1)) (PS.mk 1 blk at_ (rd l4 (rd_T69 l blk).f1.f1) l4 l5 l6 (wrap64 (steps + 1))) rfl rfl rfl rfl rfl rfl rfl (by first | (go_simp; done) | (go_simp; rfl)) ?_); go_loud (clear hx6 r0 r1 r2 r4 z0 z1 z2 z3 z4 q0 q1 q2 q3 q4 q5 q6 q7 f7 f0 f1 f2 f3 f6); go_loud (intro w9 HSn HXn; clear HS6 HX6; have HS6 := HSn; have HX6 := HXn; clear HSn HXn); go_loud (have xr := blk_below hxr2.out HS6.out.below; have r0 := blk_cell xr 0; have r1 := blk_cell xr 1; have r2 := blk_cell xr 2; have r4 := blk_cell xr 4; have z0 := blk_cell HX6.out 0; have z1 := blk_cell HX6.out 1; have z2 := blk_cell HX6.out 2; have z3 := blk_cell HX6.out 3; have z4 := blk_cell HX6.out 4; simp only [List.getElem?_toArray, List.getElem?_cons_zero, List.getElem?_cons_succ] at r0 r1 r2 r4 z0 z1 z2 z3 z4; clear xr; obtain ⟨q0, q1, q2, q3, q4, q5, q6, q7⟩ := HS6.out.cells; have f0 := HS6.out.frozen 0; have f1 := HS6.out.frozen 1; have f2 := HS6.out.frozen 2; have f3 := HS6.out.frozen 3; have f6 := HS6.out.frozen 6; have f7 := HS6.out.frozen 7; (try dsimp only at q0 q1 q2 q3 q7); have hx6 := cell_below (below_step HW3.out HS6.out.below) HXC.out))
    | ((with_reducible refine gate_ (.store 39 (.tmp 4) (.tmp 46)) rfl ?_); go_loud (refine X.store_row_event rfl rfl 39 _ _ rfl (w.heap.size + 1 + 1) _ rfl rfl 39 #[.int .i64 0, .int .i64 0, .int .i64 0, .int .i64 0, .slice none 0 0, .slice none 0 0, .slice none 0 0, .int .i64 0] (blk_below HX2.out HS6.out.below) (by kernel_rfl) rfl (by simp [Value.oneCell']) ?_); intro wz hg5 ho5 hB5; have e0 := (blk_cell hg5 0); have e1 := (blk_cell hg5 1); have e2 := (blk_cell hg5 2); have e3 := (blk_cell hg5 3); have e4 := (blk_cell hg5 4); have e5 := (blk_cell hg5 5); have e6 := (blk_cell hg5 6); have e7 := (blk_cell hg5 7); simp only [List.getElem?_toArray, List.getElem?_cons_zero, List.getElem?_cons_succ] at e0 e1 e2 e3 e4 e5 e6 e7))
  have hlt := blk_lt HX2.out
  exact bodyPost_ret (v := .agg #[.int .i64 1, .int .i64 blk, .int .i64 at_, .int .i64 (rd l4 (rd_T69 l blk).f1.f1), .slice AR l4.length cR, .slice AS nS cS, .slice AT nT cT, .int .i64 (wrap64 (steps + 1))]) (by simp [results, Try.results57, go_sem, e0, e1, e2, e3, e4, e5, e6, e7]) rfl ⟨_, _, _, rfl, HS6.out.out HW3.out hlt (by omega) ho5 hB5⟩
end Go.Proofs.Ytgkmagfajalnhaa.E
namespace Go.Proofs.Ytgkmagfajalnhaa.E
open Go.RowKit Go.Proofs.YtgkmagfajalnhaaW.PrintWords Go.Proofs.YtgkmagfajalnhaaW.PrintLast Go.Proofs.YtgkmagfajalnhaaW.PrintMore
set_option linter.unusedVariables false
set_option linter.unusedSimpArgs false

set_option maxRecDepth 100000 in
set_option maxHeartbeats 4000000 in
theorem ref_emit (w : World) (fa fr fs : Int) (A A4 A5 A6 : Option Addr) (cB c4 c5 c6 : Nat) (l : List S69) (st blk at_ val : Int) (l4 l5 l6 : List Int) (steps : Int)
    (hC4 : (Kd.int .i64).C w A4 l4.length l4) (h4 : l4.length ≤ c4) (hC5 : (Kd.int .i64).C w A5 l5.length l5) (h5 : l5.length ≤ c5) (hC6 : (Kd.int .i64).C w A6 l6.length l6) (h6 : l6.length ≤ c6) (hl4 : l4.length < 17592186044416) (hl5 : l5.length < 17592186044416) (hl6 : l6.length < 17592186044416) (hst : (st != 0) = false) (hC : Kd.C k69 w A l.length l) (hb0 : 0 ≤ blk) (hb1 : blk < l.length) (sr : PS) (hat : (at_ == (((rd_T69 l blk).f0).length : Int)) = false) (hi0 : 0 ≤ at_) (hi1 : at_ < ((rd_T69 l blk).f0).length) (hm : ((rd_T84 (rd_T69 l blk).f0 at_).f0 == 18) = false) (ho : ((rd_T84 (rd_T69 l blk).f0 at_).f0 == 17) = true) (ha0 : 0 ≤ (rd_T84 (rd_T69 l blk).f0 at_).f2) (ha1 : (rd_T84 (rd_T69 l blk).f0 at_).f2 < l4.length) (hsr2 : sr = PS.mk st blk (wrap64 (at_ + 1)) val l4 l5 (l6 ++ [(rd l4 (rd_T84 (rd_T69 l blk).f0 at_).f2)]) (wrap64 (steps + 1))) :
    Calls Try.prog 57 #[.agg #[.int .i64 fa, .int .i64 fr, .int .i64 fs, .slice A l.length cB], .agg #[.int .i64 st, .int .i64 blk, .int .i64 at_, .int .i64 val, .slice A4 l4.length c4, .slice A5 l5.length c5, .slice A6 l6.length c6, .int .i64 steps]] w fun e W' => ∃ vR vS vT, e = .returned (.agg #[.int .i64 sr.st, .int .i64 sr.blk, .int .i64 sr.at_, .int .i64 sr.val, vR, vS, vT, .int .i64 sr.steps]) ∧
      (Kd.int .i64).R 2 W' w.heap.size (fun k_ => some k_ ≠ vS.ownBlock ∧ some k_ ≠ vT.ownBlock) vR sr.regs ∧ (Kd.int .i64).R 2 W' w.heap.size (fun k_ => some k_ ≠ vR.ownBlock ∧ some k_ ≠ vT.ownBlock) vS sr.slots ∧ (Kd.int .i64).R 2 W' w.heap.size (fun k_ => some k_ ≠ vR.ownBlock ∧ some k_ ≠ vS.ownBlock) vT sr.trace ∧ Below w.heap.size w W' := by
  subst hsr2
  obtain ⟨ad4, eA4, hxc⟩ := Kd.at_int hC4 (rd_T84 (rd_T69 l blk).f0 at_).f2 ha0 ha1
  subst eA4
  have HXC := Aside0.mk hxc
  have hab : decide ((rd_T84 (rd_T69 l blk).f0 at_).f2 < 0) = false := decide_eq_false (by omega)
  have hac : decide (0 ≤ (rd_T84 (rd_T69 l blk).f0 at_).f2) = true := decide_eq_true ha0
  have had : decide ((rd_T84 (rd_T69 l blk).f0 at_).f2 < (l4.length : Int)) = true := decide_eq_true ha1
  clear hxc
  have hu := Try.underlying63
  have hu2 := Try.underlying39
  have hu35 := Try.underlying35
  have hu32 := Try.underlying61
  have hu50 := Try.underlying69
  have hu46 := Try.underlying67
  have hu48 := Try.underlying48
  have hu97 := Try.underlying84
  have HC := Aside0.mk hC
  have HC4 := Aside0.mk hC4
  have HC5 := Aside0.mk hC5
  have HC6 := Aside0.mk hC6
  have hcp : regcertref09_Copy.f st blk at_ val l4 l5 l6 steps = some (st, blk, at_, val, l4, l5, l6, steps) := by
    unfold regcertref09_Copy.f
    simp only [Option.bind_some, List.nil_append, List.length_nil]
    rw [if_pos (by omega), if_pos (by omega), if_pos (by omega)]
  have HW3 := Aside0.mk (below_alloc (below_alloc (below_alloc (Below.refl w.heap.size w) (.cells #[.int .i64 fa, .int .i64 fr, .int .i64 fs, .slice A l.length cB] 63 (0, 0))) (.cells #[.int .i64 st, .int .i64 blk, .int .i64 at_, .int .i64 val, .slice (some ad4) l4.length c4, .slice A5 l5.length c5, .slice A6 l6.length c6, .int .i64 steps] 39 (0, 0))) (.cells #[.int .i64 0, .int .i64 0, .int .i64 0, .int .i64 0, .slice none 0 0, .slice none 0 0, .slice none 0 0, .int .i64 0] 39 (0, 0)))
  have s1 : (w.alloc (.cells #[.int .i64 fa, .int .i64 fr, .int .i64 fs, .slice A l.length cB] 63 (0, 0))).heap.size = w.heap.size + 1 := by simp
  have s2 : ((w.alloc (.cells #[.int .i64 fa, .int .i64 fr, .int .i64 fs, .slice A l.length cB] 63 (0, 0))).alloc (.cells #[.int .i64 st, .int .i64 blk, .int .i64 at_, .int .i64 val, .slice (some ad4) l4.length c4, .slice A5 l5.length c5, .slice A6 l6.length c6, .int .i64 steps] 39 (0, 0))).heap.size = w.heap.size + 1 + 1 := by simp
  have hxr := blk_new (w.alloc (.cells #[.int .i64 fa, .int .i64 fr, .int .i64 fs, .slice A l.length cB] 63 (0, 0))) (.cells #[.int .i64 st, .int .i64 blk, .int .i64 at_, .int .i64 val, .slice (some ad4) l4.length c4, .slice A5 l5.length c5, .slice A6 l6.length c6, .int .i64 steps] 39 (0, 0))
  rw [s1] at hxr
  have hxr2 := Aside0.mk (blk_alloc hxr (.cells #[.int .i64 0, .int .i64 0, .int .i64 0, .int .i64 0, .slice none 0 0, .slice none 0 0, .slice none 0 0, .int .i64 0] 39 (0, 0)))
  have hx2 := blk_new ((w.alloc (.cells #[.int .i64 fa, .int .i64 fr, .int .i64 fs, .slice A l.length cB] 63 (0, 0))).alloc (.cells #[.int .i64 st, .int .i64 blk, .int .i64 at_, .int .i64 val, .slice (some ad4) l4.length c4, .slice A5 l5.length c5, .slice A6 l6.length c6, .int .i64 steps] 39 (0, 0))) (.cells #[.int .i64 0, .int .i64 0, .int .i64 0, .int .i64 0, .slice none 0 0, .slice none 0 0, .slice none 0 0, .int .i64 0] 39 (0, 0))
  rw [s2] at hx2
  have HX2 := Aside0.mk hx2
  have hxf := Aside0.mk (blk_alloc (blk_alloc (blk_new w (.cells #[.int .i64 fa, .int .i64 fr, .int .i64 fs, .slice A l.length cB] 63 (0, 0))) (.cells #[.int .i64 st, .int .i64 blk, .int .i64 at_, .int .i64 val, .slice (some ad4) l4.length c4, .slice A5 l5.length c5, .slice A6 l6.length c6, .int .i64 steps] 39 (0, 0))) (.cells #[.int .i64 0, .int .i64 0, .int .i64 0, .int .i64 0, .slice none 0 0, .slice none 0 0, .slice none 0 0, .int .i64 0] 39 (0, 0)))
  clear hC hC4 hC5 hC6 s1 s2 hxr hx2
  go_enter Try.func57, Try.ntmps57
  go_wp2_with (first
    | ((with_reducible refine gate_callee (f := 38) rfl ?_); generalize hw3 : ((w.alloc (Obj.cells #[.int .i64 fa, .int .i64 fr, .int .i64 fs, .slice A l.length cB] 63)).alloc (Obj.cells #[.int .i64 st, .int .i64 blk, .int .i64 at_, .int .i64 val, .slice (some ad4) l4.length c4, .slice A5 l5.length c5, .slice A6 l6.length c6, .int .i64 steps] 39)).alloc (Obj.cells #[.int .i64 0, .int .i64 0, .int .i64 0, .int .i64 0, .slice none 0 0, .slice none 0 0, .slice none 0 0, .int .i64 0] 39) = w3 at *; clear hw3; go_loud (refine goesL_ (some 12) rfl rfl Try.func38 (by kernel_rfl) rfl #[.agg #[.int .i64 st, .int .i64 blk, .int .i64 at_, .int .i64 val, .slice (some ad4) l4.length c4, .slice A5 l5.length c5, .slice A6 l6.length c6, .int .i64 steps]] rfl (by (try simp only [List.map_toArray, List.map_cons, List.map_nil]); rfl) ?_); go_loud (with_reducible refine (regcertref09_Copy.calls st blk at_ val (some ad4) c4 l4 A5 c5 l5 A6 c6 l6 steps _ _ _ _ _ _ _ _ w3 (Kd.C_below HC4.out HW3.out) h4 (Kd.C_below HC5.out HW3.out) h5 (Kd.C_below HC6.out HW3.out) h6 hcp).mono ?_); rintro e w4 ⟨v4, v5, v6, rfl, hR, hS, hT, hB⟩; refine ⟨_, rfl, ?_⟩; obtain ⟨AR, cR, eR⟩ := Kd.R_slice hR; obtain ⟨AS, cS, eS⟩ := Kd.R_slice hS; obtain ⟨AT, cT, eT⟩ := Kd.R_slice hT; generalize l5.length = nS at eS; generalize l6.length = nT at eT; subst eR eS eT; have XR := blk_cell (blk_below hxr2.out hB) 0; simp only [List.getElem?_toArray, List.getElem?_cons_zero, List.getElem?_cons_succ] at XR; have XA : ∀ o, (w4.alloc o).cell? ⟨w.heap.size + 1, 0, none⟩ = some (.int .i64 st) := fun o => cell_alloc XR o; have YR := Aside0.mk hR; have YS := Aside0.mk hS; have YT := Aside0.mk hT; have YB := Aside0.mk hB; clear hR hS hT hB)
    | ((with_reducible refine gate_ (.store 39 (.tmp 5) (.tmp 12)) rfl ?_); go_loud (refine X.store_row_event rfl rfl 39 _ _ rfl w4.heap.size (rtc st blk at_ val (.slice AR l4.length cR) (.slice AS nS cS) (.slice AT nT cT) steps) rfl rfl 39 #[.int .i64 0, .int .i64 0, .int .i64 0, .int .i64 0, .slice none 0 0, .slice none 0 0, .slice none 0 0, .int .i64 0] (blk_new w4 _) (by kernel_rfl) rfl (by simp [rtc, Value.oneCell']) ?_); intro w5 hg5 ho5 hB5; go_loud (have HS5 := Aside0.mk (Rt.made (s := PS.mk st blk at_ val l4 l5 l6 steps) _ YB.out YR.out YS.out YT.out rfl hg5 ho5 hB5)); clear hg5 ho5 hB5 XR XA YR YS YT; generalize w4.heap.size = g at *; have xr := blk_below hxr2.out HS5.out.below; have r0 := blk_cell xr 0; have r1 := blk_cell xr 1; have r2 := blk_cell xr 2; have r4 := blk_cell xr 4; have xf := blk_cell (blk_below hxf.out HS5.out.below) 3; simp only [List.getElem?_toArray, List.getElem?_cons_zero, List.getElem?_cons_succ] at r0 r1 r2 r4 xf; clear xr YB; go_loud (obtain ⟨ad, A0, c0, eA, e0, e1, e2, e3, e4, _, hI⟩ := at_T69 (Kd.C_below (Kd.C_below HC.out HW3.out) HS5.out.below) blk hb0 hb1); subst eA)
    | ((with_reducible refine gate_ (.store 69 (.tmp 6) (.tmp 22)) rfl ?_); go_loud (refine X.store_row_event rfl rfl 69 _ _ rfl w5.heap.size #[.slice A0 ((rd_T69 l blk).f0).length c0, .int .i64 (rd_T69 l blk).f1.f0, .int .i64 (rd_T69 l blk).f1.f1, .int .i64 (rd_T69 l blk).f1.f2, .int .i64 (rd_T69 l blk).f1.f3] rfl rfl 69 #[.slice none 0 0, .int .i64 0, .int .i64 0, .int .i64 0, .int .i64 0] (blk_new w5 _) (by kernel_rfl) rfl (by simp [Value.oneCell']) ?_); intro w6 hg6 ho6 hB6; go_loud (have hB56 := hB6 w5.heap.size w5 (Nat.le_refl _) (below_alloc (Below.refl _ _) _)); have HB6 := Aside0.mk (below_step HS5.out.below hB56); have HS6 := Aside0.mk (HS5.out.step hB56); have HX6 := Aside0.mk hg6; have HN := Aside0.mk (blk_ne HS6.out.blk hg6 (by decide)); obtain ⟨adI, eI, i0, i1, i2, i3, i4, i5, i6⟩ := at_T84 (Kd.C_below hI hB56) at_ hi0 hi1; subst eI; clear hg6 ho6 hB6 hB56 HS5 r0 r1 r2 r4 xf e0 e1 e2 e3 e4 hI; generalize w5.heap.size = gb at *; clear w5; have xr := blk_below hxr2.out HB6.out; have r0 := blk_cell xr 0; have r1 := blk_cell xr 1; have r2 := blk_cell xr 2; have r4 := blk_cell xr 4; have z0 := blk_cell HX6.out 0; have z1 := blk_cell HX6.out 1; have z2 := blk_cell HX6.out 2; have z3 := blk_cell HX6.out 3; have z4 := blk_cell HX6.out 4; simp only [List.getElem?_toArray, List.getElem?_cons_zero, List.getElem?_cons_succ] at r0 r1 r2 r4 z0 z1 z2 z3 z4; clear xr; obtain ⟨q0, q1, q2, q3, q4, q5, q6, q7⟩ := HS6.out.cells; have f0 := HS6.out.frozen 0; have f1 := HS6.out.frozen 1; have f2 := HS6.out.frozen 2; have f3 := HS6.out.frozen 3; have f6 := HS6.out.frozen 6; have f7 := HS6.out.frozen 7; have hx6 := cell_below (below_step HW3.out HS6.out.below) HXC.out)
    | fail
    | ((with_reducible refine gate_ (.store 39 (.tmp 4) (.tmp 70)) rfl ?_); go_loud (refine X.store_row_event rfl rfl 39 _ _ rfl (w.heap.size + 1 + 1) _ rfl rfl 39 #[.int .i64 0, .int .i64 0, .int .i64 0, .int .i64 0, .slice none 0 0, .slice none 0 0, .slice none 0 0, .int .i64 0] (blk_below HX2.out HS6.out.below) (by kernel_rfl) rfl (by simp [Value.oneCell']) ?_); intro wz hg5 ho5 hB5; have e0 := (blk_cell hg5 0); have e1 := (blk_cell hg5 1); have e2 := (blk_cell hg5 2); have e3 := (blk_cell hg5 3); have e4 := (blk_cell hg5 4); have e5 := (blk_cell hg5 5); have e6 := (blk_cell hg5 6); have e7 := (blk_cell hg5 7); simp only [List.getElem?_toArray, List.getElem?_cons_zero, List.getElem?_cons_succ] at e0 e1 e2 e3 e4 e5 e6 e7))
  have HS7' := HS6.out.step (below_alloc (Below.refl _ _) (Obj.cells #[.int .i64 (rd_T84 (rd_T69 l blk).f0 at_).f0, .int .i64 (rd_T84 (rd_T69 l blk).f0 at_).f1, .int .i64 (rd_T84 (rd_T69 l blk).f0 at_).f2, .int .i64 (rd_T84 (rd_T69 l blk).f0 at_).f3, .int .i64 (rd_T84 (rd_T69 l blk).f0 at_).f4, .int .i64 (rd_T84 (rd_T69 l blk).f0 at_).f5, .int .i64 (rd_T84 (rd_T69 l blk).f0 at_).f6] 84))
  have hy := blk_new w6 (Obj.cells #[.int .i64 (rd_T84 (rd_T69 l blk).f0 at_).f0, .int .i64 (rd_T84 (rd_T69 l blk).f0 at_).f1, .int .i64 (rd_T84 (rd_T69 l blk).f0 at_).f2, .int .i64 (rd_T84 (rd_T69 l blk).f0 at_).f3, .int .i64 (rd_T84 (rd_T69 l blk).f0 at_).f4, .int .i64 (rd_T84 (rd_T69 l blk).f0 at_).f5, .int .i64 (rd_T84 (rd_T69 l blk).f0 at_).f6] 84)
  have HB67 := below_alloc (Below.refl w6.heap.size w6) (Obj.cells #[.int .i64 (rd_T84 (rd_T69 l blk).f0 at_).f0, .int .i64 (rd_T84 (rd_T69 l blk).f0 at_).f1, .int .i64 (rd_T84 (rd_T69 l blk).f0 at_).f2, .int .i64 (rd_T84 (rd_T69 l blk).f0 at_).f3, .int .i64 (rd_T84 (rd_T69 l blk).f0 at_).f4, .int .i64 (rd_T84 (rd_T69 l blk).f0 at_).f5, .int .i64 (rd_T84 (rd_T69 l blk).f0 at_).f6] 84)
  generalize w6.alloc (Obj.cells #[.int .i64 (rd_T84 (rd_T69 l blk).f0 at_).f0, .int .i64 (rd_T84 (rd_T69 l blk).f0 at_).f1, .int .i64 (rd_T84 (rd_T69 l blk).f0 at_).f2, .int .i64 (rd_T84 (rd_T69 l blk).f0 at_).f3, .int .i64 (rd_T84 (rd_T69 l blk).f0 at_).f4, .int .i64 (rd_T84 (rd_T69 l blk).f0 at_).f5, .int .i64 (rd_T84 (rd_T69 l blk).f0 at_).f6] 84) = w7 at *
  generalize w6.heap.size = gi at *
  have HS7 := Aside0.mk HS7'
  have y0 := blk_cell hy 0
  have y1 := blk_cell hy 1
  have y2 := blk_cell hy 2
  have y3 := blk_cell hy 3
  have y4 := blk_cell hy 4
  have y5 := blk_cell hy 5
  have y6 := blk_cell hy 6
  simp only [List.getElem?_toArray, List.getElem?_cons_zero, List.getElem?_cons_succ] at y0 y1 y2 y3 y4 y5 y6
  clear HS7' HS6 HX6 HB67 r0 r1 r2 r4 z0 z1 z2 z3 z4 q0 q1 q2 q3 q4 q5 q6 q7 f0 f1 f2 f3 f6 f7 i0 i1 i2 i3 i4 i5 i6 hx6
  have xr := blk_below hxr2.out HS7.out.below
  have r4 := blk_cell xr 4
  simp only [List.getElem?_toArray, List.getElem?_cons_zero, List.getElem?_cons_succ] at r4
  obtain ⟨q0, q1, q2, q3, q4, q5, q6, q7⟩ := HS7.out.cells
  have hx7 := cell_below (below_step HW3.out HS7.out.below) HXC.out
  refine start_ (n := 12) (S := fun w' => w'.cell? ⟨g, 6, none⟩ = some (.slice AT nT cT) ∧ w'.cell? ⟨w.heap.size + 1, 4, none⟩ = some (.slice (some ad4) l4.length c4) ∧ w'.cell? ⟨gi, 2, none⟩ = some (.int .i64 (rd_T84 (rd_T69 l blk).f0 at_).f2) ∧ w'.cell? (ad4.add (rd_T84 (rd_T69 l blk).f0 at_).f2.toNat) = some (.int .i64 (rd l4 (rd_T84 (rd_T69 l blk).f0 at_).f2))) (ds := [9, 11]) (bb 12 0) (by kernel_rfl) rfl rfl ⟨q6, r4, y2, hx7⟩ (fun hHeld => ?_)
  refine pu 0 105 (bb 12 1) ?_
  refine pu 2 107 (bb 12 5) ?_
  refine pu 4 109 (bb 12 21) ?_
  refine tu hHeld 1 106 (bb 12 23) ?_
  refine tu hHeld 3 108 (bb 12 31) ?_
  refine tu hHeld 5 110 (bb 12 63) ?_
  refine pu 6 111 (bb 12 127) ?_
  refine tu hHeld 7 112 (bb 12 255) ?_
  refine one_ (i := 8) (N := some 113) (bb 12 511) rfl rfl (by kernel_rfl) (by decide) (fun K hK => ?_)
  refine value_ (w1 := ?_) (v := ?_) (by rfl) rfl ?_ ?_
  rotate_left 2
  · go_simp
    constructor
    · rfl
    · rfl
  refine hK.out _ _ ⟨(cell_alloc q6 _), (cell_alloc r4 _), (cell_alloc y2 _), (cell_alloc hx7 _)⟩ (fun hHeld => ?_)
  clear hK K
  refine norm_ (a' := ?_) ?_ ?_
  rotate_left
  · show Act.put _ (some 113) _ = _
    simp only [Act.put, List.setIfInBounds_toArray, List.set_cons_zero, List.set_cons_succ, i64_w, i32_w]
    rfl
  refine last_ (i := 9) (N := some 114) (bb 12 1023) rfl rfl (by kernel_rfl) (by decide) (fun K hK => ?_)
  refine Kd.R_append_step (Kd.int .i64) (w0 := w3) w3.heap.size (by rfl) (.tmp 106) (.tmp 113) 35 2 (.int .i64 0) 8 rfl Try.underlying35 info2 rfl (by decide) (by omega) (.slice AT nT cT) l6 (rd l4 (rd_T84 (rd_T69 l blk).f0 at_).f2) [.int .i64 (rd l4 (rd_T84 (rd_T69 l blk).f0 at_).f2)] (fun _ => True) (fun _ => False) rfl rfl rfl (fun _ hk => hk.elim) (fun _ _ => trivial) HS7.out.drew.trace HS7.out.drew.below HS7.out.below.size (by omega) ?_
  intro v1 w8 HR8 HB8 HG8 HA8
  obtain ⟨A1, c1, e1⟩ := Kd.R_slice HR8
  generalize (l6 ++ [(rd l4 (rd_T84 (rd_T69 l blk).f0 at_).f2)]).length = m1 at e1
  subst e1
  have hm6 := (HS7.out.drew.mid HG8).1
  have hm7 := (HS7.out.drew.mid HG8).2
  refine hK.out _ _ ?_
  clear hK K
  refine norm_ (a' := ?_) ?_ ?_
  rotate_left
  · show Act.put _ (some 114) _ = _
    simp only [Act.put, List.setIfInBounds_toArray, List.set_cons_zero, List.set_cons_succ, i64_w, i32_w]
    rfl
  refine pu 10 115 (bb 12 2047) ?_
  refine last_ (i := 11) (N := none) (bb 12 4095) rfl rfl (by kernel_rfl) (by decide) (fun K hK => ?_)
  refine skip_ (w1 := ?_) (by rfl) rfl ?_ ?_
  rotate_left
  · go_simp
    rfl
  refine hK.out _ _ ?_
  clear hK K
  refine done_ (by kernel_rfl) ?_
  have HS9' := HS7.out.drew.appended _ _ HR8 HB8 HG8 HA8
  generalize w8.setCell ⟨g, 6, none⟩ (.slice A1 m1 c1) = w9 at HS9' ⊢
  have HS9 := Aside0.mk HS9'
  clear HS9' HR8 HB8 HG8 HA8 hm6 hm7 HS7 q0 q1 q2 q3 q4 q5 q6 q7 r4 y0 y1 y2 y3 y4 y5 y6 hx7 xr hy
  obtain ⟨q0, q1, q2, q3, q4, q5, q6, q7⟩ := HS9.out.cells
  have f2 := HS9.out.frozen 2
  have f7 := HS9.out.frozen 7
  have HSF := Aside0.mk ((HS9.out.put 2 (.int .i64 (wrap64 (at_ + 1))) (PS.mk st blk (wrap64 (at_ + 1)) val l4 l5 (l6 ++ [(rd l4 (rd_T84 (rd_T69 l blk).f0 at_).f2)]) steps) rfl rfl rfl rfl).put 7 (.int .i64 (wrap64 (steps + 1))) (PS.mk st blk (wrap64 (at_ + 1)) val l4 l5 (l6 ++ [(rd l4 (rd_T84 (rd_T69 l blk).f0 at_).f2)]) (wrap64 (steps + 1))) rfl rfl rfl rfl)
  go_wp2_with ((with_reducible refine gate_ (.store 39 (.tmp 4) (.tmp 154)) rfl ?_); go_loud (refine X.store_row_event rfl rfl 39 _ _ rfl (w.heap.size + 1 + 1) _ rfl rfl 39 #[.int .i64 0, .int .i64 0, .int .i64 0, .int .i64 0, .slice none 0 0, .slice none 0 0, .slice none 0 0, .int .i64 0] (blk_below HX2.out HSF.out.below) (by kernel_rfl) rfl (by simp [Value.oneCell']) ?_); intro wz hg5 ho5 hB5; have e0 := (blk_cell hg5 0); have e1 := (blk_cell hg5 1); have e2 := (blk_cell hg5 2); have e3 := (blk_cell hg5 3); have e4 := (blk_cell hg5 4); have e5 := (blk_cell hg5 5); have e6 := (blk_cell hg5 6); have e7 := (blk_cell hg5 7); simp only [List.getElem?_toArray, List.getElem?_cons_zero, List.getElem?_cons_succ] at e0 e1 e2 e3 e4 e5 e6 e7)
  have hlt := blk_lt HX2.out
  exact bodyPost_ret (v := .agg #[.int .i64 st, .int .i64 blk, .int .i64 (wrap64 (at_ + 1)), .int .i64 val, .slice AR l4.length cR, .slice AS nS cS, .slice A1 m1 c1, .int .i64 (wrap64 (steps + 1))]) (by simp [results, Try.results57, go_sem, e0, e1, e2, e3, e4, e5, e6, e7]) rfl ⟨_, _, _, rfl, HSF.out.out HW3.out hlt (by omega) ho5 hB5⟩
end Go.Proofs.Ytgkmagfajalnhaa.E
