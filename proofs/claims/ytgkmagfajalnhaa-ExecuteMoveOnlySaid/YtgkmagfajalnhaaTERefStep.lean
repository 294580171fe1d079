/-
  The reference's Step: the plain function and its contract, for a run without slots whose place lies in the code.
-/
import Derived.Test.YtgkmagfajalnhaaTERefC
import Derived.Test.YtgkmagfajalnhaaTXAlu
import Derived.Test.YtgkmagfajalnhaaTERRead
import Derived.Outline
import Derived.Test.YtgkmagfajalnhaaTERefA
import Derived.Test.YtgkmagfajalnhaaTERefB
import Derived.Test.YtgkmagfajalnhaaTERefD
import Derived.Test.YtgkmagfajalnhaaTERefF
import Derived.Test.YtgkmagfajalnhaaTERefG
import Derived.Test.YtgkmagfajalnhaaTERefH
import Derived.Test.YtgkmagfajalnhaaTYIR6Ref
import Derived.Test.YtgkmagfajalnhaaTEStep
namespace Go.Proofs.Ytgkmagfajalnhaa.E
open Go.RowKit Go.Proofs.YtgkmagfajalnhaaW.PrintWords Go.Proofs.YtgkmagfajalnhaaW.PrintLast Go.Proofs.YtgkmagfajalnhaaW.PrintMore
set_option linter.unusedVariables false
set_option linter.unusedSimpArgs false

set_option maxRecDepth 100000 in
set_option maxHeartbeats 4000000 in
theorem ref_mslot (w : World) (fa fr fs : Int) (A A4 A5 A6 : Option Addr) (cB c4 c5 c6 : Nat) (l : List S69) (st blk at_ val : Int) (l4 l5 l6 : List Int) (steps : Int)
    (hC4 : (Kd.int .i64).C w A4 l4.length l4) (h4 : l4.length ≤ c4) (hC5 : (Kd.int .i64).C w A5 l5.length l5) (h5 : l5.length ≤ c5) (hC6 : (Kd.int .i64).C w A6 l6.length l6) (h6 : l6.length ≤ c6) (hl4 : l4.length < 17592186044416) (hl5 : l5.length < 17592186044416) (hl6 : l6.length < 17592186044416) (hst : (st != 0) = false) (hC : Kd.C k69 w A l.length l) (hb0 : 0 ≤ blk) (hb1 : blk < l.length) (sr : PS) (hat : (at_ == (((rd_T69 l blk).f0).length : Int)) = false) (hi0 : 0 ≤ at_) (hi1 : at_ < ((rd_T69 l blk).f0).length) (hm : ((rd_T84 (rd_T69 l blk).f0 at_).f0 == 18) = true) (rv : Int) (hrd : regcertref10_Read.f st blk at_ val l4 l5 l6 steps (rd_T84 (rd_T69 l blk).f0 at_).f6 = some rv) (hk : (Int.tmod (rd_T84 (rd_T69 l blk).f0 at_).f5 2 == 1) = true) (hd0 : 0 ≤ (wrap64 (Int.tdiv (rd_T84 (rd_T69 l blk).f0 at_).f5 2))) (hd1 : (wrap64 (Int.tdiv (rd_T84 (rd_T69 l blk).f0 at_).f5 2)) < l5.length) (hsr2 : sr = PS.mk st blk (wrap64 (at_ + 1)) val l4 (l5.set (wrap64 (Int.tdiv (rd_T84 (rd_T69 l blk).f0 at_).f5 2)).toNat rv) l6 (wrap64 (steps + 1))) :
    Calls Try.prog 57 #[.agg #[.int .i64 fa, .int .i64 fr, .int .i64 fs, .slice A l.length cB], .agg #[.int .i64 st, .int .i64 blk, .int .i64 at_, .int .i64 val, .slice A4 l4.length c4, .slice A5 l5.length c5, .slice A6 l6.length c6, .int .i64 steps]] w fun e W' => ∃ vR vS vT, e = .returned (.agg #[.int .i64 sr.st, .int .i64 sr.blk, .int .i64 sr.at_, .int .i64 sr.val, vR, vS, vT, .int .i64 sr.steps]) ∧
      (Kd.int .i64).R 2 W' w.heap.size (fun k_ => some k_ ≠ vS.ownBlock ∧ some k_ ≠ vT.ownBlock) vR sr.regs ∧ (Kd.int .i64).R 2 W' w.heap.size (fun k_ => some k_ ≠ vR.ownBlock ∧ some k_ ≠ vT.ownBlock) vS sr.slots ∧ (Kd.int .i64).R 2 W' w.heap.size (fun k_ => some k_ ≠ vR.ownBlock ∧ some k_ ≠ vS.ownBlock) vT sr.trace ∧ Below w.heap.size w W' := by
  subst hsr2
  have hdb : decide ((wrap64 (Int.tdiv (rd_T84 (rd_T69 l blk).f0 at_).f5 2)) < 0) = false := decide_eq_false (by omega)
  have hdc : decide (0 ≤ (wrap64 (Int.tdiv (rd_T84 (rd_T69 l blk).f0 at_).f5 2))) = true := decide_eq_true hd0
  have hdd : decide ((wrap64 (Int.tdiv (rd_T84 (rd_T69 l blk).f0 at_).f5 2)) < (l5.length : Int)) = true := decide_eq_true hd1
  have hu := Try.underlying63
  have hu2 := Try.underlying39
  have hu35 := Try.underlying35
  have hu32 := Try.underlying61
  have hu50 := Try.underlying69
  have hu46 := Try.underlying67
  have hu48 := Try.underlying48
  have hu97 := Try.underlying84
  have HC := Aside0.mk hC
  have HC4 := Aside0.mk hC4
  have HC5 := Aside0.mk hC5
  have HC6 := Aside0.mk hC6
  have hcp : regcertref09_Copy.f st blk at_ val l4 l5 l6 steps = some (st, blk, at_, val, l4, l5, l6, steps) := by
    unfold regcertref09_Copy.f
    simp only [Option.bind_some, List.nil_append, List.length_nil]
    rw [if_pos (by omega), if_pos (by omega), if_pos (by omega)]
  have HW3 := Aside0.mk (below_alloc (below_alloc (below_alloc (Below.refl w.heap.size w) (.cells #[.int .i64 fa, .int .i64 fr, .int .i64 fs, .slice A l.length cB] 63 (0, 0))) (.cells #[.int .i64 st, .int .i64 blk, .int .i64 at_, .int .i64 val, .slice A4 l4.length c4, .slice A5 l5.length c5, .slice A6 l6.length c6, .int .i64 steps] 39 (0, 0))) (.cells #[.int .i64 0, .int .i64 0, .int .i64 0, .int .i64 0, .slice none 0 0, .slice none 0 0, .slice none 0 0, .int .i64 0] 39 (0, 0)))
  have s1 : (w.alloc (.cells #[.int .i64 fa, .int .i64 fr, .int .i64 fs, .slice A l.length cB] 63 (0, 0))).heap.size = w.heap.size + 1 := by simp
  have s2 : ((w.alloc (.cells #[.int .i64 fa, .int .i64 fr, .int .i64 fs, .slice A l.length cB] 63 (0, 0))).alloc (.cells #[.int .i64 st, .int .i64 blk, .int .i64 at_, .int .i64 val, .slice A4 l4.length c4, .slice A5 l5.length c5, .slice A6 l6.length c6, .int .i64 steps] 39 (0, 0))).heap.size = w.heap.size + 1 + 1 := by simp
  have hxr := blk_new (w.alloc (.cells #[.int .i64 fa, .int .i64 fr, .int .i64 fs, .slice A l.length cB] 63 (0, 0))) (.cells #[.int .i64 st, .int .i64 blk, .int .i64 at_, .int .i64 val, .slice A4 l4.length c4, .slice A5 l5.length c5, .slice A6 l6.length c6, .int .i64 steps] 39 (0, 0))
  rw [s1] at hxr
  have hxr2 := Aside0.mk (blk_alloc hxr (.cells #[.int .i64 0, .int .i64 0, .int .i64 0, .int .i64 0, .slice none 0 0, .slice none 0 0, .slice none 0 0, .int .i64 0] 39 (0, 0)))
  have hx2 := blk_new ((w.alloc (.cells #[.int .i64 fa, .int .i64 fr, .int .i64 fs, .slice A l.length cB] 63 (0, 0))).alloc (.cells #[.int .i64 st, .int .i64 blk, .int .i64 at_, .int .i64 val, .slice A4 l4.length c4, .slice A5 l5.length c5, .slice A6 l6.length c6, .int .i64 steps] 39 (0, 0))) (.cells #[.int .i64 0, .int .i64 0, .int .i64 0, .int .i64 0, .slice none 0 0, .slice none 0 0, .slice none 0 0, .int .i64 0] 39 (0, 0))
  rw [s2] at hx2
  have HX2 := Aside0.mk hx2
  have hxf := Aside0.mk (blk_alloc (blk_alloc (blk_new w (.cells #[.int .i64 fa, .int .i64 fr, .int .i64 fs, .slice A l.length cB] 63 (0, 0))) (.cells #[.int .i64 st, .int .i64 blk, .int .i64 at_, .int .i64 val, .slice A4 l4.length c4, .slice A5 l5.length c5, .slice A6 l6.length c6, .int .i64 steps] 39 (0, 0))) (.cells #[.int .i64 0, .int .i64 0, .int .i64 0, .int .i64 0, .slice none 0 0, .slice none 0 0, .slice none 0 0, .int .i64 0] 39 (0, 0)))
  clear hC hC4 hC5 hC6 s1 s2 hxr hx2
  go_enter Try.func57, Try.ntmps57
  go_wp2_with (first
    | ((with_reducible refine gate_callee (f := 38) rfl ?_); generalize hw3 : ((w.alloc (Obj.cells #[.int .i64 fa, .int .i64 fr, .int .i64 fs, .slice A l.length cB] 63)).alloc (Obj.cells #[.int .i64 st, .int .i64 blk, .int .i64 at_, .int .i64 val, .slice A4 l4.length c4, .slice A5 l5.length c5, .slice A6 l6.length c6, .int .i64 steps] 39)).alloc (Obj.cells #[.int .i64 0, .int .i64 0, .int .i64 0, .int .i64 0, .slice none 0 0, .slice none 0 0, .slice none 0 0, .int .i64 0] 39) = w3 at *; clear hw3; go_loud (refine goesL_ (some 12) rfl rfl Try.func38 (by kernel_rfl) rfl #[.agg #[.int .i64 st, .int .i64 blk, .int .i64 at_, .int .i64 val, .slice A4 l4.length c4, .slice A5 l5.length c5, .slice A6 l6.length c6, .int .i64 steps]] rfl (by (try simp only [List.map_toArray, List.map_cons, List.map_nil]); rfl) ?_); go_loud (with_reducible refine (regcertref09_Copy.calls st blk at_ val A4 c4 l4 A5 c5 l5 A6 c6 l6 steps _ _ _ _ _ _ _ _ w3 (Kd.C_below HC4.out HW3.out) h4 (Kd.C_below HC5.out HW3.out) h5 (Kd.C_below HC6.out HW3.out) h6 hcp).mono ?_); rintro e w4 ⟨v4, v5, v6, rfl, hR, hS, hT, hB⟩; refine ⟨_, rfl, ?_⟩; obtain ⟨AR, cR, eR⟩ := Kd.R_slice hR; obtain ⟨AS, cS, eS⟩ := Kd.R_slice hS; obtain ⟨AT, cT, eT⟩ := Kd.R_slice hT; generalize l5.length = nS at eS; generalize l6.length = nT at eT; subst eR eS eT; have XR := blk_cell (blk_below hxr2.out hB) 0; simp only [List.getElem?_toArray, List.getElem?_cons_zero, List.getElem?_cons_succ] at XR; have XA : ∀ o, (w4.alloc o).cell? ⟨w.heap.size + 1, 0, none⟩ = some (.int .i64 st) := fun o => cell_alloc XR o; have YR := Aside0.mk hR; have YS := Aside0.mk hS; have YT := Aside0.mk hT; have YB := Aside0.mk hB; clear hR hS hT hB)
    | ((with_reducible refine gate_ (.store 39 (.tmp 5) (.tmp 12)) rfl ?_); go_loud (refine X.store_row_event rfl rfl 39 _ _ rfl w4.heap.size (rtc st blk at_ val (.slice AR l4.length cR) (.slice AS nS cS) (.slice AT nT cT) steps) rfl rfl 39 #[.int .i64 0, .int .i64 0, .int .i64 0, .int .i64 0, .slice none 0 0, .slice none 0 0, .slice none 0 0, .int .i64 0] (blk_new w4 _) (by kernel_rfl) rfl (by simp [rtc, Value.oneCell']) ?_); intro w5 hg5 ho5 hB5; go_loud (have HS5 := Aside0.mk (Rt.made (s := PS.mk st blk at_ val l4 l5 l6 steps) _ YB.out YR.out YS.out YT.out rfl hg5 ho5 hB5)); clear hg5 ho5 hB5 XR XA YR YS YT; generalize w4.heap.size = g at *; have xr := blk_below hxr2.out HS5.out.below; have r0 := blk_cell xr 0; have r1 := blk_cell xr 1; have r2 := blk_cell xr 2; have r4 := blk_cell xr 4; have xf := blk_cell (blk_below hxf.out HS5.out.below) 3; simp only [List.getElem?_toArray, List.getElem?_cons_zero, List.getElem?_cons_succ] at r0 r1 r2 r4 xf; clear xr YB; go_loud (obtain ⟨ad, A0, c0, eA, e0, e1, e2, e3, e4, _, hI⟩ := at_T69 (Kd.C_below (Kd.C_below HC.out HW3.out) HS5.out.below) blk hb0 hb1); subst eA)
    | ((with_reducible refine gate_ (.store 69 (.tmp 6) (.tmp 22)) rfl ?_); go_loud (refine X.store_row_event rfl rfl 69 _ _ rfl w5.heap.size #[.slice A0 ((rd_T69 l blk).f0).length c0, .int .i64 (rd_T69 l blk).f1.f0, .int .i64 (rd_T69 l blk).f1.f1, .int .i64 (rd_T69 l blk).f1.f2, .int .i64 (rd_T69 l blk).f1.f3] rfl rfl 69 #[.slice none 0 0, .int .i64 0, .int .i64 0, .int .i64 0, .int .i64 0] (blk_new w5 _) (by kernel_rfl) rfl (by simp [Value.oneCell']) ?_); intro w6 hg6 ho6 hB6; go_loud (have hB56 := hB6 w5.heap.size w5 (Nat.le_refl _) (below_alloc (Below.refl _ _) _)); have HB6 := Aside0.mk (below_step HS5.out.below hB56); have HS6 := Aside0.mk (HS5.out.step hB56); have HX6 := Aside0.mk hg6; have HN := Aside0.mk (blk_ne HS6.out.blk hg6 (by decide)); obtain ⟨adI, eI, i0, i1, i2, i3, i4, i5, i6⟩ := at_T84 (Kd.C_below hI hB56) at_ hi0 hi1; subst eI; clear hg6 ho6 hB6 hB56 HS5 r0 r1 r2 r4 xf e0 e1 e2 e3 e4 hI; generalize w5.heap.size = gb at *; clear w5; have xr := blk_below hxr2.out HB6.out; have r0 := blk_cell xr 0; have r1 := blk_cell xr 1; have r2 := blk_cell xr 2; have r4 := blk_cell xr 4; have z0 := blk_cell HX6.out 0; have z1 := blk_cell HX6.out 1; have z2 := blk_cell HX6.out 2; have z3 := blk_cell HX6.out 3; have z4 := blk_cell HX6.out 4; simp only [List.getElem?_toArray, List.getElem?_cons_zero, List.getElem?_cons_succ] at r0 r1 r2 r4 z0 z1 z2 z3 z4; clear xr; obtain ⟨q0, q1, q2, q3, q4, q5, q6, q7⟩ := HS6.out.cells; have f0 := HS6.out.frozen 0; have f1 := HS6.out.frozen 1; have f2 := HS6.out.frozen 2; have f3 := HS6.out.frozen 3; have f6 := HS6.out.frozen 6; have f7 := HS6.out.frozen 7)
    | ((with_reducible refine gate_ (.store 84 (.tmp 7) (.tmp 76)) rfl ?_); go_loud (refine X.store_row_event rfl rfl 84 _ _ rfl w6.heap.size #[.int .i64 (rd_T84 (rd_T69 l blk).f0 at_).f0, .int .i64 (rd_T84 (rd_T69 l blk).f0 at_).f1, .int .i64 (rd_T84 (rd_T69 l blk).f0 at_).f2, .int .i64 (rd_T84 (rd_T69 l blk).f0 at_).f3, .int .i64 (rd_T84 (rd_T69 l blk).f0 at_).f4, .int .i64 (rd_T84 (rd_T69 l blk).f0 at_).f5, .int .i64 (rd_T84 (rd_T69 l blk).f0 at_).f6] rfl rfl 84 #[.int .i64 0, .int .i64 0, .int .i64 0, .int .i64 0, .int .i64 0, .int .i64 0, .int .i64 0] (blk_new w6 _) (by kernel_rfl) rfl (by simp [Value.oneCell']) ?_); intro w7 hg7 ho7 hB7; go_loud (have HS7 := Aside0.mk (HS6.out.step (hB7 w6.heap.size w6 (Nat.le_refl _) (below_alloc (Below.refl _ _) _)))); clear ho7 hB7 r0 r1 r2 r4 z0 z1 z2 z3 z4 q0 q1 q2 q3 q4 q5 q6 q7 f0 f1 f2 f3 f6 f7 i0 i1 i2 i3 i4 i5 i6 HS6 HX6; generalize w6.heap.size = gi at *; have xr := blk_below hxr2.out HS7.out.below; have r0 := blk_cell xr 0; have r1 := blk_cell xr 1; have r2 := blk_cell xr 2; have r3 := blk_cell xr 3; have r4 := blk_cell xr 4; have r5 := blk_cell xr 5; have r6 := blk_cell xr 6; have r7 := blk_cell xr 7; simp only [List.getElem?_toArray, List.getElem?_cons_zero, List.getElem?_cons_succ] at r0 r1 r2 r3 r4 r5 r6 r7; have y0 := blk_cell hg7 0; have y1 := blk_cell hg7 1; have y2 := blk_cell hg7 2; have y3 := blk_cell hg7 3; have y4 := blk_cell hg7 4; have y5 := blk_cell hg7 5; have y6 := blk_cell hg7 6; simp only [List.getElem?_toArray, List.getElem?_cons_zero, List.getElem?_cons_succ] at y0 y1 y2 y3 y4 y5 y6; clear xr hg7)
    | ((with_reducible refine gate_callee (f := 54) rfl ?_); go_loud (refine goesL_ (some 83) rfl rfl Try.func54 (by kernel_rfl) rfl #[.agg #[.int .i64 st, .int .i64 blk, .int .i64 at_, .int .i64 val, .slice A4 l4.length c4, .slice A5 l5.length c5, .slice A6 l6.length c6, .int .i64 steps], .int .i64 (rd_T84 (rd_T69 l blk).f0 at_).f6] rfl (by (try simp only [List.map_toArray, List.map_cons, List.map_nil]); rfl) ?_); go_loud (with_reducible refine (regcertref10_Read.calls st blk at_ val A4 c4 l4 A5 c5 l5 A6 c6 l6 steps (rd_T84 (rd_T69 l blk).f0 at_).f6 rv w7 (Kd.C_below HC4.out (below_step HW3.out HS7.out.below)) h4 (Kd.C_below HC5.out (below_step HW3.out HS7.out.below)) h5 (Kd.C_below HC6.out (below_step HW3.out HS7.out.below)) h6 hrd).mono ?_); rintro e w8 ⟨rfl, hb⟩; refine ⟨_, rfl, ?_⟩; have HS8 := Aside0.mk (HS7.out.step hb); have y5' := cell_below hb y5; clear y0 y1 y2 y3 y4 y5 y6 r0 r1 r2 r3 r4 r5 r6 r7 HS7 hb; obtain ⟨bR, cR', eR', hd3, hd4⟩ := R_open HS8.out.slots (wrap64 (Int.tdiv (rd_T84 (rd_T69 l blk).f0 at_).f5 2)) hd0 hd1; injection eR' with eR' eN' eC'; subst eR' eN' eC'; have HSP := Aside0.mk (HS8.out.putSlot (wrap64 (Int.tdiv (rd_T84 (rd_T69 l blk).f0 at_).f5 2)) rv); obtain ⟨q0, q1, q2, q3, q4, q5, q6, q7⟩ := HS8.out.cells; obtain ⟨p0, p1, p2, p3, p4, p5, p6, p7⟩ := HSP.out.cells; have f2 := HSP.out.frozen 2; have f7 := HSP.out.frozen 7; have HSF := Aside0.mk ((HSP.out.put 2 (.int .i64 (wrap64 (at_ + 1))) (PS.mk st blk (wrap64 (at_ + 1)) val l4 (l5.set (wrap64 (Int.tdiv (rd_T84 (rd_T69 l blk).f0 at_).f5 2)).toNat rv) l6 steps) rfl rfl rfl rfl).put 7 (.int .i64 (wrap64 (steps + 1))) (PS.mk st blk (wrap64 (at_ + 1)) val l4 (l5.set (wrap64 (Int.tdiv (rd_T84 (rd_T69 l blk).f0 at_).f5 2)).toNat rv) l6 (wrap64 (steps + 1))) rfl rfl rfl rfl))
    | ((with_reducible refine gate_ (.store 39 (.tmp 4) (.tmp 154)) rfl ?_); go_loud (refine X.store_row_event rfl rfl 39 _ _ rfl (w.heap.size + 1 + 1) _ rfl rfl 39 #[.int .i64 0, .int .i64 0, .int .i64 0, .int .i64 0, .slice none 0 0, .slice none 0 0, .slice none 0 0, .int .i64 0] (blk_below HX2.out HSF.out.below) (by kernel_rfl) rfl (by simp [Value.oneCell']) ?_); intro wz hg5 ho5 hB5; have e0 := (blk_cell hg5 0); have e1 := (blk_cell hg5 1); have e2 := (blk_cell hg5 2); have e3 := (blk_cell hg5 3); have e4 := (blk_cell hg5 4); have e5 := (blk_cell hg5 5); have e6 := (blk_cell hg5 6); have e7 := (blk_cell hg5 7); simp only [List.getElem?_toArray, List.getElem?_cons_zero, List.getElem?_cons_succ] at e0 e1 e2 e3 e4 e5 e6 e7))
  have hlt := blk_lt HX2.out
  exact bodyPost_ret (v := .agg #[.int .i64 st, .int .i64 blk, .int .i64 (wrap64 (at_ + 1)), .int .i64 val, .slice AR l4.length cR, .slice (some ⟨bR, 0, none⟩) l5.length cS, .slice AT nT cT, .int .i64 (wrap64 (steps + 1))]) (by simp [results, Try.results57, go_sem, e0, e1, e2, e3, e4, e5, e6, e7]) rfl ⟨_, _, _, rfl, HSF.out.out HW3.out hlt (by omega) ho5 hB5⟩
end Go.Proofs.Ytgkmagfajalnhaa.E
namespace Go.Proofs.Ytgkmagfajalnhaa.E
open Go.RowKit Go.Proofs.YtgkmagfajalnhaaW.PrintWords Go.Proofs.YtgkmagfajalnhaaW.PrintLast Go.Proofs.YtgkmagfajalnhaaW.PrintMore
set_option linter.unusedVariables false
set_option linter.unusedSimpArgs false

set_option maxRecDepth 100000 in
set_option maxHeartbeats 4000000 in
theorem ref_mreg (w : World) (fa fr fs : Int) (A A4 A5 A6 : Option Addr) (cB c4 c5 c6 : Nat) (l : List S69) (st blk at_ val : Int) (l4 l5 l6 : List Int) (steps : Int)
    (hC4 : (Kd.int .i64).C w A4 l4.length l4) (h4 : l4.length ≤ c4) (hC5 : (Kd.int .i64).C w A5 l5.length l5) (h5 : l5.length ≤ c5) (hC6 : (Kd.int .i64).C w A6 l6.length l6) (h6 : l6.length ≤ c6) (hl4 : l4.length < 17592186044416) (hl5 : l5.length < 17592186044416) (hl6 : l6.length < 17592186044416) (hst : (st != 0) = false) (hC : Kd.C k69 w A l.length l) (hb0 : 0 ≤ blk) (hb1 : blk < l.length) (sr : PS) (hat : (at_ == (((rd_T69 l blk).f0).length : Int)) = false) (hi0 : 0 ≤ at_) (hi1 : at_ < ((rd_T69 l blk).f0).length) (hm : ((rd_T84 (rd_T69 l blk).f0 at_).f0 == 18) = true) (rv : Int) (hrd : regcertref10_Read.f st blk at_ val l4 l5 l6 steps (rd_T84 (rd_T69 l blk).f0 at_).f6 = some rv) (hk : (Int.tmod (rd_T84 (rd_T69 l blk).f0 at_).f5 2 == 1) = false) (hd0 : 0 ≤ (wrap64 (Int.tdiv (rd_T84 (rd_T69 l blk).f0 at_).f5 2))) (hd1 : (wrap64 (Int.tdiv (rd_T84 (rd_T69 l blk).f0 at_).f5 2)) < l4.length) (hsr2 : sr = PS.mk st blk (wrap64 (at_ + 1)) val (l4.set (wrap64 (Int.tdiv (rd_T84 (rd_T69 l blk).f0 at_).f5 2)).toNat rv) l5 l6 (wrap64 (steps + 1))) :
    Calls Try.prog 57 #[.agg #[.int .i64 fa, .int .i64 fr, .int .i64 fs, .slice A l.length cB], .agg #[.int .i64 st, .int .i64 blk, .int .i64 at_, .int .i64 val, .slice A4 l4.length c4, .slice A5 l5.length c5, .slice A6 l6.length c6, .int .i64 steps]] w fun e W' => ∃ vR vS vT, e = .returned (.agg #[.int .i64 sr.st, .int .i64 sr.blk, .int .i64 sr.at_, .int .i64 sr.val, vR, vS, vT, .int .i64 sr.steps]) ∧
      (Kd.int .i64).R 2 W' w.heap.size (fun k_ => some k_ ≠ vS.ownBlock ∧ some k_ ≠ vT.ownBlock) vR sr.regs ∧ (Kd.int .i64).R 2 W' w.heap.size (fun k_ => some k_ ≠ vR.ownBlock ∧ some k_ ≠ vT.ownBlock) vS sr.slots ∧ (Kd.int .i64).R 2 W' w.heap.size (fun k_ => some k_ ≠ vR.ownBlock ∧ some k_ ≠ vS.ownBlock) vT sr.trace ∧ Below w.heap.size w W' := by
  subst hsr2
  have hdb : decide ((wrap64 (Int.tdiv (rd_T84 (rd_T69 l blk).f0 at_).f5 2)) < 0) = false := decide_eq_false (by omega)
  have hdc : decide (0 ≤ (wrap64 (Int.tdiv (rd_T84 (rd_T69 l blk).f0 at_).f5 2))) = true := decide_eq_true hd0
  have hdd : decide ((wrap64 (Int.tdiv (rd_T84 (rd_T69 l blk).f0 at_).f5 2)) < (l4.length : Int)) = true := decide_eq_true hd1
  have hu := Try.underlying63
  have hu2 := Try.underlying39
  have hu35 := Try.underlying35
  have hu32 := Try.underlying61
  have hu50 := Try.underlying69
  have hu46 := Try.underlying67
  have hu48 := Try.underlying48
  have hu97 := Try.underlying84
  have HC := Aside0.mk hC
  have HC4 := Aside0.mk hC4
  have HC5 := Aside0.mk hC5
  have HC6 := Aside0.mk hC6
  have hcp : regcertref09_Copy.f st blk at_ val l4 l5 l6 steps = some (st, blk, at_, val, l4, l5, l6, steps) := by
    unfold regcertref09_Copy.f
    simp only [Option.bind_some, List.nil_append, List.length_nil]
    rw [if_pos (by omega), if_pos (by omega), if_pos (by omega)]
  have HW3 := Aside0.mk (below_alloc (below_alloc (below_alloc (Below.refl w.heap.size w) (.cells #[.int .i64 fa, .int .i64 fr, .int .i64 fs, .slice A l.length cB] 63 (0, 0))) (.cells #[.int .i64 st, .int .i64 blk, .int .i64 at_, .int .i64 val, .slice A4 l4.length c4, .slice A5 l5.length c5, .slice A6 l6.length c6, .int .i64 steps] 39 (0, 0))) (.cells #[.int .i64 0, .int .i64 0, .int .i64 0, .int .i64 0, .slice none 0 0, .slice none 0 0, .slice none 0 0, .int .i64 0] 39 (0, 0)))
  have s1 : (w.alloc (.cells #[.int .i64 fa, .int .i64 fr, .int .i64 fs, .slice A l.length cB] 63 (0, 0))).heap.size = w.heap.size + 1 := by simp
  have s2 : ((w.alloc (.cells #[.int .i64 fa, .int .i64 fr, .int .i64 fs, .slice A l.length cB] 63 (0, 0))).alloc (.cells #[.int .i64 st, .int .i64 blk, .int .i64 at_, .int .i64 val, .slice A4 l4.length c4, .slice A5 l5.length c5, .slice A6 l6.length c6, .int .i64 steps] 39 (0, 0))).heap.size = w.heap.size + 1 + 1 := by simp
  have hxr := blk_new (w.alloc (.cells #[.int .i64 fa, .int .i64 fr, .int .i64 fs, .slice A l.length cB] 63 (0, 0))) (.cells #[.int .i64 st, .int .i64 blk, .int .i64 at_, .int .i64 val, .slice A4 l4.length c4, .slice A5 l5.length c5, .slice A6 l6.length c6, .int .i64 steps] 39 (0, 0))
  rw [s1] at hxr
  have hxr2 := Aside0.mk (blk_alloc hxr (.cells #[.int .i64 0, .int .i64 0, .int .i64 0, .int .i64 0, .slice none 0 0, .slice none 0 0, .slice none 0 0, .int .i64 0] 39 (0, 0)))
  have hx2 := blk_new ((w.alloc (.cells #[.int .i64 fa, .int .i64 fr, .int .i64 fs, .slice A l.length cB] 63 (0, 0))).alloc (.cells #[.int .i64 st, .int .i64 blk, .int .i64 at_, .int .i64 val, .slice A4 l4.length c4, .slice A5 l5.length c5, .slice A6 l6.length c6, .int .i64 steps] 39 (0, 0))) (.cells #[.int .i64 0, .int .i64 0, .int .i64 0, .int .i64 0, .slice none 0 0, .slice none 0 0, .slice none 0 0, .int .i64 0] 39 (0, 0))
  rw [s2] at hx2
  have HX2 := Aside0.mk hx2
  have hxf := Aside0.mk (blk_alloc (blk_alloc (blk_new w (.cells #[.int .i64 fa, .int .i64 fr, .int .i64 fs, .slice A l.length cB] 63 (0, 0))) (.cells #[.int .i64 st, .int .i64 blk, .int .i64 at_, .int .i64 val, .slice A4 l4.length c4, .slice A5 l5.length c5, .slice A6 l6.length c6, .int .i64 steps] 39 (0, 0))) (.cells #[.int .i64 0, .int .i64 0, .int .i64 0, .int .i64 0, .slice none 0 0, .slice none 0 0, .slice none 0 0, .int .i64 0] 39 (0, 0)))
  clear hC hC4 hC5 hC6 s1 s2 hxr hx2
  go_enter Try.func57, Try.ntmps57
  go_wp2_with (first
    | ((with_reducible refine gate_callee (f := 38) rfl ?_); generalize hw3 : ((w.alloc (Obj.cells #[.int .i64 fa, .int .i64 fr, .int .i64 fs, .slice A l.length cB] 63)).alloc (Obj.cells #[.int .i64 st, .int .i64 blk, .int .i64 at_, .int .i64 val, .slice A4 l4.length c4, .slice A5 l5.length c5, .slice A6 l6.length c6, .int .i64 steps] 39)).alloc (Obj.cells #[.int .i64 0, .int .i64 0, .int .i64 0, .int .i64 0, .slice none 0 0, .slice none 0 0, .slice none 0 0, .int .i64 0] 39) = w3 at *; clear hw3; go_loud (refine goesL_ (some 12) rfl rfl Try.func38 (by kernel_rfl) rfl #[.agg #[.int .i64 st, .int .i64 blk, .int .i64 at_, .int .i64 val, .slice A4 l4.length c4, .slice A5 l5.length c5, .slice A6 l6.length c6, .int .i64 steps]] rfl (by (try simp only [List.map_toArray, List.map_cons, List.map_nil]); rfl) ?_); go_loud (with_reducible refine (regcertref09_Copy.calls st blk at_ val A4 c4 l4 A5 c5 l5 A6 c6 l6 steps _ _ _ _ _ _ _ _ w3 (Kd.C_below HC4.out HW3.out) h4 (Kd.C_below HC5.out HW3.out) h5 (Kd.C_below HC6.out HW3.out) h6 hcp).mono ?_); rintro e w4 ⟨v4, v5, v6, rfl, hR, hS, hT, hB⟩; refine ⟨_, rfl, ?_⟩; obtain ⟨AR, cR, eR⟩ := Kd.R_slice hR; obtain ⟨AS, cS, eS⟩ := Kd.R_slice hS; obtain ⟨AT, cT, eT⟩ := Kd.R_slice hT; generalize l5.length = nS at eS; generalize l6.length = nT at eT; subst eR eS eT; have XR := blk_cell (blk_below hxr2.out hB) 0; simp only [List.getElem?_toArray, List.getElem?_cons_zero, List.getElem?_cons_succ] at XR; have XA : ∀ o, (w4.alloc o).cell? ⟨w.heap.size + 1, 0, none⟩ = some (.int .i64 st) := fun o => cell_alloc XR o; have YR := Aside0.mk hR; have YS := Aside0.mk hS; have YT := Aside0.mk hT; have YB := Aside0.mk hB; clear hR hS hT hB)
    | ((with_reducible refine gate_ (.store 39 (.tmp 5) (.tmp 12)) rfl ?_); go_loud (refine X.store_row_event rfl rfl 39 _ _ rfl w4.heap.size (rtc st blk at_ val (.slice AR l4.length cR) (.slice AS nS cS) (.slice AT nT cT) steps) rfl rfl 39 #[.int .i64 0, .int .i64 0, .int .i64 0, .int .i64 0, .slice none 0 0, .slice none 0 0, .slice none 0 0, .int .i64 0] (blk_new w4 _) (by kernel_rfl) rfl (by simp [rtc, Value.oneCell']) ?_); intro w5 hg5 ho5 hB5; go_loud (have HS5 := Aside0.mk (Rt.made (s := PS.mk st blk at_ val l4 l5 l6 steps) _ YB.out YR.out YS.out YT.out rfl hg5 ho5 hB5)); clear hg5 ho5 hB5 XR XA YR YS YT; generalize w4.heap.size = g at *; have xr := blk_below hxr2.out HS5.out.below; have r0 := blk_cell xr 0; have r1 := blk_cell xr 1; have r2 := blk_cell xr 2; have r4 := blk_cell xr 4; have xf := blk_cell (blk_below hxf.out HS5.out.below) 3; simp only [List.getElem?_toArray, List.getElem?_cons_zero, List.getElem?_cons_succ] at r0 r1 r2 r4 xf; clear xr YB; go_loud (obtain ⟨ad, A0, c0, eA, e0, e1, e2, e3, e4, _, hI⟩ := at_T69 (Kd.C_below (Kd.C_below HC.out HW3.out) HS5.out.below) blk hb0 hb1); subst eA)
    | ((with_reducible refine gate_ (.store 69 (.tmp 6) (.tmp 22)) rfl ?_); go_loud (refine X.store_row_event rfl rfl 69 _ _ rfl w5.heap.size #[.slice A0 ((rd_T69 l blk).f0).length c0, .int .i64 (rd_T69 l blk).f1.f0, .int .i64 (rd_T69 l blk).f1.f1, .int .i64 (rd_T69 l blk).f1.f2, .int .i64 (rd_T69 l blk).f1.f3] rfl rfl 69 #[.slice none 0 0, .int .i64 0, .int .i64 0, .int .i64 0, .int .i64 0] (blk_new w5 _) (by kernel_rfl) rfl (by simp [Value.oneCell']) ?_); intro w6 hg6 ho6 hB6; go_loud (have hB56 := hB6 w5.heap.size w5 (Nat.le_refl _) (below_alloc (Below.refl _ _) _)); have HB6 := Aside0.mk (below_step HS5.out.below hB56); have HS6 := Aside0.mk (HS5.out.step hB56); have HX6 := Aside0.mk hg6; have HN := Aside0.mk (blk_ne HS6.out.blk hg6 (by decide)); obtain ⟨adI, eI, i0, i1, i2, i3, i4, i5, i6⟩ := at_T84 (Kd.C_below hI hB56) at_ hi0 hi1; subst eI; clear hg6 ho6 hB6 hB56 HS5 r0 r1 r2 r4 xf e0 e1 e2 e3 e4 hI; generalize w5.heap.size = gb at *; clear w5; have xr := blk_below hxr2.out HB6.out; have r0 := blk_cell xr 0; have r1 := blk_cell xr 1; have r2 := blk_cell xr 2; have r4 := blk_cell xr 4; have z0 := blk_cell HX6.out 0; have z1 := blk_cell HX6.out 1; have z2 := blk_cell HX6.out 2; have z3 := blk_cell HX6.out 3; have z4 := blk_cell HX6.out 4; simp only [List.getElem?_toArray, List.getElem?_cons_zero, List.getElem?_cons_succ] at r0 r1 r2 r4 z0 z1 z2 z3 z4; clear xr; obtain ⟨q0, q1, q2, q3, q4, q5, q6, q7⟩ := HS6.out.cells; have f0 := HS6.out.frozen 0; have f1 := HS6.out.frozen 1; have f2 := HS6.out.frozen 2; have f3 := HS6.out.frozen 3; have f6 := HS6.out.frozen 6; have f7 := HS6.out.frozen 7)
    | ((with_reducible refine gate_ (.store 84 (.tmp 7) (.tmp 76)) rfl ?_); go_loud (refine X.store_row_event rfl rfl 84 _ _ rfl w6.heap.size #[.int .i64 (rd_T84 (rd_T69 l blk).f0 at_).f0, .int .i64 (rd_T84 (rd_T69 l blk).f0 at_).f1, .int .i64 (rd_T84 (rd_T69 l blk).f0 at_).f2, .int .i64 (rd_T84 (rd_T69 l blk).f0 at_).f3, .int .i64 (rd_T84 (rd_T69 l blk).f0 at_).f4, .int .i64 (rd_T84 (rd_T69 l blk).f0 at_).f5, .int .i64 (rd_T84 (rd_T69 l blk).f0 at_).f6] rfl rfl 84 #[.int .i64 0, .int .i64 0, .int .i64 0, .int .i64 0, .int .i64 0, .int .i64 0, .int .i64 0] (blk_new w6 _) (by kernel_rfl) rfl (by simp [Value.oneCell']) ?_); intro w7 hg7 ho7 hB7; go_loud (have HS7 := Aside0.mk (HS6.out.step (hB7 w6.heap.size w6 (Nat.le_refl _) (below_alloc (Below.refl _ _) _)))); clear ho7 hB7 r0 r1 r2 r4 z0 z1 z2 z3 z4 q0 q1 q2 q3 q4 q5 q6 q7 f0 f1 f2 f3 f6 f7 i0 i1 i2 i3 i4 i5 i6 HS6 HX6; generalize w6.heap.size = gi at *; have xr := blk_below hxr2.out HS7.out.below; have r0 := blk_cell xr 0; have r1 := blk_cell xr 1; have r2 := blk_cell xr 2; have r3 := blk_cell xr 3; have r4 := blk_cell xr 4; have r5 := blk_cell xr 5; have r6 := blk_cell xr 6; have r7 := blk_cell xr 7; simp only [List.getElem?_toArray, List.getElem?_cons_zero, List.getElem?_cons_succ] at r0 r1 r2 r3 r4 r5 r6 r7; have y0 := blk_cell hg7 0; have y1 := blk_cell hg7 1; have y2 := blk_cell hg7 2; have y3 := blk_cell hg7 3; have y4 := blk_cell hg7 4; have y5 := blk_cell hg7 5; have y6 := blk_cell hg7 6; simp only [List.getElem?_toArray, List.getElem?_cons_zero, List.getElem?_cons_succ] at y0 y1 y2 y3 y4 y5 y6; clear xr hg7)
    | ((with_reducible refine gate_callee (f := 54) rfl ?_); go_loud (refine goesL_ (some 83) rfl rfl Try.func54 (by kernel_rfl) rfl #[.agg #[.int .i64 st, .int .i64 blk, .int .i64 at_, .int .i64 val, .slice A4 l4.length c4, .slice A5 l5.length c5, .slice A6 l6.length c6, .int .i64 steps], .int .i64 (rd_T84 (rd_T69 l blk).f0 at_).f6] rfl (by (try simp only [List.map_toArray, List.map_cons, List.map_nil]); rfl) ?_); go_loud (with_reducible refine (regcertref10_Read.calls st blk at_ val A4 c4 l4 A5 c5 l5 A6 c6 l6 steps (rd_T84 (rd_T69 l blk).f0 at_).f6 rv w7 (Kd.C_below HC4.out (below_step HW3.out HS7.out.below)) h4 (Kd.C_below HC5.out (below_step HW3.out HS7.out.below)) h5 (Kd.C_below HC6.out (below_step HW3.out HS7.out.below)) h6 hrd).mono ?_); rintro e w8 ⟨rfl, hb⟩; refine ⟨_, rfl, ?_⟩; have HS8 := Aside0.mk (HS7.out.step hb); have y5' := cell_below hb y5; clear y0 y1 y2 y3 y4 y5 y6 r0 r1 r2 r3 r4 r5 r6 r7 HS7 hb; obtain ⟨bR, cR', eR', hd3, hd4⟩ := R_open HS8.out.regs (wrap64 (Int.tdiv (rd_T84 (rd_T69 l blk).f0 at_).f5 2)) hd0 hd1; injection eR' with eR' eN' eC'; subst eR' eC'; have HSP := Aside0.mk (HS8.out.putReg (wrap64 (Int.tdiv (rd_T84 (rd_T69 l blk).f0 at_).f5 2)) rv); obtain ⟨q0, q1, q2, q3, q4, q5, q6, q7⟩ := HS8.out.cells; obtain ⟨p0, p1, p2, p3, p4, p5, p6, p7⟩ := HSP.out.cells; have f2 := HSP.out.frozen 2; have f7 := HSP.out.frozen 7; have HSF := Aside0.mk ((HSP.out.put 2 (.int .i64 (wrap64 (at_ + 1))) (PS.mk st blk (wrap64 (at_ + 1)) val (l4.set (wrap64 (Int.tdiv (rd_T84 (rd_T69 l blk).f0 at_).f5 2)).toNat rv) l5 l6 steps) rfl rfl rfl rfl).put 7 (.int .i64 (wrap64 (steps + 1))) (PS.mk st blk (wrap64 (at_ + 1)) val (l4.set (wrap64 (Int.tdiv (rd_T84 (rd_T69 l blk).f0 at_).f5 2)).toNat rv) l5 l6 (wrap64 (steps + 1))) rfl rfl rfl rfl))
    | ((with_reducible refine gate_ (.store 39 (.tmp 4) (.tmp 154)) rfl ?_); go_loud (refine X.store_row_event rfl rfl 39 _ _ rfl (w.heap.size + 1 + 1) _ rfl rfl 39 #[.int .i64 0, .int .i64 0, .int .i64 0, .int .i64 0, .slice none 0 0, .slice none 0 0, .slice none 0 0, .int .i64 0] (blk_below HX2.out HSF.out.below) (by kernel_rfl) rfl (by simp [Value.oneCell']) ?_); intro wz hg5 ho5 hB5; have e0 := (blk_cell hg5 0); have e1 := (blk_cell hg5 1); have e2 := (blk_cell hg5 2); have e3 := (blk_cell hg5 3); have e4 := (blk_cell hg5 4); have e5 := (blk_cell hg5 5); have e6 := (blk_cell hg5 6); have e7 := (blk_cell hg5 7); simp only [List.getElem?_toArray, List.getElem?_cons_zero, List.getElem?_cons_succ] at e0 e1 e2 e3 e4 e5 e6 e7))
  have hlt := blk_lt HX2.out
  exact bodyPost_ret (v := .agg #[.int .i64 st, .int .i64 blk, .int .i64 (wrap64 (at_ + 1)), .int .i64 val, .slice (some ⟨bR, 0, none⟩) l4.length cR, .slice AS nS cS, .slice AT nT cT, .int .i64 (wrap64 (steps + 1))]) (by simp [results, Try.results57, go_sem, e0, e1, e2, e3, e4, e5, e6, e7]) rfl ⟨_, _, _, rfl, HSF.out.out HW3.out hlt (by omega) ho5 hB5⟩
end Go.Proofs.Ytgkmagfajalnhaa.E
namespace Go.Proofs.Ytgkmagfajalnhaa.E
open Go.RowKit Go.Proofs.YtgkmagfajalnhaaW.PrintWords Go.Proofs.YtgkmagfajalnhaaW.PrintLast Go.Proofs.YtgkmagfajalnhaaW.PrintMore Go.Proofs.Ytgkmagfajalnhaa.Num

set_option linter.unusedVariables false

/-- The values of a list are 64-bit integers. -/
def all64 (l : List Int) : Bool := l.all fun x => decide (-9223372036854775808 ≤ x) && decide (x ≤ 9223372036854775807)
theorem all64_iff (l : List Int) : all64 l = true ↔ ∀ x ∈ l, I64 x := by
  unfold all64 I64
  rw [List.all_eq_true]
  constructor
  · intro h x hx
    have := h x hx
    rw [Bool.and_eq_true, decide_eq_true_iff, decide_eq_true_iff] at this
    omega
  · intro h x hx
    have := h x hx
    rw [Bool.and_eq_true, decide_eq_true_iff, decide_eq_true_iff]
    omega
theorem rd64 {l : List Int} (h : all64 l = true) (i : Int) (h0 : 0 ≤ i) (h1 : i < l.length) : I64 (rdOf (0 : Int) l i) := by
  apply (all64_iff l).mp h
  unfold rdOf
  have : i.toNat < l.length := by omega
  rw [List.getD_eq_getElem?_getD, List.getElem?_eq_getElem this]
  exact List.getElem_mem _

def regcertref10_Step.f (a0_0 a0_1 a0_2 : Int) (l0_3 : List S69) (a1_0 a1_1 a1_2 a1_3 : Int) (l1_4 l1_5 l1_6 : List Int) (a1_7 : Int) : Option (Int × Int × Int × Int × List Int × List Int × List Int × Int) :=
  if l1_4.length < 17592186044416 ∧ l1_5.length < 17592186044416 ∧ l1_6.length < 17592186044416 ∧ all64 l1_4 = true then
    (if a1_0 = 0 then
      (if a1_2 ≤ ((rd_T69 l0_3 a1_1).f0).length ∧ (a1_2 = ((rd_T69 l0_3 a1_1).f0).length → ((rd_T69 l0_3 a1_1).f1.f0 = 3 ∨ (rd_T69 l0_3 a1_1).f1.f0 = 1) ∨ (rd_T69 l0_3 a1_1).f1.f0 = 2) then (stepP l0_3 (PS.mk a1_0 a1_1 a1_2 a1_3 l1_4 l1_5 l1_6 a1_7)).bind fun s => some (s.st, s.blk, s.at_, s.val, s.regs, s.slots, s.trace, s.steps) else none)
     else some (a1_0, a1_1, a1_2, a1_3, l1_4, l1_5, l1_6, a1_7))
  else none

theorem regcertref10_Step.calls (a0_0 : Int) (a0_1 : Int) (a0_2 : Int) (A0_3 : Option Addr) (c0_3 : Nat) (l0_3 : List (S69)) (a1_0 : Int) (a1_1 : Int) (a1_2 : Int) (a1_3 : Int) (A1_4 : Option Addr) (c1_4 : Nat) (l1_4 : List Int) (A1_5 : Option Addr) (c1_5 : Nat) (l1_5 : List Int) (A1_6 : Option Addr) (c1_6 : Nat) (l1_6 : List Int) (a1_7 : Int)
    (r1 : Int) (r2 : Int) (r3 : Int) (r4 : Int) (r5 : List Int) (r6 : List Int) (r7 : List Int) (r8 : Int) (w : World)
    (hr0_3 : Kd.C k69 w A0_3 l0_3.length l0_3) (hc0_3 : l0_3.length ≤ c0_3) (hr1_4 : Kd.C (Kd.int .i64) w A1_4 l1_4.length l1_4) (hc1_4 : l1_4.length ≤ c1_4) (hr1_5 : Kd.C (Kd.int .i64) w A1_5 l1_5.length l1_5) (hc1_5 : l1_5.length ≤ c1_5) (hr1_6 : Kd.C (Kd.int .i64) w A1_6 l1_6.length l1_6) (hc1_6 : l1_6.length ≤ c1_6)
    (h : regcertref10_Step.f a0_0 a0_1 a0_2 l0_3 a1_0 a1_1 a1_2 a1_3 l1_4 l1_5 l1_6 a1_7 = some (r1, r2, r3, r4, r5, r6, r7, r8)) :
    Calls Try.prog 57 #[.agg #[.int .i64 a0_0, .int .i64 a0_1, .int .i64 a0_2, .slice A0_3 l0_3.length c0_3], .agg #[.int .i64 a1_0, .int .i64 a1_1, .int .i64 a1_2, .int .i64 a1_3, .slice A1_4 l1_4.length c1_4, .slice A1_5 l1_5.length c1_5, .slice A1_6 l1_6.length c1_6, .int .i64 a1_7]] w fun e w' =>
      ∃ v4_ v5_ v6_ : Value, e = .returned (.agg #[.int .i64 r1, .int .i64 r2, .int .i64 r3, .int .i64 r4, v4_, v5_, v6_, .int .i64 r8]) ∧
        Kd.R (Kd.int .i64) 2 w' w.heap.size (fun k_ => some k_ ≠ (v5_ : Value).ownBlock ∧ some k_ ≠ (v6_ : Value).ownBlock) v4_ r5 ∧
        Kd.R (Kd.int .i64) 2 w' w.heap.size (fun k_ => some k_ ≠ (v4_ : Value).ownBlock ∧ some k_ ≠ (v6_ : Value).ownBlock) v5_ r6 ∧
        Kd.R (Kd.int .i64) 2 w' w.heap.size (fun k_ => some k_ ≠ (v4_ : Value).ownBlock ∧ some k_ ≠ (v5_ : Value).ownBlock) v6_ r7 ∧ Below w.heap.size w w' := by
  unfold regcertref10_Step.f at h
  by_cases hc : l1_4.length < 17592186044416 ∧ l1_5.length < 17592186044416 ∧ l1_6.length < 17592186044416 ∧ all64 l1_4 = true
  rotate_left
  ·rw [if_neg hc] at h
   cases h
  rw [if_pos hc] at h
  obtain ⟨hl4, hl5, hl6, h64⟩ := hc
  by_cases h0 : a1_0 = 0
  rotate_left
  ·rw [if_neg h0] at h
   injection h with hq
   injection hq with q1 hq
   injection hq with q2 hq
   injection hq with q3 hq
   injection hq with q4 hq
   injection hq with q5 hq
   injection hq with q6 hq
   injection hq with q7 q8
   subst q1 q2 q3 q4 q5 q6 q7 q8
   exact ref_stay w a0_0 a0_1 a0_2 A0_3 A1_4 A1_5 A1_6 c0_3 c1_4 c1_5 c1_6 l0_3 a1_0 a1_1 a1_2 a1_3 l1_4 l1_5 l1_6 a1_7 hr1_4 hc1_4 hr1_5 hc1_5 hr1_6 hc1_6 hl4 hl5 hl6 (by simpa using h0)
  rw [if_pos h0] at h
  by_cases hlk : a1_2 ≤ ((rd_T69 l0_3 a1_1).f0).length ∧ (a1_2 = ((rd_T69 l0_3 a1_1).f0).length → ((rd_T69 l0_3 a1_1).f1.f0 = 3 ∨ (rd_T69 l0_3 a1_1).f1.f0 = 1) ∨ (rd_T69 l0_3 a1_1).f1.f0 = 2)
  rotate_left
  ·rw [if_neg hlk] at h
   cases h
  rw [if_pos hlk] at h
  obtain ⟨hle, hkd⟩ := hlk
  obtain ⟨s, hs, hq⟩ := Option.bind_eq_some_iff.mp h
  injection hq with hq
  injection hq with q1 hq
  injection hq with q2 hq
  injection hq with q3 hq
  injection hq with q4 hq
  injection hq with q5 hq
  injection hq with q6 hq
  injection hq with q7 q8
  subst q1 q2 q3 q4 q5 q6 q7 q8
  have hst : (a1_0 != 0) = false := by rw [h0]; rfl
  unfold stepP at hs
  dsimp only at hs
  by_cases hb : 0 ≤ a1_1 ∧ a1_1 < l0_3.length
  rotate_left
  ·rw [if_neg hb] at hs
   cases hs
  rw [if_pos hb] at hs
  by_cases ha : a1_2 < ((rd_T69 l0_3 a1_1).f0).length
  rotate_left
  ·rw [if_neg ha] at hs
   have hat : (a1_2 == (((rd_T69 l0_3 a1_1).f0).length : Int)) = true := beq_iff_eq.mpr (by omega)
   unfold termP at hs
   dsimp only at hs
   by_cases k3 : (rd_T69 l0_3 a1_1).f1.f0 = 3
   ·rw [if_pos k3] at hs
    by_cases hr : 0 ≤ (rd_T69 l0_3 a1_1).f1.f1 ∧ (rd_T69 l0_3 a1_1).f1.f1 < l1_4.length
    rotate_left
    ·rw [if_neg hr] at hs
     cases hs
    rw [if_pos hr] at hs
    exact ref_ret w a0_0 a0_1 a0_2 A0_3 A1_4 A1_5 A1_6 c0_3 c1_4 c1_5 c1_6 l0_3 a1_0 a1_1 a1_2 a1_3 l1_4 l1_5 l1_6 a1_7 hr1_4 hc1_4 hr1_5 hc1_5 hr1_6 hc1_6 hl4 hl5 hl6 hst hr0_3 hb.1 hb.2 s (Option.some.inj hs).symm hat (beq_iff_eq.mpr k3) hr.1 hr.2
   rw [if_neg k3] at hs
   by_cases k1 : (rd_T69 l0_3 a1_1).f1.f0 = 1
   ·rw [if_pos k1] at hs
    exact ref_go w a0_0 a0_1 a0_2 A0_3 A1_4 A1_5 A1_6 c0_3 c1_4 c1_5 c1_6 l0_3 a1_0 a1_1 a1_2 a1_3 l1_4 l1_5 l1_6 a1_7 hr1_4 hc1_4 hr1_5 hc1_5 hr1_6 hc1_6 hl4 hl5 hl6 hst hr0_3 hb.1 hb.2 s (Option.some.inj hs).symm hat (beq_eq_false_iff_ne.mpr k3) (beq_eq_false_iff_ne.mpr (by omega))
   rw [if_neg k1] at hs
   have k2 : (rd_T69 l0_3 a1_1).f1.f0 = 2 := by rcases hkd (by omega) with (q | q) | q <;> omega
   by_cases hr : 0 ≤ (rd_T69 l0_3 a1_1).f1.f1 ∧ (rd_T69 l0_3 a1_1).f1.f1 < l1_4.length
   rotate_left
   ·rw [if_neg hr] at hs
    cases hs
   rw [if_pos hr] at hs
   by_cases hz : rdOf (0 : Int) l1_4 (rd_T69 l0_3 a1_1).f1.f1 = 0
   rotate_left
   ·rw [if_neg hz] at hs
    exact ref_then w a0_0 a0_1 a0_2 A0_3 A1_4 A1_5 A1_6 c0_3 c1_4 c1_5 c1_6 l0_3 a1_0 a1_1 a1_2 a1_3 l1_4 l1_5 l1_6 a1_7 hr1_4 hc1_4 hr1_5 hc1_5 hr1_6 hc1_6 hl4 hl5 hl6 hst hr0_3 hb.1 hb.2 s (Option.some.inj hs).symm hat (beq_eq_false_iff_ne.mpr k3) (beq_iff_eq.mpr k2) hr.1 hr.2 (beq_eq_false_iff_ne.mpr hz)
   rw [if_pos hz] at hs
   exact ref_else w a0_0 a0_1 a0_2 A0_3 A1_4 A1_5 A1_6 c0_3 c1_4 c1_5 c1_6 l0_3 a1_0 a1_1 a1_2 a1_3 l1_4 l1_5 l1_6 a1_7 hr1_4 hc1_4 hr1_5 hc1_5 hr1_6 hc1_6 hl4 hl5 hl6 hst hr0_3 hb.1 hb.2 s (Option.some.inj hs).symm hat (beq_eq_false_iff_ne.mpr k3) (beq_iff_eq.mpr k2) hr.1 hr.2 (beq_iff_eq.mpr hz)
  rw [if_pos ha] at hs
  have hat : (a1_2 == (((rd_T69 l0_3 a1_1).f0).length : Int)) = false := beq_eq_false_iff_ne.mpr (by omega)
  by_cases ha0 : 0 ≤ a1_2
  rotate_left
  ·rw [if_neg ha0] at hs
   cases hs
  rw [if_pos ha0] at hs
  unfold instrP at hs
  dsimp only at hs
  by_cases h18 : (rd_T84 (rd_T69 l0_3 a1_1).f0 a1_2).f0 = 18
  · rw [if_pos h18] at hs
    by_cases hr : LocOK (PS.mk a1_0 a1_1 a1_2 a1_3 l1_4 l1_5 l1_6 a1_7) (rd_T84 (rd_T69 l0_3 a1_1).f0 a1_2).f5 ∧ LocOK (PS.mk a1_0 a1_1 a1_2 a1_3 l1_4 l1_5 l1_6 a1_7) (rd_T84 (rd_T69 l0_3 a1_1).f0 a1_2).f6
    · rw [if_pos hr] at hs
      have hrd : regcertref10_Read.f a1_0 a1_1 a1_2 a1_3 l1_4 l1_5 l1_6 a1_7 (rd_T84 (rd_T69 l0_3 a1_1).f0 a1_2).f6 = some (locP (PS.mk a1_0 a1_1 a1_2 a1_3 l1_4 l1_5 l1_6 a1_7) (rd_T84 (rd_T69 l0_3 a1_1).f0 a1_2).f6) := by
        have h2 := hr.2
        unfold LocOK at h2
        unfold regcertref10_Read.f locP
        dsimp only at h2 ⊢
        by_cases hk : Int.tmod (rd_T84 (rd_T69 l0_3 a1_1).f0 a1_2).f6 2 = 1
        · rw [if_pos hk, if_pos h2.1]
          rw [if_pos (beq_iff_eq.mpr hk)] at h2 ⊢
          rw [if_pos h2.2]
          rfl
        · rw [if_neg hk, if_pos h2.1]
          rw [if_neg (fun e => hk (beq_iff_eq.mp e))] at h2 ⊢
          rw [if_pos h2.2]
          rfl
      have h1 := hr.1
      unfold LocOK at h1
      dsimp only at h1
      unfold setLoc at hs
      by_cases hk : (Int.tmod (rd_T84 (rd_T69 l0_3 a1_1).f0 a1_2).f5 2 == 1) = true
      · rw [if_pos hk] at h1 hs
        exact ref_mslot w a0_0 a0_1 a0_2 A0_3 A1_4 A1_5 A1_6 c0_3 c1_4 c1_5 c1_6 l0_3 a1_0 a1_1 a1_2 a1_3 l1_4 l1_5 l1_6 a1_7 hr1_4 hc1_4 hr1_5 hc1_5 hr1_6 hc1_6 hl4 hl5 hl6 hst hr0_3 hb.1 hb.2 s hat ha0 ha (beq_iff_eq.mpr h18) _ hrd hk h1.1 h1.2 (Option.some.inj hs).symm
      · rw [if_neg hk] at h1 hs
        exact ref_mreg w a0_0 a0_1 a0_2 A0_3 A1_4 A1_5 A1_6 c0_3 c1_4 c1_5 c1_6 l0_3 a1_0 a1_1 a1_2 a1_3 l1_4 l1_5 l1_6 a1_7 hr1_4 hc1_4 hr1_5 hc1_5 hr1_6 hc1_6 hl4 hl5 hl6 hst hr0_3 hb.1 hb.2 s hat ha0 ha (beq_iff_eq.mpr h18) _ hrd (by simpa using hk) h1.1 h1.2 (Option.some.inj hs).symm
    · rw [if_neg hr] at hs
      cases hs
  rw [if_neg h18] at hs
  by_cases h17 : (rd_T84 (rd_T69 l0_3 a1_1).f0 a1_2).f0 = 17
  ·rw [if_pos h17] at hs
   by_cases hr : 0 ≤ (rd_T84 (rd_T69 l0_3 a1_1).f0 a1_2).f2 ∧ (rd_T84 (rd_T69 l0_3 a1_1).f0 a1_2).f2 < l1_4.length ∧ (l1_6.length + 1) * 8 ≤ 140737488355328
   rotate_left
   ·rw [if_neg hr] at hs
    cases hs
   rw [if_pos hr] at hs
   exact ref_emit w a0_0 a0_1 a0_2 A0_3 A1_4 A1_5 A1_6 c0_3 c1_4 c1_5 c1_6 l0_3 a1_0 a1_1 a1_2 a1_3 l1_4 l1_5 l1_6 a1_7 hr1_4 hc1_4 hr1_5 hc1_5 hr1_6 hc1_6 hl4 hl5 hl6 hst hr0_3 hb.1 hb.2 s hat ha0 ha (beq_eq_false_iff_ne.mpr h18) (beq_iff_eq.mpr h17) hr.1 hr.2.1 (Option.some.inj hs).symm
  rw [if_neg h17] at hs
  by_cases hr : 0 ≤ (rd_T84 (rd_T69 l0_3 a1_1).f0 a1_2).f2 ∧ (rd_T84 (rd_T69 l0_3 a1_1).f0 a1_2).f2 < l1_4.length ∧ 0 ≤ (rd_T84 (rd_T69 l0_3 a1_1).f0 a1_2).f3 ∧ (rd_T84 (rd_T69 l0_3 a1_1).f0 a1_2).f3 < l1_4.length
  rotate_left
  ·rw [if_neg hr] at hs
   cases hs
  rw [if_pos hr] at hs
  obtain ⟨kk, hk⟩ := X.eval_ref (rd_T84 (rd_T69 l0_3 a1_1).f0 a1_2).f0 (rdOf (0 : Int) l1_4 (rd_T84 (rd_T69 l0_3 a1_1).f0 a1_2).f2) (rdOf (0 : Int) l1_4 (rd_T84 (rd_T69 l0_3 a1_1).f0 a1_2).f3) (rd_T84 (rd_T69 l0_3 a1_1).f0 a1_2).f4 (rd64 h64 _ hr.1 hr.2.1) (rd64 h64 _ hr.2.2.1 hr.2.2.2)
  have hev := hk kk (Nat.le_refl _)
  obtain ⟨⟨rv, rok⟩, hev2, hs⟩ := Option.bind_eq_some_iff.mp hs
  unfold X.alu_Eval.f at hev2
  rw [Option.some.inj hev2] at hev
  dsimp only at hs
  cases rok
  · rw [if_neg (by simp)] at hs
    exact ref_stuck w a0_0 a0_1 a0_2 A0_3 A1_4 A1_5 A1_6 c0_3 c1_4 c1_5 c1_6 l0_3 a1_0 a1_1 a1_2 a1_3 l1_4 l1_5 l1_6 a1_7 hr1_4 hc1_4 hr1_5 hc1_5 hr1_6 hc1_6 hl4 hl5 hl6 hst hr0_3 hb.1 hb.2 s hat ha0 ha (beq_eq_false_iff_ne.mpr h18) (beq_eq_false_iff_ne.mpr h17) hr.1 hr.2.1 hr.2.2.1 hr.2.2.2 rv kk hev (Option.some.inj hs).symm
  · rw [if_pos rfl] at hs
    by_cases hd : 0 ≤ (rd_T84 (rd_T69 l0_3 a1_1).f0 a1_2).f1 ∧ (rd_T84 (rd_T69 l0_3 a1_1).f0 a1_2).f1 < l1_4.length
    · rw [if_pos hd] at hs
      exact ref_value w a0_0 a0_1 a0_2 A0_3 A1_4 A1_5 A1_6 c0_3 c1_4 c1_5 c1_6 l0_3 a1_0 a1_1 a1_2 a1_3 l1_4 l1_5 l1_6 a1_7 hr1_4 hc1_4 hr1_5 hc1_5 hr1_6 hc1_6 hl4 hl5 hl6 hst hr0_3 hb.1 hb.2 s hat ha0 ha (beq_eq_false_iff_ne.mpr h18) (beq_eq_false_iff_ne.mpr h17) hr.1 hr.2.1 hr.2.2.1 hr.2.2.2 hd.1 hd.2 rv kk hev (Option.some.inj hs).symm
    · rw [if_neg hd] at hs
      cases hs

end Go.Proofs.Ytgkmagfajalnhaa.E
