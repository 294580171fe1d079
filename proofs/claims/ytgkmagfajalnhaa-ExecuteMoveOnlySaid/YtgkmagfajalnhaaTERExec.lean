-- Written by a program of this session (xprint), out of the translation. Not trusted: Lean checks it.
import Derived.Test.YtgkmagfajalnhaaTE0
import Derived.Test.YtgkmagfajalnhaaTERefStep
import Derived.Test.YtgkmagfajalnhaaTERStart
import Derived.Test.YtgkmagfajalnhaaTERRead
namespace Go.Proofs.Ytgkmagfajalnhaa.E
open Go.RowKit Go.Proofs.YtgkmagfajalnhaaW.PrintWords Go.Proofs.YtgkmagfajalnhaaW.PrintLast Go.Proofs.YtgkmagfajalnhaaW.PrintMore
attribute [local go_sem] max2_int min2_int max_two min_two max_three min_three max_four min_four   -- for this text's walks alone
set_option linter.unusedVariables false
set_option linter.unusedSimpArgs false

/-! ### regcertref10_Exec: function 51 -/
mutual
def regcertref10_Exec.l0 : Nat → Int → Int → Int → Int → List (S69) → Int → Int → Int → Int → List Int → List Int → List Int → Int → Option (Int × Int × Int × Int × List Int × List Int × List Int × Int)
 | 0, _, _, _, _, _, _, _, _, _, _, _, _, _ => none
 | k + 1, x2, x278000, x278001, x278002, x278003, x294000, x294001, x294002, x294003, x294004, x294005, x294006, x294007 => if x294000 = 0 then (regcertref10_Exec.j1 k x2 (decide (x294007 < x2)) x278000 x278001 x278002 x278003 x294000 x294001 x294002 x294003 x294004 x294005 x294006 x294007) else (regcertref10_Exec.j1 k x2 false x278000 x278001 x278002 x278003 x294000 x294001 x294002 x294003 x294004 x294005 x294006 x294007)
def regcertref10_Exec.j1 : Nat → Int → Bool → Int → Int → Int → List (S69) → Int → Int → Int → Int → List Int → List Int → List Int → Int → Option (Int × Int × Int × Int × List Int × List Int × List Int × Int)
 | 0, _, _, _, _, _, _, _, _, _, _, _, _, _, _ => none
 | k + 1, x2, x19, x278000, x278001, x278002, x278003, x294000, x294001, x294002, x294003, x294004, x294005, x294006, x294007 => if x19 = true then ((regcertref10_Step.f x278000 x278001 x278002 x278003 x294000 x294001 x294002 x294003 x294004 x294005 x294006 x294007).bind fun bt294 => (regcertref10_Exec.l0 k x2 x278000 x278001 x278002 x278003 bt294.1 bt294.2.1 bt294.2.2.1 bt294.2.2.2.1 bt294.2.2.2.2.1 bt294.2.2.2.2.2.1 bt294.2.2.2.2.2.2.1 bt294.2.2.2.2.2.2.2)) else (some (x294000, x294001, x294002, x294003, x294004, x294005, x294006, x294007))
end
def regcertref10_Exec.f (k : Nat) (a0_0 : Int) (a0_1 : Int) (a0_2 : Int) (l0_3 : List (S69)) (l1 : List Int) (a2 : Int) : Option (Int × Int × Int × Int × List Int × List Int × List Int × Int) := (regcertref10_Start.f k a0_0 a0_1 a0_2 l0_3 l1).bind fun bt279 => (regcertref10_Exec.l0 k a2 a0_0 a0_1 a0_2 l0_3 bt279.1 bt279.2.1 bt279.2.2.1 bt279.2.2.2.1 bt279.2.2.2.2.1 bt279.2.2.2.2.2.1 bt279.2.2.2.2.2.2.1 bt279.2.2.2.2.2.2.2)
theorem regcertref10_Exec.mono_l : ∀ k, (∀ y0 y1 y2 y3 y4 y5 y6 y7 y8 y9 y10 y11 y12, LeO (regcertref10_Exec.l0 k y0 y1 y2 y3 y4 y5 y6 y7 y8 y9 y10 y11 y12) (regcertref10_Exec.l0 (k + 1) y0 y1 y2 y3 y4 y5 y6 y7 y8 y9 y10 y11 y12)) ∧ (∀ y0 y1 y2 y3 y4 y5 y6 y7 y8 y9 y10 y11 y12 y13, LeO (regcertref10_Exec.j1 k y0 y1 y2 y3 y4 y5 y6 y7 y8 y9 y10 y11 y12 y13) (regcertref10_Exec.j1 (k + 1) y0 y1 y2 y3 y4 y5 y6 y7 y8 y9 y10 y11 y12 y13))
 | 0 => ⟨fun _ _ _ _ _ _ _ _ _ _ _ _ _ r h => by simp [regcertref10_Exec.l0] at h, fun _ _ _ _ _ _ _ _ _ _ _ _ _ _ r h => by simp [regcertref10_Exec.j1] at h⟩
 | k + 1 => by
  obtain ⟨ih0, ih1⟩ := regcertref10_Exec.mono_l k
  refine ⟨?_, ?_⟩
  ·intro y0 y1 y2 y3 y4 y5 y6 y7 y8 y9 y10 y11 y12
   unfold regcertref10_Exec.l0
   repeat' first
   | (with_reducible exact ih0 _ _ _ _ _ _ _ _ _ _ _ _ _)
   | (with_reducible exact ih1 _ _ _ _ _ _ _ _ _ _ _ _ _ _)
   | (with_reducible exact regcertref10_Start.mono _ _ _ _ _ _)
   | (with_reducible exact LeO.refl _)
   | (with_reducible exact LeO.none _)
   | (with_reducible refine LeO.ite ?_ ?_)
   | (with_reducible refine LeO.bind ?_ (fun _ => ?_))
   | exact ih0 _ _ _ _ _ _ _ _ _ _ _ _ _
   | exact ih1 _ _ _ _ _ _ _ _ _ _ _ _ _ _
   | exact regcertref10_Start.mono _ _ _ _ _ _
   | exact LeO.none _
   | refine LeO.ite ?_ ?_
   | refine LeO.bind ?_ (fun _ => ?_)
  ·intro y0 y1 y2 y3 y4 y5 y6 y7 y8 y9 y10 y11 y12 y13
   unfold regcertref10_Exec.j1
   repeat' first
   | (with_reducible exact ih0 _ _ _ _ _ _ _ _ _ _ _ _ _)
   | (with_reducible exact ih1 _ _ _ _ _ _ _ _ _ _ _ _ _ _)
   | (with_reducible exact regcertref10_Start.mono _ _ _ _ _ _)
   | (with_reducible exact LeO.refl _)
   | (with_reducible exact LeO.none _)
   | (with_reducible refine LeO.ite ?_ ?_)
   | (with_reducible refine LeO.bind ?_ (fun _ => ?_))
   | exact ih0 _ _ _ _ _ _ _ _ _ _ _ _ _
   | exact ih1 _ _ _ _ _ _ _ _ _ _ _ _ _ _
   | exact regcertref10_Start.mono _ _ _ _ _ _
   | exact LeO.none _
   | refine LeO.ite ?_ ?_
   | refine LeO.bind ?_ (fun _ => ?_)
theorem regcertref10_Exec.mono : ∀ a0 a1 a2 a3 a4 a5 k, LeO (regcertref10_Exec.f k a0 a1 a2 a3 a4 a5) (regcertref10_Exec.f (k + 1) a0 a1 a2 a3 a4 a5) := by
 intro a0 a1 a2 a3 a4 a5 k
 obtain ⟨ih0, ih1⟩ := regcertref10_Exec.mono_l k
 unfold regcertref10_Exec.f
 repeat' first
   | (with_reducible exact ih0 _ _ _ _ _ _ _ _ _ _ _ _ _)
   | (with_reducible exact ih1 _ _ _ _ _ _ _ _ _ _ _ _ _ _)
   | (with_reducible exact regcertref10_Start.mono _ _ _ _ _ _)
   | (with_reducible exact LeO.refl _)
   | (with_reducible exact LeO.none _)
   | (with_reducible refine LeO.ite ?_ ?_)
   | (with_reducible refine LeO.bind ?_ (fun _ => ?_))
   | exact ih0 _ _ _ _ _ _ _ _ _ _ _ _ _
   | exact ih1 _ _ _ _ _ _ _ _ _ _ _ _ _ _
   | exact regcertref10_Start.mono _ _ _ _ _ _
   | exact LeO.none _
   | refine LeO.ite ?_ ?_
   | refine LeO.bind ?_ (fun _ => ?_)
set_option maxHeartbeats 8000000 in
set_option maxRecDepth 100000 in
theorem regcertref10_Exec.calls (k : Nat) (a0_0 : Int) (a0_1 : Int) (a0_2 : Int) (A0_3 : Option Addr) (c0_3 : Nat) (l0_3 : List (S69)) (A1 : Option Addr) (c1 : Nat) (l1 : List Int) (a2 : Int) (r1 : Int) (r2 : Int) (r3 : Int) (r4 : Int) (r5 : List Int) (r6 : List Int) (r7 : List Int) (r8 : Int) (w : World) (hr0_3 : Kd.C k69 w A0_3 l0_3.length l0_3) (hc0_3 : l0_3.length ≤ c0_3) (hr1 : Kd.C (Kd.int .i64) w A1 l1.length l1) (hc1 : l1.length ≤ c1) (h : regcertref10_Exec.f k a0_0 a0_1 a0_2 l0_3 l1 a2 = some (r1, r2, r3, r4, r5, r6, r7, r8)) :
  Calls Try.prog 51 #[.agg #[.int .i64 a0_0, .int .i64 a0_1, .int .i64 a0_2, .slice A0_3 l0_3.length c0_3], .slice A1 l1.length c1, .int .i64 a2] w fun e w' => ∃ v4_ v5_ v6_ : Value, e = .returned (.agg #[.int .i64 r1, .int .i64 r2, .int .i64 r3, .int .i64 r4, v4_, v5_, v6_, .int .i64 r8]) ∧ Kd.R (Kd.int .i64) 2 w' w.heap.size (fun k_ => some k_ ≠ (v5_ : Value).ownBlock ∧ some k_ ≠ (v6_ : Value).ownBlock) v4_ r5 ∧ Kd.R (Kd.int .i64) 2 w' w.heap.size (fun k_ => some k_ ≠ (v4_ : Value).ownBlock ∧ some k_ ≠ (v6_ : Value).ownBlock) v5_ r6 ∧ Kd.R (Kd.int .i64) 2 w' w.heap.size (fun k_ => some k_ ≠ (v4_ : Value).ownBlock ∧ some k_ ≠ (v5_ : Value).ownBlock) v6_ r7 ∧ Below w.heap.size w w' := by
 have hu63 := Try.underlying63
 have hu39 := Try.underlying39
 have HR0_3 := As0 hr0_3
 have HC0_3 := As0 hc0_3
 clear hr0_3 hc0_3
 have HR1 := As0 hr1
 have HC1 := As0 hc1
 clear hr1 hc1
 have HB := As0 (Below.refl w.heap.size w)
 have H : ((regcertref10_Start.f k a0_0 a0_1 a0_2 l0_3 l1).bind fun bt279 => (regcertref10_Exec.l0 k a2 a0_0 a0_1 a0_2 l0_3 bt279.1 bt279.2.1 bt279.2.2.1 bt279.2.2.2.1 bt279.2.2.2.2.1 bt279.2.2.2.2.2.1 bt279.2.2.2.2.2.2.1 bt279.2.2.2.2.2.2.2)) = some (r1, r2, r3, r4, r5, r6, r7, r8) := h
 clear h
 replace H := Option.bind_eq_some_iff.mp H
 obtain ⟨⟨t279, t280, t281, t282, t283, t286, t289, t292⟩, A40, H⟩ := H
 have A4 := As0 A40
 clear A40
 have H' := As0 H
 clear H
 go_enter Try.func51, Try.ntmps51
 go_wp2_with (first | ((with_reducible refine gate_dst (N := 3) rfl ?_); refine bX (N := 3) (cs := #[.int .i64 a0_0, .int .i64 a0_1, .int .i64 a0_2, .slice A0_3 l0_3.length c0_3]) (t := 63) ?_; intro gb277 hg w5 hbox hb; have BK277 := As0 (hbox); have GW277 := As0 ((by rw [hg]; exact (below_size (BU HB.out)) : w.heap.size ≤ gb277)); have GE277 := As0 ((by rw [hg]; exact (below_size (BU HB.out)) : w.heap.size ≤ gb277)); replace HB := As0 (below_step (BU HB.out) hb); clear hb hbox hg) | ((with_reducible refine gate_dst (N := 6) rfl ?_); refine bX (N := 6) (cs := #[.int .i64 0, .int .i64 0, .int .i64 0, .int .i64 0, .slice none 0 0, .slice none 0 0, .slice none 0 0, .int .i64 0]) (t := 39) ?_; intro gb278 hg w6 hbox hb; have BK278 := As0 (hbox); have GW278 := As0 ((by rw [hg]; exact (below_size (BU HB.out)) : w.heap.size ≤ gb278)); have GE278 := As0 ((by rw [hg]; exact (below_size (BU HB.out)) : w.heap.size ≤ gb278)); replace HB := As0 (below_step (BU HB.out) hb); have NB277_278 := As0 ((by rw [hg]; exact Nat.ne_of_lt (blk_lt (bU BK277.out)) : gb277 ≠ gb278)); have NB278_277 := As0 ((by rw [hg]; exact Nat.ne_of_gt (blk_lt (bU BK277.out)) : gb278 ≠ gb277)); replace BK277 := As0 (blk_below (bU BK277.out) hb); clear hb hbox hg; have hnb7 := NB277_278.out; have hnc7 := NB278_277.out; obtain ⟨hcz8_0, hcz8_1, hcz8_2, hcz8_3, hfz8_0, hfz8_1, hfz8_2, hfz8_3⟩ := cN4 BK277.out) | ((with_reducible refine gate_callee (f := 55) rfl ?_); refine goesL_ (some 10) rfl rfl Try.func55 (by kernel_rfl) rfl #[.agg #[.int .i64 a0_0, .int .i64 a0_1, .int .i64 a0_2, .slice A0_3 l0_3.length c0_3], .slice A1 l1.length c1] rfl (by (try simp only [List.map_toArray, List.map_cons, List.map_nil]); first | done | rfl | (simp only [List.length_drop, List.length_take]; rfl)) ?_; (with_reducible refine (regcertref10_Start.calls k a0_0 a0_1 a0_2 _ _ l0_3 _ _ l1 t279 t280 t281 t282 t283 t286 t289 t292 _ ?side1 ?side2 ?side3 ?side4 A4.out).mono ?_); (case side1 => repeat (first | exact (Kd.C_below HR0_3.out HB.out) | (with_reducible refine Kd.C_alloc ?_ _) | (with_reducible refine Kd.C_drewN ?_ _) | (with_reducible refine Kd.C_drew ?_))); (case side2 => exact HC0_3.out); (case side3 => repeat (first | exact (Kd.C_below HR1.out HB.out) | (with_reducible refine Kd.C_alloc ?_ _) | (with_reducible refine Kd.C_drewN ?_ _) | (with_reducible refine Kd.C_drew ?_))); (case side4 => exact HC1.out); rintro e w9 ⟨v284, v287, v290, rfl, ho0, ho1, ho2, hb⟩; refine ⟨_, rfl, ?_⟩; have HO285 := As0 (Kd.R_lower ho0 (below_size (BU HB.out))); have HO288 := As0 (Kd.R_lower ho1 (below_size (BU HB.out))); have HO291 := As0 (Kd.R_lower ho2 (below_size (BU HB.out))); replace BK277 := As0 (blk_below (bU BK277.out) hb); replace BK278 := As0 (blk_below (bU BK278.out) hb); replace HB := As0 (below_step (BU HB.out) hb); (try clear hb); (try clear hb2); (try clear hk); (try clear hi); (try clear ho0); (try clear ho1); (try clear ho2)) | ((with_reducible refine gate_dst (N := 7) rfl ?_); refine bX (N := 7) (cs := #[.int .i64 0, .int .i64 0, .int .i64 0, .int .i64 0, .slice none 0 0, .slice none 0 0, .slice none 0 0, .int .i64 0]) (t := 39) ?_; intro gb293 hg w10 hbox hb; replace HO285 := As0 (Kd.R_below (RU HO285.out) hb); replace HO288 := As0 (Kd.R_below (RU HO288.out) hb); replace HO291 := As0 (Kd.R_below (RU HO291.out) hb); have BK293 := As0 (hbox); have GW293 := As0 ((by rw [hg]; exact (below_size (BU HB.out)) : w.heap.size ≤ gb293)); have GE293 := As0 ((by rw [hg]; exact (below_size (BU HB.out)) : w.heap.size ≤ gb293)); replace HB := As0 (below_step (BU HB.out) hb); have NB277_293 := As0 ((by rw [hg]; exact Nat.ne_of_lt (blk_lt (bU BK277.out)) : gb277 ≠ gb293)); have NB293_277 := As0 ((by rw [hg]; exact Nat.ne_of_gt (blk_lt (bU BK277.out)) : gb293 ≠ gb277)); replace BK277 := As0 (blk_below (bU BK277.out) hb); have NB278_293 := As0 ((by rw [hg]; exact Nat.ne_of_lt (blk_lt (bU BK278.out)) : gb278 ≠ gb293)); have NB293_278 := As0 ((by rw [hg]; exact Nat.ne_of_gt (blk_lt (bU BK278.out)) : gb293 ≠ gb278)); replace BK278 := As0 (blk_below (bU BK278.out) hb); clear hb hbox hg; have hnb11 := NB293_277.out; have hnc11 := NB277_293.out; have hnb12 := NB293_278.out; have hnc12 := NB278_293.out; obtain ⟨hcz13_0, hcz13_1, hcz13_2, hcz13_3, hcz13_4, hcz13_5, hcz13_6, hcz13_7, hfz13_0, hfz13_1, hfz13_2, hfz13_3, hfz13_4, hfz13_5, hfz13_6, hfz13_7⟩ := cN8 BK293.out; obtain ⟨Ao14, co14, eo14⟩ := Kd.R_slice HO285.out; subst eo14; obtain ⟨Ao15, co15, eo15⟩ := Kd.R_slice HO288.out; subst eo15; obtain ⟨Ao16, co16, eo16⟩ := Kd.R_slice HO291.out; subst eo16))
 go_loopg [] k (fun kq w' => ∃ (x294000_1 : Int) (x294001_1 : Int) (x294002_1 : Int) (x294003_1 : Int) (x294004_1 : List Int) (x294005_1 : List Int) (x294006_1 : List Int) (x294007_1 : Int) (u294004 : Value) (u294005 : Value) (u294006 : Value), Aside0 (regcertref10_Exec.l0 kq a2 a0_0 a0_1 a0_2 l0_3 x294000_1 x294001_1 x294002_1 x294003_1 x294004_1 x294005_1 x294006_1 x294007_1 = some (r1, r2, r3, r4, r5, r6, r7, r8)) ∧ Aside0 (kq ≤ k) ∧ Aside0 (Kd.R (Kd.int .i64) 2 w' w.heap.size (fun k_ => some k_ ≠ (u294005 : Value).ownBlock ∧ some k_ ≠ (u294006 : Value).ownBlock) u294004 x294004_1) ∧ Aside0 (Kd.R (Kd.int .i64) 2 w' w.heap.size (fun k_ => some k_ ≠ (u294004 : Value).ownBlock ∧ some k_ ≠ (u294006 : Value).ownBlock) u294005 x294005_1) ∧ Aside0 (Kd.R (Kd.int .i64) 2 w' w.heap.size (fun k_ => some k_ ≠ (u294004 : Value).ownBlock ∧ some k_ ≠ (u294005 : Value).ownBlock) u294006 x294006_1) ∧ Aside0 (w'.heap[gb277]? = some (.cells #[.int .i64 a0_0, .int .i64 a0_1, .int .i64 a0_2, (.slice A0_3 l0_3.length c0_3)] 63 (0, 0))) ∧ Aside0 (w'.heap[gb278]? = some (.cells #[.int .i64 0, .int .i64 0, .int .i64 0, .int .i64 0, (.slice none 0 0), (.slice none 0 0), (.slice none 0 0), .int .i64 0] 39 (0, 0))) ∧ Aside0 (w'.heap[gb293]? = some (.cells #[.int .i64 x294000_1, .int .i64 x294001_1, .int .i64 x294002_1, .int .i64 x294003_1, u294004, u294005, u294006, .int .i64 x294007_1] 39 (0, 0))) ∧ Aside0 (Below w.heap.size w w'))
 case atStart => exact ⟨(t279), (t280), (t281), (t282), (t283), (t286), (t289), (t292), (.slice Ao14 t283.length co14), (.slice Ao15 t286.length co15), (.slice Ao16 t289.length co16), H', ⟨Nat.le_refl _⟩, ⟨RU (Kd.R_mono (R8 (Kd.R_types HO285.out BK293.out (by decide))) (fun _ hk => ⟨hk.1.1, hk.1.2⟩))⟩, ⟨RU (Kd.R_mono (R8 (Kd.R_types HO288.out BK293.out (by decide))) (fun _ hk => ⟨hk.1.1, hk.1.2⟩))⟩, ⟨RU (Kd.R_mono (R8 (Kd.R_types HO291.out BK293.out (by decide))) (fun _ hk => ⟨hk.1.1, hk.1.2⟩))⟩, ⟨by (with_reducible repeat (first | refine bN ?_ _ | refine bD ?_ | refine bA ?_ _)); refine blk_far ?_ NB277_293.out _; (with_reducible repeat (first | refine bN ?_ _ | refine bD ?_ | refine bA ?_ _)); refine blk_far ?_ NB277_293.out _; (with_reducible repeat (first | refine bN ?_ _ | refine bD ?_ | refine bA ?_ _)); refine blk_far ?_ NB277_293.out _; (with_reducible repeat (first | refine bN ?_ _ | refine bD ?_ | refine bA ?_ _)); refine blk_far ?_ NB277_293.out _; (with_reducible repeat (first | refine bN ?_ _ | refine bD ?_ | refine bA ?_ _)); refine blk_far ?_ NB277_293.out _; (with_reducible repeat (first | refine bN ?_ _ | refine bD ?_ | refine bA ?_ _)); refine blk_far ?_ NB277_293.out _; (with_reducible repeat (first | refine bN ?_ _ | refine bD ?_ | refine bA ?_ _)); refine blk_far ?_ NB277_293.out _; (with_reducible repeat (first | refine bN ?_ _ | refine bD ?_ | refine bA ?_ _)); refine blk_far ?_ NB277_293.out _; (with_reducible repeat (first | refine bN ?_ _ | refine bD ?_ | refine bA ?_ _)); exact BK277.out⟩, ⟨by (with_reducible repeat (first | refine bN ?_ _ | refine bD ?_ | refine bA ?_ _)); refine blk_far ?_ NB278_293.out _; (with_reducible repeat (first | refine bN ?_ _ | refine bD ?_ | refine bA ?_ _)); refine blk_far ?_ NB278_293.out _; (with_reducible repeat (first | refine bN ?_ _ | refine bD ?_ | refine bA ?_ _)); refine blk_far ?_ NB278_293.out _; (with_reducible repeat (first | refine bN ?_ _ | refine bD ?_ | refine bA ?_ _)); refine blk_far ?_ NB278_293.out _; (with_reducible repeat (first | refine bN ?_ _ | refine bD ?_ | refine bA ?_ _)); refine blk_far ?_ NB278_293.out _; (with_reducible repeat (first | refine bN ?_ _ | refine bD ?_ | refine bA ?_ _)); refine blk_far ?_ NB278_293.out _; (with_reducible repeat (first | refine bN ?_ _ | refine bD ?_ | refine bA ?_ _)); refine blk_far ?_ NB278_293.out _; (with_reducible repeat (first | refine bN ?_ _ | refine bD ?_ | refine bA ?_ _)); refine blk_far ?_ NB278_293.out _; (with_reducible repeat (first | refine bN ?_ _ | refine bD ?_ | refine bA ?_ _)); exact BK278.out⟩, ⟨by (with_reducible repeat (first | refine bN ?_ _ | refine bD ?_ | refine bA ?_ _)); refine blk_put (cs := #[.int .i64 t279, .int .i64 t280, .int .i64 t281, .int .i64 t282, .slice Ao14 t283.length co14, .slice Ao15 t286.length co15, .slice Ao16 t289.length co16, .int .i64 0]) ?_ 7 _ rfl; (with_reducible repeat (first | refine bN ?_ _ | refine bD ?_ | refine bA ?_ _)); refine blk_put (cs := #[.int .i64 t279, .int .i64 t280, .int .i64 t281, .int .i64 t282, .slice Ao14 t283.length co14, .slice Ao15 t286.length co15, .slice none 0 0, .int .i64 0]) ?_ 6 _ rfl; (with_reducible repeat (first | refine bN ?_ _ | refine bD ?_ | refine bA ?_ _)); refine blk_put (cs := #[.int .i64 t279, .int .i64 t280, .int .i64 t281, .int .i64 t282, .slice Ao14 t283.length co14, .slice none 0 0, .slice none 0 0, .int .i64 0]) ?_ 5 _ rfl; (with_reducible repeat (first | refine bN ?_ _ | refine bD ?_ | refine bA ?_ _)); refine blk_put (cs := #[.int .i64 t279, .int .i64 t280, .int .i64 t281, .int .i64 t282, .slice none 0 0, .slice none 0 0, .slice none 0 0, .int .i64 0]) ?_ 4 _ rfl; (with_reducible repeat (first | refine bN ?_ _ | refine bD ?_ | refine bA ?_ _)); refine blk_put (cs := #[.int .i64 t279, .int .i64 t280, .int .i64 t281, .int .i64 0, .slice none 0 0, .slice none 0 0, .slice none 0 0, .int .i64 0]) ?_ 3 _ rfl; (with_reducible repeat (first | refine bN ?_ _ | refine bD ?_ | refine bA ?_ _)); refine blk_put (cs := #[.int .i64 t279, .int .i64 t280, .int .i64 0, .int .i64 0, .slice none 0 0, .slice none 0 0, .slice none 0 0, .int .i64 0]) ?_ 2 _ rfl; (with_reducible repeat (first | refine bN ?_ _ | refine bD ?_ | refine bA ?_ _)); refine blk_put (cs := #[.int .i64 t279, .int .i64 0, .int .i64 0, .int .i64 0, .slice none 0 0, .slice none 0 0, .slice none 0 0, .int .i64 0]) ?_ 1 _ rfl; (with_reducible repeat (first | refine bN ?_ _ | refine bD ?_ | refine bA ?_ _)); refine blk_put (cs := #[.int .i64 0, .int .i64 0, .int .i64 0, .int .i64 0, .slice none 0 0, .slice none 0 0, .slice none 0 0, .int .i64 0]) ?_ 0 _ rfl; (with_reducible repeat (first | refine bN ?_ _ | refine bD ?_ | refine bA ?_ _)); exact BK293.out⟩, ⟨BU HB.out⟩⟩
 case round =>
  clear H'
  try clear c1
  try clear p2
  try clear c5
  try clear c7
  try clear c11
  try clear c12
  try clear hcz13_0
  try clear hcz13_1
  try clear hcz13_2
  try clear hcz13_3
  try clear hcz13_4
  try clear hcz13_5
  try clear hcz13_6
  try clear hcz13_7
  try clear hcz8_0
  try clear hcz8_1
  try clear hcz8_2
  try clear hcz8_3
  try clear hfz13_0
  try clear hfz13_1
  try clear hfz13_2
  try clear hfz13_3
  try clear hfz13_4
  try clear hfz13_5
  try clear hfz13_6
  try clear hfz13_7
  try clear hfz8_0
  try clear hfz8_1
  try clear hfz8_2
  try clear hfz8_3
  obtain ⟨x294000_1, x294001_1, x294002_1, x294003_1, x294004_1, x294005_1, x294006_1, x294007_1, u294004, u294005, u294006, HA, HK1, HO_294004, HO_294005, HO_294006, BK277, BK278, BK293, HB⟩ := hrel
  cases gk with
  | zero => exact absurd HA.out (by simp [regcertref10_Exec.l0])
  | succ k1 =>
   have H := HA.out
   clear HA
   simp only [regcertref10_Exec.l0] at H
   have HC17 := As0 H
   clear H
   go_upto_region 2 with (fail)
   go_cut [19] (fun v19 wc => ∃ (kq : Nat) (x19_16 : Bool), v19 = .bool x19_16 ∧ Aside0 (regcertref10_Exec.j1 kq a2 x19_16 a0_0 a0_1 a0_2 l0_3 x294000_1 x294001_1 x294002_1 x294003_1 x294004_1 x294005_1 x294006_1 x294007_1 = some (r1, r2, r3, r4, r5, r6, r7, r8)) ∧ Aside0 (kq ≤ k1) ∧ Aside0 (Kd.R (Kd.int .i64) 2 wc w.heap.size (fun k_ => some k_ ≠ (u294005 : Value).ownBlock ∧ some k_ ≠ (u294006 : Value).ownBlock) u294004 x294004_1) ∧ Aside0 (Kd.R (Kd.int .i64) 2 wc w.heap.size (fun k_ => some k_ ≠ (u294004 : Value).ownBlock ∧ some k_ ≠ (u294006 : Value).ownBlock) u294005 x294005_1) ∧ Aside0 (Kd.R (Kd.int .i64) 2 wc w.heap.size (fun k_ => some k_ ≠ (u294004 : Value).ownBlock ∧ some k_ ≠ (u294005 : Value).ownBlock) u294006 x294006_1) ∧ Aside0 (wc.heap[gb277]? = some (.cells #[.int .i64 a0_0, .int .i64 a0_1, .int .i64 a0_2, (.slice A0_3 l0_3.length c0_3)] 63 (0, 0))) ∧ Aside0 (wc.heap[gb278]? = some (.cells #[.int .i64 0, .int .i64 0, .int .i64 0, .int .i64 0, (.slice none 0 0), (.slice none 0 0), (.slice none 0 0), .int .i64 0] 39 (0, 0))) ∧ Aside0 (wc.heap[gb293]? = some (.cells #[.int .i64 x294000_1, .int .i64 x294001_1, .int .i64 x294002_1, .int .i64 x294003_1, u294004, u294005, u294006, .int .i64 x294007_1] 39 (0, 0))) ∧ Aside0 (Below w.heap.size w wc))
   case first =>
    have H := HC17.out
    clear HC17
    by_cases c18 : x294000_1 = 0
    rotate_left
    ·rw [if_neg c18] at H
     have c18b0 : (x294000_1 == 0) = false := beq_eq_false_iff_ne.mpr c18
     have c18b1 : (x294000_1 != 0) = true := bne_iff_ne.mpr c18
     (first | rw [c18b0] | (simp only [i64_w, i32_w]; rw [c18b0]) | skip)
     have H' := As0 H
     clear H
     have hnb22 := NB293_277.out
     have hnc22 := NB277_293.out
     have hnb23 := NB293_278.out
     have hnc23 := NB278_293.out
     obtain ⟨hcz24_0, hcz24_1, hcz24_2, hcz24_3, hcz24_4, hcz24_5, hcz24_6, hcz24_7, hfz24_0, hfz24_1, hfz24_2, hfz24_3, hfz24_4, hfz24_5, hfz24_6, hfz24_7⟩ := cN8 BK293.out
     go_wp2
     go_meet
     case rel => exact ⟨_, (false), (by first | rfl | (simp; done) | (simp [*]; done)), H', ⟨by have := HK1.out; first | omega | exact Nat.le_refl _⟩, ⟨RU HO_294004.out⟩, ⟨RU HO_294005.out⟩, ⟨RU HO_294006.out⟩, ⟨bU BK277.out⟩, ⟨bU BK278.out⟩, ⟨bU BK293.out⟩, ⟨BU HB.out⟩⟩
    rw [if_pos c18] at H
    have c18b0 : (x294000_1 == 0) = true := beq_iff_eq.mpr c18
    have c18b1 : (x294000_1 != 0) = false := bne_eq_false_iff_eq.mpr c18
    clear c18
    (first | rw [c18b0] | (simp only [i64_w, i32_w]; rw [c18b0]) | skip)
    have H' := As0 H
    clear H
    have hnb19 := NB293_277.out
    have hnc19 := NB277_293.out
    have hnb20 := NB293_278.out
    have hnc20 := NB278_293.out
    obtain ⟨hcz21_0, hcz21_1, hcz21_2, hcz21_3, hcz21_4, hcz21_5, hcz21_6, hcz21_7, hfz21_0, hfz21_1, hfz21_2, hfz21_3, hfz21_4, hfz21_5, hfz21_6, hfz21_7⟩ := cN8 BK293.out
    go_wp2
    go_meet
    case rel => exact ⟨_, (decide (x294007_1 < a2)), (by first | rfl | (simp; done) | (simp [*]; done)), H', ⟨by have := HK1.out; first | omega | exact Nat.le_refl _⟩, ⟨RU HO_294004.out⟩, ⟨RU HO_294005.out⟩, ⟨RU HO_294006.out⟩, ⟨bU BK277.out⟩, ⟨bU BK278.out⟩, ⟨bU BK293.out⟩, ⟨BU HB.out⟩⟩
   case rest =>
    clear HC17
    try clear c1
    try clear c2
    try clear p2
    try clear c5
    try clear c7
    try clear c11
    try clear c12
    try clear c18
    try clear c18b0
    try clear c18b1
    try clear c19
    try clear c20
    try clear c22
    try clear c23
    try clear hcz13_0
    try clear hcz13_1
    try clear hcz13_2
    try clear hcz13_3
    try clear hcz13_4
    try clear hcz13_5
    try clear hcz13_6
    try clear hcz13_7
    try clear hcz21_0
    try clear hcz21_1
    try clear hcz21_2
    try clear hcz21_3
    try clear hcz21_4
    try clear hcz21_5
    try clear hcz21_6
    try clear hcz21_7
    try clear hcz24_0
    try clear hcz24_1
    try clear hcz24_2
    try clear hcz24_3
    try clear hcz24_4
    try clear hcz24_5
    try clear hcz24_6
    try clear hcz24_7
    try clear hcz8_0
    try clear hcz8_1
    try clear hcz8_2
    try clear hcz8_3
    try clear hfz13_0
    try clear hfz13_1
    try clear hfz13_2
    try clear hfz13_3
    try clear hfz13_4
    try clear hfz13_5
    try clear hfz13_6
    try clear hfz13_7
    try clear hfz21_0
    try clear hfz21_1
    try clear hfz21_2
    try clear hfz21_3
    try clear hfz21_4
    try clear hfz21_5
    try clear hfz21_6
    try clear hfz21_7
    try clear hfz24_0
    try clear hfz24_1
    try clear hfz24_2
    try clear hfz24_3
    try clear hfz24_4
    try clear hfz24_5
    try clear hfz24_6
    try clear hfz24_7
    try clear hfz8_0
    try clear hfz8_1
    try clear hfz8_2
    try clear hfz8_3
    try clear p2
    obtain ⟨kq, x19_16, rfl, HA, HJ16, HO_294004, HO_294005, HO_294006, BK277, BK278, BK293, HB⟩ := hcut
    cases kq with
    | zero => exact absurd HA.out (by simp [regcertref10_Exec.j1])
    | succ kj16 =>
     have H := HA.out
     clear HA
     simp only [regcertref10_Exec.j1] at H
     by_cases c25 : x19_16 = true
     ·subst c25
      rw [if_pos rfl] at H
      replace H := Option.bind_eq_some_iff.mp H
      obtain ⟨⟨t294, t295, t296, t297, t298, t301, t304, t307⟩, A260, H⟩ := H
      have A26 := As0 A260
      clear A260
      have H' := As0 H
      clear H
      have hnb27 := NB277_278.out
      have hnc27 := NB278_277.out
      have hnb28 := NB277_293.out
      have hnc28 := NB293_277.out
      obtain ⟨hcz29_0, hcz29_1, hcz29_2, hcz29_3, hfz29_0, hfz29_1, hfz29_2, hfz29_3⟩ := cN4 BK277.out
      have hnb30 := NB293_278.out
      have hnc30 := NB278_293.out
      obtain ⟨hcz31_0, hcz31_1, hcz31_2, hcz31_3, hcz31_4, hcz31_5, hcz31_6, hcz31_7, hfz31_0, hfz31_1, hfz31_2, hfz31_3, hfz31_4, hfz31_5, hfz31_6, hfz31_7⟩ := cN8 BK293.out
      obtain ⟨Ao32, co32, eo32⟩ := Kd.R_slice HO_294004.out
      subst eo32
      obtain ⟨Ao33, co33, eo33⟩ := Kd.R_slice HO_294005.out
      subst eo33
      obtain ⟨Ao34, co34, eo34⟩ := Kd.R_slice HO_294006.out
      subst eo34
      go_wp2_with (first | ((with_reducible refine gate_callee (f := 57) rfl ?_); refine goesL_ (some 22) rfl rfl Try.func57 (by kernel_rfl) rfl #[.agg #[.int .i64 a0_0, .int .i64 a0_1, .int .i64 a0_2, .slice A0_3 l0_3.length c0_3], .agg #[.int .i64 x294000_1, .int .i64 x294001_1, .int .i64 x294002_1, .int .i64 x294003_1, .slice Ao32 x294004_1.length co32, .slice Ao33 x294005_1.length co33, .slice Ao34 x294006_1.length co34, .int .i64 x294007_1]] rfl (by (try simp only [List.map_toArray, List.map_cons, List.map_nil]); first | done | rfl | (simp only [List.length_drop, List.length_take]; rfl)) ?_; (with_reducible refine (regcertref10_Step.calls a0_0 a0_1 a0_2 _ _ l0_3 x294000_1 x294001_1 x294002_1 x294003_1 _ _ x294004_1 _ _ x294005_1 _ _ x294006_1 x294007_1 t294 t295 t296 t297 t298 t301 t304 t307 _ ?side1 ?side2 ?side3 ?side4 ?side5 ?side6 ?side7 ?side8 A26.out).mono ?_); (case side1 => repeat (first | exact (Kd.C_below HR0_3.out HB.out) | (with_reducible refine Kd.C_alloc ?_ _) | (with_reducible refine Kd.C_drewN ?_ _) | (with_reducible refine Kd.C_drew ?_))); (case side2 => exact HC0_3.out); (case side3 => repeat (first | exact (Kd.R_reads' HO_294004.out).2.2 | (with_reducible refine Kd.C_alloc ?_ _) | (with_reducible refine Kd.C_drewN ?_ _) | (with_reducible refine Kd.C_drew ?_))); (case side4 => exact (Kd.R_reads' HO_294004.out).2.1); (case side5 => repeat (first | exact (Kd.R_reads' HO_294005.out).2.2 | (with_reducible refine Kd.C_alloc ?_ _) | (with_reducible refine Kd.C_drewN ?_ _) | (with_reducible refine Kd.C_drew ?_))); (case side6 => exact (Kd.R_reads' HO_294005.out).2.1); (case side7 => repeat (first | exact (Kd.R_reads' HO_294006.out).2.2 | (with_reducible refine Kd.C_alloc ?_ _) | (with_reducible refine Kd.C_drewN ?_ _) | (with_reducible refine Kd.C_drew ?_))); (case side8 => exact (Kd.R_reads' HO_294006.out).2.1); rintro e w35 ⟨v299, v302, v305, rfl, ho0, ho1, ho2, hb⟩; refine ⟨_, rfl, ?_⟩; have HO300 := As0 (Kd.R_lower (Kd.R_new' (Kd.R_new' (Kd.R_new' ho0 (Kd.R_lt (RU HO_294004.out))) (Kd.R_lt (RU HO_294005.out))) (Kd.R_lt (RU HO_294006.out))) (below_size (BU HB.out))); have HO303 := As0 (Kd.R_lower (Kd.R_new' (Kd.R_new' (Kd.R_new' ho1 (Kd.R_lt (RU HO_294004.out))) (Kd.R_lt (RU HO_294005.out))) (Kd.R_lt (RU HO_294006.out))) (below_size (BU HB.out))); have HO306 := As0 (Kd.R_lower (Kd.R_new' (Kd.R_new' (Kd.R_new' ho2 (Kd.R_lt (RU HO_294004.out))) (Kd.R_lt (RU HO_294005.out))) (Kd.R_lt (RU HO_294006.out))) (below_size (BU HB.out))); replace HO_294004 := As0 (Kd.R_mono (Kd.R_told (Kd.R_told (Kd.R_told (Kd.R_old (RU HO_294004.out) hb) (Kd.R_base ho0)) (Kd.R_base ho1)) (Kd.R_base ho2)) (fun _ h_ => h_.1)); replace HO_294005 := As0 (Kd.R_mono (Kd.R_told (Kd.R_told (Kd.R_told (Kd.R_old (RU HO_294005.out) hb) (Kd.R_base ho0)) (Kd.R_base ho1)) (Kd.R_base ho2)) (fun _ h_ => h_.1)); replace HO_294006 := As0 (Kd.R_mono (Kd.R_told (Kd.R_told (Kd.R_told (Kd.R_old (RU HO_294006.out) hb) (Kd.R_base ho0)) (Kd.R_base ho1)) (Kd.R_base ho2)) (fun _ h_ => h_.1)); replace BK277 := As0 (blk_below (bU BK277.out) hb); replace BK278 := As0 (blk_below (bU BK278.out) hb); replace BK293 := As0 (blk_below (bU BK293.out) hb); replace HB := As0 (below_step (BU HB.out) hb); (try clear hb); (try clear hb2); (try clear hk); (try clear hi); (try clear ho0); (try clear ho1); (try clear ho2); obtain ⟨hcz36_0, hcz36_1, hcz36_2, hcz36_3, hcz36_4, hcz36_5, hcz36_6, hcz36_7, hfz36_0, hfz36_1, hfz36_2, hfz36_3, hfz36_4, hfz36_5, hfz36_6, hfz36_7⟩ := cN8 BK293.out; obtain ⟨Ao37, co37, eo37⟩ := Kd.R_slice HO300.out; subst eo37; obtain ⟨Ao38, co38, eo38⟩ := Kd.R_slice HO303.out; subst eo38; obtain ⟨Ao39, co39, eo39⟩ := Kd.R_slice HO306.out; subst eo39))
      go_roundg kj16
      case measure => have := HK1.out; have := HJ16.out; omega
      case rel => exact ⟨(t294), (t295), (t296), (t297), (t298), (t301), (t304), (t307), (.slice Ao37 t298.length co37), (.slice Ao38 t301.length co38), (.slice Ao39 t304.length co39), H', ⟨by have := HK1.out; have := HJ16.out; omega⟩, ⟨RU (Kd.R_mono (R8 (Kd.R_types HO300.out BK293.out (by decide))) (fun _ hk => ⟨hk.1.1.1.1.1, hk.1.1.1.1.2⟩))⟩, ⟨RU (Kd.R_mono (R8 (Kd.R_types HO303.out BK293.out (by decide))) (fun _ hk => ⟨hk.1.1.1.1.1, hk.1.1.1.1.2⟩))⟩, ⟨RU (Kd.R_mono (R8 (Kd.R_types HO306.out BK293.out (by decide))) (fun _ hk => ⟨hk.1.1.1.1.1, hk.1.1.1.1.2⟩))⟩, ⟨by (with_reducible repeat (first | refine bN ?_ _ | refine bD ?_ | refine bA ?_ _)); refine blk_far ?_ NB277_293.out _; (with_reducible repeat (first | refine bN ?_ _ | refine bD ?_ | refine bA ?_ _)); refine blk_far ?_ NB277_293.out _; (with_reducible repeat (first | refine bN ?_ _ | refine bD ?_ | refine bA ?_ _)); refine blk_far ?_ NB277_293.out _; (with_reducible repeat (first | refine bN ?_ _ | refine bD ?_ | refine bA ?_ _)); refine blk_far ?_ NB277_293.out _; (with_reducible repeat (first | refine bN ?_ _ | refine bD ?_ | refine bA ?_ _)); refine blk_far ?_ NB277_293.out _; (with_reducible repeat (first | refine bN ?_ _ | refine bD ?_ | refine bA ?_ _)); refine blk_far ?_ NB277_293.out _; (with_reducible repeat (first | refine bN ?_ _ | refine bD ?_ | refine bA ?_ _)); refine blk_far ?_ NB277_293.out _; (with_reducible repeat (first | refine bN ?_ _ | refine bD ?_ | refine bA ?_ _)); refine blk_far ?_ NB277_293.out _; (with_reducible repeat (first | refine bN ?_ _ | refine bD ?_ | refine bA ?_ _)); exact BK277.out⟩, ⟨by (with_reducible repeat (first | refine bN ?_ _ | refine bD ?_ | refine bA ?_ _)); refine blk_far ?_ NB278_293.out _; (with_reducible repeat (first | refine bN ?_ _ | refine bD ?_ | refine bA ?_ _)); refine blk_far ?_ NB278_293.out _; (with_reducible repeat (first | refine bN ?_ _ | refine bD ?_ | refine bA ?_ _)); refine blk_far ?_ NB278_293.out _; (with_reducible repeat (first | refine bN ?_ _ | refine bD ?_ | refine bA ?_ _)); refine blk_far ?_ NB278_293.out _; (with_reducible repeat (first | refine bN ?_ _ | refine bD ?_ | refine bA ?_ _)); refine blk_far ?_ NB278_293.out _; (with_reducible repeat (first | refine bN ?_ _ | refine bD ?_ | refine bA ?_ _)); refine blk_far ?_ NB278_293.out _; (with_reducible repeat (first | refine bN ?_ _ | refine bD ?_ | refine bA ?_ _)); refine blk_far ?_ NB278_293.out _; (with_reducible repeat (first | refine bN ?_ _ | refine bD ?_ | refine bA ?_ _)); refine blk_far ?_ NB278_293.out _; (with_reducible repeat (first | refine bN ?_ _ | refine bD ?_ | refine bA ?_ _)); exact BK278.out⟩, ⟨by (with_reducible repeat (first | refine bN ?_ _ | refine bD ?_ | refine bA ?_ _)); refine blk_put (cs := #[.int .i64 t294, .int .i64 t295, .int .i64 t296, .int .i64 t297, .slice Ao37 t298.length co37, .slice Ao38 t301.length co38, .slice Ao39 t304.length co39, .int .i64 x294007_1]) ?_ 7 _ rfl; (with_reducible repeat (first | refine bN ?_ _ | refine bD ?_ | refine bA ?_ _)); refine blk_put (cs := #[.int .i64 t294, .int .i64 t295, .int .i64 t296, .int .i64 t297, .slice Ao37 t298.length co37, .slice Ao38 t301.length co38, .slice Ao34 x294006_1.length co34, .int .i64 x294007_1]) ?_ 6 _ rfl; (with_reducible repeat (first | refine bN ?_ _ | refine bD ?_ | refine bA ?_ _)); refine blk_put (cs := #[.int .i64 t294, .int .i64 t295, .int .i64 t296, .int .i64 t297, .slice Ao37 t298.length co37, .slice Ao33 x294005_1.length co33, .slice Ao34 x294006_1.length co34, .int .i64 x294007_1]) ?_ 5 _ rfl; (with_reducible repeat (first | refine bN ?_ _ | refine bD ?_ | refine bA ?_ _)); refine blk_put (cs := #[.int .i64 t294, .int .i64 t295, .int .i64 t296, .int .i64 t297, .slice Ao32 x294004_1.length co32, .slice Ao33 x294005_1.length co33, .slice Ao34 x294006_1.length co34, .int .i64 x294007_1]) ?_ 4 _ rfl; (with_reducible repeat (first | refine bN ?_ _ | refine bD ?_ | refine bA ?_ _)); refine blk_put (cs := #[.int .i64 t294, .int .i64 t295, .int .i64 t296, .int .i64 x294003_1, .slice Ao32 x294004_1.length co32, .slice Ao33 x294005_1.length co33, .slice Ao34 x294006_1.length co34, .int .i64 x294007_1]) ?_ 3 _ rfl; (with_reducible repeat (first | refine bN ?_ _ | refine bD ?_ | refine bA ?_ _)); refine blk_put (cs := #[.int .i64 t294, .int .i64 t295, .int .i64 x294002_1, .int .i64 x294003_1, .slice Ao32 x294004_1.length co32, .slice Ao33 x294005_1.length co33, .slice Ao34 x294006_1.length co34, .int .i64 x294007_1]) ?_ 2 _ rfl; (with_reducible repeat (first | refine bN ?_ _ | refine bD ?_ | refine bA ?_ _)); refine blk_put (cs := #[.int .i64 t294, .int .i64 x294001_1, .int .i64 x294002_1, .int .i64 x294003_1, .slice Ao32 x294004_1.length co32, .slice Ao33 x294005_1.length co33, .slice Ao34 x294006_1.length co34, .int .i64 x294007_1]) ?_ 1 _ rfl; (with_reducible repeat (first | refine bN ?_ _ | refine bD ?_ | refine bA ?_ _)); refine blk_put (cs := #[.int .i64 x294000_1, .int .i64 x294001_1, .int .i64 x294002_1, .int .i64 x294003_1, .slice Ao32 x294004_1.length co32, .slice Ao33 x294005_1.length co33, .slice Ao34 x294006_1.length co34, .int .i64 x294007_1]) ?_ 0 _ rfl; (with_reducible repeat (first | refine bN ?_ _ | refine bD ?_ | refine bA ?_ _)); exact BK293.out⟩, ⟨BU HB.out⟩⟩
     replace c25 := Bool.eq_false_iff.mpr c25
     subst c25
     rw [if_neg (show ¬ (false = true) by decide)] at H
     simp only [Option.some.injEq, Prod.mk.injEq] at H
     obtain ⟨rfl, rfl, rfl, rfl, rfl, rfl, rfl, rfl⟩ := H
     have hnb40 := NB293_277.out
     have hnc40 := NB277_293.out
     have hnb41 := NB293_278.out
     have hnc41 := NB278_293.out
     obtain ⟨hcz42_0, hcz42_1, hcz42_2, hcz42_3, hcz42_4, hcz42_5, hcz42_6, hcz42_7, hfz42_0, hfz42_1, hfz42_2, hfz42_3, hfz42_4, hfz42_5, hfz42_6, hfz42_7⟩ := cN8 BK293.out
     have hnb43 := NB278_277.out
     have hnc43 := NB277_278.out
     obtain ⟨hcz44_0, hcz44_1, hcz44_2, hcz44_3, hcz44_4, hcz44_5, hcz44_6, hcz44_7, hfz44_0, hfz44_1, hfz44_2, hfz44_3, hfz44_4, hfz44_5, hfz44_6, hfz44_7⟩ := cN8 BK278.out
     obtain ⟨Ao45, co45, eo45⟩ := Kd.R_slice HO_294004.out
     subst eo45
     obtain ⟨Ao46, co46, eo46⟩ := Kd.R_slice HO_294005.out
     subst eo46
     obtain ⟨Ao47, co47, eo47⟩ := Kd.R_slice HO_294006.out
     subst eo47
     go_wp2
     refine bodyPost_ret (results_cell_row rfl _ _ gb278 39 #[.int .i64 x294000_1, .int .i64 x294001_1, .int .i64 x294002_1, .int .i64 x294003_1, .slice Ao45 x294004_1.length co45, .slice Ao46 x294005_1.length co46, .slice Ao47 x294006_1.length co47, .int .i64 x294007_1] (0, 0) _ rfl (by (with_reducible repeat (first | refine bN ?_ _ | refine bD ?_ | refine bA ?_ _)); refine blk_put (cs := #[.int .i64 x294000_1, .int .i64 x294001_1, .int .i64 x294002_1, .int .i64 x294003_1, .slice Ao45 x294004_1.length co45, .slice Ao46 x294005_1.length co46, .slice Ao47 x294006_1.length co47, .int .i64 0]) ?_ 7 _ rfl; (with_reducible repeat (first | refine bN ?_ _ | refine bD ?_ | refine bA ?_ _)); refine blk_put (cs := #[.int .i64 x294000_1, .int .i64 x294001_1, .int .i64 x294002_1, .int .i64 x294003_1, .slice Ao45 x294004_1.length co45, .slice Ao46 x294005_1.length co46, .slice none 0 0, .int .i64 0]) ?_ 6 _ rfl; (with_reducible repeat (first | refine bN ?_ _ | refine bD ?_ | refine bA ?_ _)); refine blk_put (cs := #[.int .i64 x294000_1, .int .i64 x294001_1, .int .i64 x294002_1, .int .i64 x294003_1, .slice Ao45 x294004_1.length co45, .slice none 0 0, .slice none 0 0, .int .i64 0]) ?_ 5 _ rfl; (with_reducible repeat (first | refine bN ?_ _ | refine bD ?_ | refine bA ?_ _)); refine blk_put (cs := #[.int .i64 x294000_1, .int .i64 x294001_1, .int .i64 x294002_1, .int .i64 x294003_1, .slice none 0 0, .slice none 0 0, .slice none 0 0, .int .i64 0]) ?_ 4 _ rfl; (with_reducible repeat (first | refine bN ?_ _ | refine bD ?_ | refine bA ?_ _)); refine blk_put (cs := #[.int .i64 x294000_1, .int .i64 x294001_1, .int .i64 x294002_1, .int .i64 0, .slice none 0 0, .slice none 0 0, .slice none 0 0, .int .i64 0]) ?_ 3 _ rfl; (with_reducible repeat (first | refine bN ?_ _ | refine bD ?_ | refine bA ?_ _)); refine blk_put (cs := #[.int .i64 x294000_1, .int .i64 x294001_1, .int .i64 0, .int .i64 0, .slice none 0 0, .slice none 0 0, .slice none 0 0, .int .i64 0]) ?_ 2 _ rfl; (with_reducible repeat (first | refine bN ?_ _ | refine bD ?_ | refine bA ?_ _)); refine blk_put (cs := #[.int .i64 x294000_1, .int .i64 0, .int .i64 0, .int .i64 0, .slice none 0 0, .slice none 0 0, .slice none 0 0, .int .i64 0]) ?_ 1 _ rfl; (with_reducible repeat (first | refine bN ?_ _ | refine bD ?_ | refine bA ?_ _)); refine blk_put (cs := #[.int .i64 0, .int .i64 0, .int .i64 0, .int .i64 0, .slice none 0 0, .slice none 0 0, .slice none 0 0, .int .i64 0]) ?_ 0 _ rfl; (with_reducible repeat (first | refine bN ?_ _ | refine bD ?_ | refine bA ?_ _)); exact BK278.out) Try.underlying39 rfl (by kernel_rfl)) rfl ?_
     exact ⟨_, _, _, by first | rfl | (simp [errW_none, errW_some] <;> rfl) | (simp [*, errW_none, errW_some] <;> rfl), RU (Kd.R_mono (R8 (Kd.R_types HO_294004.out BK278.out (by decide))) (fun _ hk => ⟨hk.1.1, hk.1.2⟩)), RU (Kd.R_mono (R8 (Kd.R_types HO_294005.out BK278.out (by decide))) (fun _ hk => ⟨hk.1.1, hk.1.2⟩)), RU (Kd.R_mono (R8 (Kd.R_types HO_294006.out BK278.out (by decide))) (fun _ hk => ⟨hk.1.1, hk.1.2⟩)), BU HB.out⟩

end Go.Proofs.Ytgkmagfajalnhaa.E
