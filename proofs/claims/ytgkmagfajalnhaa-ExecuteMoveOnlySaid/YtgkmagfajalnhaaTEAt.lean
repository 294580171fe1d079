/-
  The variable of a location.
-/
import Derived.Test.YtgkmagfajalnhaaTEMac
import Derived.Test.YtgkmagfajalnhaaTELoc
namespace Go.Proofs.Ytgkmagfajalnhaa.E
open Go.RowKit Go.Proofs.YtgkmagfajalnhaaW.PrintWords Go.Proofs.YtgkmagfajalnhaaW.PrintLast Go.Proofs.YtgkmagfajalnhaaW.PrintMore
set_option linter.unusedVariables false
set_option linter.unusedSimpArgs false

set_option maxRecDepth 100000 in
set_option maxHeartbeats 4000000 in
theorem at_slot (w0 W : World) (g b n c : Nat) (vR vT : Value) (s : PS) (fa fr fs : Int) (vB : Value) (l : Int) (hs : (Int.tmod l 2 == 1) = true) (h0 : 0 ≤ (wrap64 (Int.tdiv l 2))) (h1 : (wrap64 (Int.tdiv l 2)) < n)
    (HS : St w0 W g vR vT s (.slice (some ⟨b, 0, none⟩) n c) fa fr fs vB) :
    Calls Try.prog 73 #[.pointer (some ⟨g, 0, none⟩), .int .i64 l] W fun e W' =>
      e = .returned (.pointer (some ⟨b, (wrap64 (Int.tdiv l 2)).toNat, none⟩)) ∧ ∃ m, W' = W.drewN m := by
  have hu108 := Try.underlying108
  have hu39 := Try.underlying39
  have hu63 := Try.underlying63
  have hu61 := Try.underlying61
  have hu69 := Try.underlying69
  have hu67 := Try.underlying67
  have hu84 := Try.underlying84
  have hu48 := Try.underlying48
  have hu35 := Try.underlying35
  have HS0 := Aside0.mk HS
  clear HS
  have h0b : decide ((wrap64 (Int.tdiv l 2)) < 0) = false := decide_eq_false (by omega)
  have h0c : decide (0 ≤ (wrap64 (Int.tdiv l 2))) = true := decide_eq_true h0
  have h1b : decide ((wrap64 (Int.tdiv l 2)) < (n : Int)) = true := decide_eq_true h1
  have hf : location_IsSlot.f l = some true := congrArg some hs
  have hx : location_Index.f l = some (wrap64 (Int.tdiv l 2)) := rfl
  go_enter Try.func73, Try.ntmps73
  go_wp2_with ((with_reducible refine gate_callee (f := 94) rfl ?_); go_loud (refine goesL_ (some 6) rfl rfl Try.func94 (by kernel_rfl) rfl #[.int .i64 l] rfl (by (try simp only [List.map_toArray, List.map_cons, List.map_nil]); rfl) ?_); go_loud (with_reducible refine (location_IsSlot.calls l true _ hf).mono ?_); rintro e w2 ⟨rfl, ⟨m1, rfl⟩⟩; refine ⟨_, rfl, ?_⟩; have HS1 := Aside0.mk (HS0.out.drewN m1); (obtain ⟨q0, q1, q2, q3, q4, q5, q6, q7, q8, q9, q10, q11⟩ := St.cells (Aside0.out HS1); have f0 := St.frozen (Aside0.out HS1) 0; have f1 := St.frozen (Aside0.out HS1) 1; have f2 := St.frozen (Aside0.out HS1) 2; have f3 := St.frozen (Aside0.out HS1) 3; have f4 := St.frozen (Aside0.out HS1) 4; have f5 := St.frozen (Aside0.out HS1) 5; have f6 := St.frozen (Aside0.out HS1) 6; have f7 := St.frozen (Aside0.out HS1) 7; (try dsimp only at q0 q1 q2 q3 q4 q5 q6 q7 q8 q9 q10 q11)))
  refine start_ (n := 9) (S := fun w' => w'.cell? ⟨g, 5, none⟩ = some (.slice (some ⟨b, 0, none⟩) n c)) (ds := []) (bb 9 0) (by kernel_rfl) rfl rfl (q5) (fun hHeld => ?_)
  refine pu 0 7 (bb 9 1) ?_
  refine pu 1 8 (bb 9 3) ?_
  refine pu 2 9 (bb 9 7) ?_
  refine pu 3 10 (bb 9 15) ?_
  refine pu 5 12 (bb 9 47) ?_
  refine tu hHeld 4 11 (bb 9 63) ?_
  refine one_ (i := 6) (N := some 13) (bb 9 127) rfl rfl (by kernel_rfl) (by decide) (fun K hK => ?_)
  refine goes_ Try.func95 (by kernel_rfl) rfl #[.int .i64 l] (by rfl) rfl rfl (by simp only [List.map_toArray, List.map_cons, List.map_nil]; rfl) ?_
  with_reducible refine (location_Index.calls l _ _ hx).mono ?_
  rintro e w3 ⟨rfl, ⟨m2, rfl⟩⟩
  refine ⟨_, rfl, ?_⟩
  refine hK.out _ _ (((HS1.out.drew.drewN m2).cells.2.2.2.2.2.1)) (fun hHeld => ?_)
  clear hK K
  refine norm_ (a' := ?_) ?_ ?_
  rotate_left
  · show Act.put _ (some 13) _ = _
    simp only [Act.put, List.setIfInBounds_toArray, List.set_cons_zero, List.set_cons_succ, i64_w, i32_w]
    rfl
  refine pu 7 14 (bb 9 255) ?_
  refine pu 8 4 (bb 9 511) ?_
  refine done_ (by kernel_rfl) ?_
  go_wp2
  go_ret
  exact ⟨rfl, ⟨_, by rw [World.drewN_drew, World.drewN_drewN]⟩⟩

set_option maxRecDepth 100000 in
set_option maxHeartbeats 4000000 in
theorem at_reg (w0 W : World) (g b n c : Nat) (vT vS : Value) (s : PS) (fa fr fs : Int) (vB : Value) (l : Int) (hs : (Int.tmod l 2 == 1) = false) (h0 : 0 ≤ (wrap64 (Int.tdiv l 2))) (h1 : (wrap64 (Int.tdiv l 2)) < n)
    (HS : St w0 W g (.slice (some ⟨b, 0, none⟩) n c) vT s vS fa fr fs vB) :
    Calls Try.prog 73 #[.pointer (some ⟨g, 0, none⟩), .int .i64 l] W fun e W' =>
      e = .returned (.pointer (some ⟨b, (wrap64 (Int.tdiv l 2)).toNat, none⟩)) ∧ ∃ m, W' = W.drewN m := by
  have hu108 := Try.underlying108
  have hu39 := Try.underlying39
  have hu63 := Try.underlying63
  have hu61 := Try.underlying61
  have hu69 := Try.underlying69
  have hu67 := Try.underlying67
  have hu84 := Try.underlying84
  have hu48 := Try.underlying48
  have hu35 := Try.underlying35
  have HS0 := Aside0.mk HS
  clear HS
  have h0b : decide ((wrap64 (Int.tdiv l 2)) < 0) = false := decide_eq_false (by omega)
  have h0c : decide (0 ≤ (wrap64 (Int.tdiv l 2))) = true := decide_eq_true h0
  have h1b : decide ((wrap64 (Int.tdiv l 2)) < (n : Int)) = true := decide_eq_true h1
  have hf : location_IsSlot.f l = some false := congrArg some hs
  have hx : location_Index.f l = some (wrap64 (Int.tdiv l 2)) := rfl
  go_enter Try.func73, Try.ntmps73
  go_wp2_with ((with_reducible refine gate_callee (f := 94) rfl ?_); go_loud (refine goesL_ (some 6) rfl rfl Try.func94 (by kernel_rfl) rfl #[.int .i64 l] rfl (by (try simp only [List.map_toArray, List.map_cons, List.map_nil]); rfl) ?_); go_loud (with_reducible refine (location_IsSlot.calls l false _ hf).mono ?_); rintro e w2 ⟨rfl, ⟨m1, rfl⟩⟩; refine ⟨_, rfl, ?_⟩; have HS1 := Aside0.mk (HS0.out.drewN m1); (obtain ⟨q0, q1, q2, q3, q4, q5, q6, q7, q8, q9, q10, q11⟩ := St.cells (Aside0.out HS1); have f0 := St.frozen (Aside0.out HS1) 0; have f1 := St.frozen (Aside0.out HS1) 1; have f2 := St.frozen (Aside0.out HS1) 2; have f3 := St.frozen (Aside0.out HS1) 3; have f4 := St.frozen (Aside0.out HS1) 4; have f5 := St.frozen (Aside0.out HS1) 5; have f6 := St.frozen (Aside0.out HS1) 6; have f7 := St.frozen (Aside0.out HS1) 7; (try dsimp only at q0 q1 q2 q3 q4 q5 q6 q7 q8 q9 q10 q11)))
  refine start_ (n := 9) (S := fun w' => w'.cell? ⟨g, 4, none⟩ = some (.slice (some ⟨b, 0, none⟩) n c)) (ds := []) (bb 9 0) (by kernel_rfl) rfl rfl (q4) (fun hHeld => ?_)
  refine pu 0 15 (bb 9 1) ?_
  refine pu 1 16 (bb 9 3) ?_
  refine pu 2 17 (bb 9 7) ?_
  refine pu 3 18 (bb 9 15) ?_
  refine pu 5 20 (bb 9 47) ?_
  refine tu hHeld 4 19 (bb 9 63) ?_
  refine one_ (i := 6) (N := some 21) (bb 9 127) rfl rfl (by kernel_rfl) (by decide) (fun K hK => ?_)
  refine goes_ Try.func95 (by kernel_rfl) rfl #[.int .i64 l] (by rfl) rfl rfl (by simp only [List.map_toArray, List.map_cons, List.map_nil]; rfl) ?_
  with_reducible refine (location_Index.calls l _ _ hx).mono ?_
  rintro e w3 ⟨rfl, ⟨m2, rfl⟩⟩
  refine ⟨_, rfl, ?_⟩
  refine hK.out _ _ (((HS1.out.drew.drewN m2).cells.2.2.2.2.1)) (fun hHeld => ?_)
  clear hK K
  refine norm_ (a' := ?_) ?_ ?_
  rotate_left
  · show Act.put _ (some 21) _ = _
    simp only [Act.put, List.setIfInBounds_toArray, List.set_cons_zero, List.set_cons_succ, i64_w, i32_w]
    rfl
  refine pu 7 22 (bb 9 255) ?_
  refine pu 8 4 (bb 9 511) ?_
  refine done_ (by kernel_rfl) ?_
  go_wp2
  go_ret
  exact ⟨rfl, ⟨_, by rw [World.drewN_drew, World.drewN_drewN]⟩⟩

/-- The value of a location, the state behind a store into it, and when it is one. -/
def locP (s : PS) (l : Int) : Int := if (Int.tmod l 2 == 1) = true then rdOf (0 : Int) s.slots (wrap64 (Int.tdiv l 2)) else rdOf (0 : Int) s.regs (wrap64 (Int.tdiv l 2))
def setLoc (s : PS) (l x : Int) : PS := if (Int.tmod l 2 == 1) = true then { s with slots := s.slots.set (wrap64 (Int.tdiv l 2)).toNat x } else { s with regs := s.regs.set (wrap64 (Int.tdiv l 2)).toNat x }
def LocOK (s : PS) (l : Int) : Prop := 0 ≤ wrap64 (Int.tdiv l 2) ∧ wrap64 (Int.tdiv l 2) < (if (Int.tmod l 2 == 1) = true then (s.slots.length : Int) else s.regs.length)
instance (s : PS) (l : Int) : Decidable (LocOK s l) := by unfold LocOK; infer_instance
theorem setLoc_rest (s : PS) (l x : Int) : (setLoc s l x).st = s.st ∧ (setLoc s l x).blk = s.blk ∧ (setLoc s l x).at_ = s.at_ ∧ (setLoc s l x).val = s.val ∧ (setLoc s l x).trace = s.trace ∧ (setLoc s l x).steps = s.steps := by
  unfold setLoc
  split <;> exact ⟨rfl, rfl, rfl, rfl, rfl, rfl⟩
theorem at_loc {w0 W : World} {g : Nat} {vR vT : Value} {s : PS} {vS : Value} {fa fr fs : Int} {vB : Value} (HS : St w0 W g vR vT s vS fa fr fs vB) (l : Int) (hl : LocOK s l) :
    ∃ p : Addr, (∀ W1 k, W1 = W.drewN k → Calls Try.prog 73 #[.pointer (some ⟨g, 0, none⟩), .int .i64 l] W1 fun e W' => e = .returned (.pointer (some p)) ∧ ∃ m, W' = W1.drewN m) ∧
      W.cell? p = some (.int .i64 (locP s l)) ∧ W.frozen? p = false ∧ ∀ W1 x k, W1 = W.drewN k → St w0 (W1.setCell p (.int .i64 x)) g vR vT (setLoc s l x) vS fa fr fs vB := by
  unfold LocOK at hl
  unfold locP setLoc
  by_cases hs : (Int.tmod l 2 == 1) = true
  · rw [if_pos hs] at hl ⊢
    obtain ⟨b, n, c, rfl, rfl⟩ := HS.rowS _ hl.1 hl.2
    have hc := HS.slot _ hl.1 hl.2
    refine ⟨_, fun W1 k e => at_slot w0 W1 g b _ c vR vT s fa fr fs vB l hs hl.1 hl.2 (e ▸ HS.drewN k), hc.1, hc.2, fun W1 x k e => ?_⟩
    rw [if_pos hs]
    exact (e ▸ HS.drewN k).putSlot _ x
  · rw [if_neg hs] at hl ⊢
    obtain ⟨b, n, c, rfl, rfl⟩ := HS.row _ hl.1 hl.2
    have hc := HS.reg _ hl.1 hl.2
    refine ⟨_, fun W1 k e => at_reg w0 W1 g b _ c vT vS s fa fr fs vB l (by simpa using hs) hl.1 hl.2 (e ▸ HS.drewN k), hc.1, hc.2, fun W1 x k e => ?_⟩
    rw [if_neg hs]
    exact (e ▸ HS.drewN k).putReg _ x
end Go.Proofs.Ytgkmagfajalnhaa.E
