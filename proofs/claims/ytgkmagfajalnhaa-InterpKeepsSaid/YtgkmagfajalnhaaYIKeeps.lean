/-
  InterpKeeps.
-/
import Derived.Test.YtgkmagfajalnhaaYIValidB
import Derived.Test.YtgkmagfajalnhaaYRowInterpKeeps
namespace Go.Proofs.Ytgkmagfajalnhaa.Y
open Go.RowKit Go.Proofs.YtgkmagfajalnhaaW.PrintWords Go.Proofs.YtgkmagfajalnhaaW.PrintLast Go.Proofs.YtgkmagfajalnhaaW.PrintMore Num
set_option linter.unusedVariables false
set_option linter.unusedSimpArgs false

theorem awake09 : Ev (fun k => regcertlaw09_awake.f k) true := Ev.of (fun k => regcertlaw09_awake.mono k) (k := 40) (by kernel_rfl)

theorem exec_ev {fr : Int} {l : List S50} (V : ValidP fr l) {l1 : List Int} {a0 m : Int} (ha : (l1.length : Int) = a0) (h1 : a0 ≤ fr) (hm0 : 0 ≤ m) (hm : m ≤ 1000000) :
    ∃ r, Ev (fun k => interp_Exec.f k a0 fr l l1 m) (r.st, r.blk, r.at_, r.val, r.regs, [], r.trace, r.steps, 0) ∧ Ran fr l m (beginP fr l1) r ∧ ∃ k, execLoop k l m (beginP fr l1) = some r := by
  have hf : fuelOf m = m := if_neg (by omega)
  obtain ⟨r, er, R⟩ := exec_ran V hm (m.toNat) (beginP fr l1) (begin_inv V (by omega)) hm0 (by show (m - 0).toNat ≤ _; omega)
  have h0 := V.regs0
  have h60 := V.regs1
  refine ⟨r, ⟨m.toNat + 2, fun k hk => ?_⟩, R, _, er⟩
  unfold interp_Exec.f
  dsimp only
  rw [if_pos ha, if_pos ⟨h0, by omega⟩, hf, execLoop_le l m hk er]
  rfl

theorem same_refl (a b c d e : Int) (x y z : List Int) (hx : x.length ≤ 1000000) (hy : y.length ≤ 1000000) (hz : z.length ≤ 1000000) : Ev (fun k => regcertref09_Same.f k a b c d x y z e a b c d x y z e) true := by
  refine Ev.congr (fun k => by rw [regcertref09_Same.f]) ?_
  refine Ev.pos rfl (Ev.pos rfl (Ev.pos rfl (Ev.pos rfl (Ev.pos rfl ?_))))
  refine Ev.bind (values_refl x hx) (Ev.pos rfl ?_)
  refine Ev.bind (values_refl y hy) (Ev.pos rfl ?_)
  exact Ev.bind (values_refl z hz) (Ev.now _)

/-- What Step answers at a run that holds what runs hold. -/
theorem step_one {fr a0 : Int} {l : List S50} (V : ValidP fr l) {s : PS} (I : Inv fr l s) (hb : s.steps ≤ 1000) : ∃ s1, interp_Step.f a0 fr l s.st s.blk s.at_ s.val s.regs [] s.trace s.steps = some (s1.st, s1.blk, s1.at_, s1.val, s1.regs, [], s1.trace, s1.steps) ∧
    Inv fr l s1 ∧ (s.st = 0 → stepP l s = some s1 ∧ ((s1.steps = s.steps + 1) ∨ (s1.st = 2 ∧ s1.steps = s.steps))) ∧ (s.st ≠ 0 → s1 = s) := by
  have hr := I.regs
  have hr1 := V.regs1
  have ht := I.trace
  unfold interp_Step.f
  rw [if_pos ⟨rfl, by omega, by omega⟩]
  by_cases h0 : s.st = 0
  · obtain ⟨s1, e1, I1, p1, hc⟩ := step_ok V I (by omega)
    rw [if_pos h0]
    refine ⟨s1, ?_, I1, fun _ => ⟨e1, hc⟩, fun h => absurd h0 h⟩
    show (stepP l s).bind _ = _
    rw [e1]
    rfl
  · rw [if_neg h0]
    exact ⟨s, rfl, I, fun h => absurd h h0, fun _ => rfl⟩

theorem keeps_l2 (x : List Int) (hx : x.length ≤ 1000000) (a b c e g : Int) (p q : List Int) : ∀ (d : Nat) (i : Int) (z : List Int), 0 ≤ i → i ≤ z.length → z.length ≤ 1000000 → ((z.length : Int) - i).toNat = d →
    Ev (fun k => regcertlaw09_InterpKeeps.l2 k x x true i a b c e z p q g) true := by
  intro d
  induction d with
  | zero =>
    intro i z h0 h1 hz hd
    refine Ev.step (fun k => by rw [regcertlaw09_InterpKeeps.l2]) ?_
    refine Ev.neg (by omega) (Ev.pos rfl ?_)
    exact Ev.bind (values_refl x hx) (Ev.now _)
  | succ d ih =>
    intro i z h0 h1 hz hd
    refine Ev.step (fun k => by rw [regcertlaw09_InterpKeeps.l2]) ?_
    refine Ev.pos (by omega) (Ev.pos h0 ?_)
    rw [show wrap64 (i + 1) = i + 1 from w64s (by omega) (by omega)]
    exact ih (i + 1) _ (by omega) (by rw [List.length_set]; omega) (by rw [List.length_set]; exact hz) (by rw [List.length_set]; omega)
theorem keeps_l1 (x : List Int) (hx : x.length ≤ 1000000) (s0 s1 s2 s3 s7 : Int) (s4 s5 s6 : List Int) (h4 : s4.length ≤ 1000000) (h5 : s5.length ≤ 1000000) (h6 : s6.length ≤ 1000000) (a b c e g : Int) (p q : List Int) : ∀ (d : Nat) (i : Int) (z : List Int), 0 ≤ i → i ≤ z.length → z.length ≤ 1000000 → ((z.length : Int) - i).toNat = d →
    Ev (fun k => regcertlaw09_InterpKeeps.l1 k x x i s0 s1 s2 s3 s4 s5 s6 s7 s0 s1 s2 s3 s4 s5 s6 s7 a b c e p q z g) true := by
  intro d
  induction d with
  | zero =>
    intro i z h0 h1 hz hd
    refine Ev.step (fun k => by rw [regcertlaw09_InterpKeeps.l1]) ?_
    refine Ev.neg (by omega) ?_
    exact Ev.bind (same_refl _ _ _ _ _ _ _ _ h4 h5 h6) (keeps_l2 x hx _ _ _ _ _ _ _ _ 0 s4 (by omega) (by omega) h4 rfl)
  | succ d ih =>
    intro i z h0 h1 hz hd
    refine Ev.step (fun k => by rw [regcertlaw09_InterpKeeps.l1]) ?_
    refine Ev.pos (by omega) (Ev.pos h0 ?_)
    rw [show wrap64 (i + 1) = i + 1 from w64s (by omega) (by omega)]
    exact ih (i + 1) _ (by omega) (by rw [List.length_set]; omega) (by rw [List.length_set]; exact hz) (by rw [List.length_set]; omega)
theorem keeps_l0 (x : List Int) (hx : x.length ≤ 1000000) (s0 s1 s2 s3 s7 : Int) (s4 s5 s6 : List Int) (h4 : s4.length ≤ 1000000) (h5 : s5.length ≤ 1000000) (h6 : s6.length ≤ 1000000) (a b c e g : Int) (p q : List Int) (hq : q.length ≤ 1000000) : ∀ (d : Nat) (i : Int) (z : List Int), 0 ≤ i → i ≤ z.length → z.length ≤ 1000000 → ((z.length : Int) - i).toNat = d →
    Ev (fun k => regcertlaw09_InterpKeeps.l0 k x x i s0 s1 s2 s3 s4 s5 s6 s7 s0 s1 s2 s3 s4 s5 s6 s7 a b c e z p q g) true := by
  intro d
  induction d with
  | zero =>
    intro i z h0 h1 hz hd
    refine Ev.step (fun k => by rw [regcertlaw09_InterpKeeps.l0]) ?_
    refine Ev.neg (by omega) ?_
    exact keeps_l1 x hx _ _ _ _ _ _ _ _ h4 h5 h6 _ _ _ _ _ _ _ _ 0 q (by omega) (by omega) hq rfl
  | succ d ih =>
    intro i z h0 h1 hz hd
    refine Ev.step (fun k => by rw [regcertlaw09_InterpKeeps.l0]) ?_
    refine Ev.pos (by omega) (Ev.pos h0 ?_)
    rw [show wrap64 (i + 1) = i + 1 from w64s (by omega) (by omega)]
    exact ih (i + 1) _ (by omega) (by rw [List.length_set]; omega) (by rw [List.length_set]; exact hz) (by rw [List.length_set]; omega)

theorem copy_id (a b c d e : Int) (x y z : List Int) (hx : x.length ≤ 1000000) (hy : y.length ≤ 1000000) (hz : z.length ≤ 1000000) : regcertref09_Copy.f a b c d x y z e = some (a, b, c, d, x, y, z, e) := by
  unfold regcertref09_Copy.f
  simp only [Option.bind_some, List.nil_append, List.length_nil]
  rw [if_pos (by omega), if_pos (by omega), if_pos (by omega)]

theorem keeps_pure (x0 : S34) (l1 : List Int) (a2 : Int) (h2 : 0 ≤ a2 ∧ a2 ≤ 255) : Ev (fun k => regcertlaw09_InterpKeeps.f k x0.f0 x0.f1 x0.f2 l1 a2) true := by
  obtain ⟨a0, a1, l⟩ := x0
  dsimp only
  refine Ev.congr (fun k => by rw [regcertlaw09_InterpKeeps.f]) ?_
  refine Ev.bind awake09 (Ev.pos rfl ?_)
  obtain ⟨b, hb, hv⟩ := ev_right (a0 := a0) (a1 := a1) (l := l) (l1 := l1) (a2 := 0)
  have out : Ev (fun k => regcertlaw09_InterpKeeps.j0 k l1 a2 true a0 a1 l) true := by
    refine Ev.step (fun k => by rw [regcertlaw09_InterpKeeps.j0]) ?_
    exact Ev.pos rfl (Ev.bind awake09 (Ev.now _))
  refine Ev.bind hb ?_
  by_cases hbt : b = true
  · refine Ev.pos hbt ?_
    obtain ⟨V, v0, v1, _, v5⟩ := hv hbt
    by_cases hl : (l1.length : Int) = a0
    · rw [show ((l1.length : Int) != a0) = false by simp [hl]]
      refine Ev.step (fun k => by rw [regcertlaw09_InterpKeeps.j0]) ?_
      refine Ev.neg (by simp) (Ev.bindv (Ev.pos (by simp; omega) (Ev.bindv ?_)))
      rw [List.nil_append]
      rw [w64s (n := a2) (by omega) (by omega), Int.tmod_eq_emod_of_nonneg h2.1]
      have n0 : 0 ≤ a2 % 60 ∧ a2 % 60 < 60 := by omega
      generalize a2 % 60 = n at n0
      have h0 := V.regs0
      have h60 := V.regs1
      obtain ⟨r, er, R, hk⟩ := exec_ev V hl v1 n0.1 (by omega)
      have hrl := R.inv.regs
      have htl := R.inv.trace
      have hup := R.upto
      obtain ⟨s1, e1, I1, hg, hst⟩ := step_one (a0 := a0) V R.inv (by omega)
      have hrl1 := I1.regs
      have htl1 := I1.trace
      have hs1 : s1.steps ≤ 1000 := by
        by_cases hz : r.st = 0
        · rcases (hg hz).2 with q | ⟨_, q⟩ <;> omega
        · rw [hst hz]
          omega
      refine Ev.bind er (Ev.bindc (copy_id _ _ _ _ _ _ _ _ (by dsimp only; omega) (by simp) (by dsimp only; omega)) (Ev.bindc e1 ?_))
      exact keeps_l0 l1 (by omega) _ _ _ _ _ _ _ _ (by dsimp only; omega) (by simp) (by dsimp only; omega) _ _ _ _ _ _ _ (by dsimp only; omega) _ 0 _ (by omega) (by omega) (by dsimp only; omega) rfl
    · rw [show ((l1.length : Int) != a0) = true by simp [hl]]
      exact out
  · exact Ev.neg hbt out
end Go.Proofs.Ytgkmagfajalnhaa.Y
namespace Go.Proofs.Ytgkmagfajalnhaa
theorem interpKeeps_holds : Rows.InterpKeepsSaid := interpKeeps.over fun x0 l1 a2 _ _ h2 => (Y.keeps_pure x0 l1 a2 (bounds_u8 h2)).rounds
end Go.Proofs.Ytgkmagfajalnhaa
