/-
  ExecuteKeeps.
-/
import Derived.Test.YtgkmagfajalnhaaSERuns
import Derived.Test.YtgkmagfajalnhaaSERowExecuteKeeps
namespace Go.Proofs.Ytgkmagfajalnhaa.E
open Go.RowKit Go.Proofs.YtgkmagfajalnhaaW.PrintWords Go.Proofs.YtgkmagfajalnhaaW.PrintLast Go.Proofs.YtgkmagfajalnhaaW.PrintMore Num
set_option linter.unusedVariables false
set_option linter.unusedSimpArgs false

theorem keeps_l3 (x : List Int) (hx : x.length ≤ 1000000) (a b c e g : Int) (p q : List Int) : ∀ (d : Nat) (i : Int) (z : List Int), 0 ≤ i → i ≤ z.length → z.length ≤ 1000000 → ((z.length : Int) - i).toNat = d →
    Ev (fun k => regcertlaw10_ExecuteKeeps.l3 k x x true i a b c e p z q g) true := by
  intro d
  induction d with
  | zero =>
    intro i z h0 h1 hz hd
    refine Ev.step (fun k => by rw [regcertlaw10_ExecuteKeeps.l3]) ?_
    refine Ev.neg (by omega) ?_
    exact Ev.pos rfl (Ev.bind (values_refl x hx) (Ev.now _))
  | succ d ih =>
    intro i z h0 h1 hz hd
    refine Ev.step (fun k => by rw [regcertlaw10_ExecuteKeeps.l3]) ?_
    refine Ev.pos (by omega) (Ev.pos h0 ?_)
    rw [show wrap64 (i + 1) = i + 1 from w64s (by omega) (by omega)]
    exact ih (i + 1) _ (by omega) (by rw [List.length_set]; omega) (by rw [List.length_set]; exact hz) (by rw [List.length_set]; omega)
theorem keeps_l2 (x : List Int) (hx : x.length ≤ 1000000) (s0 s1 s2 s3 s7 : Int) (s4 s5 s6 : List Int) (h4 : s4.length ≤ 1000000) (h5 : s5.length ≤ 1000000) (h6 : s6.length ≤ 1000000) (a b c e g : Int) (p q : List Int) : ∀ (d : Nat) (i : Int) (z : List Int), 0 ≤ i → i ≤ z.length → z.length ≤ 1000000 → ((z.length : Int) - i).toNat = d →
    Ev (fun k => regcertlaw10_ExecuteKeeps.l2 k x x i s0 s1 s2 s3 s4 s5 s6 s7 s0 s1 s2 s3 s4 s5 s6 s7 a b c e p q z g) true := by
  intro d
  induction d with
  | zero =>
    intro i z h0 h1 hz hd
    refine Ev.step (fun k => by rw [regcertlaw10_ExecuteKeeps.l2]) ?_
    refine Ev.neg (by omega) ?_
    exact Ev.bind (same_refl _ _ _ _ _ _ _ _ h4 h5 h6) (keeps_l3 x hx _ _ _ _ _ _ _ _ 0 s5 (by omega) (by omega) h5 rfl)
  | succ d ih =>
    intro i z h0 h1 hz hd
    refine Ev.step (fun k => by rw [regcertlaw10_ExecuteKeeps.l2]) ?_
    refine Ev.pos (by omega) (Ev.pos h0 ?_)
    rw [show wrap64 (i + 1) = i + 1 from w64s (by omega) (by omega)]
    exact ih (i + 1) _ (by omega) (by rw [List.length_set]; omega) (by rw [List.length_set]; exact hz) (by rw [List.length_set]; omega)
theorem keeps_l1 (x : List Int) (hx : x.length ≤ 1000000) (s0 s1 s2 s3 s7 : Int) (s4 s5 s6 : List Int) (h4 : s4.length ≤ 1000000) (h5 : s5.length ≤ 1000000) (h6 : s6.length ≤ 1000000) (a b c e g : Int) (p q : List Int) (hq : q.length ≤ 1000000) : ∀ (d : Nat) (i : Int) (z : List Int), 0 ≤ i → i ≤ z.length → z.length ≤ 1000000 → ((z.length : Int) - i).toNat = d →
    Ev (fun k => regcertlaw10_ExecuteKeeps.l1 k x x i s0 s1 s2 s3 s4 s5 s6 s7 s0 s1 s2 s3 s4 s5 s6 s7 a b c e p z q g) true := by
  intro d
  induction d with
  | zero =>
    intro i z h0 h1 hz hd
    refine Ev.step (fun k => by rw [regcertlaw10_ExecuteKeeps.l1]) ?_
    refine Ev.neg (by omega) ?_
    exact keeps_l2 x hx _ _ _ _ _ _ _ _ h4 h5 h6 _ _ _ _ _ _ _ _ 0 q (by omega) (by omega) hq rfl
  | succ d ih =>
    intro i z h0 h1 hz hd
    refine Ev.step (fun k => by rw [regcertlaw10_ExecuteKeeps.l1]) ?_
    refine Ev.pos (by omega) (Ev.pos h0 ?_)
    rw [show wrap64 (i + 1) = i + 1 from w64s (by omega) (by omega)]
    exact ih (i + 1) _ (by omega) (by rw [List.length_set]; omega) (by rw [List.length_set]; exact hz) (by rw [List.length_set]; omega)
theorem keeps_l0 (x : List Int) (hx : x.length ≤ 1000000) (s0 s1 s2 s3 s7 : Int) (s4 s5 s6 : List Int) (h4 : s4.length ≤ 1000000) (h5 : s5.length ≤ 1000000) (h6 : s6.length ≤ 1000000) (a b c e g : Int) (p q : List Int) (hp : p.length ≤ 1000000) (hq : q.length ≤ 1000000) : ∀ (d : Nat) (i : Int) (z : List Int), 0 ≤ i → i ≤ z.length → z.length ≤ 1000000 → ((z.length : Int) - i).toNat = d →
    Ev (fun k => regcertlaw10_ExecuteKeeps.l0 k x x i s0 s1 s2 s3 s4 s5 s6 s7 s0 s1 s2 s3 s4 s5 s6 s7 a b c e z p q g) true := by
  intro d
  induction d with
  | zero =>
    intro i z h0 h1 hz hd
    refine Ev.step (fun k => by rw [regcertlaw10_ExecuteKeeps.l0]) ?_
    refine Ev.neg (by omega) ?_
    exact keeps_l1 x hx _ _ _ _ _ _ _ _ h4 h5 h6 _ _ _ _ _ _ _ hq _ 0 p (by omega) (by omega) hp rfl
  | succ d ih =>
    intro i z h0 h1 hz hd
    refine Ev.step (fun k => by rw [regcertlaw10_ExecuteKeeps.l0]) ?_
    refine Ev.pos (by omega) (Ev.pos h0 ?_)
    rw [show wrap64 (i + 1) = i + 1 from w64s (by omega) (by omega)]
    exact ih (i + 1) _ (by omega) (by rw [List.length_set]; omega) (by rw [List.length_set]; exact hz) (by rw [List.length_set]; omega)
theorem copy_id (a b c d e : Int) (x y z : List Int) (hx : x.length ≤ 1000000) (hy : y.length ≤ 1000000) (hz : z.length ≤ 1000000) : regcertref09_Copy.f a b c d x y z e = some (a, b, c, d, x, y, z, e) := by
  unfold regcertref09_Copy.f
  simp only [Option.bind_some, List.nil_append, List.length_nil]
  rw [if_pos (by omega), if_pos (by omega), if_pos (by omega)]

theorem keeps_pure (x0 : S63) (l1 : List Int) (a2 : Int) (h64 : I64L x0.f3) (h2 : 0 ≤ a2 ∧ a2 ≤ 255) : Ev (fun k => regcertlaw10_ExecuteKeeps.f k x0.f0 x0.f1 x0.f2 x0.f3 l1 a2) true := by
  obtain ⟨a0, a1, a2', l⟩ := x0
  dsimp only at h64 ⊢
  refine Ev.congr (fun k => by rw [regcertlaw10_ExecuteKeeps.f]) ?_
  refine Ev.bind awake10 (Ev.pos rfl ?_)
  obtain ⟨b, hb, hv⟩ := right_evs a0 a1 a2' l h64 l1 0
  have out : Ev (fun k => regcertlaw10_ExecuteKeeps.j0 k l1 a2 true a0 a1 a2' l) true := by
    refine Ev.step (fun k => by rw [regcertlaw10_ExecuteKeeps.j0]) ?_
    exact Ev.pos rfl (Ev.bind awake10 (Ev.now _))
  refine Ev.bind hb ?_
  by_cases hbt : b = true
  · refine Ev.pos hbt ?_
    obtain ⟨V, v0, v1, _, v5⟩ := hv hbt
    by_cases hl : (l1.length : Int) = a0
    · rw [show ((l1.length : Int) != a0) = false by simp [hl]]
      refine Ev.step (fun k => by rw [regcertlaw10_ExecuteKeeps.j0]) ?_
      refine Ev.neg (by simp) (Ev.bindv (Ev.pos (by simp; omega) (Ev.bindv ?_)))
      rw [List.nil_append]
      rw [w64s (n := a2) (by omega) (by omega), Int.tmod_eq_emod_of_nonneg h2.1]
      have n0 : 0 ≤ a2 % 60 ∧ a2 % 60 < 60 := by omega
      generalize a2 % 60 = n at n0
      have h0 := V.regs0
      have h60 := V.regs1
      have h62 := V.slots1
      obtain ⟨r, er, R, hk⟩ := exec_ev V hl v1 n0.1 (by omega)
      have hrl := R.inv.regs
      have hsl := R.inv.slots
      have htl := R.inv.trace
      have hup := R.upto
      obtain ⟨s1, e1, I1, hg, hst⟩ := step_one (a0 := a0) V R.inv (by omega)
      have hrl1 := I1.regs
      have hsl1 := I1.slots
      have htl1 := I1.trace
      have hs1 : s1.steps ≤ 1000 := by
        by_cases hz : r.st = 0
        · rcases (hg hz).2 with q | ⟨_, q⟩ <;> omega
        · rw [hst hz]
          omega
      refine Ev.bind er (Ev.bindc (copy_id _ _ _ _ _ _ _ _ (by dsimp only; omega) (by dsimp only; omega) (by dsimp only; omega)) (Ev.bindc e1 ?_))
      exact keeps_l0 l1 (by omega) _ _ _ _ _ _ _ _ (by dsimp only; omega) (by dsimp only; omega) (by dsimp only; omega) _ _ _ _ _ _ _ (by dsimp only; omega) (by dsimp only; omega) _ 0 _ (by omega) (by omega) (by dsimp only; omega) rfl
    · rw [show ((l1.length : Int) != a0) = true by simp [hl]]
      exact out
  · exact Ev.neg hbt out
end Go.Proofs.Ytgkmagfajalnhaa.E
namespace Go.Proofs.Ytgkmagfajalnhaa
theorem executeKeeps_holds : Rows.ExecuteKeepsSaid := executeKeeps.over fun x0 l1 a2 h0 _ h2 => (E.keeps_pure x0 l1 a2 (E.good_loc h0.2.2.2.2) (bounds_u8 h2)).rounds
end Go.Proofs.Ytgkmagfajalnhaa
