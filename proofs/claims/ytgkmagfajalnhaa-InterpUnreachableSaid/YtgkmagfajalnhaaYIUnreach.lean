/-
  InterpUnreachable.
-/
import Derived.Test.YtgkmagfajalnhaaYIValidB
import Derived.Test.YtgkmagfajalnhaaYIExt
import Derived.Test.YtgkmagfajalnhaaYIPrefix
import Derived.Test.YtgkmagfajalnhaaYRowInterpUnreachable
namespace Go.Proofs.Ytgkmagfajalnhaa.Y
open Go.RowKit Go.Proofs.YtgkmagfajalnhaaW.PrintWords Go.Proofs.YtgkmagfajalnhaaW.PrintLast Go.Proofs.YtgkmagfajalnhaaW.PrintMore Num
set_option linter.unusedVariables false
set_option linter.unusedSimpArgs false

theorem awake09 : Ev (fun k => regcertlaw09_awake.f k) true := Ev.of (fun k => regcertlaw09_awake.mono k) (k := 40) (by kernel_rfl)

theorem exec_ev {fr : Int} {l : List S50} (V : ValidP fr l) {l1 : List Int} {a0 m : Int} (ha : (l1.length : Int) = a0) (h1 : a0 ≤ fr) (hm0 : 0 ≤ m) (hm : m ≤ 1000000) :
    ∃ r, Ev (fun k => interp_Exec.f k a0 fr l l1 m) (r.st, r.blk, r.at_, r.val, r.regs, [], r.trace, r.steps, 0) ∧ Ran fr l m (beginP fr l1) r ∧ ∃ k, execLoop k l m (beginP fr l1) = some r := by
  have hf : fuelOf m = m := if_neg (by omega)
  obtain ⟨r, er, R⟩ := exec_ran V hm (m.toNat) (beginP fr l1) (begin_inv V (by omega)) hm0 (by show (m - 0).toNat ≤ _; omega)
  have h0 := V.regs0
  have h60 := V.regs1
  refine ⟨r, ⟨m.toNat + 2, fun k hk => ?_⟩, R, _, er⟩
  unfold interp_Exec.f
  dsimp only
  rw [if_pos ha, if_pos ⟨h0, by omega⟩, hf, execLoop_le l m hk er]
  rfl

theorem prefix_true (a b : List Int) (hl : a.length ≤ 1000000) (h : a <+: b) : Ev (fun k => regcertref09_Prefix.f k a b) true := by
  have hlen := h.length_le
  have ht : b.take ((a.length : Int)).toNat = a := by
    rw [Int.toNat_natCast]
    exact (List.prefix_iff_eq_take.mp h).symm
  refine Ev.congr (fun k => by rw [regcertref09_Prefix.f, ht]) ?_
  refine Ev.pos (by omega) (Ev.pos (by omega) ?_)
  exact Ev.bind (values_refl a hl) (Ev.now _)
theorem copy_loop (a0 a1 : Int) (l : List S50) (hl : l.length ≤ 1000) (hs : ∀ j : Int, 0 ≤ j → j < l.length → ((rd_T50 l j).f0).length ≤ 100) : ∀ (d : Nat) (i : Int), 0 ≤ i → i ≤ l.length → ((l.length : Int) - i).toNat = d →
    Ev (fun k => regcertref07_Copy.l0 k i a0 a1 l a0 a1 (l.take i.toNat)) (a0, a1, l) := by
  intro d
  induction d with
  | zero =>
    intro i h0 h1 hd
    refine Ev.step (fun k => by rw [regcertref07_Copy.l0]) ?_
    refine Ev.neg (by omega) (Ev.val ?_)
    rw [List.take_of_length_le (by omega)]
  | succ d ih =>
    intro i h0 h1 hd
    have hi : i < l.length := by omega
    have := hs i h0 hi
    refine Ev.step (fun k => by rw [regcertref07_Copy.l0]) ?_
    refine Ev.pos hi (Ev.bindv (Ev.pos h0 (Ev.pos (by simp; omega) (Ev.pos (by rw [List.length_take]; omega) ?_))))
    have e : l.take i.toNat ++ [rd_T50 l i] = l.take (i + 1).toNat := by
      rw [show (i + 1).toNat = i.toNat + 1 by omega, List.take_add_one]
      unfold rd_T50
      rw [List.getD_eq_getElem?_getD, List.getElem?_eq_getElem (show i.toNat < l.length by omega)]
      rfl
    rw [show wrap64 (i + 1) = i + 1 from w64s (by omega) (by omega)]
    rw [List.nil_append]
    show Ev (fun k => regcertref07_Copy.l0 k (i + 1) a0 a1 l a0 a1 (l.take i.toNat ++ [rd_T50 l i])) _
    rw [e]
    exact ih (i + 1) (by omega) (by omega) (by omega)

theorem unreachable_pure (x0 : S34) (l1 : List Int) (a2 : Int) (x3 : S50) (a4 : Int) (h2 : 0 ≤ a2 ∧ a2 ≤ 255) (h4 : 0 ≤ a4 ∧ a4 ≤ 255) : Ev (fun k => regcertlaw09_InterpUnreachable.f k x0.f0 x0.f1 x0.f2 l1 a2 x3.f0 x3.f1.f0 x3.f1.f1 x3.f1.f2 x3.f1.f3 a4) true := by
  obtain ⟨a0, a1, l⟩ := x0
  dsimp only
  refine Ev.congr (fun k => by rw [regcertlaw09_InterpUnreachable.f]) ?_
  refine Ev.bind awake09 (Ev.pos rfl ?_)
  obtain ⟨b, hb, hv⟩ := ev_right (a0 := a0) (a1 := a1) (l := l) (l1 := l1) (a2 := 0)
  have out : Ev (fun k => regcertlaw09_InterpUnreachable.j0 k l1 a2 a4 true a0 a1 l x3.f0 x3.f1.f0 x3.f1.f1 x3.f1.f2 x3.f1.f3) true := by
    refine Ev.step (fun k => by rw [regcertlaw09_InterpUnreachable.j0]) ?_
    exact Ev.pos rfl (Ev.bind awake09 (Ev.now _))
  refine Ev.bind hb ?_
  by_cases hbt : b = true
  · refine Ev.pos hbt ?_
    obtain ⟨V, v0, v1, _, v5⟩ := hv hbt
    by_cases hl : (l1.length : Int) = a0
    · rw [show ((l1.length : Int) != a0) = false by simp [hl]]
      have hfew := V.few
      have hr0 := V.regs0
      have hr1 := V.regs1
      refine Ev.step (fun k => by rw [regcertlaw09_InterpUnreachable.j0]) ?_
      refine Ev.neg (by simp) ?_
      have hcopy : Ev (fun k => regcertref07_Copy.f k a0 a1 l) (a0, a1, l) := by
        refine Ev.congr (fun k => by rw [regcertref07_Copy.f]) ?_
        exact copy_loop a0 a1 l (by omega) (fun j j0 j1 => (V.blocks j j0 j1).1) _ 0 (by omega) (by omega) rfl
      refine Ev.bind hcopy (Ev.pos (by dsimp only; omega) (Ev.bindv ?_))
      dsimp only
      rw [w64s (n := a4) (by omega) (by omega), w64s (n := a1 + a4) (by omega) (by omega)]
      have last : ∀ c : Bool, Ev (fun k => regcertlaw09_InterpUnreachable.j1 k l1 a2 c a0 a1 l a0 (a1 + a4) (l ++ [x3])) true := by
        intro c
        refine Ev.step (fun k => by rw [regcertlaw09_InterpUnreachable.j1]) ?_
        cases c
        · refine Ev.neg (by simp) ?_
          rw [w64s (n := a2) (by omega) (by omega)]
          obtain ⟨r, er, R, kk, hk⟩ := exec_ev V hl v1 h2.1 (by omega)
          have hf : fuelOf a2 = a2 := if_neg (by omega)
          have hk2 := loop_ext (List.replicate a4.toNat 0) l x3 a2 kk _ _ hk
          rw [← begin_ext a1 a4 l1 (by omega) h4.1] at hk2
          have es : Ev (fun k => interp_Exec.f k a0 (a1 + a4) (l ++ [x3]) l1 a2) (r.st, r.blk, r.at_, r.val, r.regs ++ List.replicate a4.toNat 0, [], r.trace, r.steps, 0) := by
            refine ⟨kk, fun k hkk => ?_⟩
            unfold interp_Exec.f
            dsimp only
            rw [if_pos hl, if_pos ⟨by omega, by omega⟩, hf, execLoop_le _ a2 hkk hk2]
            rfl
          have hrl := R.inv.regs
          have htl := R.inv.trace
          have hup := R.upto
          refine Ev.bind er (Ev.bind es (Ev.pos rfl (Ev.pos rfl (Ev.pos rfl (Ev.pos rfl (Ev.pos rfl ?_))))))
          refine Ev.bind (values_refl r.trace (by omega)) (Ev.pos rfl ?_)
          exact Ev.bind (prefix_true r.regs _ (by omega) (List.prefix_append _ _)) (Ev.now _)
        · exact Ev.pos rfl (Ev.now _)
      obtain ⟨t, ht, hp⟩ := few_evs a0 (a1 + a4) (l ++ [x3])
      refine Ev.bind ht ?_
      by_cases htt : t = true
      · obtain ⟨q1, q2, q3⟩ := hp htt
        obtain ⟨u, hu, _⟩ := check_evs a0 (a1 + a4) (l ++ [x3]) q1 q2 q3
        exact Ev.pos htt (Ev.bind hu (last _))
      · exact Ev.neg htt (last true)
    · rw [show ((l1.length : Int) != a0) = true by simp [hl]]
      exact out
  · exact Ev.neg hbt out
end Go.Proofs.Ytgkmagfajalnhaa.Y
namespace Go.Proofs.Ytgkmagfajalnhaa
theorem interpUnreachable_holds : Rows.InterpUnreachableSaid := interpUnreachable.over fun x0 l1 a2 x3 a4 _ _ h2 _ h4 => (Y.unreachable_pure x0 l1 a2 x3 a4 (bounds_u8 h2) (bounds_u8 h4)).rounds
end Go.Proofs.Ytgkmagfajalnhaa
