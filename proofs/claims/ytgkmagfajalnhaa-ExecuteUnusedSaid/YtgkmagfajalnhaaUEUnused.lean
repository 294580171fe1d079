/-
  ExecuteUnused.
-/
import Derived.Test.YtgkmagfajalnhaaUERuns
import Derived.Test.YtgkmagfajalnhaaUEExt
import Derived.Test.YtgkmagfajalnhaaUEPrefix
import Derived.Test.YtgkmagfajalnhaaUERowExecuteUnused
namespace Go.Proofs.Ytgkmagfajalnhaa.E
open Go.RowKit Go.Proofs.YtgkmagfajalnhaaW.PrintWords Go.Proofs.YtgkmagfajalnhaaW.PrintLast Go.Proofs.YtgkmagfajalnhaaW.PrintMore Num
set_option linter.unusedVariables false
set_option linter.unusedSimpArgs false

theorem prefix_true (a b : List Int) (hl : a.length ≤ 1000000) (h : a <+: b) : Ev (fun k => regcertref09_Prefix.f k a b) true := by
  have hlen := h.length_le
  have ht : b.take ((a.length : Int)).toNat = a := by
    rw [Int.toNat_natCast]
    exact (List.prefix_iff_eq_take.mp h).symm
  refine Ev.congr (fun k => by rw [regcertref09_Prefix.f, ht]) ?_
  refine Ev.pos (by omega) (Ev.pos (by omega) ?_)
  exact Ev.bind (values_refl a hl) (Ev.now _)
theorem copy_loop (a0 a1 a2 : Int) (l : List S69) (hl : l.length ≤ 1000) (hs : ∀ j : Int, 0 ≤ j → j < l.length → ((rd_T69 l j).f0).length ≤ 300) : ∀ (d : Nat) (i : Int), 0 ≤ i → i ≤ l.length → ((l.length : Int) - i).toNat = d →
    Ev (fun k => regcertref08_Copy.l0 k i a0 a1 a2 l a0 a1 a2 (l.take i.toNat)) (a0, a1, a2, l) := by
  intro d
  induction d with
  | zero =>
    intro i h0 h1 hd
    refine Ev.step (fun k => by rw [regcertref08_Copy.l0]) ?_
    refine Ev.neg (by omega) (Ev.val ?_)
    rw [List.take_of_length_le (by omega)]
  | succ d ih =>
    intro i h0 h1 hd
    have hi : i < l.length := by omega
    have := hs i h0 hi
    refine Ev.step (fun k => by rw [regcertref08_Copy.l0]) ?_
    refine Ev.pos hi (Ev.bindv (Ev.pos h0 (Ev.pos (by simp; omega) (Ev.pos (by rw [List.length_take]; omega) ?_))))
    have e : l.take i.toNat ++ [rd_T69 l i] = l.take (i + 1).toNat := by
      rw [show (i + 1).toNat = i.toNat + 1 by omega, List.take_add_one]
      unfold rd_T69
      rw [List.getD_eq_getElem?_getD, List.getElem?_eq_getElem (show i.toNat < l.length by omega)]
      rfl
    rw [show wrap64 (i + 1) = i + 1 from w64s (by omega) (by omega)]
    rw [List.nil_append]
    show Ev (fun k => regcertref08_Copy.l0 k (i + 1) a0 a1 a2 l a0 a1 a2 (l.take i.toNat ++ [rd_T69 l i])) _
    rw [e]
    exact ih (i + 1) (by omega) (by omega) (by omega)

theorem i64_app {l : List S69} {b : S69} (h : I64L l) (hb : I64L [b]) : I64L (l ++ [b]) := by
  intro i j i0 i1 j0 j1
  by_cases hi : i < l.length
  · rw [blk_ext l b i (by omega)] at j1 ⊢
    exact h i j i0 hi j0 j1
  · have e : rd_T69 (l ++ [b]) i = rd_T69 [b] 0 := by
      rw [List.length_append] at i1
      simp only [List.length_cons, List.length_nil] at i1
      unfold rd_T69
      rw [List.getD_eq_getElem?_getD, show i.toNat = l.length by omega, List.getElem?_append_right (Nat.le_refl _), Nat.sub_self]
      rfl
    rw [e] at j1 ⊢
    exact hb 0 j (by omega) (by simp) j0 j1
theorem unused_pure (x0 : S63) (l1 : List Int) (a2 : Int) (x3 : S69) (a4 : Int) (h64 : I64L x0.f3) (h3 : I64L [x3]) (h2 : 0 ≤ a2 ∧ a2 ≤ 255) (h4 : 0 ≤ a4 ∧ a4 ≤ 255) : Ev (fun k => regcertlaw10_ExecuteUnused.f k x0.f0 x0.f1 x0.f2 x0.f3 l1 a2 x3.f0 x3.f1.f0 x3.f1.f1 x3.f1.f2 x3.f1.f3 a4) true := by
  obtain ⟨a0, fr, fs, l⟩ := x0
  dsimp only at h64 ⊢
  refine Ev.congr (fun k => by rw [regcertlaw10_ExecuteUnused.f]) ?_
  refine Ev.bind awake10 (Ev.pos rfl ?_)
  obtain ⟨b, hb, hv⟩ := right_evs a0 fr fs l h64 l1 0
  have out : Ev (fun k => regcertlaw10_ExecuteUnused.j0 k l1 a2 a4 true a0 fr fs l x3.f0 x3.f1.f0 x3.f1.f1 x3.f1.f2 x3.f1.f3) true := by
    refine Ev.step (fun k => by rw [regcertlaw10_ExecuteUnused.j0]) ?_
    exact Ev.pos rfl (Ev.bind awake10 (Ev.now _))
  refine Ev.bind hb ?_
  by_cases hbt : b = true
  · refine Ev.pos hbt ?_
    obtain ⟨V, v0, v1, _, v5⟩ := hv hbt
    by_cases hl : (l1.length : Int) = a0
    · rw [show ((l1.length : Int) != a0) = false by simp [hl]]
      have hfew := V.few
      have hr0 := V.regs0
      have hr1 := V.regs1
      have hs0 := V.slots0
      have hs1 := V.slots1
      refine Ev.step (fun k => by rw [regcertlaw10_ExecuteUnused.j0]) ?_
      refine Ev.neg (by simp) ?_
      have hcopy : Ev (fun k => regcertref08_Copy.f k a0 fr fs l) (a0, fr, fs, l) := by
        refine Ev.congr (fun k => by rw [regcertref08_Copy.f]) ?_
        exact copy_loop a0 fr fs l (by omega) (fun j j0 j1 => (V.blocks j j0 j1).1) _ 0 (by omega) (by omega) rfl
      refine Ev.bind hcopy (Ev.pos (by dsimp only; omega) (Ev.bindv ?_))
      dsimp only
      rw [Int.tmod_eq_emod_of_nonneg h4.1, Int.tmod_eq_emod_of_nonneg h4.1]
      have m5 : 0 ≤ a4 % 5 ∧ a4 % 5 < 5 := by omega
      have m7 : 0 ≤ a4 % 7 ∧ a4 % 7 < 7 := by omega
      generalize a4 % 5 = d at m5
      generalize a4 % 7 = e at m7
      rw [w64s (n := d) (by omega) (by omega), w64s (n := e) (by omega) (by omega), w64s (n := fr + d) (by omega) (by omega), w64s (n := fs + e) (by omega) (by omega)]
      have last : ∀ c : Bool, Ev (fun k => regcertlaw10_ExecuteUnused.j1 k l1 a2 c a0 fr fs l a0 (fr + d) (fs + e) (l ++ [x3])) true := by
        intro c
        refine Ev.step (fun k => by rw [regcertlaw10_ExecuteUnused.j1]) ?_
        cases c
        · refine Ev.neg (by simp) ?_
          rw [w64s (n := a2) (by omega) (by omega)]
          obtain ⟨r, er, R, kk, hk⟩ := exec_ev V hl v1 h2.1 (by omega)
          have hf : fuelOf a2 = a2 := if_neg (by omega)
          have hk2 := loop_ext (List.replicate d.toNat 0) (List.replicate e.toNat 0) l x3 a2 kk _ _ hk
          rw [← begin_ext fr d fs e l1 (by omega) hr0 m5.1 m7.1] at hk2
          have es : Ev (fun k => execute_Exec.f k a0 (fr + d) (fs + e) (l ++ [x3]) l1 a2) (r.st, r.blk, r.at_, r.val, r.regs ++ List.replicate d.toNat 0, r.slots ++ List.replicate e.toNat 0, r.trace, r.steps, 0) := by
            refine ⟨kk, fun k hkk => ?_⟩
            unfold execute_Exec.f
            dsimp only
            rw [if_pos hl, if_pos ⟨by omega, by omega, by omega, by omega⟩, hf, execLoop_le _ a2 hkk hk2]
            rfl
          have hrl := R.inv.regs
          have hsl := R.inv.slots
          have htl := R.inv.trace
          have hup := R.upto
          refine Ev.bind er (Ev.bind es (Ev.pos rfl (Ev.pos rfl (Ev.pos rfl (Ev.pos rfl (Ev.pos rfl ?_))))))
          refine Ev.bind (values_refl r.trace (by omega)) (Ev.pos rfl ?_)
          refine Ev.bind (prefix_true r.regs _ (by omega) (List.prefix_append _ _)) (Ev.pos rfl ?_)
          exact Ev.bind (prefix_true r.slots _ (by omega) (List.prefix_append _ _)) (Ev.now _)
        · exact Ev.pos rfl (Ev.now _)
      obtain ⟨t, ht, hp⟩ := few_evs a0 (fr + d) (fs + e) (l ++ [x3])
      refine Ev.bind ht ?_
      by_cases htt : t = true
      · obtain ⟨q1, q2, q4, q3⟩ := hp htt
        obtain ⟨u, hu, _⟩ := check_evs a0 (fr + d) (fs + e) (l ++ [x3]) q1 q2 q4 (i64_app h64 h3) q3
        exact Ev.pos htt (Ev.bind hu (last _))
      · exact Ev.neg htt (last true)
    · rw [show ((l1.length : Int) != a0) = true by simp [hl]]
      exact out
  · exact Ev.neg hbt out
end Go.Proofs.Ytgkmagfajalnhaa.E
namespace Go.Proofs.Ytgkmagfajalnhaa
theorem executeUnused_holds : Rows.ExecuteUnusedSaid := executeUnused.over fun x0 l1 a2 x3 a4 h0 _ h2 h3 h4 => (E.unused_pure x0 l1 a2 x3 a4 (E.good_loc h0.2.2.2.2) (E.good_loc (fun x hx => by rw [List.mem_singleton] at hx; rw [hx]; exact h3)) (bounds_u8 h2) (bounds_u8 h4)).rounds
end Go.Proofs.Ytgkmagfajalnhaa
