/-
  Runs with more registers, more slots and one more block, as plain laws.
-/
import Derived.Test.YtgkmagfajalnhaaUEPure
namespace Go.Proofs.Ytgkmagfajalnhaa.E
open Go.RowKit Go.Proofs.YtgkmagfajalnhaaW.PrintWords Go.Proofs.YtgkmagfajalnhaaW.PrintLast Go.Proofs.YtgkmagfajalnhaaW.PrintMore
set_option linter.unusedVariables false
set_option linter.unusedSimpArgs false

/-- A run with more registers and slots. -/
def ext (z y : List Int) (s : PS) : PS := { s with regs := s.regs ++ z, slots := s.slots ++ y }
theorem rd_ext (z xs : List Int) (i : Int) (h0 : 0 ≤ i) (h1 : i < xs.length) : rdOf (0 : Int) (xs ++ z) i = rdOf (0 : Int) xs i := by
  unfold rdOf
  rw [List.getD_eq_getElem?_getD, List.getD_eq_getElem?_getD, List.getElem?_append_left (by omega)]
theorem blk_ext (l : List S69) (b : S69) (i : Int) (h1 : i.toNat < l.length) : rd_T69 (l ++ [b]) i = rd_T69 l i := by
  unfold rd_T69
  rw [List.getD_eq_getElem?_getD, List.getD_eq_getElem?_getD, List.getElem?_append_left h1]
theorem loc_ext (z y : List Int) {s : PS} {l : Int} (h : LocOK s l) : LocOK (ext z y s) l ∧ locP (ext z y s) l = locP s l ∧ ∀ v, setLoc (ext z y s) l v = ext z y (setLoc s l v) := by
  have hl : (ext z y s).regs.length = s.regs.length + z.length := List.length_append ..
  have hs : (ext z y s).slots.length = s.slots.length + y.length := List.length_append ..
  unfold LocOK at h ⊢
  unfold locP setLoc
  rw [hl, hs]
  by_cases hk : (Int.tmod l 2 == 1) = true
  · rw [if_pos hk] at h ⊢
    rw [if_pos hk, if_pos hk]
    refine ⟨by omega, rd_ext y _ _ h.1 h.2, fun v => ?_⟩
    rw [if_pos hk, if_pos hk]
    have e : (ext z y s).slots.set (wrap64 (Int.tdiv l 2)).toNat v = s.slots.set (wrap64 (Int.tdiv l 2)).toNat v ++ y := List.set_append_left _ _ (by omega)
    rw [e]
    rfl
  · rw [if_neg hk] at h ⊢
    rw [if_neg hk, if_neg hk]
    refine ⟨by omega, rd_ext z _ _ h.1 h.2, fun v => ?_⟩
    rw [if_neg hk, if_neg hk]
    have e : (ext z y s).regs.set (wrap64 (Int.tdiv l 2)).toNat v = s.regs.set (wrap64 (Int.tdiv l 2)).toNat v ++ z := List.set_append_left _ _ (by omega)
    rw [e]
    rfl
theorem term_ext (z y : List Int) {s s1 : PS} {t : S48} (h : termP s t = some s1) : termP (ext z y s) t = some (ext z y s1) := by
  unfold termP at h ⊢
  have hl : (ext z y s).regs.length = s.regs.length + z.length := List.length_append ..
  by_cases c3 : t.f0 = 3
  · rw [if_pos c3] at h ⊢
    by_cases cr : 0 ≤ t.f1 ∧ t.f1 < s.regs.length
    · rw [if_pos cr] at h
      rw [if_pos ⟨cr.1, by rw [hl]; omega⟩, show rdOf (0 : Int) (ext z y s).regs t.f1 = rdOf 0 s.regs t.f1 from rd_ext z _ _ cr.1 cr.2]
      obtain rfl := Option.some.inj h
      rfl
    · rw [if_neg cr] at h
      cases h
  · rw [if_neg c3] at h ⊢
    by_cases c1 : t.f0 = 1
    · rw [if_pos c1] at h ⊢
      obtain rfl := Option.some.inj h
      rfl
    · rw [if_neg c1] at h ⊢
      by_cases cr : 0 ≤ t.f1 ∧ t.f1 < s.regs.length
      · rw [if_pos cr] at h
        rw [if_pos ⟨cr.1, by rw [hl]; omega⟩, show rdOf (0 : Int) (ext z y s).regs t.f1 = rdOf 0 s.regs t.f1 from rd_ext z _ _ cr.1 cr.2]
        by_cases cz : rdOf (0 : Int) s.regs t.f1 = 0
        · rw [if_pos cz] at h ⊢
          obtain rfl := Option.some.inj h
          rfl
        · rw [if_neg cz] at h ⊢
          obtain rfl := Option.some.inj h
          rfl
      · rw [if_neg cr] at h
        cases h
theorem instr_ext (z y : List Int) {s s1 : PS} {i : S84} (h : instrP s i = some s1) : instrP (ext z y s) i = some (ext z y s1) := by
  unfold instrP at h ⊢
  have hl : (ext z y s).regs.length = s.regs.length + z.length := List.length_append ..
  have ht : (ext z y s).trace = s.trace := rfl
  by_cases cm : i.f0 = 18
  · rw [if_pos cm] at h ⊢
    by_cases cr : LocOK s i.f5 ∧ LocOK s i.f6
    · rw [if_pos cr] at h
      obtain ⟨p1, p2, p3⟩ := loc_ext z y cr.1
      obtain ⟨q1, q2, q3⟩ := loc_ext z y cr.2
      rw [if_pos ⟨p1, q1⟩, q2, p3]
      obtain rfl := Option.some.inj h
      rfl
    · rw [if_neg cr] at h
      cases h
  rw [if_neg cm] at h ⊢
  by_cases c : i.f0 = 17
  · rw [if_pos c] at h ⊢
    by_cases cr : 0 ≤ i.f2 ∧ i.f2 < s.regs.length ∧ (s.trace.length + 1) * 8 ≤ 140737488355328
    · rw [if_pos cr] at h
      rw [if_pos ⟨cr.1, by rw [hl]; omega, cr.2.2⟩, show rdOf (0 : Int) (ext z y s).regs i.f2 = rdOf 0 s.regs i.f2 from rd_ext z _ _ cr.1 cr.2.1]
      obtain rfl := Option.some.inj h
      rfl
    · rw [if_neg cr] at h
      cases h
  · rw [if_neg c] at h ⊢
    by_cases cr : 0 ≤ i.f2 ∧ i.f2 < s.regs.length ∧ 0 ≤ i.f3 ∧ i.f3 < s.regs.length
    · rw [if_pos cr] at h
      rw [if_pos ⟨cr.1, by rw [hl]; omega, cr.2.2.1, by rw [hl]; omega⟩, show rdOf (0 : Int) (ext z y s).regs i.f2 = rdOf 0 s.regs i.f2 from rd_ext z _ _ cr.1 cr.2.1, show rdOf (0 : Int) (ext z y s).regs i.f3 = rdOf 0 s.regs i.f3 from rd_ext z _ _ cr.2.2.1 cr.2.2.2]
      obtain ⟨v, hv, h⟩ := Option.bind_eq_some_iff.mp h
      rw [hv, Option.bind_some]
      by_cases ck : v.2 = true
      · rw [if_pos ck] at h ⊢
        by_cases cd : 0 ≤ i.f1 ∧ i.f1 < s.regs.length
        · rw [if_pos cd] at h
          rw [if_pos ⟨cd.1, by rw [hl]; omega⟩]
          obtain rfl := Option.some.inj h
          have e : (ext z y s).regs.set i.f1.toNat v.1 = s.regs.set i.f1.toNat v.1 ++ z := List.set_append_left _ _ (by omega)
          rw [e]
          rfl
        · rw [if_neg cd] at h
          cases h
      · rw [if_neg ck] at h ⊢
        obtain rfl := Option.some.inj h
        rfl
    · rw [if_neg cr] at h
      cases h
theorem step_ext (z y : List Int) (l : List S69) (b : S69) {s s1 : PS} (h : stepP l s = some s1) : stepP (l ++ [b]) (ext z y s) = some (ext z y s1) := by
  unfold stepP at h ⊢
  have hb : (ext z y s).blk = s.blk := rfl
  have ha : (ext z y s).at_ = s.at_ := rfl
  rw [hb, ha]
  by_cases c : 0 ≤ s.blk ∧ s.blk < l.length
  · rw [if_pos c] at h
    rw [if_pos ⟨c.1, by rw [List.length_append]; simp; omega⟩, blk_ext l b s.blk (by omega)]
    by_cases c1 : s.at_ < ((rd_T69 l s.blk).f0).length
    · rw [if_pos c1] at h ⊢
      by_cases c0 : 0 ≤ s.at_
      · rw [if_pos c0] at h ⊢
        exact instr_ext z y h
      · rw [if_neg c0] at h
        cases h
    · rw [if_neg c1] at h ⊢
      exact term_ext z y h
  · rw [if_neg c] at h
    cases h
theorem loop_ext (z y : List Int) (l : List S69) (b : S69) (m : Int) : ∀ (k : Nat) (s r : PS), execLoop k l m s = some r → execLoop k (l ++ [b]) m (ext z y s) = some (ext z y r) := by
  intro k
  induction k with
  | zero => exact fun s r h => by cases h
  | succ k ih =>
    intro s r h
    unfold execLoop at h ⊢
    have hs : (ext z y s).st = s.st := rfl
    have hp : (ext z y s).steps = s.steps := rfl
    rw [hs, hp]
    by_cases c : s.st = 0
    · rw [if_pos c] at h ⊢
      by_cases c1 : s.steps < m
      · rw [if_pos c1] at h ⊢
        obtain ⟨s1, e1, h1⟩ := Option.bind_eq_some_iff.mp h
        rw [step_ext z y l b e1, Option.bind_some]
        exact ih s1 r h1
      · rw [if_neg c1] at h ⊢
        obtain rfl := Option.some.inj h
        rfl
    · rw [if_neg c] at h ⊢
      obtain rfl := Option.some.inj h
      rfl
theorem begin_ext (a d c e : Int) (l1 : List Int) (ha : (l1.length : Int) ≤ c) (ha0 : 0 ≤ a) (hd : 0 ≤ d) (he : 0 ≤ e) : beginP (a + d) (c + e) l1 = ext (List.replicate d.toNat 0) (List.replicate e.toNat 0) (beginP a c l1) := by
  have e1 : min l1.length (c + e).toNat = l1.length := by omega
  have e2 : min l1.length c.toNat = l1.length := by omega
  unfold beginP ext
  rw [e1, e2]
  simp only [List.take_length, List.drop_replicate, List.append_assoc]
  rw [List.replicate_append_replicate, List.replicate_append_replicate, show (c + e).toNat - l1.length = c.toNat - l1.length + e.toNat by omega, show (a + d).toNat = a.toNat + d.toNat by omega]

end Go.Proofs.Ytgkmagfajalnhaa.E
