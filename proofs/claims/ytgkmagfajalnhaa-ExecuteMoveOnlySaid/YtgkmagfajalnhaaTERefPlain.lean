/-
  The reference's runs of the machine as plain functions.
-/
import Derived.Test.YtgkmagfajalnhaaTEValid
import Derived.Test.YtgkmagfajalnhaaTEAwk
import Derived.Test.YtgkmagfajalnhaaTEStepE
import Derived.Test.YtgkmagfajalnhaaTERExec
import Derived.Test.YtgkmagfajalnhaaTERefStep
namespace Go.Proofs.Ytgkmagfajalnhaa.E
open Go.RowKit Go.Proofs.YtgkmagfajalnhaaW.PrintWords Go.Proofs.YtgkmagfajalnhaaW.PrintLast Go.Proofs.YtgkmagfajalnhaaW.PrintMore Num
set_option linter.unusedVariables false
set_option linter.unusedSimpArgs false

theorem awake10 : Ev (fun k => regcertlaw10_awake.f k) true := Ev.of (fun k => regcertlaw10_awake.mono k) (k := 40) (by kernel_rfl)

theorem same_refl (a b c d e : Int) (x y z : List Int) (hx : x.length ≤ 1000000) (hy : y.length ≤ 1000000) (hz : z.length ≤ 1000000) : Ev (fun k => regcertref09_Same.f k a b c d x y z e a b c d x y z e) true := by
  refine Ev.congr (fun k => by rw [regcertref09_Same.f]) ?_
  refine Ev.pos rfl (Ev.pos rfl (Ev.pos rfl (Ev.pos rfl (Ev.pos rfl ?_))))
  refine Ev.bind (values_refl x hx) (Ev.pos rfl ?_)
  refine Ev.bind (values_refl y hy) (Ev.pos rfl ?_)
  exact Ev.bind (values_refl z hz) (Ev.now _)

/-- What Step answers at a run that holds what runs hold. -/
theorem step_one {fr fs a0 : Int} {l : List S69} (V : ValidP fr fs l) {s : PS} (I : Inv fr fs l s) (hb : s.steps ≤ 1000) : ∃ s1, execute_Step.f a0 fr fs l s.st s.blk s.at_ s.val s.regs s.slots s.trace s.steps = some (s1.st, s1.blk, s1.at_, s1.val, s1.regs, s1.slots, s1.trace, s1.steps) ∧
    Inv fr fs l s1 ∧ (s.st = 0 → stepP l s = some s1 ∧ ((s1.steps = s.steps + 1) ∨ (s1.st = 2 ∧ s1.steps = s.steps))) ∧ (s.st ≠ 0 → s1 = s) := by
  have hr := I.regs
  have hr1 := V.regs1
  have hl := I.slots
  have hl1 := V.slots1
  have ht := I.trace
  unfold execute_Step.f
  rw [if_pos ⟨by omega, by omega, by omega⟩]
  by_cases h0 : s.st = 0
  · obtain ⟨s1, e1, I1, p1, hc⟩ := step_ok V I (by omega)
    rw [if_pos h0]
    refine ⟨s1, ?_, I1, fun _ => ⟨e1, hc⟩, fun h => absurd h0 h⟩
    show (stepP l s).bind _ = _
    rw [e1]
    rfl
  · rw [if_neg h0]
    exact ⟨s, rfl, I, fun h => absurd h h0, fun _ => rfl⟩
end Go.Proofs.Ytgkmagfajalnhaa.E
namespace Go.Proofs.Ytgkmagfajalnhaa.E
open Go.RowKit Go.Proofs.YtgkmagfajalnhaaW.PrintWords Go.Proofs.YtgkmagfajalnhaaW.PrintLast Go.Proofs.YtgkmagfajalnhaaW.PrintMore Num
set_option linter.unusedVariables false
set_option linter.unusedSimpArgs false

theorem tmod64 {a b : Int} (h : I64 a) : I64 (a.tmod b) := by
  have e := Int.natAbs_tmod a b
  have l := Nat.mod_le a.natAbs b.natAbs
  unfold I64 at h ⊢
  by_cases ha : 0 ≤ a
  · have := Int.tmod_nonneg b ha
    omega
  · have h2 : 0 ≤ (-a).tmod b := Int.tmod_nonneg b (by omega)
    rw [Int.neg_tmod] at h2
    omega

theorem ite64 {c : Prop} [Decidable c] {p q : Int × Bool} (hp : I64 p.1) (hq : I64 q.1) : I64 (if c then p else q).1 := by split <;> assumption
theorem bit64 {c : Prop} [Decidable c] : I64 (if c then 1 else 0) := by
  unfold I64
  split <;> omega
/-- A result of the arithmetic is a 64-bit integer. -/
theorem eval64 {n a b imm : Int} (ha : I64 a) (hb : I64 b) (hi : I64 imm) : I64 (X.aluEval n a b imm).1 := by
  have z : I64 0 := by unfold I64; omega
  unfold X.aluEval
  rw [bits_and, bits_or, bits_xor, bits_xor]
  repeat' apply ite64
  all_goals dsimp only
  all_goals first
    | exact hi
    | exact ha
    | exact z
    | exact w64_in _
    | exact tmod64 ha
    | exact shr_in ha _
    | exact bit64

def Imm64 (l : List S69) : Prop := ∀ i j : Int, 0 ≤ i → i < l.length → 0 ≤ j → j < ((rd_T69 l i).f0).length → I64 (rd_T84 (rd_T69 l i).f0 j).f4
theorem good_imm {l : List S69} (h : ∀ x ∈ l, good69 x) : Imm64 l := by
  intro i j hi0 hi1 hj0 hj1
  have hb : good69 (rd_T69 l i) := by
    apply h
    unfold rd_T69
    rw [List.getD_eq_getElem?_getD, List.getElem?_eq_getElem (by omega)]
    exact List.getElem_mem _
  have hm : good84 (rd_T84 (rd_T69 l i).f0 j) := by
    apply hb.1.2
    unfold rd_T84
    rw [List.getD_eq_getElem?_getD, List.getElem?_eq_getElem (by omega)]
    exact List.getElem_mem _
  have := bounds_i64 hm.2.2.2.2.1
  unfold I64
  omega
structure A64 (s : PS) : Prop where
  regs : all64 s.regs = true
  slots : all64 s.slots = true
theorem set64 {l : List Int} (h : all64 l = true) {x : Int} (hx : I64 x) (i : Nat) : all64 (l.set i x) = true := by
  refine (all64_iff _).mpr (fun y hy => ?_)
  rcases List.mem_or_eq_of_mem_set hy with q | q
  · exact (all64_iff _).mp h y q
  · rw [q]
    exact hx
theorem locP64 {s : PS} (h : A64 s) {l : Int} (hl : LocOK s l) : I64 (locP s l) := by
  unfold LocOK at hl
  unfold locP
  by_cases hk : (Int.tmod l 2 == 1) = true
  · rw [if_pos hk] at hl ⊢
    exact rd64 h.slots _ hl.1 hl.2
  · rw [if_neg hk] at hl ⊢
    exact rd64 h.regs _ hl.1 hl.2
theorem setLoc64 {s : PS} (h : A64 s) (l : Int) {x : Int} (hx : I64 x) : A64 (setLoc s l x) := by
  unfold setLoc
  by_cases hk : (Int.tmod l 2 == 1) = true
  · rw [if_pos hk]
    exact ⟨h.regs, set64 h.slots hx _⟩
  · rw [if_neg hk]
    exact ⟨set64 h.regs hx _, h.slots⟩

theorem step64 {l : List S69} (M : Imm64 l) {s s1 : PS} (h64 : A64 s) (h : stepP l s = some s1) : A64 s1 := by
  unfold stepP at h
  by_cases hb : 0 ≤ s.blk ∧ s.blk < l.length
  · rw [if_pos hb] at h
    by_cases ha : s.at_ < (rd_T69 l s.blk).f0.length
    · rw [if_pos ha] at h
      by_cases h0 : 0 ≤ s.at_
      · rw [if_pos h0] at h
        have hm := M s.blk s.at_ hb.1 hb.2 h0 ha
        generalize rd_T84 (rd_T69 l s.blk).f0 s.at_ = i at h hm
        unfold instrP at h
        by_cases h18 : i.f0 = 18
        · rw [if_pos h18] at h
          by_cases hr : LocOK s i.f5 ∧ LocOK s i.f6
          · rw [if_pos hr] at h
            obtain rfl := Option.some.inj h
            have q := setLoc64 h64 i.f5 (locP64 h64 hr.2)
            exact ⟨q.regs, q.slots⟩
          · rw [if_neg hr] at h
            cases h
        rw [if_neg h18] at h
        by_cases h17 : i.f0 = 17
        · rw [if_pos h17] at h
          by_cases hr : 0 ≤ i.f2 ∧ i.f2 < s.regs.length ∧ (s.trace.length + 1) * 8 ≤ 140737488355328
          · rw [if_pos hr] at h
            obtain rfl := Option.some.inj h
            exact ⟨h64.regs, h64.slots⟩
          · rw [if_neg hr] at h
            cases h
        · rw [if_neg h17] at h
          by_cases hr : 0 ≤ i.f2 ∧ i.f2 < s.regs.length ∧ 0 ≤ i.f3 ∧ i.f3 < s.regs.length
          · rw [if_pos hr] at h
            unfold X.alu_Eval.f at h
            rw [Option.bind_some] at h
            have he := eval64 (n := i.f0) (rd64 h64.regs _ hr.1 hr.2.1) (rd64 h64.regs _ hr.2.2.1 hr.2.2.2) hm
            by_cases hk : (X.aluEval i.f0 (rdOf 0 s.regs i.f2) (rdOf 0 s.regs i.f3) i.f4).2 = true
            · rw [if_pos hk] at h
              by_cases hd : 0 ≤ i.f1 ∧ i.f1 < s.regs.length
              · rw [if_pos hd] at h
                obtain rfl := Option.some.inj h
                exact ⟨set64 h64.regs he _, h64.slots⟩
              · rw [if_neg hd] at h
                cases h
            · rw [if_neg hk] at h
              obtain rfl := Option.some.inj h
              exact ⟨h64.regs, h64.slots⟩
          · rw [if_neg hr] at h
            cases h
      · rw [if_neg h0] at h
        cases h
    · rw [if_neg ha] at h
      generalize (rd_T69 l s.blk).f1 = t at h
      unfold termP at h
      by_cases h3 : t.f0 = 3
      · rw [if_pos h3] at h
        by_cases hr : 0 ≤ t.f1 ∧ t.f1 < s.regs.length
        · rw [if_pos hr] at h
          obtain rfl := Option.some.inj h
          exact ⟨h64.regs, h64.slots⟩
        · rw [if_neg hr] at h
          cases h
      · rw [if_neg h3] at h
        by_cases h1 : t.f0 = 1
        · rw [if_pos h1] at h
          obtain rfl := Option.some.inj h
          exact ⟨h64.regs, h64.slots⟩
        · rw [if_neg h1] at h
          by_cases hr : 0 ≤ t.f1 ∧ t.f1 < s.regs.length
          · rw [if_pos hr] at h
            by_cases hz : rdOf (0 : Int) s.regs t.f1 = 0
            · rw [if_pos hz] at h
              obtain rfl := Option.some.inj h
              exact ⟨h64.regs, h64.slots⟩
            · rw [if_neg hz] at h
              obtain rfl := Option.some.inj h
              exact ⟨h64.regs, h64.slots⟩
          · rw [if_neg hr] at h
            cases h
  · rw [if_neg hb] at h
    cases h

theorem refstart_loop (a0 fr fs : Int) (l : List S69) (y : List Int) (h60 : fs ≤ 60) : ∀ (d : Nat) (x : List Int), (x.length : Int) ≤ fs → (fs - x.length).toNat = d →
    Ev (fun k => regcertref10_Start.l0 k a0 fr fs l 0 0 0 0 y x 0) (0, 0, 0, 0, y, x ++ List.replicate d 0, [], 0) := by
  intro d
  induction d with
  | zero =>
    intro x hx hd
    refine Ev.step (fun k => by rw [regcertref10_Start.l0]) (Ev.neg (by omega) (Ev.val ?_))
    simp
  | succ d ih =>
    intro x hx hd
    refine Ev.step (fun k => by rw [regcertref10_Start.l0]) (Ev.pos (by omega) (Ev.pos (by omega) ?_))
    have := ih (x ++ [0]) (by rw [List.length_append]; simp; omega) (by rw [List.length_append]; simp; omega)
    rw [List.append_assoc] at this
    exact this
theorem begin_slots {fr fs : Int} {l1 : List Int} (h : (l1.length : Int) ≤ fs) : (beginP fr fs l1).slots = l1 ++ List.replicate (fs - l1.length).toNat 0 := by
  show l1.take (min l1.length fs.toNat) ++ (List.replicate fs.toNat (0 : Int)).drop (min l1.length fs.toNat) = _
  rw [Nat.min_eq_left (by omega), List.take_length, List.drop_replicate]
  congr 2
  omega
theorem refstart_ev {a0 fr fs : Int} {l : List S69} {l1 : List Int} (h : (l1.length : Int) ≤ fs) (h0 : 0 ≤ fr) (h60 : fr ≤ 60) (h62 : fs ≤ 60) : Ev (fun k => regcertref10_Start.f k a0 fr fs l l1) (0, 0, 0, 0, (beginP fr fs l1).regs, (beginP fr fs l1).slots, [], 0) := by
  refine Ev.congr (fun k => by rw [regcertref10_Start.f]) ?_
  refine Ev.pos h0 (Ev.pos (by omega) (Ev.bindv (Ev.pos (by simp; omega) ?_)))
  rw [begin_slots h, List.nil_append]
  exact refstart_loop a0 fr fs l _ h62 _ l1 h rfl
theorem begin64 {fr fs : Int} {l1 : List Int} (h : (l1.length : Int) ≤ fs) (hl : ∀ x ∈ l1, I64 x) : A64 (beginP fr fs l1) := by
  have z : I64 0 := by unfold I64; omega
  refine ⟨(all64_iff _).mpr (fun x hx => ?_), ?_⟩
  · rw [(List.mem_replicate.mp hx).2]
    exact z
  · rw [begin_slots h]
    refine (all64_iff _).mpr (fun x hx => ?_)
    rcases List.mem_append.mp hx with q | q
    · exact hl x q
    · rw [(List.mem_replicate.mp q).2]
      exact z

theorem kinds {fr fs : Int} {l : List S69} (V : ValidP fr fs l) {s : PS} (I : Inv fr fs l s) : ((rd_T69 l s.blk).f1.f0 = 3 ∨ (rd_T69 l s.blk).f1.f0 = 1) ∨ (rd_T69 l s.blk).f1.f0 = 2 := by
  obtain ⟨_, _, h3, h1, h2⟩ := V.blocks s.blk I.blk0 I.blk1
  by_cases c3 : (rd_T69 l s.blk).f1.f0 = 3
  · exact .inl (.inl c3)
  by_cases c1 : (rd_T69 l s.blk).f1.f0 = 1
  · exact .inl (.inr c1)
  exact .inr (h2 c3 c1).1
theorem refstep_run {fr fs a0 : Int} {l : List S69} (V : ValidP fr fs l) {s : PS} (I : Inv fr fs l s) (h64 : A64 s) (hs : s.steps ≤ 1000) (h0 : s.st = 0) :
    regcertref10_Step.f a0 fr fs l s.st s.blk s.at_ s.val s.regs s.slots s.trace s.steps = (stepP l s).bind fun s => some (s.st, s.blk, s.at_, s.val, s.regs, s.slots, s.trace, s.steps) := by
  have hr := I.regs
  have hr1 := V.regs1
  have hl := I.slots
  have hl1 := V.slots1
  have ht := I.trace
  have ha := I.at1
  unfold regcertref10_Step.f
  rw [if_pos ⟨by omega, by omega, by omega, h64.regs⟩, if_pos h0, if_pos ⟨ha, fun _ => kinds V I⟩]
theorem refstep_end {fr fs a0 : Int} {l : List S69} (V : ValidP fr fs l) {s : PS} (I : Inv fr fs l s) (h64 : A64 s) (hs : s.steps ≤ 1000) (h0 : s.st ≠ 0) :
    regcertref10_Step.f a0 fr fs l s.st s.blk s.at_ s.val s.regs s.slots s.trace s.steps = some (s.st, s.blk, s.at_, s.val, s.regs, s.slots, s.trace, s.steps) := by
  have hr := I.regs
  have hr1 := V.regs1
  have hl := I.slots
  have hl1 := V.slots1
  have ht := I.trace
  unfold regcertref10_Step.f
  rw [if_pos ⟨by omega, by omega, by omega, h64.regs⟩, if_neg h0]

theorem refexec_loop {fr fs a0 : Int} {l : List S69} (V : ValidP fr fs l) (M : Imm64 l) {m : Int} (hm : m ≤ 400) : ∀ (k : Nat) (s r : PS), Inv fr fs l s → A64 s → s.steps ≤ 500 → execLoop k l m s = some r →
    Ev (fun k => regcertref10_Exec.l0 k m a0 fr fs l s.st s.blk s.at_ s.val s.regs s.slots s.trace s.steps) (r.st, r.blk, r.at_, r.val, r.regs, r.slots, r.trace, r.steps) ∧ Inv fr fs l r ∧ A64 r ∧ r.steps ≤ 500 := by
  intro k
  induction k with
  | zero => intro s r _ _ _ h; cases h
  | succ k ih =>
    intro s r I h64 hs h
    unfold execLoop at h
    by_cases h0 : s.st = 0
    · rw [if_pos h0] at h
      by_cases hl : s.steps < m
      · rw [if_pos hl] at h
        obtain ⟨s1, e1, I1, p1, hc⟩ := step_ok V I (by omega)
        rw [e1, Option.bind_some] at h
        have h641 := step64 M h64 e1
        obtain ⟨he, hI, h6, h5⟩ := ih s1 r I1 h641 (by rcases hc with hc | ⟨_, hc⟩ <;> omega) h
        refine ⟨?_, hI, h6, h5⟩
        refine Ev.step (fun k => by rw [regcertref10_Exec.l0]) (Ev.pos h0 ?_)
        rw [show decide (s.steps < m) = true from decide_eq_true hl]
        refine Ev.step (fun k => by rw [regcertref10_Exec.j1]) (Ev.pos rfl ?_)
        refine Ev.bindc (a := (s1.st, s1.blk, s1.at_, s1.val, s1.regs, s1.slots, s1.trace, s1.steps)) ?_ he
        rw [refstep_run V I h64 (by omega) h0, e1]
        rfl
      · rw [if_neg hl] at h
        obtain rfl := Option.some.inj h
        refine ⟨?_, I, h64, hs⟩
        refine Ev.step (fun k => by rw [regcertref10_Exec.l0]) (Ev.pos h0 ?_)
        rw [show decide (s.steps < m) = false from decide_eq_false hl]
        exact Ev.step (fun k => by rw [regcertref10_Exec.j1]) (Ev.neg (by simp) (Ev.now _))
    · rw [if_neg h0] at h
      obtain rfl := Option.some.inj h
      refine ⟨?_, I, h64, hs⟩
      refine Ev.step (fun k => by rw [regcertref10_Exec.l0]) (Ev.neg h0 ?_)
      exact Ev.step (fun k => by rw [regcertref10_Exec.j1]) (Ev.neg (by simp) (Ev.now _))

theorem exec_any {fr fs : Int} {l : List S69} (V : ValidP fr fs l) {l1 : List Int} {m : Int} (h1 : (l1.length : Int) ≤ fs) (hm : m ≤ 400) : ∃ k r, execLoop k l m (beginP fr fs l1) = some r := by
  by_cases hm0 : 0 ≤ m
  · obtain ⟨r, er, R⟩ := exec_ran V (by omega) (m.toNat) (beginP fr fs l1) (begin_inv V h1) hm0 (by show (m - 0).toNat ≤ _; omega)
    exact ⟨_, r, er⟩
  · refine ⟨1, beginP fr fs l1, ?_⟩
    unfold execLoop
    rw [if_pos (show (beginP fr fs l1).st = 0 from rfl), if_neg (by show ¬ (0 : Int) < m; omega)]

theorem inR_loc {fr fs : Int} {s : PS} (hr : (s.regs.length : Int) = fr) (hl : (s.slots.length : Int) = fs) {l : Int} (h64 : I64 l) (h : inRB l fr fs = true) : LocOK s l := locR_ok hr hl (inR_ok h64 h)
theorem read_ev {s : PS} {l : Int} (h : LocOK s l) : execute_Read.f s.st s.blk s.at_ s.val s.regs s.slots s.trace s.steps l = some (locP s l) := by
  unfold LocOK at h
  unfold execute_Read.f locP
  by_cases hk : (Int.tmod l 2 == 1) = true
  · rw [if_pos hk] at h ⊢
    rw [if_pos h, if_pos hk]
    rfl
  · rw [if_neg hk] at h ⊢
    rw [if_pos h, if_neg hk]
    rfl
theorem refread_ev {s : PS} {l : Int} (h : LocOK s l) : regcertref10_Read.f s.st s.blk s.at_ s.val s.regs s.slots s.trace s.steps l = some (locP s l) := by
  unfold LocOK at h
  unfold regcertref10_Read.f locP
  by_cases hk : Int.tmod l 2 = 1
  · rw [if_pos (beq_iff_eq.mpr hk)] at h ⊢
    rw [if_pos hk, if_pos h.1, if_pos h.2]
    rfl
  · rw [if_neg (fun e => hk (beq_iff_eq.mp e))] at h ⊢
    rw [if_neg hk, if_pos h.1, if_pos h.2]
    rfl
theorem refexec_ev {fr fs a0 : Int} {l : List S69} (V : ValidP fr fs l) (M : Imm64 l) {l1 : List Int} (hl64 : ∀ x ∈ l1, I64 x) {m : Int} (h1 : (l1.length : Int) ≤ fs) (hm : m ≤ 400) :
    ∃ k r, execLoop k l m (beginP fr fs l1) = some r ∧ Ev (fun k => regcertref10_Exec.f k a0 fr fs l l1 m) (r.st, r.blk, r.at_, r.val, r.regs, r.slots, r.trace, r.steps) ∧ Inv fr fs l r ∧ A64 r ∧ r.steps ≤ 500 := by
  obtain ⟨k0, r, hk⟩ := exec_any V h1 hm
  obtain ⟨he, hI, h6, h5⟩ := refexec_loop (a0 := a0) V M hm k0 _ r (begin_inv V h1) (begin64 h1 hl64) (by show (0 : Int) ≤ 500; omega) hk
  refine ⟨k0, r, hk, ?_, hI, h6, h5⟩
  refine Ev.congr (fun k => by rw [regcertref10_Exec.f]) ?_
  exact Ev.bind (refstart_ev h1 V.regs0 V.regs1 V.slots1) he
end Go.Proofs.Ytgkmagfajalnhaa.E
