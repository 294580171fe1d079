/-
  A step of the execution: the plain function and its contract.
-/
import Derived.Test.YtgkmagfajalnhaaTEStepA
import Derived.Test.YtgkmagfajalnhaaTEStepB
import Derived.Test.YtgkmagfajalnhaaTETerm
import Derived.Test.YtgkmagfajalnhaaTERet
import Derived.Test.YtgkmagfajalnhaaTEInstrW
namespace Go.Proofs.Ytgkmagfajalnhaa.E
open Go.RowKit Go.Proofs.YtgkmagfajalnhaaW.PrintWords Go.Proofs.YtgkmagfajalnhaaW.PrintLast Go.Proofs.YtgkmagfajalnhaaW.PrintMore

def PS.next (s : PS) : PS := { s with at_ := wrap64 (s.at_ + 1), steps := wrap64 (s.steps + 1) }
def instrP (s : PS) (i : S84) : Option PS :=
  if i.f0 = 18 then (if LocOK s i.f5 ∧ LocOK s i.f6 then some (setLoc s i.f5 (locP s i.f6)).next else none)
  else if i.f0 = 17 then
    (if 0 ≤ i.f2 ∧ i.f2 < s.regs.length ∧ (s.trace.length + 1) * 8 ≤ 140737488355328 then some { s with trace := s.trace ++ [rdOf (0 : Int) s.regs i.f2] }.next else none)
  else if 0 ≤ i.f2 ∧ i.f2 < s.regs.length ∧ 0 ≤ i.f3 ∧ i.f3 < s.regs.length then
    (X.alu_Eval.f i.f0 (rdOf (0 : Int) s.regs i.f2) (rdOf (0 : Int) s.regs i.f3) i.f4).bind fun r =>
      if r.2 = true then
        (if 0 ≤ i.f1 ∧ i.f1 < s.regs.length then some { s with regs := s.regs.set i.f1.toNat r.1 }.next else none)
      else some { s with st := 2 }
  else none

theorem term_calls {w0 W : World} {g : Nat} {vR vT : Value} {s s1 : PS} {vS : Value} {fa fr fs : Int} {vB : Value} (t : S48) (HS : St w0 W g vR vT s vS fa fr fs vB) (h : termP s t = some s1) :
    Calls Try.prog 93 #[.pointer (some ⟨g, 0, none⟩), .agg #[.int .i64 t.f0, .int .i64 t.f1, .int .i64 t.f2, .int .i64 t.f3]] W fun e W' =>
      e = .returned (.tuple #[]) ∧ ∃ vT1, St w0 W' g vR vT1 s1 vS fa fr fs vB := by
  obtain ⟨t0, t1, t2, t3⟩ := t
  unfold termP at h
  dsimp only at h ⊢
  by_cases h3 : t0 = 3
  · subst h3
    rw [if_pos rfl] at h
    by_cases hr : 0 ≤ t1 ∧ t1 < s.regs.length
    · rw [if_pos hr] at h
      obtain rfl := Option.some.inj h
      obtain ⟨b, n, c, rfl, rfl⟩ := HS.row t1 hr.1 hr.2
      refine (term_ret w0 W g b _ c vT s vS fa fr fs vB t1 t2 t3 hr.1 hr.2 HS).mono ?_
      rintro e w ⟨rfl, h⟩
      exact ⟨rfl, vT, h⟩
    · rw [if_neg hr] at h
      cases h
  · rw [if_neg h3] at h
    by_cases h1 : t0 = 1
    · subst h1
      rw [if_pos rfl] at h
      obtain rfl := Option.some.inj h
      refine (term_to w0 W g vR vT s vS fa fr fs vB t1 t2 t3 HS).mono ?_
      rintro e w ⟨rfl, h⟩
      exact ⟨rfl, vT, h⟩
    · rw [if_neg h1] at h
      by_cases hr : 0 ≤ t1 ∧ t1 < s.regs.length
      · rw [if_pos hr] at h
        obtain ⟨b, n, c, rfl, rfl⟩ := HS.row t1 hr.1 hr.2
        by_cases hz : rdOf (0 : Int) s.regs t1 = 0
        · rw [if_pos hz] at h
          obtain rfl := Option.some.inj h
          refine (term_else w0 W g b _ c vT s vS fa fr fs vB t0 t1 t2 t3 h3 h1 hr.1 hr.2 hz HS).mono ?_
          rintro e w ⟨rfl, h⟩
          exact ⟨rfl, vT, h⟩
        · rw [if_neg hz] at h
          obtain rfl := Option.some.inj h
          refine (term_then w0 W g b _ c vT s vS fa fr fs vB t0 t1 t2 t3 h3 h1 hr.1 hr.2 hz HS).mono ?_
          rintro e w ⟨rfl, h⟩
          exact ⟨rfl, vT, h⟩
      · rw [if_neg hr] at h
        cases h

theorem instr_calls {w0 W : World} {g : Nat} {vR vT : Value} {s s1 : PS} {vS : Value} {fa fr fs : Int} {vB : Value} (i : S84) (HS : St w0 W g vR vT s vS fa fr fs vB) (h : instrP s i = some s1) :
    Calls Try.prog 92 #[.pointer (some ⟨g, 0, none⟩), .agg #[.int .i64 i.f0, .int .i64 i.f1, .int .i64 i.f2, .int .i64 i.f3, .int .i64 i.f4, .int .i64 i.f5, .int .i64 i.f6]] W fun e W' =>
      e = .returned (.tuple #[]) ∧ ∃ vT1, St w0 W' g vR vT1 s1 vS fa fr fs vB := by
  obtain ⟨i0, i1, i2, i3, i4, i5, i6⟩ := i
  unfold instrP at h
  dsimp only at h ⊢
  by_cases h18 : i0 = 18
  · subst h18
    rw [if_pos rfl] at h
    by_cases hr : LocOK s i5 ∧ LocOK s i6
    · rw [if_pos hr] at h
      obtain rfl := Option.some.inj h
      refine instr_move w0 W g vR vT s _ vS fa fr fs vB i1 i2 i3 i4 i5 i6 (fun W1 H1 => ?_) HS
      refine (do_move w0 W1 g vR vT s vS fa fr fs vB i1 i2 i3 i4 i5 i6 hr.1 hr.2 H1).mono ?_
      rintro e w ⟨rfl, h⟩
      exact ⟨rfl, vT, h⟩
    · rw [if_neg hr] at h
      cases h
  · rw [if_neg h18] at h
    by_cases h17 : i0 = 17
    · subst h17
      rw [if_pos rfl] at h
      by_cases hr : 0 ≤ i2 ∧ i2 < s.regs.length ∧ (s.trace.length + 1) * 8 ≤ 140737488355328
      · rw [if_pos hr] at h
        obtain rfl := Option.some.inj h
        obtain ⟨b, n, c, rfl, rfl⟩ := HS.row i2 hr.1 hr.2.1
        exact instr_emit w0 W g _ vT s _ vS fa fr fs vB i1 i2 i3 i4 i5 i6 (fun W1 H1 => do_emit w0 W1 g b _ c vT s vS fa fr fs vB i1 i2 i3 i4 i5 i6 hr.1 hr.2.1 hr.2.2 H1) HS
      · rw [if_neg hr] at h
        cases h
    · rw [if_neg h17] at h
      by_cases hr : 0 ≤ i2 ∧ i2 < s.regs.length ∧ 0 ≤ i3 ∧ i3 < s.regs.length
      · rw [if_pos hr] at h
        obtain ⟨⟨rv, rok⟩, hev, h⟩ := Option.bind_eq_some_iff.mp h
        dsimp only at h
        obtain ⟨b, n, c, rfl, rfl⟩ := HS.row i2 hr.1 hr.2.1
        cases rok
        · rw [if_neg (by simp)] at h
          obtain rfl := Option.some.inj h
          refine instr_stuck w0 W g _ vT s _ vS fa fr fs vB i0 i1 i2 i3 i4 i5 i6 h18 h17 (fun W1 H1 => ?_) HS
          refine (do_stuck w0 W1 g b _ c vT s vS fa fr fs vB i0 i1 i2 i3 i4 i5 i6 hr.1 hr.2.1 hr.2.2.1 hr.2.2.2 rv hev H1).mono ?_
          rintro e w ⟨rfl, h⟩
          exact ⟨rfl, vT, h⟩
        · rw [if_pos rfl] at h
          by_cases hd : 0 ≤ i1 ∧ i1 < s.regs.length
          · rw [if_pos hd] at h
            obtain rfl := Option.some.inj h
            refine instr_value w0 W g _ vT s _ vS fa fr fs vB i0 i1 i2 i3 i4 i5 i6 h18 h17 (fun W1 H1 => ?_) HS
            refine (do_value w0 W1 g b _ c vT s vS fa fr fs vB i0 i1 i2 i3 i4 i5 i6 hr.1 hr.2.1 hr.2.2.1 hr.2.2.2 hd.1 hd.2 rv hev H1).mono ?_
            rintro e w ⟨rfl, h⟩
            exact ⟨rfl, vT, h⟩
          · rw [if_neg hd] at h
            cases h
      · rw [if_neg hr] at h
        cases h

def stepP (l : List S69) (s : PS) : Option PS :=
  if 0 ≤ s.blk ∧ s.blk < l.length then
    (if s.at_ < (rd_T69 l s.blk).f0.length then (if 0 ≤ s.at_ then instrP s (rd_T84 (rd_T69 l s.blk).f0 s.at_) else none) else termP s (rd_T69 l s.blk).f1)
  else none

theorem step_calls {w0 W : World} {g : Nat} {vR vT : Value} {s s1 : PS} {vS : Value} {fa fr fs : Int} {A : Option Addr} {cB : Nat} (l : List S69) (hC : Kd.C k69 w0 A l.length l) (HS : St w0 W g vR vT s vS fa fr fs (.slice A l.length cB)) (h : stepP l s = some s1) :
    Calls Try.prog 69 #[.pointer (some ⟨g, 0, none⟩)] W fun e W' => e = .returned (.tuple #[]) ∧ ∃ vT1, St w0 W' g vR vT1 s1 vS fa fr fs (.slice A l.length cB) := by
  unfold stepP at h
  by_cases hb : 0 ≤ s.blk ∧ s.blk < l.length
  · rw [if_pos hb] at h
    obtain ⟨ad, A0, c0, rfl, e0, e1, e2, e3, e4, _, hI⟩ := at_T69 (Kd.C_below hC HS.below) s.blk hb.1 hb.2
    by_cases ha : s.at_ < (rd_T69 l s.blk).f0.length
    · rw [if_pos ha] at h
      by_cases h0 : 0 ≤ s.at_
      · rw [if_pos h0] at h
        obtain ⟨adI, rfl, i0, i1, i2, i3, i4, i5, i6⟩ := at_T84 hI s.at_ h0 ha
        exact step_instr w0 W g vR vT s s1 vS fa fr fs ad _ cB adI _ c0 _ _ _ _ HS hb.1 hb.2 e0 e1 e2 e3 e4 h0 ha _ _ _ _ _ _ _ i0 i1 i2 i3 i4 i5 i6 (fun W1 H1 => instr_calls _ H1 h)
      · rw [if_neg h0] at h
        cases h
    · rw [if_neg ha] at h
      exact step_term w0 W g vR vT s s1 vS fa fr fs ad _ cB A0 _ c0 _ _ _ _ HS hb.1 hb.2 e0 e1 e2 e3 e4 ha (fun W1 H1 => term_calls _ H1 h)
  · rw [if_neg hb] at h
    cases h
end Go.Proofs.Ytgkmagfajalnhaa.E
