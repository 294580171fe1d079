/-
  The reference's check of an instruction: its contract, by hand (short).
-/
import Derived.Test.YtgkmagfajalnhaaTEMac
namespace Go.Proofs.Ytgkmagfajalnhaa.E
open Go.RowKit Go.Proofs.YtgkmagfajalnhaaW.PrintWords Go.Proofs.YtgkmagfajalnhaaW.PrintLast Go.Proofs.YtgkmagfajalnhaaW.PrintMore
set_option linter.unusedVariables false
set_option linter.unusedSimpArgs false

theorem cell_belowI {w w1 : World} {p : Addr} {v : Value} (hb : Below w.heap.size w w1) (h : w.cell? p = some v) : w1.cell? p = some v := by
  have hlt := World.block_lt_of_cell? w _ h
  simpa [World.cell?, hb.block p.block hlt] using h
theorem uD_calls (x : Int) (b : Bool) (h : decide (1 ≤ x ∧ x ≤ 16) = b) (w : World) : Calls Try.prog 90 #[.int .i64 x] w fun e w' => e = .returned (.bool b) ∧ Drawn0 w w' := by
  go_enter Try.func90, Try.ntmps90
  go_wp2
  all_goals go_ret
  all_goals exact ⟨by rw [← h]; simp <;> omega, Drawn0.refl _⟩
theorem uA_calls (x : Int) (b : Bool) (h : decide (2 ≤ x ∧ x ≤ 17) = b) (w : World) : Calls Try.prog 24 #[.int .i64 x] w fun e w' => e = .returned (.bool b) ∧ Drawn0 w w' := by
  go_enter Try.func24, Try.ntmps24
  go_wp2
  all_goals go_ret
  all_goals exact ⟨by rw [← h]; simp <;> omega, Drawn0.refl _⟩
theorem uB_calls (x : Int) (b : Bool) (h : decide (5 ≤ x ∧ x ≤ 16) = b) (w : World) : Calls Try.prog 25 #[.int .i64 x] w fun e w' => e = .returned (.bool b) ∧ Drawn0 w w' := by
  go_enter Try.func25, Try.ntmps25
  go_wp2
  all_goals go_ret
  all_goals exact ⟨by rw [← h]; simp <;> omega, Drawn0.refl _⟩
theorem in_calls (x n : Int) (b : Bool) (h : decide (0 ≤ x ∧ x < n) = b) (w : World) : Calls Try.prog 91 #[.int .i64 x, .int .i64 n] w fun e w' => e = .returned (.bool b) ∧ Drawn0 w w' := by
  go_enter Try.func91, Try.ntmps91
  go_wp2
  all_goals go_ret
  all_goals exact ⟨by rw [← h]; simp <;> omega, Drawn0.refl _⟩

set_option maxRecDepth 100000 in
set_option maxHeartbeats 16000000 in
theorem instr_walk (op d a b im n : Int) (w : World) (r : Int) (p1 p2 pD pA pB jD jA jB zd za zb o1 zi : Bool) (c1 : decide (op < 1) = p1) (c2 : decide (op > 17) = p2) (hD : decide (1 ≤ op ∧ op ≤ 16) = pD) (hA : decide (2 ≤ op ∧ op ≤ 17) = pA) (hB : decide (5 ≤ op ∧ op ≤ 16) = pB)
    (iD : decide (0 ≤ d ∧ d < n) = jD) (iA : decide (0 ≤ a ∧ a < n) = jA) (iB : decide (0 ≤ b ∧ b < n) = jB) (ezd : (d != 0) = zd) (eza : (a != 0) = za) (ezb : (b != 0) = zb) (eo1 : (op != 1) = o1) (ezi : (im != 0) = zi)
    (h : (bif p1 || p2 then (8 : Int) else bif (pD && !jD) || (pA && !jA) || (pB && !jB) then 9 else bif (!pD && zd) || (!pA && za) || (!pB && zb) || (o1 && zi) then 12 else 0) = r) :
    Calls Try.prog 65 #[.agg #[.int .i64 op, .int .i64 d, .int .i64 a, .int .i64 b, .int .i64 im], .int .i64 n] w fun e w' => e = .returned (.int .i64 r) ∧ Below w.heap.size w w' := by
  have hu := Try.underlying97
  go_enter Try.func65, Try.ntmps65
  go_wp2_with (first
    | ((with_reducible refine gate_dst (N := 2) rfl ?_); refine bX (N := 2) (cs := #[.int .i64 op, .int .i64 d, .int .i64 a, .int .i64 b, .int .i64 im]) (t := 97) ?_; intro gb hgb w1 hbox hb; have HB := Aside0.mk hb; have z0 := blk_cell hbox 0; have z1 := blk_cell hbox 1; have z2 := blk_cell hbox 2; have z3 := blk_cell hbox 3; have z4 := blk_cell hbox 4; simp only [List.getElem?_toArray, List.getElem?_cons_zero, List.getElem?_cons_succ] at z0 z1 z2 z3 z4; clear hbox hb hgb)
    | (go_at_call 90; (with_reducible refine (uD_calls op _ hD _).mono ?_); rintro e w' ⟨rfl, ⟨nd, rfl⟩⟩)
    | (go_at_call 24; (with_reducible refine (uA_calls op _ hA _).mono ?_); rintro e w' ⟨rfl, ⟨nd, rfl⟩⟩)
    | (go_at_call 25; (with_reducible refine (uB_calls op _ hB _).mono ?_); rintro e w' ⟨rfl, ⟨nd, rfl⟩⟩)
    | (go_at_call 91; (with_reducible refine (in_calls d n _ iD _).mono ?_); rintro e w' ⟨rfl, ⟨nd, rfl⟩⟩)
    | (go_at_call 91; (with_reducible refine (in_calls a n _ iA _).mono ?_); rintro e w' ⟨rfl, ⟨nd, rfl⟩⟩)
    | (go_at_call 91; (with_reducible refine (in_calls b n _ iB _).mono ?_); rintro e w' ⟨rfl, ⟨nd, rfl⟩⟩))
  all_goals go_ret
  all_goals exact ⟨by rw [← h]; simp_all, by repeat (first | exact HB.out | apply pw_below_drewN | apply below_drew1)⟩

def instrB (op d a b im n : Int) : Int :=
  bif decide (op < 1) || decide (op > 17) then (8 : Int)
  else bif (decide (1 ≤ op ∧ op ≤ 16) && !decide (0 ≤ d ∧ d < n)) || (decide (2 ≤ op ∧ op ≤ 17) && !decide (0 ≤ a ∧ a < n)) || (decide (5 ≤ op ∧ op ≤ 16) && !decide (0 ≤ b ∧ b < n)) then 9
  else bif (!decide (1 ≤ op ∧ op ≤ 16) && (d != 0)) || (!decide (2 ≤ op ∧ op ≤ 17) && (a != 0)) || (!decide (5 ≤ op ∧ op ≤ 16) && (b != 0)) || ((op != 1) && (im != 0)) then 12 else 0
def regcertref07_Instr.f (a0_0 a0_1 a0_2 a0_3 a0_4 a1 : Int) : Option Int := some (instrB a0_0 a0_1 a0_2 a0_3 a0_4 a1)
theorem regcertref07_Instr.calls (a0_0 : Int) (a0_1 : Int) (a0_2 : Int) (a0_3 : Int) (a0_4 : Int) (a1 : Int) (r : Int) (w : World) (h : regcertref07_Instr.f a0_0 a0_1 a0_2 a0_3 a0_4 a1 = some r) :
    Calls Try.prog 65 #[.agg #[.int .i64 a0_0, .int .i64 a0_1, .int .i64 a0_2, .int .i64 a0_3, .int .i64 a0_4], .int .i64 a1] w fun e w' => e = .returned (.int .i64 r) ∧ Below w.heap.size w w' :=
  instr_walk a0_0 a0_1 a0_2 a0_3 a0_4 a1 w r _ _ _ _ _ _ _ _ _ _ _ _ _ rfl rfl rfl rfl rfl rfl rfl rfl rfl rfl rfl rfl rfl (Option.some.inj h)

set_option maxRecDepth 100000 in
set_option maxHeartbeats 16000000 in
theorem term_walk (kd a tt el n m : Int) (w : World) (r : Int) (p1 p2 p3 jA jT jE za zt ze : Bool) (c1 : (kd == 1) = p1) (c2 : (kd == 2) = p2) (c3 : (kd == 3) = p3)
    (iA : decide (0 ≤ a ∧ a < n) = jA) (iT : decide (0 ≤ tt ∧ tt < m) = jT) (iE : decide (0 ≤ el ∧ el < m) = jE) (eza : (a != 0) = za) (ezt : (tt != 0) = zt) (eze : (el != 0) = ze)
    (h : (bif p1 then (bif !jT then 11 else bif za || ze then 12 else 0) else bif p2 then (bif !jA then 9 else bif !jT || !jE then 11 else 0) else bif p3 then (bif !jA then 9 else bif zt || ze then 12 else 0) else (16 : Int)) = r) :
    Calls Try.prog 66 #[.agg #[.int .i64 kd, .int .i64 a, .int .i64 tt, .int .i64 el], .int .i64 n, .int .i64 m] w fun e w' => e = .returned (.int .i64 r) ∧ Below w.heap.size w w' := by
  have hu := Try.underlying48
  go_enter Try.func66, Try.ntmps66
  go_wp2_with (first
    | ((with_reducible refine gate_dst (N := 3) rfl ?_); refine bX (N := 3) (cs := #[.int .i64 kd, .int .i64 a, .int .i64 tt, .int .i64 el]) (t := 48) ?_; intro gb hgb w1 hbox hb; have HB := Aside0.mk hb; have z0 := blk_cell hbox 0; have z1 := blk_cell hbox 1; have z2 := blk_cell hbox 2; have z3 := blk_cell hbox 3; simp only [List.getElem?_toArray, List.getElem?_cons_zero, List.getElem?_cons_succ] at z0 z1 z2 z3; clear hbox hb hgb)
    | (go_at_call 91; (with_reducible refine (in_calls a n _ iA _).mono ?_); rintro e w' ⟨rfl, ⟨nd, rfl⟩⟩)
    | (go_at_call 91; (with_reducible refine (in_calls tt m _ iT _).mono ?_); rintro e w' ⟨rfl, ⟨nd, rfl⟩⟩)
    | (go_at_call 91; (with_reducible refine (in_calls el m _ iE _).mono ?_); rintro e w' ⟨rfl, ⟨nd, rfl⟩⟩))
  all_goals go_ret
  all_goals exact ⟨by rw [← h]; simp_all, by repeat (first | exact HB.out | apply pw_below_drewN | apply below_drew1)⟩
def termB (kd a tt el n m : Int) : Int :=
  bif (kd == 1) then (bif !decide (0 ≤ tt ∧ tt < m) then 11 else bif (a != 0) || (el != 0) then 12 else 0)
  else bif (kd == 2) then (bif !decide (0 ≤ a ∧ a < n) then 9 else bif !decide (0 ≤ tt ∧ tt < m) || !decide (0 ≤ el ∧ el < m) then 11 else 0)
  else bif (kd == 3) then (bif !decide (0 ≤ a ∧ a < n) then 9 else bif (tt != 0) || (el != 0) then 12 else 0) else (16 : Int)
def regcertref07_Term.f (a0_0 a0_1 a0_2 a0_3 a1 a2 : Int) : Option Int := some (termB a0_0 a0_1 a0_2 a0_3 a1 a2)
theorem regcertref07_Term.calls (a0_0 : Int) (a0_1 : Int) (a0_2 : Int) (a0_3 : Int) (a1 : Int) (a2 : Int) (r : Int) (w : World) (h : regcertref07_Term.f a0_0 a0_1 a0_2 a0_3 a1 a2 = some r) :
    Calls Try.prog 66 #[.agg #[.int .i64 a0_0, .int .i64 a0_1, .int .i64 a0_2, .int .i64 a0_3], .int .i64 a1, .int .i64 a2] w fun e w' => e = .returned (.int .i64 r) ∧ Below w.heap.size w w' :=
  term_walk a0_0 a0_1 a0_2 a0_3 a1 a2 w r _ _ _ _ _ _ _ _ _ rfl rfl rfl rfl rfl rfl rfl rfl rfl (Option.some.inj h)

def inRB (l n m : Int) : Bool := !decide (l < 0) && (bif (Int.tmod l 2 == 1) then decide (wrap64 (Int.tdiv l 2) < m) else decide (wrap64 (Int.tdiv l 2) < n))
theorem inR_walk (l n m : Int) (b z o x y : Bool) (hz : decide (l < 0) = z) (ho : (Int.tmod l 2 == 1) = o) (hx : decide (wrap64 (Int.tdiv l 2) < m) = x) (hy : decide (wrap64 (Int.tdiv l 2) < n) = y) (h : (!z && (bif o then x else y)) = b) (w : World) : Calls Try.prog 52 #[.int .i64 l, .int .i64 n, .int .i64 m] w fun e w' => e = .returned (.bool b) ∧ Drawn0 w w' := by
  go_enter Try.func52, Try.ntmps52
  go_wp2
  all_goals go_ret
  all_goals exact ⟨by rw [← h]; simp_all, Drawn0.refl _⟩
theorem inR_calls (l n m : Int) (b : Bool) (h : inRB l n m = b) (w : World) : Calls Try.prog 52 #[.int .i64 l, .int .i64 n, .int .i64 m] w fun e w' => e = .returned (.bool b) ∧ Drawn0 w w' := inR_walk l n m b _ _ _ _ rfl rfl rfl rfl h w
def regcertref04_InRange.f (a0 a1 a2 : Int) : Option Bool := some (inRB a0 a1 a2)
theorem regcertref04_InRange.calls (a0 : Int) (a1 : Int) (a2 : Int) (r : Bool) (w : World) (h : regcertref04_InRange.f a0 a1 a2 = some r) :
    Calls Try.prog 52 #[.int .i64 a0, .int .i64 a1, .int .i64 a2] w fun e w' => e = .returned (.bool r) ∧ Drawn0 w w' := inR_calls a0 a1 a2 r (Option.some.inj h) w

set_option maxRecDepth 100000 in
set_option maxHeartbeats 16000000 in
theorem mach_walk (op d a b im ld ls n m e : Int) (w : World) (r : Int) (p1 p2 o2 o18 jd js md ms zd za zb zi ze nd ns : Bool) (c1 : decide (op < 1) = p1) (c2 : decide (op > 18) = p2) (c3 : (op == 2) = o2) (c4 : (op == 18) = o18)
    (iD : inRB ld n m = jd) (iS : inRB ls n m = js) (eD : (Int.tmod ld 2 == 1) = md) (eS : (Int.tmod ls 2 == 1) = ms) (ezd : (d != 0) = zd) (eza : (a != 0) = za) (ezb : (b != 0) = zb) (ezi : (im != 0) = zi)
    (he : instrB op d a b im n = e) (eze : (e == 0) = ze) (en : (ld != 0) = nd) (es : (ls != 0) = ns)
    (h : (bif p1 || p2 || o2 then (8 : Int) else bif o18 then (bif !jd || !js || (md && ms) then 10 else bif zd || za || zb || zi then 12 else 0) else bif ze && (nd || ns) then 12 else e) = r) :
    Calls Try.prog 71 #[.agg #[.int .i64 op, .int .i64 d, .int .i64 a, .int .i64 b, .int .i64 im, .int .i64 ld, .int .i64 ls], .int .i64 n, .int .i64 m] w fun e w' => e = .returned (.int .i64 r) ∧ Below w.heap.size w w' := by
  have hu := Try.underlying84
  have hu97 := Try.underlying97
  have hi : regcertref07_Instr.f op d a b im n = some e := congrArg some he
  go_enter Try.func71, Try.ntmps71
  go_wp2_with (first
    | ((with_reducible refine gate_dst (N := 3) rfl ?_); refine bX (N := 3) (cs := #[.int .i64 op, .int .i64 d, .int .i64 a, .int .i64 b, .int .i64 im, .int .i64 ld, .int .i64 ls]) (t := 84) ?_; intro gb hgb w1 hbox hb; have HB := Aside0.mk hb; have z0 := (blk_cell hbox 0); have z1 := (blk_cell hbox 1); have z2 := (blk_cell hbox 2); have z3 := (blk_cell hbox 3); have z4 := (blk_cell hbox 4); have z5 := (blk_cell hbox 5); have z6 := (blk_cell hbox 6); simp only [List.getElem?_toArray, List.getElem?_cons_zero, List.getElem?_cons_succ] at z0 z1 z2 z3 z4 z5 z6; clear hbox hb hgb)
    | (go_at_call 65; (with_reducible refine (regcertref07_Instr.calls op d a b im n e _ hi).mono ?_); rintro e w2 ⟨rfl, hb2⟩; have HB2 := Aside0.mk (below_step (by repeat (first | exact HB.out | apply pw_below_drewN | apply below_drew1)) hb2); have y5 := cell_belowI hb2 z5; have y6 := cell_belowI hb2 z6; clear hb2)
    | (go_at_call 52; (with_reducible refine (inR_calls ld n m _ iD _).mono ?_); rintro e w' ⟨rfl, ⟨nd, rfl⟩⟩)
    | (go_at_call 52; (with_reducible refine (inR_calls ls n m _ iS _).mono ?_); rintro e w' ⟨rfl, ⟨nd, rfl⟩⟩))
  all_goals go_ret
  all_goals exact ⟨by rw [← h]; simp_all, by repeat (first | exact HB2.out | exact HB.out | apply pw_below_drewN | apply below_drew1)⟩
def machB (op d a b im ld ls n m : Int) : Int :=
  bif decide (op < 1) || decide (op > 18) || (op == 2) then (8 : Int)
  else bif (op == 18) then (bif !inRB ld n m || !inRB ls n m || ((Int.tmod ld 2 == 1) && (Int.tmod ls 2 == 1)) then 10 else bif (d != 0) || (a != 0) || (b != 0) || (im != 0) then 12 else 0)
  else bif (instrB op d a b im n == 0) && ((ld != 0) || (ls != 0)) then 12 else instrB op d a b im n
def regcertref08_Instr.f (a0_0 a0_1 a0_2 a0_3 a0_4 a0_5 a0_6 a1 a2 : Int) : Option Int := some (machB a0_0 a0_1 a0_2 a0_3 a0_4 a0_5 a0_6 a1 a2)
theorem regcertref08_Instr.calls (a0_0 : Int) (a0_1 : Int) (a0_2 : Int) (a0_3 : Int) (a0_4 : Int) (a0_5 : Int) (a0_6 : Int) (a1 : Int) (a2 : Int) (r : Int) (w : World) (h : regcertref08_Instr.f a0_0 a0_1 a0_2 a0_3 a0_4 a0_5 a0_6 a1 a2 = some r) :
    Calls Try.prog 71 #[.agg #[.int .i64 a0_0, .int .i64 a0_1, .int .i64 a0_2, .int .i64 a0_3, .int .i64 a0_4, .int .i64 a0_5, .int .i64 a0_6], .int .i64 a1, .int .i64 a2] w fun e w' => e = .returned (.int .i64 r) ∧ Below w.heap.size w w' :=
  mach_walk a0_0 a0_1 a0_2 a0_3 a0_4 a0_5 a0_6 a1 a2 _ w r _ _ _ _ _ _ _ _ _ _ _ _ _ _ _ rfl rfl rfl rfl rfl rfl rfl rfl rfl rfl rfl rfl rfl rfl rfl rfl (Option.some.inj h)
end Go.Proofs.Ytgkmagfajalnhaa.E
