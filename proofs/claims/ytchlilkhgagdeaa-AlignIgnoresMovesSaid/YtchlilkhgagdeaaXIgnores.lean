/-
  AlignIgnoresMoves: a copy laid into the source block and a move laid into the allocated block change neither the error nor the number of rows. No condition but the law's own guard.
-/
import Derived.Test.YtchlilkhgagdeaaX6
import Derived.Test.YtchlilkhgagdeaaX10
import Derived.Test.YtchlilkhgagdeaaXPa
import Derived.Test.YtchlilkhgagdeaaXRowAlignIgnoresMoves
namespace Go.Proofs.Ytchlilkhgagdeaa.X
open Go.RowKit Go.Proofs.YtchlilkhgagdeaaW.PrintWords Go.Proofs.Ytchlilkhgagdeaa.Spec
set_option linter.unusedVariables false

theorem awake_ign : Ev (fun k => regcertlaw13_awake.f k) true := Ev.of (fun k => regcertlaw13_awake.mono k) (k := 40) (by kernel_rfl)

theorem u16_bounds {n : Int} (h : (Lit.int .u16 n).wf = true) : 0 ≤ n ∧ n ≤ 65535 := by
  have := bounds_u16 h
  omega

theorem place_is {n : Int} {len : Nat} (h0 : 0 ≤ n) (h1 : n ≤ 65535) (hl : len ≤ 300) : Int.tmod (wrap64 n) (wrap64 ((len : Int) + 1)) = ((n.toNat % (len + 1) : Nat) : Int) := by
  rw [w64s h0 (by omega), w64s (by omega) (by omega)]
  obtain ⟨q, rfl⟩ := Int.eq_ofNat_of_zero_le h0
  have : ((len : Int) + 1) = ((len + 1 : Nat) : Int) := by omega
  rw [this, Int.toNat_natCast]
  rfl

theorem fin_e (c : List S25) (m : List S28) : (fin [] row45 (spec same c.length m.length (idx pc c 0) (idx pm m 0) 0 0)).2.2 = (if ok same (c.filter fun x => !pc x) (m.filter fun x => !pm x) then 0 else 20) ∧
    (fin [] row45 (spec same c.length m.length (idx pc c 0) (idx pm m 0) 0 0)).1.length = (if ok same (c.filter fun x => !pc x) (m.filter fun x => !pm x) then (m.filter fun x => !pm x).length + 1 else 0) := by
  obtain ⟨h1, h2, _⟩ := spec_ok same c.length m.length (idx pc c 0) (idx pm m 0) 0 0
  rw [idx_snd, idx_snd] at h1 h2
  have h3 : (idx pm m 0).length = (m.filter fun x => !pm x).length := by rw [← idx_snd pm m 0, List.length_map]
  unfold fin
  rw [h3] at h2
  cases hb : ok same (c.filter fun x => !pc x) (m.filter fun x => !pm x)
  · simp [hb] at h1
    simp [h1]
  · simp [hb] at h1 h2
    simp [h1, h2]

theorem filter_put {α : Type} (p : α → Bool) (l : List α) (n : Nat) (x : α) (h : p x = false) : (([] ++ l.take n ++ [x]) ++ l.drop n).filter p = l.filter p := by
  rw [List.nil_append, List.filter_append, List.filter_append, List.filter_cons, h]
  simp only [List.filter_nil, if_false, Bool.false_eq_true, List.append_nil]
  rw [← List.filter_append, List.take_append_drop]

theorem ignores_pure (c : List S25) (m : List S28) (at_ to_ : Int) (x : S25) (y : S28) (g2 : (Lit.int .u16 at_).wf = true) (g3 : (Lit.int .u16 to_).wf = true) :
    ∃ k, regcertlaw13_AlignIgnoresMoves.f k c m at_ to_ x.f0 x.f1 x.f2 x.f3 x.f4 y.f0 y.f1 y.f2 y.f3 y.f4 y.f5 y.f6 = some true := by
  obtain ⟨a0, a1⟩ := u16_bounds g2
  obtain ⟨b0, b1⟩ := u16_bounds g3
  refine Ev.rounds (g := fun k => regcertlaw13_AlignIgnoresMoves.f k c m at_ to_ x.f0 x.f1 x.f2 x.f3 x.f4 y.f0 y.f1 y.f2 y.f3 y.f4 y.f5 y.f6) ?_
  unfold regcertlaw13_AlignIgnoresMoves.f
  refine Ev.bind awake_ign (Ev.pos rfl ?_)
  by_cases h1 : (c.length : Int) > 300
  · exact Ev.pos h1 (Ev.step (fun k => by rw [regcertlaw13_AlignIgnoresMoves.j0]) (Ev.pos rfl (Ev.bind awake_ign (Ev.val rfl))))
  refine Ev.neg h1 (Ev.step (fun k => by rw [regcertlaw13_AlignIgnoresMoves.j0]) ?_)
  by_cases h2 : (m.length : Int) > 300
  · exact Ev.pos (decide_eq_true h2) (Ev.bind awake_ign (Ev.val rfl))
  refine Ev.neg (by simpa using h2) ?_
  have e1 := place_is (len := c.length) a0 a1 (by omega)
  have e2 := place_is (len := m.length) b0 b1 (by omega)
  have l1 := Nat.mod_lt at_.toNat (show 0 < c.length + 1 by omega)
  have l2 := Nat.mod_lt to_.toNat (show 0 < m.length + 1 by omega)
  generalize at_.toNat % (c.length + 1) = p at e1 l1
  generalize to_.toNat % (m.length + 1) = q at e2 l2
  refine Ev.neg (by rw [w64s (by omega) (by omega)]; omega) (Ev.neg (by rw [w64s (by omega) (by omega)]; omega) (Ev.bindv ?_))
  rw [e1, e2, Int.toNat_natCast, Int.toNat_natCast]
  refine Ev.pos (by omega) (Ev.pos (by omega) (Ev.bindv (Ev.pos (by simp; omega) (Ev.bindv (Ev.bindv (Ev.pos (by simp; omega) (Ev.bindv (Ev.bindv (Ev.pos (by simp; omega) (Ev.bindv ?_))))))))))
  refine Ev.pos (by omega) (Ev.pos (by omega) (Ev.bindv (Ev.pos (by simp; omega) (Ev.bindv (Ev.bindv (Ev.pos (by simp; omega) (Ev.bindv (Ev.bindv (Ev.pos (by simp; omega) ?_)))))))))
  refine Ev.bind (code_is c m (by omega) (by omega)) (Ev.bind (code_is _ _ (by simp; omega) (by simp; omega)) ?_)
  obtain ⟨r1, r2⟩ := fin_e c m
  obtain ⟨r3, r4⟩ := fin_e ([] ++ c.take p ++ [(⟨2, x.f1, x.f2, x.f3, x.f4⟩ : S25)] ++ c.drop p) ([] ++ m.take q ++ [(⟨18, y.f1, y.f2, y.f3, y.f4, y.f5, y.f6⟩ : S28)] ++ m.drop q)
  rw [filter_put (fun x => !pc x) c p _ (by simp [pc]), filter_put (fun x => !pm x) m q _ (by simp [pm])] at r3 r4
  refine Ev.pos (by rw [r1, r3]) (Ev.val ?_)
  rw [r2, r4]
  simp
end Go.Proofs.Ytchlilkhgagdeaa.X
namespace Go.Proofs.Ytchlilkhgagdeaa
theorem alignIgnoresMoves_holds : Rows.AlignIgnoresMovesSaid := alignIgnoresMoves.over fun c m a b x y _ _ g2 g3 _ _ => X.ignores_pure c m a b x y g2 g3
end Go.Proofs.Ytchlilkhgagdeaa
