/- TC -/
import Derived.Shelf.Abstract
import Derived.Deep.RegionWith
import Derived.Test.YtchpkjgibloleaaGreatTB
import Derived.Defers
import Derived.Recover
import Derived.Test.YtchpkjgibloleaaGreatTA
namespace Go.Proofs.YtchpkjgibloleaaGreat.Z
set_option maxRecDepth 100000
set_option maxHeartbeats 8000000
open Go.RowKit Go.Proofs.YtchpkjgibloleaaGreatW.PrintWords Go.Proofs.YtchpkjgibloleaaGreatW.PrintLast Go.Proofs.YtchpkjgibloleaaGreatW.PrintMore
attribute [local go_sem] Qb2 Qb9
set_option linter.unusedVariables false
set_option linter.unusedSimpArgs false
section
variable {P : Program} {ops : Array Oper} {Q : Exit → Act → World → Prop}
theorem goesP_ {oi : Oper} {N : Option Tmp} {a : Act} {w : World} {K : Act → World → Prop} {f : FuncId} {fn : Func} {asx : Array Operand} {ts : Array TypeId} (hf : P.funcs[f]? = some fn) (hname : (fn.name == "runtime.NumGoroutine") = false) (hb : fn.body.isSome = true) (args : Array Value)
    (hw : Region.wanted oi (yielded ops a.tmps) = true) (hN : oi.dst = N) (hop : oi.op = .call { callee := .value (.func f), args := asx, argTypes := ts }) (hargs : asx.map a.eval = args)
    (h : Calls P f args w fun e w' => ∃ ch, e = .panicked ch ∧ Q (.panic ch) a w') : if Region.wanted oi (yielded ops a.tmps) = true then Oper.wp P oi a w K Q else K (a.put N undef) w := by
 rw [if_pos hw]
 unfold Oper.wp
 have he := enters_ hf hname hb args w
 have hrun : (execOp a.eval oi).run P w = .ok (.enter f args) w := by
  unfold execOp
  simp [hop, resolve, Deferred.ofValue, invoke, Act.eval, hargs, he]
 rw [hrun, Oper.upon_enter]
 refine h.mono fun e w'' hh => ?_
 obtain ⟨ch, rfl, hk⟩ := hh
 exact hk
end
abbrev Pan := Option (Int × Int)
def endOf : Pan → Ending
 | none => .returned (.tuple #[])
 | some (y, i) => failed y i
abbrev OBs := Option (Bs × Pan)
def OBs.then (o : OBs) (f : Bs → OBs) : OBs := o.bind fun p => match p.2 with
 | none => f p.1
 | some q => some (p.1, some q)
def useF (k : Nat) (s : Bs) (v r i : Int) : OBs := (pairset_Has.f k s.set v (Go.RowKit.wrap64 (2 * r))).bind fun t => some (s.cost, if t = true then none else some (21, i))
def Qcx (s : Bs) (l : List S47) (i : Int) : Bs × Pan := (s.become l, if (l.length : Int) > s.most then some (24, i) else none)
def defineF (k : Nat) (l : List S47) (d a : Int) : Option (List S47) := if l.length < 8796093022208 then Qaf.f k ((l.filter fun p => p.f0 != d).filter fun p => p.f1 != a) d a else none
def instrD (k : Nat) (s : Bs) (d : Bool) (iD mD i : Int) : OBs := if d = true then (defineF k s.set iD (Go.RowKit.wrap64 (2 * mD))).bind fun l => some (Qcx s.cost l i) else some (s, none)
def instrB (k : Nat) (s : Bs) (d b : Bool) (iD iB mD mB i : Int) : OBs := if b = true then (useF k s iB mB i).then fun s1 => instrD k s1 d iD mD i else instrD k s d iD mD i
def instrA (k : Nat) (s : Bs) (d a b : Bool) (iD iA iB mD mA mB i : Int) : OBs := if a = true then (useF k s iA mA i).then fun s1 => instrB k s1 d b iD iB mD mB i else instrB k s d b iD iB mD mB i
theorem Qdo (k g : Nat) (s : Bs) (v r i : Int) (x : Bs × Pan) (w : World) (h : Ck w g s) (hf : useF k s v r i = some x) :
    Calls Tryz.prog 121 #[.pointer (some ⟨g, 0, none⟩), .int .i64 v, .int .i64 r, .int .i64 i] w fun e w' => e = endOf x.2 ∧ Ck w' g x.1 ∧ Fr g w w' := by
 obtain ⟨t, ht, hx⟩ := Option.bind_eq_some_iff.mp hf
 obtain rfl := Option.some.inj hx
 cases t with
 | true => exact use_ok k g s v r i w h ht
 | false => exact use_fail k g s v r i w h ht
theorem Qc4 (g : Nat) (s : Bs) (l : List S47) (i : Int) (v : Value) (base : Nat) (ok : Nat → Prop) (w : World) (h : Ck w g s) (hv : Kd.R k47 47 w base ok v l) (hok : ∀ k, ok k → k ≠ g) :
    Calls Tryz.prog 156 #[.pointer (some ⟨g, 0, none⟩), v, .int .i64 i] w fun e w' => e = endOf (Qcx s l i).2 ∧ Ck w' g (Qcx s l i).1 ∧ Fr g w w' := by
 have hne := Kd.R_away hv hok
 obtain ⟨A, c, rfl, hc, hC⟩ := Kd.R_reads hv
 have hne' : ∀ ad, A = some ad → ad.block ≠ g := by
  rintro ad rfl e
  exact hne (by rw [← e]; rfl)
 have hty : Ty w A := by
  rintro ad rfl
  obtain ⟨inner, ho⟩ := Kd.R_own hv
  exact Qdq ho ad.block rfl
 unfold Qcx
 by_cases hm : (l.length : Int) > s.most
 ·rw [if_pos hm]; exact become_fail g s A c l i w h hc hC hne' hty hm
 ·rw [if_neg hm]; exact become_ok g s A c l i w h hc hC hne' hty hm
theorem defineF_calls (k : Nat) (A : Option Addr) (c : Nat) (l r : List S47) (d a : Int) (w : World) (hr : Kd.C k47 w A l.length l) (hc : l.length ≤ c) (hf : defineF k l d a = some r) :
    Calls Tryz.prog 189 #[.slice A l.length c, .int .i64 d, .int .i64 a] w fun e w' => ∃ u, e = .returned u ∧ Kd.R k47 47 w' w.heap.size (fun _ => True) u r ∧ Below w.heap.size w w' := by
 unfold defineF at hf
 by_cases hl : l.length < 8796093022208
 ·rw [if_pos hl] at hf; exact define_calls k A c l r d a w hr hc hl hf
 ·rw [if_neg hl] at hf; cases hf
theorem Ck.lt {w : World} {g : Nat} {s : Bs} (h : Ck w g s) : g < w.heap.size := by obtain ⟨A, c, h1, _⟩ := h; exact Qbz h1
theorem OBs.then_inv {o : OBs} {f : Bs → OBs} {x : Bs × Pan} (h : o.then f = some x) : ∃ s1 p, o = some (s1, p) ∧ ((p = none ∧ f s1 = some x) ∨ (∃ q, p = some q ∧ x = (s1, some q))) := by
 obtain ⟨⟨s1, p⟩, h1, h2⟩ := Option.bind_eq_some_iff.mp h
 refine ⟨s1, p, h1, ?_⟩
 cases p with
 | none => exact .inl ⟨rfl, h2⟩
 | some q => exact .inr ⟨q, rfl, (Option.some.inj h2).symm⟩
theorem instr_calls (k g : Nat) (s : Bs) (i0 i1 i2 i3 i4 m0 m1 m2 m3 m4 m5 m6 ia : Int) (sd sa sb sm so : Bool) (x : Bs × Pan) (w : World) (h : Ck w g s) (hof : opcode_Of.f i0 = some (sd, sa, sb, sm, so)) (hf : instrA k s sd sa sb i1 i2 i3 m1 m2 m3 ia = some x) :
    Calls Tryz.prog 159 #[.pointer (some ⟨g, 0, none⟩), .agg #[.int .i64 i0, .int .i64 i1, .int .i64 i2, .int .i64 i3, .int .i64 i4], .agg #[.int .i64 m0, .int .i64 m1, .int .i64 m2, .int .i64 m3, .int .i64 m4, .int .i64 m5, .int .i64 m6], .int .i64 ia] w fun e w' => e = endOf x.2 ∧ Ck w' g x.1 ∧ Fr g w w' := by
 have hu41 := Tryz.underlying41
 have hu44 := Tryz.underlying44
 have hu47 := Tryz.underlying47
 have hu59 := Tryz.underlying59
 have hu128 := Tryz.underlying128
 have hu196 := Tryz.underlying196
 have HK := As0 h
 have H := As0 hf
 clear h hf
 have HF := As0 (Fr.refl g w)
 go_enter Tryz.func159, Tryz.ntmps159
 go_upto_if 17 with (first
  | ((with_reducible refine Qbn (N := 5) rfl ?_); refine bX (N := 5) (cs := #[.int .i64 i0, .int .i64 i1, .int .i64 i2, .int .i64 i3, .int .i64 i4]) (t := 41) ?_; intro gi hg w1 hbox hb; have I := As0 hbox; have NI := As0 (by have := HK.out.lt; omega : gi ≠ g); replace HK := As0 (HK.out.below hb); replace HF := As0 (HF.out.then hb); clear hb hbox hg)
  | ((with_reducible refine Qbn (N := 6) rfl ?_); refine bX (N := 6) (cs := #[.int .i64 m0, .int .i64 m1, .int .i64 m2, .int .i64 m3, .int .i64 m4, .int .i64 m5, .int .i64 m6]) (t := 59) ?_; intro gm hg w2 hbox hb; have M := As0 hbox; have NM := As0 (by have := HK.out.lt; omega : gm ≠ g); replace I := As0 (Qbo I.out hb); replace HK := As0 (HK.out.below hb); replace HF := As0 (HF.out.then hb); (obtain ⟨a0, a1, a2, a3, a4, b0, b1, b2, b3, b4⟩ := cN5 I.out); (obtain ⟨c0, c1, c2, c3, c4, c5, c6, d0, d1, d2, d3, d4, d5, d6⟩ := cN7 M.out); clear hb hbox hg)
  | (go_at_call 129; refine (opcode_Of.calls i0 sd sa sb sm so _ hof).mono ?_; rintro e w3 ⟨rfl, hb⟩; clear a0 a1 a2 a3 a4 b0 b1 b2 b3 b4 c0 c1 c2 c3 c4 c5 c6 d0 d1 d2 d3 d4 d5 d6; replace I := As0 (Qbo I.out hb); replace M := As0 (Qbo M.out hb); replace HK := As0 (HK.out.below hb); replace HF := As0 (HF.out.then hb); clear hb)
  | ((with_reducible refine Qbn (N := 8) rfl ?_); refine bX (N := 8) (cs := #[.bool false, .bool false, .bool false, .bool false]) (t := 196) ?_; intro gs hg w4 hbox hb; have S := As0 hbox; have NS := As0 (by have := HK.out.lt; omega : gs ≠ g); have GS := As0 (Nat.le_of_eq hg.symm); have HBS := As0 hb; clear hb hbox hg)
  | ((with_reducible refine Qc6 (.store 196 (.tmp 8) (.tmp 14)) rfl ?_); go_loud (refine Qat rfl rfl 196 _ _ rfl gs #[.bool sd, .bool sa, .bool sb, .bool sm] rfl rfl 196 #[.bool false, .bool false, .bool false, .bool false] S.out (by kernel_rfl) rfl (by kernel_rfl) ?_); intro w5 hg ho hB; have hb := hB _ _ GS.out HBS.out; replace S := As0 hg; replace I := As0 (Qbo I.out hb); replace M := As0 (Qbo M.out hb); replace HK := As0 (HK.out.below hb); replace HF := As0 (HF.out.then hb); (obtain ⟨a0, a1, a2, a3, a4, b0, b1, b2, b3, b4⟩ := cN5 I.out); (obtain ⟨c0, c1, c2, c3, c4, c5, c6, d0, d1, d2, d3, d4, d5, d6⟩ := cN7 M.out); (obtain ⟨e0, e1, e2, e3, f0, f1, f2, f3⟩ := cN4 S.out); clear hg ho hB hb HBS GS))
 go_cut [] (fun wc => ∃ s1, Qbm (instrB k s1 sd sb i1 i3 m1 m3 ia = some x) ∧ Qbm (Ck wc g s1) ∧ Qbm (Fr g w wc) ∧ Qbm (wc.heap[gi]? = some (.cells #[.int .i64 i0, .int .i64 i1, .int .i64 i2, .int .i64 i3, .int .i64 i4] 41 (0, 0))) ∧ Qbm (wc.heap[gm]? = some (.cells #[.int .i64 m0, .int .i64 m1, .int .i64 m2, .int .i64 m3, .int .i64 m4, .int .i64 m5, .int .i64 m6] 59 (0, 0))) ∧ Qbm (wc.heap[gs]? = some (.cells #[.bool sd, .bool sa, .bool sb, .bool sm] 196 (0, 0))))
 case first =>
  cases sa with
  | false =>
   go_wp2
   go_meet
   case rel => exact ⟨s, As0 H.out, HK, HF, I, M, S⟩
  | true =>
   obtain ⟨s7, p, hu, hp⟩ := OBs.then_inv (show OBs.then (useF k s i2 m2 ia) (fun s1 => instrB k s1 sd sb i1 i3 m1 m3 ia) = some x from H.out)
   rcases hp with ⟨rfl, hp⟩ | ⟨q, rfl, rfl⟩
   ·go_wp2_with (go_at_call 121; refine (Qdo k g _ i2 m2 ia _ _ HK.out hu).mono ?_; rintro e w7 ⟨rfl, hk, hf⟩; replace HK := As0 hk; clear hk; replace I := As0 (hf.blk I.out NI.out); replace M := As0 (hf.blk M.out NM.out); replace S := As0 (hf.blk S.out NS.out); replace HF := As0 (HF.out.trans hf); clear hf)
    go_meet
    case rel => exact ⟨s7, As0 hp, HK, HF, I, M, S⟩
   ·go_wp2_with (go_at_call 121; refine (Qdo k g _ i2 m2 ia _ _ HK.out hu).mono ?_; rintro e w7 ⟨rfl, hk, hf⟩; replace HF := As0 (HF.out.trans hf))
    exact ⟨rfl, rfl, hk, HF.out⟩
 case rest =>
  clear HK HF I M S H
  obtain ⟨s1, H, HK, HF, I, M, S⟩ := hcut
  clear a0 a1 a2 a3 a4 b0 b1 b2 b3 b4 c0 c1 c2 c3 c4 c5 c6 d0 d1 d2 d3 d4 d5 d6 e0 e1 e2 e3 f0 f1 f2 f3
  (obtain ⟨a0, a1, a2, a3, a4, b0, b1, b2, b3, b4⟩ := cN5 I.out); (obtain ⟨c0, c1, c2, c3, c4, c5, c6, d0, d1, d2, d3, d4, d5, d6⟩ := cN7 M.out); (obtain ⟨e0, e1, e2, e3, f0, f1, f2, f3⟩ := cN4 S.out)
  go_upto_if 26 with (fail)
  go_cut [] (fun wc => ∃ s2, Qbm (instrD k s2 sd i1 m1 ia = some x) ∧ Qbm (Ck wc g s2) ∧ Qbm (Fr g w wc) ∧ Qbm (wc.heap[gi]? = some (.cells #[.int .i64 i0, .int .i64 i1, .int .i64 i2, .int .i64 i3, .int .i64 i4] 41 (0, 0))) ∧ Qbm (wc.heap[gm]? = some (.cells #[.int .i64 m0, .int .i64 m1, .int .i64 m2, .int .i64 m3, .int .i64 m4, .int .i64 m5, .int .i64 m6] 59 (0, 0))) ∧ Qbm (wc.heap[gs]? = some (.cells #[.bool sd, .bool sa, .bool sb, .bool sm] 196 (0, 0))))
  case first =>
   cases sb with
   | false =>
    go_wp2
    go_meet
    case rel => exact ⟨s1, As0 H.out, HK, HF, I, M, S⟩
   | true =>
    obtain ⟨s7, p, hu, hp⟩ := OBs.then_inv (show OBs.then (useF k s1 i3 m3 ia) (fun s1 => instrD k s1 sd i1 m1 ia) = some x from H.out)
    rcases hp with ⟨rfl, hp⟩ | ⟨q, rfl, rfl⟩
    ·go_wp2_with (go_at_call 121; refine (Qdo k g _ i3 m3 ia _ _ HK.out hu).mono ?_; rintro e w7 ⟨rfl, hk, hf⟩; replace HK := As0 hk; clear hk; replace I := As0 (hf.blk I.out NI.out); replace M := As0 (hf.blk M.out NM.out); replace S := As0 (hf.blk S.out NS.out); replace HF := As0 (HF.out.trans hf); clear hf)
     go_meet
     case rel => exact ⟨s7, As0 hp, HK, HF, I, M, S⟩
    ·go_wp2_with (go_at_call 121; refine (Qdo k g _ i3 m3 ia _ _ HK.out hu).mono ?_; rintro e w7 ⟨rfl, hk, hf⟩; replace HF := As0 (HF.out.trans hf))
     exact ⟨rfl, rfl, hk, HF.out⟩
  case rest =>
   clear HK HF I M S H a0 a1 a2 a3 a4 b0 b1 b2 b3 b4 c0 c1 c2 c3 c4 c5 c6 d0 d1 d2 d3 d4 d5 d6 e0 e1 e2 e3 f0 f1 f2 f3
   obtain ⟨s2, H, HK, HF, I, M, S⟩ := hcut
   (obtain ⟨a0, a1, a2, a3, a4, b0, b1, b2, b3, b4⟩ := cN5 I.out); (obtain ⟨c0, c1, c2, c3, c4, c5, c6, d0, d1, d2, d3, d4, d5, d6⟩ := cN7 M.out); (obtain ⟨e0, e1, e2, e3, f0, f1, f2, f3⟩ := cN4 S.out)
   cases sd with
   | false =>
    obtain rfl := Option.some.inj (show some (s2, none) = some x from H.out)
    go_wp2
    go_returns
    exact ⟨rfl, HK.out, HF.out⟩
   | true =>
    obtain ⟨l, hl, hx⟩ := Option.bind_eq_some_iff.mp (show ((defineF k s2.set i1 (Go.RowKit.wrap64 (2 * m1))).bind fun l => some (Qcx s2.cost l ia)) = some x from H.out)
    obtain rfl := Option.some.inj hx
    go_wp2_with (go_at_call 155; refine (Qdw g s2 _ HK.out).mono ?_; rintro e w8 ⟨rfl, hk, hf⟩; replace HK := As0 hk; clear hk; replace I := As0 (hf.blk I.out NI.out); replace M := As0 (hf.blk M.out NM.out); replace S := As0 (hf.blk S.out NS.out); replace HF := As0 (HF.out.trans hf); clear hf a0 a1 a2 a3 a4 b0 b1 b2 b3 b4 c0 c1 c2 c3 c4 c5 c6 d0 d1 d2 d3 d4 d5 d6 e0 e1 e2 e3 f0 f1 f2 f3; (obtain ⟨a0, a1, a2, a3, a4, b0, b1, b2, b3, b4⟩ := cN5 I.out); (obtain ⟨c0, c1, c2, c3, c4, c5, c6, d0, d1, d2, d3, d4, d5, d6⟩ := cN7 M.out))
    (obtain ⟨A, c, hg, hc, hC, hne⟩ := HK.out); (obtain ⟨q0, q1, q2, q3, f0, f1, f2, f3⟩ := cN4 hg)
    replace q0 : w8.cell? ⟨g, 0, none⟩ = some (.slice A s2.set.length c) := q0
    have HC := As0 (show Kd.C k47 w8 A s2.set.length s2.set from hC)
    have hc1 : s2.set.length ≤ c := hc
    have HL := As0 hl
    clear hg hC hc hl q1 q2 q3
    cases hp : (Qcx s2.cost l ia).2 with
    | none =>
     refine Qcd (n := 13) (S := fun w' => w'.cell? ⟨g, 0, none⟩ = some (.slice A s2.set.length c) ∧ w'.cell? ⟨gi, 1, none⟩ = some (.int .i64 i1) ∧ w'.cell? ⟨gm, 1, none⟩ = some (.int .i64 m1)) (ds := [10, 12]) (bb 13 0) (by kernel_rfl) rfl rfl ⟨q0, a1, c1⟩ (fun hHeld => ?_)
     refine pu 0 38 (bb 13 1) ?_
     refine pu 1 39 (bb 13 3) ?_
     refine pu 2 40 (bb 13 7) ?_
     refine pu 3 41 (bb 13 15) ?_
     refine pu 5 43 (bb 13 47) ?_
     refine pu 7 45 (bb 13 175) ?_
     refine pu 11 49 (bb 13 2223) ?_
     refine tu hHeld 4 42 (bb 13 2239) ?_
     refine tu hHeld 6 44 (bb 13 2303) ?_
     refine tu hHeld 8 46 (bb 13 2559) ?_
     refine one_ (i := 9) (N := some 47) (bb 13 3071) rfl rfl (by kernel_rfl) (by decide) (fun K hK => ?_)
     refine Qcz Tryz.func161 (by kernel_rfl) rfl #[.int .i64 m1] (by rfl) rfl rfl (by simp only [List.map_toArray, List.map_cons, List.map_nil]; rfl) ?_
     with_reducible refine (location_Reg.calls m1 _ _ rfl).mono ?_
     rintro e w2 ⟨rfl, m, rfl⟩
     refine ⟨_, rfl, ?_⟩
     refine hK.out _ _ ⟨q0, a1, c1⟩ (fun hHeld => ?_)
     clear hK K
     refine Qb5 (a' := ?_) ?_ ?_
     rotate_left
     ·show Act.put _ (some 47) _ = _
      simp only [Act.put, List.setIfInBounds_toArray, List.set_cons_zero, List.set_cons_succ, Qbw, Qbx]
      rfl
     refine Qdz (i := 10) (N := some 48) (bb 13 4095) rfl rfl (by kernel_rfl) (by decide) (fun K hK => ?_)
     refine Qcz Tryz.func189 (by kernel_rfl) rfl #[.slice A s2.set.length c, .int .i64 i1, .int .i64 (Go.RowKit.wrap64 (2 * m1))] (by rfl) rfl rfl (by simp only [List.map_toArray, List.map_cons, List.map_nil]; rfl) ?_
     with_reducible refine (defineF_calls k A c s2.set l i1 (Go.RowKit.wrap64 (2 * m1)) _ (by repeat (first | exact HC.out | refine Kd.C_drewN ?_ _ | refine Kd.C_drew ?_)) hc1 HL.out).mono ?_
     rintro e w9 ⟨u, rfl, ho9, hb9⟩
     refine ⟨_, rfl, ?_⟩
     refine hK.out _ _ ?_
     clear hK K
     refine Qb5 (a' := ?_) ?_ ?_
     rotate_left
     ·show Act.put _ (some 48) _ = _
      simp only [Act.put, List.setIfInBounds_toArray, List.set_cons_zero, List.set_cons_succ, Qbw, Qbx]
      rfl
     refine Qdz (i := 12) (N := some 50) (bb 13 8191) rfl rfl (by kernel_rfl) (by decide) (fun K hK => ?_)
     refine Qcz Tryz.func156 (by kernel_rfl) rfl #[.pointer (some ⟨g, 0, none⟩), u, .int .i64 ia] (by rfl) rfl rfl (by simp only [List.map_toArray, List.map_cons, List.map_nil]; rfl) ?_
     with_reducible refine (Qc4 g s2.cost l ia u _ _ _ (HK.out.below (Qbj (BU (Below.refl _ w8)) hb9)) (Kd.R_bound ho9) (fun k hk => Nat.ne_of_gt (Nat.lt_of_lt_of_le HK.out.lt (Nat.le_trans (Qbp (BU (Below.refl _ w8))) hk.2.1)))).mono ?_
     rintro e w10 ⟨he, hk, hf⟩
     replace HF := As0 ((HF.out.then (Qbj (BU (Below.refl _ w8)) hb9)).trans hf)
     replace HK := As0 hk
     rw [hp] at he
     subst he
     refine ⟨_, rfl, ?_⟩
     refine hK.out _ _ ?_
     clear hK K
     refine Qb5 (a' := ?_) ?_ ?_
     rotate_left
     ·show Act.put _ (some 50) _ = _
      simp only [Act.put, List.setIfInBounds_toArray, List.set_cons_zero, List.set_cons_succ, Qbw, Qbx]
      rfl
     refine Qc0 (by kernel_rfl) ?_
     go_wp2
     go_returns
     exact ⟨by rw [hp]; rfl, HK.out, HF.out⟩
    | some q =>
     refine Qcd (n := 13) (S := fun w' => w'.cell? ⟨g, 0, none⟩ = some (.slice A s2.set.length c) ∧ w'.cell? ⟨gi, 1, none⟩ = some (.int .i64 i1) ∧ w'.cell? ⟨gm, 1, none⟩ = some (.int .i64 m1)) (ds := [10, 12]) (bb 13 0) (by kernel_rfl) rfl rfl ⟨q0, a1, c1⟩ (fun hHeld => ?_)
     refine pu 0 38 (bb 13 1) ?_
     refine pu 1 39 (bb 13 3) ?_
     refine pu 2 40 (bb 13 7) ?_
     refine pu 3 41 (bb 13 15) ?_
     refine pu 5 43 (bb 13 47) ?_
     refine pu 7 45 (bb 13 175) ?_
     refine pu 11 49 (bb 13 2223) ?_
     refine tu hHeld 4 42 (bb 13 2239) ?_
     refine tu hHeld 6 44 (bb 13 2303) ?_
     refine tu hHeld 8 46 (bb 13 2559) ?_
     refine one_ (i := 9) (N := some 47) (bb 13 3071) rfl rfl (by kernel_rfl) (by decide) (fun K hK => ?_)
     refine Qcz Tryz.func161 (by kernel_rfl) rfl #[.int .i64 m1] (by rfl) rfl rfl (by simp only [List.map_toArray, List.map_cons, List.map_nil]; rfl) ?_
     with_reducible refine (location_Reg.calls m1 _ _ rfl).mono ?_
     rintro e w2 ⟨rfl, m, rfl⟩
     refine ⟨_, rfl, ?_⟩
     refine hK.out _ _ ⟨q0, a1, c1⟩ (fun hHeld => ?_)
     clear hK K
     refine Qb5 (a' := ?_) ?_ ?_
     rotate_left
     ·show Act.put _ (some 47) _ = _
      simp only [Act.put, List.setIfInBounds_toArray, List.set_cons_zero, List.set_cons_succ, Qbw, Qbx]
      rfl
     refine Qdz (i := 10) (N := some 48) (bb 13 4095) rfl rfl (by kernel_rfl) (by decide) (fun K hK => ?_)
     refine Qcz Tryz.func189 (by kernel_rfl) rfl #[.slice A s2.set.length c, .int .i64 i1, .int .i64 (Go.RowKit.wrap64 (2 * m1))] (by rfl) rfl rfl (by simp only [List.map_toArray, List.map_cons, List.map_nil]; rfl) ?_
     with_reducible refine (defineF_calls k A c s2.set l i1 (Go.RowKit.wrap64 (2 * m1)) _ (by repeat (first | exact HC.out | refine Kd.C_drewN ?_ _ | refine Kd.C_drew ?_)) hc1 HL.out).mono ?_
     rintro e w9 ⟨u, rfl, ho9, hb9⟩
     refine ⟨_, rfl, ?_⟩
     refine hK.out _ _ ?_
     clear hK K
     refine Qb5 (a' := ?_) ?_ ?_
     rotate_left
     ·show Act.put _ (some 48) _ = _
      simp only [Act.put, List.setIfInBounds_toArray, List.set_cons_zero, List.set_cons_succ, Qbw, Qbx]
      rfl
     refine Qdz (i := 12) (N := some 50) (bb 13 8191) rfl rfl (by kernel_rfl) (by decide) (fun K hK => ?_)
     refine goesP_ Tryz.func156 (by kernel_rfl) rfl #[.pointer (some ⟨g, 0, none⟩), u, .int .i64 ia] (by rfl) rfl rfl (by simp only [List.map_toArray, List.map_cons, List.map_nil]; rfl) ?_
     with_reducible refine (Qc4 g s2.cost l ia u _ _ _ (HK.out.below (Qbj (BU (Below.refl _ w8)) hb9)) (Kd.R_bound ho9) (fun k hk => Nat.ne_of_gt (Nat.lt_of_lt_of_le HK.out.lt (Nat.le_trans (Qbp (BU (Below.refl _ w8))) hk.2.1)))).mono ?_
     rintro e w10 ⟨he, hk, hf⟩
     replace HF := As0 ((HF.out.then (Qbj (BU (Below.refl _ w8)) hb9)).trans hf)
     replace HK := As0 hk
     rw [hp] at he
     subst he
     exact ⟨_, rfl, rfl, by rw [hp]; rfl, HK.out, HF.out⟩
end Go.Proofs.YtchpkjgibloleaaGreat.Z
namespace Go.Proofs.YtchpkjgibloleaaGreat.Z
set_option maxRecDepth 100000
set_option maxHeartbeats 8000000
open Go.RowKit Go.Proofs.YtchpkjgibloleaaGreatW.PrintWords Go.Proofs.YtchpkjgibloleaaGreatW.PrintLast Go.Proofs.YtchpkjgibloleaaGreatW.PrintMore
attribute [local go_sem] Qb2 Qb9
set_option linter.unusedVariables false
set_option linter.unusedSimpArgs false
theorem Fr.cell_ {g : Nat} {w w' : World} (h : Fr g w w') {p : Addr} (hp : p.block < w.heap.size) (hne : p.block ≠ g) : w'.cell? p = w.cell? p := World.cell?_of_block (h.block p.block hp hne)
theorem cell_b {w W : World} {p : Addr} {v : Value} (hb : Below w.heap.size w W) (h : w.cell? p = some v) : W.cell? p = some v := (hb.cell (wblt w h)).trans h
instance (l : List S47) : Decidable (Asc l) := inferInstanceAs (Decidable (List.Pairwise (fun x y => Qcj x y = true) l))
def renS (k : Nat) (kept more : List S47) : Option (List S47) := if Asc more then Qad.f k kept more else none
def copyS (k : Nat) (l : List S47) (d a : Int) : Option (List S47) := if l.length < 8796093022208 then (if d = a then (if Asc l then some l else none) else renS k (l.filter fun p => p.f0 != d) ((l.filter fun p => p.f0 == a).map fun p => (⟨d, p.f1⟩ : S47))) else none
def moveS (k : Nat) (l : List S47) (d a : Int) : Option (List S47) := if l.length < 8796093022208 then (if d = a then (if Asc l then some l else none) else renS k (l.filter fun p => p.f1 != d) ((l.filter fun p => p.f1 == a).map fun p => (⟨p.f0, d⟩ : S47))) else none
theorem copyS_calls (k : Nat) (A : Option Addr) (c : Nat) (l r : List S47) (d a : Int) (w : World) (hr : Kd.C k47 w A l.length l) (hc : l.length ≤ c) (hf : copyS k l d a = some r) :
    Calls Tryz.prog 157 #[.slice A l.length c, .int .i64 d, .int .i64 a] w fun e w' => ∃ u, e = .returned u ∧ Kd.R k47 47 w' w.heap.size (fun _ => True) u r ∧ Below w.heap.size w w' := by
 unfold copyS renS at hf
 by_cases hl : l.length < 8796093022208
 ·rw [if_pos hl] at hf
  by_cases hda : d = a
  ·rw [if_pos hda] at hf
   subst hda
   split at hf
   ·rename_i hs
    obtain rfl := Option.some.inj hf
    exact copy_same A c l d w hr hs hl
   ·cases hf
  ·rw [if_neg hda] at hf
   split at hf
   ·rename_i hs
    exact copy_other k A c l r d a w hda hr hc hl hs hf
   ·cases hf
 ·rw [if_neg hl] at hf; cases hf
theorem moveS_calls (k : Nat) (A : Option Addr) (c : Nat) (l r : List S47) (d a : Int) (w : World) (hr : Kd.C k47 w A l.length l) (hc : l.length ≤ c) (hf : moveS k l d a = some r) :
    Calls Tryz.prog 158 #[.slice A l.length c, .int .i64 d, .int .i64 a] w fun e w' => ∃ u, e = .returned u ∧ Kd.R k47 47 w' w.heap.size (fun _ => True) u r ∧ Below w.heap.size w w' := by
 unfold moveS renS at hf
 by_cases hl : l.length < 8796093022208
 ·rw [if_pos hl] at hf
  by_cases hda : d = a
  ·rw [if_pos hda] at hf
   subst hda
   split at hf
   ·rename_i hs
    obtain rfl := Option.some.inj hf
    exact move_same A c l d w hr hs hl
   ·cases hf
  ·rw [if_neg hda] at hf
   split at hf
   ·rename_i hs
    exact move_other k A c l r d a w hda hr hc hl hs hf
   ·cases hf
 ·rw [if_neg hl] at hf; cases hf
def copyF (k : Nat) (s : Bs) (d a i : Int) : OBs := (copyS k s.set d a).bind fun l => some (Qcx s.cost l i)
def moveF (k : Nat) (s : Bs) (d a i : Int) : OBs := (moveS k s.set d a).bind fun l => some (Qcx s.cost l i)
def copiesF (k : Nat) (m : Int) : List S41 → Bs → (Bs → OBs) → OBs
 | [], s, K => K s
 | i :: t, s, K => (copyF k s i.f1 i.f2 m).then fun s1 => copiesF k m t s1 K
def Qdl (k : Nat) (mc : List S59) : Nat → Int → Bs → (Bs → OBs) → OBs
 | 0, _, s, K => K s
 | n + 1, j, s, K => if 0 ≤ j ∧ j < (mc.length : Int) then (moveF k s (Qai mc j).f5 (Qai mc j).f6 j).then fun s1 => Qdl k mc n (j + 1) s1 K else none
def instrF (k : Nat) (s : Bs) (i : S41) (m : S59) (ia : Int) : OBs := (opcode_Of.f i.f0).bind fun t => instrA k s t.1 t.2.1 t.2.2.1 i.f1 i.f2 i.f3 m.f1 m.f2 m.f3 ia
def srcF (k : Nat) (bc : List S41) (mc : List S59) (r4 r5 : Int) (s : Bs) : OBs :=
 if r4 ≥ 0 then (if r4 < (bc.length : Int) ∧ 0 ≤ r5 ∧ r5 < (mc.length : Int) then instrF k s (Qaw bc r4) (Qai mc r5) r5 else none) else some (s, none)
def rowF (k : Nat) (bc : List S41) (mc : List S59) (r : S180) (s : Bs) : OBs :=
 if 0 ≤ r.f0 ∧ r.f0 ≤ r.f1 ∧ r.f1 ≤ (bc.length : Int) then
  copiesF k r.f2 ((bc.take r.f1.toNat).drop r.f0.toNat) s fun s1 => Qdl k mc (r.f3 - r.f2).toNat r.f2 s1 fun s2 => srcF k bc mc r.f4 r.f5 s2
 else none
theorem instrF_calls (k g : Nat) (s : Bs) (i : S41) (m : S59) (ia : Int) (x : Bs × Pan) (w : World) (h : Ck w g s) (hf : instrF k s i m ia = some x) :
    Calls Tryz.prog 159 #[.pointer (some ⟨g, 0, none⟩), .agg #[.int .i64 i.f0, .int .i64 i.f1, .int .i64 i.f2, .int .i64 i.f3, .int .i64 i.f4], .agg #[.int .i64 m.f0, .int .i64 m.f1, .int .i64 m.f2, .int .i64 m.f3, .int .i64 m.f4, .int .i64 m.f5, .int .i64 m.f6], .int .i64 ia] w fun e w' => e = endOf x.2 ∧ Ck w' g x.1 ∧ Fr g w w' := by
 obtain ⟨⟨sd, sa, sb, sm, so⟩, ho, hx⟩ := Option.bind_eq_some_iff.mp hf
 exact instr_calls k g s _ _ _ _ _ _ _ _ _ _ _ _ ia sd sa sb sm so x w h ho hx
theorem row_calls (k g : Nat) (s : Bs) (A0 : Option Addr) (c0 : Nat) (bc : List S41) (t0 t1 t2 t3 : Int) (A1 : Option Addr) (c1 : Nat) (mc : List S59) (u0_ u1_ u2_ u3_ : Int) (r : S180) (x : Bs × Pan) (w0 w : World) (h : Ck w g s) (hB : Below w0.heap.size w0 w) (hg0 : w0.heap.size ≤ g)
    (h0 : Kd.C k41 w0 A0 bc.length bc) (hc0 : bc.length ≤ c0) (h1 : Kd.C k59 w0 A1 mc.length mc) (hc1_ : mc.length ≤ c1) (hf : rowF k bc mc r s = some x) :
    Calls Tryz.prog 120 #[.pointer (some ⟨g, 0, none⟩), .agg #[.slice A0 bc.length c0, .int .i64 t0, .int .i64 t1, .int .i64 t2, .int .i64 t3], .agg #[.slice A1 mc.length c1, .int .i64 u0_, .int .i64 u1_, .int .i64 u2_, .int .i64 u3_], .agg #[.int .i64 r.f0, .int .i64 r.f1, .int .i64 r.f2, .int .i64 r.f3, .int .i64 r.f4, .int .i64 r.f5]] w fun e w' => e = endOf x.2 ∧ Ck w' g x.1 ∧ Fr g w w' := by
 have hu35 := Tryz.underlying35
 have hu39 := Tryz.underlying39
 have hu41 := Tryz.underlying41
 have hu44 := Tryz.underlying44
 have hu54 := Tryz.underlying54
 have hu57 := Tryz.underlying57
 have hu59 := Tryz.underlying59
 have hu128 := Tryz.underlying128
 have hu180 := Tryz.underlying180
 have HK := As0 h
 have HB0 := As0 hB
 have HG0 := As0 hg0
 have H0 := As0 h0
 have H1 := As0 h1
 have HM0 := As0 h0.2.1
 have HM1 := As0 h1.2.1
 unfold rowF at hf
 by_cases hcut : 0 ≤ r.f0 ∧ r.f0 ≤ r.f1 ∧ r.f1 ≤ (bc.length : Int)
 ·rw [if_pos hcut] at hf
  have H := As0 hf
  obtain ⟨i41, hi41, _, hsz41, _⟩ := info_parts info41
  have hcm := cut_mid (P := Tryz.prog) 35 41 .i64 .i64 Tryz.underlying35 hi41 5 hsz41 A0 bc.length c0 r.f0 r.f1 hcut.1 hcut.2.1 hcut.2.2 hc0
  have htk : (bc.take r.f1.toNat).length = r.f1.toNat := by rw [List.length_take]; omega
  have hCs : ∃ A2 c2, (if c0 = r.f0.toNat then A0 else A0.map (·.add (r.f0.toNat * 5))) = A2 ∧ c0 - r.f0.toNat = c2 ∧ r.f1.toNat - r.f0.toNat = ((bc.take r.f1.toNat).drop r.f0.toNat).length ∧ Kd.C k41 w0 A2 ((bc.take r.f1.toNat).drop r.f0.toNat).length ((bc.take r.f1.toNat).drop r.f0.toNat) ∧ ((bc.take r.f1.toNat).drop r.f0.toNat).length ≤ 9223372036854775807 := by
   have ht := Kd.C_take (m := r.f1.toNat) h0 (by omega)
   have hd := Kd.C_drop (m := r.f0.toNat) (c := c0) ht (by omega) (by omega)
   exact ⟨_, _, rfl, rfl, by rw [List.length_drop, htk], hd, hd.2.1⟩
  obtain ⟨A2, c2, e1, e2, e3, hC2, hM2⟩ := hCs
  rw [e1, e2, e3] at hcm
  clear e1 e2 e3 htk
  generalize (bc.take r.f1.toNat).drop r.f0.toNat = cs at hcm hC2 hM2 H
  have HC2 := As0 hC2
  clear h hB hg0 h0 h1 hf hcut hC2 hi41
  have HF := As0 (Fr.refl g w)
  go_enter Tryz.func120, Tryz.ntmps120
  go_wp2_with (first
   | ((with_reducible refine Qbn (N := 5) rfl ?_); refine bX (N := 5) (cs := #[.slice A0 bc.length c0, .int .i64 t0, .int .i64 t1, .int .i64 t2, .int .i64 t3]) (t := 39) ?_; intro gB hg w1 hbox hb; have B := As0 hbox; have NB := As0 (by have := HK.out.lt; omega : gB ≠ g); replace HK := As0 (HK.out.below hb); replace HF := As0 (HF.out.then hb); clear hb hbox hg)
   | ((with_reducible refine Qbn (N := 6) rfl ?_); refine bX (N := 6) (cs := #[.slice A1 mc.length c1, .int .i64 u0_, .int .i64 u1_, .int .i64 u2_, .int .i64 u3_]) (t := 57) ?_; intro gM hg w2 hbox hb; have M := As0 hbox; have NM := As0 (by have := HK.out.lt; omega : gM ≠ g); replace B := As0 (Qbo B.out hb); replace HK := As0 (HK.out.below hb); replace HF := As0 (HF.out.then hb); clear hb hbox hg)
   | ((with_reducible refine Qbn (N := 7) rfl ?_); refine bX (N := 7) (cs := #[.int .i64 r.f0, .int .i64 r.f1, .int .i64 r.f2, .int .i64 r.f3, .int .i64 r.f4, .int .i64 r.f5]) (t := 180) ?_; intro gR hg w3 hbox hb; have R := As0 hbox; have NR := As0 (by have := HK.out.lt; omega : gR ≠ g); replace B := As0 (Qbo B.out hb); replace M := As0 (Qbo M.out hb); replace HK := As0 (HK.out.below hb); replace HF := As0 (HF.out.then hb); (obtain ⟨b0, b1, b2, b3, b4, bf0, bf1, bf2, bf3, bf4⟩ := cN5 B.out); (obtain ⟨m0, m1, m2, m3, m4, mf0, mf1, mf2, mf3, mf4⟩ := cN5 M.out); (obtain ⟨r_0, r_1, r_2, r_3, r_4, r_5, r_f0, r_f1, r_f2, r_f3, r_f4, r_f5⟩ := cN6 R.out); clear hb hbox hg))
  skip; skip; skip
  go_loopg [19] (cs.length + 1) (fun n v19 w' => ∃ (i : Nat) (s1 : Bs), v19 = .int .i64 (i : Int) ∧ Qbm (i ≤ cs.length ∧ cs.length - i < n) ∧ Qbm (copiesF k r.f2 (cs.drop i) s1 (fun s1 => Qdl k mc (r.f3 - r.f2).toNat r.f2 s1 fun s2 => srcF k bc mc r.f4 r.f5 s2) = some x) ∧ Qbm (Ck w' g s1) ∧ Qbm (Fr g w w') ∧ Qbm (w'.heap[gB]? = some (.cells #[.slice A0 bc.length c0, .int .i64 t0, .int .i64 t1, .int .i64 t2, .int .i64 t3] 39 (0, 0))) ∧ Qbm (w'.heap[gM]? = some (.cells #[.slice A1 mc.length c1, .int .i64 u0_, .int .i64 u1_, .int .i64 u2_, .int .i64 u3_] 57 (0, 0))) ∧ Qbm (w'.heap[gR]? = some (.cells #[.int .i64 r.f0, .int .i64 r.f1, .int .i64 r.f2, .int .i64 r.f3, .int .i64 r.f4, .int .i64 r.f5] 180 (0, 0))))
  case atStart => exact ⟨0, s, rfl, ⟨by omega, by omega⟩, ⟨by rw [List.drop_zero]; exact H.out⟩, HK, HF, B, M, R⟩
  case round =>
   clear HK HF B M R H
   obtain ⟨i, s1, rfl, HI, H, HK, HF, B, M, R⟩ := hrel
   (obtain ⟨b0, b1, b2, b3, b4, bf0, bf1, bf2, bf3, bf4⟩ := cN5 B.out); (obtain ⟨m0, m1, m2, m3, m4, mf0, mf1, mf2, mf3, mf4⟩ := cN5 M.out); (obtain ⟨r_0, r_1, r_2, r_3, r_4, r_5, r_f0, r_f1, r_f2, r_f3, r_f4, r_f5⟩ := cN6 R.out)
   by_cases hi : i < cs.length
   ·have hlt : (i : Int) < (cs.length : Int) := by omega
    have h0' : (0 : Int) ≤ (i : Int) := by omega
    obtain ⟨ad, e, hx0, hx1, hx2, hx3, hx4⟩ := at_T41 HC2.out i h0' hlt
    cases e
    have HBw := HF.out.base HB0.out HG0.out HB0.out.size
    replace hx0 := (HBw.cell (wblt w0 hx0)).trans hx0
    replace hx1 := (HBw.cell (wblt w0 hx1)).trans hx1
    replace hx2 := (HBw.cell (wblt w0 hx2)).trans hx2
    replace hx3 := (HBw.cell (wblt w0 hx3)).trans hx3
    replace hx4 := (HBw.cell (wblt w0 hx4)).trans hx4
    have hw : Go.RowKit.wrap64 ((i : Int) + 1) = ((i + 1 : Nat) : Int) := by unfold Go.RowKit.wrap64; omega
    have hp : Qaw cs (i : Int) = cs[i] := by simp [Qaw, List.getD_eq_getElem?_getD, hi]
    have hdr : cs.drop i = cs[i] :: cs.drop (i + 1) := by rw [List.drop_eq_getElem_cons hi]
    have H' := H.out
    rw [hdr] at H'
    rw [hp] at hx0 hx1 hx2 hx3 hx4
    simp only [Int.toNat_natCast] at hx0 hx1 hx2 hx3 hx4
    generalize cs[i] = p at hx0 hx1 hx2 hx3 hx4 H'
    clear hp hdr HBw
    obtain ⟨s2, pn, hu, hp⟩ := OBs.then_inv (show OBs.then (copyF k s1 p.f1 p.f2 r.f2) (fun s1 => copiesF k r.f2 (cs.drop (i + 1)) s1 (fun s1 => Qdl k mc (r.f3 - r.f2).toNat r.f2 s1 fun s2 => srcF k bc mc r.f4 r.f5 s2)) = some x from H')
    obtain ⟨l, hl, hx⟩ := Option.bind_eq_some_iff.mp hu
    replace hx := Option.some.inj hx
    have HL := As0 hl
    clear hl hu
    go_wp2_with (first
        | ((with_reducible refine Qbn (N := 9) rfl ?_); refine bX (N := 9) (cs := #[.int .i64 0, .int .i64 0, .int .i64 0, .int .i64 0, .int .i64 0]) (t := 41) ?_; intro gi hg w4 hbox hb; have I := As0 hbox; have NI := As0 (by have := HK.out.lt; omega : gi ≠ g); have GI := As0 (Nat.le_of_eq hg.symm); have HBI := As0 hb; clear hb hbox hg)
        | ((with_reducible refine Qc6 (.store 41 (.tmp 9) (.tmp 22)) rfl ?_); go_loud (refine Qat rfl rfl 41 _ _ rfl gi #[.int .i64 p.f0, .int .i64 p.f1, .int .i64 p.f2, .int .i64 p.f3, .int .i64 p.f4] rfl rfl 41 #[.int .i64 0, .int .i64 0, .int .i64 0, .int .i64 0, .int .i64 0] I.out (by kernel_rfl) rfl (by kernel_rfl) ?_); intro w5 hg ho hB; have hb := hB _ _ GI.out HBI.out; replace I := As0 hg; replace B := As0 (Qbo B.out hb); replace M := As0 (Qbo M.out hb); replace R := As0 (Qbo R.out hb); replace HF := As0 (HF.out.then hb); replace HK := As0 (HK.out.below hb); clear hg ho hB hb HBI GI)
        | (go_at_call 155; refine (Qdw g s1 _ HK.out).mono ?_; rintro e w8 ⟨rfl, hk, hf⟩; replace HK := As0 hk; clear b0 b1 b2 b3 b4 bf0 bf1 bf2 bf3 bf4 m0 m1 m2 m3 m4 mf0 mf1 mf2 mf3 mf4 r_0 r_1 r_2 r_3 r_4 r_5 r_f0 r_f1 r_f2 r_f3 r_f4 r_f5; replace I := As0 (hf.blk I.out NI.out); replace B := As0 (hf.blk B.out NB.out); replace M := As0 (hf.blk M.out NM.out); replace R := As0 (hf.blk R.out NR.out); replace HF := As0 (HF.out.trans hf); (obtain ⟨b0, b1, b2, b3, b4, bf0, bf1, bf2, bf3, bf4⟩ := cN5 B.out); (obtain ⟨m0, m1, m2, m3, m4, mf0, mf1, mf2, mf3, mf4⟩ := cN5 M.out); (obtain ⟨r_0, r_1, r_2, r_3, r_4, r_5, r_f0, r_f1, r_f2, r_f3, r_f4, r_f5⟩ := cN6 R.out); have i1 := (Qbl I.out 1).trans rfl; have i2 := (Qbl I.out 2).trans rfl; clear hf hk))
    (obtain ⟨A, c, hg, hc, hC, hne⟩ := HK.out); (obtain ⟨q0, q1, q2, q3, f0, f1, f2, f3⟩ := cN4 hg); replace q0 : w8.cell? ⟨g, 0, none⟩ = some (.slice A s1.set.length c) := q0; have HC := As0 (show Kd.C k47 w8 A s1.set.length s1.set from hC); have hc1 : s1.set.length ≤ c := hc; clear hg hC hc q1 q2 q3
    rcases hp with ⟨rfl, hp⟩ | ⟨q, rfl, rfl⟩
    ·have hbe : Qcx s1.cost l r.f2 = (s2, none) := hx
     refine Qcd (n := 13) (S := fun w' => w'.cell? ⟨g, 0, none⟩ = some (.slice A s1.set.length c) ∧ w'.cell? ⟨gi, 1, none⟩ = some (.int .i64 p.f1) ∧ w'.cell? ⟨gi, 2, none⟩ = some (.int .i64 p.f2) ∧ w'.cell? ⟨gR, 2, none⟩ = some (.int .i64 r.f2)) (ds := [12]) (bb 13 0) (by kernel_rfl) rfl rfl ⟨q0, i1, i2, r_2⟩ (fun hHeld => ?_)
     refine pu 0 25 (bb 13 1) ?_
     refine pu 1 26 (bb 13 3) ?_
     refine pu 2 27 (bb 13 7) ?_
     refine pu 3 28 (bb 13 15) ?_
     refine pu 5 30 (bb 13 47) ?_
     refine pu 7 32 (bb 13 175) ?_
     refine pu 10 35 (bb 13 1199) ?_
     refine tu hHeld 4 29 (bb 13 1215) ?_
     refine tu hHeld 6 31 (bb 13 1279) ?_
     refine tu hHeld 8 33 (bb 13 1535) ?_
     refine tu hHeld 11 36 (bb 13 3583) ?_
     refine one_ (i := 9) (N := some 34) (bb 13 4095) rfl rfl (by kernel_rfl) (by decide) (fun K hK => ?_)
     refine Qcz Tryz.func157 (by kernel_rfl) rfl #[.slice A s1.set.length c, .int .i64 p.f1, .int .i64 p.f2] (by rfl) rfl rfl (by simp only [List.map_toArray, List.map_cons, List.map_nil]; rfl) ?_
     with_reducible refine (copyS_calls k A c s1.set l p.f1 p.f2 _ (by repeat (first | exact HC.out | refine Kd.C_drewN ?_ _ | refine Kd.C_drew ?_)) hc1 HL.out).mono ?_
     rintro e w9 ⟨u, rfl, ho9, hb9⟩
     refine ⟨_, rfl, ?_⟩
     refine hK.out _ _ ⟨(cell_b hb9 q0), (cell_b hb9 i1), (cell_b hb9 i2), (cell_b hb9 r_2)⟩ (fun hHeld => ?_)
     clear hK K
     refine Qb5 (a' := ?_) ?_ ?_
     rotate_left
     ·show Act.put _ (some 34) _ = _
      simp only [Act.put, List.setIfInBounds_toArray, List.set_cons_zero, List.set_cons_succ, Qbw, Qbx]
      rfl
     refine Qdz (i := 12) (N := some 37) (bb 13 8191) rfl rfl (by kernel_rfl) (by decide) (fun K hK => ?_)
     refine Qcz Tryz.func156 (by kernel_rfl) rfl #[.pointer (some ⟨g, 0, none⟩), u, .int .i64 r.f2] (by rfl) rfl rfl (by simp only [List.map_toArray, List.map_cons, List.map_nil]; rfl) ?_
     with_reducible refine (Qc4 g s1.cost l r.f2 u _ _ _ (HK.out.below (Qbj (BU (Below.refl _ w8)) hb9)) (Kd.R_bound ho9) (fun k hk => Nat.ne_of_gt (Nat.lt_of_lt_of_le HK.out.lt (Nat.le_trans (Qbp (BU (Below.refl _ w8))) hk.2.1)))).mono ?_
     rintro e w10 ⟨he, hk, hf⟩
     rw [hbe] at he hk
     have hff := (Fr.of (g := g) (Qbj (BU (Below.refl _ w8)) hb9)).trans hf
     replace B := As0 (hff.blk B.out NB.out)
     replace M := As0 (hff.blk M.out NM.out)
     replace R := As0 (hff.blk R.out NR.out)
     replace HF := As0 (HF.out.trans hff)
     replace HK := As0 hk
     subst he
     clear hff hf hk
     refine ⟨_, rfl, ?_⟩
     refine hK.out _ _ ?_
     clear hK K
     refine Qb5 (a' := ?_) ?_ ?_
     rotate_left
     ·show Act.put _ (some 37) _ = _
      simp only [Act.put, List.setIfInBounds_toArray, List.set_cons_zero, List.set_cons_succ, Qbw, Qbx]
      rfl
     refine Qc0 (by kernel_rfl) ?_
     go_wp2
     go_roundg (cs.length - i)
     case measure => have := HI.out; omega
     case rel => exact ⟨i + 1, s2, by first | rw [hw] | (push_cast; rfl), ⟨by omega, by omega⟩, ⟨hp⟩, HK, HF, B, M, R⟩
    ·have hbe : Qcx s1.cost l r.f2 = (s2, some q) := hx
     refine Qcd (n := 13) (S := fun w' => w'.cell? ⟨g, 0, none⟩ = some (.slice A s1.set.length c) ∧ w'.cell? ⟨gi, 1, none⟩ = some (.int .i64 p.f1) ∧ w'.cell? ⟨gi, 2, none⟩ = some (.int .i64 p.f2) ∧ w'.cell? ⟨gR, 2, none⟩ = some (.int .i64 r.f2)) (ds := [12]) (bb 13 0) (by kernel_rfl) rfl rfl ⟨q0, i1, i2, r_2⟩ (fun hHeld => ?_)
     refine pu 0 25 (bb 13 1) ?_
     refine pu 1 26 (bb 13 3) ?_
     refine pu 2 27 (bb 13 7) ?_
     refine pu 3 28 (bb 13 15) ?_
     refine pu 5 30 (bb 13 47) ?_
     refine pu 7 32 (bb 13 175) ?_
     refine pu 10 35 (bb 13 1199) ?_
     refine tu hHeld 4 29 (bb 13 1215) ?_
     refine tu hHeld 6 31 (bb 13 1279) ?_
     refine tu hHeld 8 33 (bb 13 1535) ?_
     refine tu hHeld 11 36 (bb 13 3583) ?_
     refine one_ (i := 9) (N := some 34) (bb 13 4095) rfl rfl (by kernel_rfl) (by decide) (fun K hK => ?_)
     refine Qcz Tryz.func157 (by kernel_rfl) rfl #[.slice A s1.set.length c, .int .i64 p.f1, .int .i64 p.f2] (by rfl) rfl rfl (by simp only [List.map_toArray, List.map_cons, List.map_nil]; rfl) ?_
     with_reducible refine (copyS_calls k A c s1.set l p.f1 p.f2 _ (by repeat (first | exact HC.out | refine Kd.C_drewN ?_ _ | refine Kd.C_drew ?_)) hc1 HL.out).mono ?_
     rintro e w9 ⟨u, rfl, ho9, hb9⟩
     refine ⟨_, rfl, ?_⟩
     refine hK.out _ _ ⟨(cell_b hb9 q0), (cell_b hb9 i1), (cell_b hb9 i2), (cell_b hb9 r_2)⟩ (fun hHeld => ?_)
     clear hK K
     refine Qb5 (a' := ?_) ?_ ?_
     rotate_left
     ·show Act.put _ (some 34) _ = _
      simp only [Act.put, List.setIfInBounds_toArray, List.set_cons_zero, List.set_cons_succ, Qbw, Qbx]
      rfl
     refine Qdz (i := 12) (N := some 37) (bb 13 8191) rfl rfl (by kernel_rfl) (by decide) (fun K hK => ?_)
     refine goesP_ Tryz.func156 (by kernel_rfl) rfl #[.pointer (some ⟨g, 0, none⟩), u, .int .i64 r.f2] (by rfl) rfl rfl (by simp only [List.map_toArray, List.map_cons, List.map_nil]; rfl) ?_
     with_reducible refine (Qc4 g s1.cost l r.f2 u _ _ _ (HK.out.below (Qbj (BU (Below.refl _ w8)) hb9)) (Kd.R_bound ho9) (fun k hk => Nat.ne_of_gt (Nat.lt_of_lt_of_le HK.out.lt (Nat.le_trans (Qbp (BU (Below.refl _ w8))) hk.2.1)))).mono ?_
     rintro e w10 ⟨he, hk, hf⟩
     rw [hbe] at he hk
     have hff := (Fr.of (g := g) (Qbj (BU (Below.refl _ w8)) hb9)).trans hf
     replace B := As0 (hff.blk B.out NB.out)
     replace M := As0 (hff.blk M.out NM.out)
     replace R := As0 (hff.blk R.out NR.out)
     replace HF := As0 (HF.out.trans hff)
     replace HK := As0 hk
     subst he
     clear hff hf hk
     exact ⟨_, rfl, rfl, rfl, HK.out, HF.out⟩
   ·have hi' : i = cs.length := by have := HI.out.1; omega
    have H2 := H.out
    rw [hi', List.drop_length] at H2
    replace H := As0 (show Qdl k mc (r.f3 - r.f2).toNat r.f2 s1 (fun s2 => srcF k bc mc r.f4 r.f5 s2) = some x from H2)
    subst hi'
    clear H2 HC2 hcm HI
    go_wp2
    go_loopg [10] ((r.f3 - r.f2).toNat + 1) (fun n v10 w' => ∃ (j : Int) (s1 : Bs), v10 = .int .i64 j ∧ Qbm ((r.f3 - j).toNat < n) ∧ Qbm (Qdl k mc (r.f3 - j).toNat j s1 (fun s2 => srcF k bc mc r.f4 r.f5 s2) = some x) ∧ Qbm (Ck w' g s1) ∧ Qbm (Fr g w w') ∧ Qbm (w'.heap[gB]? = some (.cells #[.slice A0 bc.length c0, .int .i64 t0, .int .i64 t1, .int .i64 t2, .int .i64 t3] 39 (0, 0))) ∧ Qbm (w'.heap[gM]? = some (.cells #[.slice A1 mc.length c1, .int .i64 u0_, .int .i64 u1_, .int .i64 u2_, .int .i64 u3_] 57 (0, 0))) ∧ Qbm (w'.heap[gR]? = some (.cells #[.int .i64 r.f0, .int .i64 r.f1, .int .i64 r.f2, .int .i64 r.f3, .int .i64 r.f4, .int .i64 r.f5] 180 (0, 0))))
    case atStart => exact ⟨r.f2, s1, rfl, ⟨by omega⟩, H, HK, HF, B, M, R⟩
    case round =>
     clear b0 b1 b2 b3 b4 bf0 bf1 bf2 bf3 bf4 m0 m1 m2 m3 m4 mf0 mf1 mf2 mf3 mf4 r_0 r_1 r_2 r_3 r_4 r_5 r_f0 r_f1 r_f2 r_f3 r_f4 r_f5 HK HF B M R H s1
     obtain ⟨j, s1, rfl, HI, H, HK, HF, B, M, R⟩ := hrel
     (obtain ⟨b0, b1, b2, b3, b4, bf0, bf1, bf2, bf3, bf4⟩ := cN5 B.out); (obtain ⟨m0, m1, m2, m3, m4, mf0, mf1, mf2, mf3, mf4⟩ := cN5 M.out); (obtain ⟨r_0, r_1, r_2, r_3, r_4, r_5, r_f0, r_f1, r_f2, r_f3, r_f4, r_f5⟩ := cN6 R.out)
     by_cases hj : j < r.f3
     ·have hjd := decide_eq_true hj
      obtain ⟨n1, hn1⟩ : ∃ n1, (r.f3 - j).toNat = n1 + 1 := ⟨(r.f3 - j).toNat - 1, by omega⟩
      have hn2 : (r.f3 - (j + 1)).toNat = n1 := by omega
      have H' := H.out
      rw [hn1] at H'
      simp only [Qdl] at H'
      by_cases hb : 0 ≤ j ∧ j < (mc.length : Int)
      ·rw [if_pos hb] at H'
       obtain ⟨hb0, hb1⟩ := hb
       obtain ⟨ad, e, hx0, hx1, hx2, hx3, hx4, hx5, hx6⟩ := at_T59 H1.out j hb0 hb1
       cases e
       have HBw := HF.out.base HB0.out HG0.out HB0.out.size
       replace hx5 := (HBw.cell (wblt w0 hx5)).trans hx5
       replace hx6 := (HBw.cell (wblt w0 hx6)).trans hx6
       have HX := As0 (And.intro (wblt w0 ((HBw.cell (wblt w0 hx0)).symm.trans ((HBw.cell (wblt w0 hx0)).trans hx0))) HBw.size)
       clear hx0 hx1 hx2 hx3 hx4
       have hw : Go.RowKit.wrap64 (j + 1) = j + 1 := by have := HM1.out; unfold Go.RowKit.wrap64; omega
       have hb0d := decide_eq_true hb0
       have hb1d := decide_eq_true hb1
       generalize Qai mc j = p at hx5 hx6 H'
       clear HBw
       obtain ⟨s2, pn, hu, hp⟩ := OBs.then_inv (show OBs.then (moveF k s1 p.f5 p.f6 j) (fun s1 => Qdl k mc n1 (j + 1) s1 fun s2 => srcF k bc mc r.f4 r.f5 s2) = some x from H')
       obtain ⟨l, hl, hx⟩ := Option.bind_eq_some_iff.mp hu
       replace hx := Option.some.inj hx
       have HL := As0 hl
       clear hl hu
       go_wp2_with (first
           | (go_at_call 155; refine (Qdw g s1 _ HK.out).mono ?_; rintro e w8 ⟨rfl, hk, hf⟩; replace HK := As0 hk; clear b0 b1 b2 b3 b4 bf0 bf1 bf2 bf3 bf4 m0 m1 m2 m3 m4 mf0 mf1 mf2 mf3 mf4 r_0 r_1 r_2 r_3 r_4 r_5 r_f0 r_f1 r_f2 r_f3 r_f4 r_f5; replace hx5 := (hf.cell_ (wblt _ hx5) (Nat.ne_of_lt (Nat.lt_of_lt_of_le HX.out.1 HG0.out))).trans hx5; replace hx6 := (hf.cell_ (wblt _ hx6) (Nat.ne_of_lt (Nat.lt_of_lt_of_le HX.out.1 HG0.out))).trans hx6; replace B := As0 (hf.blk B.out NB.out); replace M := As0 (hf.blk M.out NM.out); replace R := As0 (hf.blk R.out NR.out); replace HF := As0 (HF.out.trans hf); (obtain ⟨b0, b1, b2, b3, b4, bf0, bf1, bf2, bf3, bf4⟩ := cN5 B.out); (obtain ⟨m0, m1, m2, m3, m4, mf0, mf1, mf2, mf3, mf4⟩ := cN5 M.out); (obtain ⟨r_0, r_1, r_2, r_3, r_4, r_5, r_f0, r_f1, r_f2, r_f3, r_f4, r_f5⟩ := cN6 R.out); clear hf hk))
       (obtain ⟨A, c, hg, hc, hC, hne⟩ := HK.out); (obtain ⟨q0, q1, q2, q3, f0, f1, f2, f3⟩ := cN4 hg); replace q0 : w8.cell? ⟨g, 0, none⟩ = some (.slice A s1.set.length c) := q0; have HC := As0 (show Kd.C k47 w8 A s1.set.length s1.set from hC); have hc1 : s1.set.length ≤ c := hc; clear hg hC hc q1 q2 q3
       rcases hp with ⟨rfl, hp⟩ | ⟨q, rfl, rfl⟩
       ·have hbe : Qcx s1.cost l j = (s2, none) := hx
        refine Qcd (n := 20) (S := fun w' => w'.cell? ⟨g, 0, none⟩ = some (.slice A s1.set.length c) ∧ w'.cell? ⟨gM, 0, none⟩ = some (.slice (some ad) mc.length c1) ∧ w'.cell? ⟨(ad.add (j.toNat * 7)).block, (ad.add (j.toNat * 7)).off + 5, none⟩ = some (.int .i64 p.f5) ∧ w'.cell? ⟨(ad.add (j.toNat * 7)).block, (ad.add (j.toNat * 7)).off + 6, none⟩ = some (.int .i64 p.f6)) (ds := [17, 19]) (bb 20 0) (by kernel_rfl) rfl rfl ⟨q0, m0, hx5, hx6⟩ (fun hHeld => ?_)
        refine pu 0 49 (bb 20 1) ?_
        refine pu 1 50 (bb 20 3) ?_
        refine pu 2 51 (bb 20 7) ?_
        refine pu 3 52 (bb 20 15) ?_
        refine pu 5 54 (bb 20 47) ?_
        refine pu 7 56 (bb 20 175) ?_
        refine pu 11 60 (bb 20 2223) ?_
        refine pu 13 62 (bb 20 10415) ?_
        refine pu 18 67 (bb 20 272559) ?_
        refine tu hHeld 4 53 (bb 20 272575) ?_
        refine tu hHeld 6 55 (bb 20 272639) ?_
        refine pu 8 57 (bb 20 272895) ?_
        refine pu 9 58 (bb 20 273407) ?_
        refine tu hHeld 10 59 (bb 20 274431) ?_
        refine tu hHeld 12 61 (bb 20 278527) ?_
        refine pu 14 63 (bb 20 294911) ?_
        refine pu 15 64 (bb 20 327679) ?_
        refine tu hHeld 16 65 (bb 20 393215) ?_
        refine Qdz (i := 17) (N := some 66) (bb 20 524287) rfl rfl (by kernel_rfl) (by decide) (fun K hK => ?_)
        refine Qcz Tryz.func158 (by kernel_rfl) rfl #[.slice A s1.set.length c, .int .i64 p.f5, .int .i64 p.f6] (by rfl) rfl rfl (by simp only [List.map_toArray, List.map_cons, List.map_nil]; rfl) ?_
        with_reducible refine (moveS_calls k A c s1.set l p.f5 p.f6 _ (by repeat (first | exact HC.out | refine Kd.C_drewN ?_ _ | refine Kd.C_drew ?_)) hc1 HL.out).mono ?_
        rintro e w9 ⟨u, rfl, ho9, hb9⟩
        refine ⟨_, rfl, ?_⟩
        refine hK.out _ _ ?_
        clear hK K
        refine Qb5 (a' := ?_) ?_ ?_
        rotate_left
        ·show Act.put _ (some 66) _ = _
         simp only [Act.put, List.setIfInBounds_toArray, List.set_cons_zero, List.set_cons_succ, Qbw, Qbx]
         rfl
        refine Qdz (i := 19) (N := some 68) (bb 20 1048575) rfl rfl (by kernel_rfl) (by decide) (fun K hK => ?_)
        refine Qcz Tryz.func156 (by kernel_rfl) rfl #[.pointer (some ⟨g, 0, none⟩), u, .int .i64 j] (by rfl) rfl rfl (by simp only [List.map_toArray, List.map_cons, List.map_nil]; rfl) ?_
        with_reducible refine (Qc4 g s1.cost l j u _ _ _ (HK.out.below (Qbj (BU (Below.refl _ w8)) hb9)) (Kd.R_bound ho9) (fun k hk => Nat.ne_of_gt (Nat.lt_of_lt_of_le HK.out.lt (Nat.le_trans (Qbp (BU (Below.refl _ w8))) hk.2.1)))).mono ?_
        rintro e w10 ⟨he, hk, hf⟩
        rw [hbe] at he hk
        have hff := (Fr.of (g := g) (Qbj (BU (Below.refl _ w8)) hb9)).trans hf
        replace B := As0 (hff.blk B.out NB.out)
        replace M := As0 (hff.blk M.out NM.out)
        replace R := As0 (hff.blk R.out NR.out)
        replace HF := As0 (HF.out.trans hff)
        replace HK := As0 hk
        subst he
        clear hff hf hk
        refine ⟨_, rfl, ?_⟩
        refine hK.out _ _ ?_
        clear hK K
        refine Qb5 (a' := ?_) ?_ ?_
        rotate_left
        ·show Act.put _ (some 68) _ = _
         simp only [Act.put, List.setIfInBounds_toArray, List.set_cons_zero, List.set_cons_succ, Qbw, Qbx]
         rfl
        refine Qc0 (by kernel_rfl) ?_
        go_wp2
        go_roundg ((r.f3 - j).toNat)
        case measure => have := HI.out; omega
        case rel => exact ⟨j + 1, s2, by first | rw [hw] | rfl, ⟨by omega⟩, ⟨by rw [hn2]; exact hp⟩, HK, HF, B, M, R⟩
       ·have hbe : Qcx s1.cost l j = (s2, some q) := hx
        refine Qcd (n := 20) (S := fun w' => w'.cell? ⟨g, 0, none⟩ = some (.slice A s1.set.length c) ∧ w'.cell? ⟨gM, 0, none⟩ = some (.slice (some ad) mc.length c1) ∧ w'.cell? ⟨(ad.add (j.toNat * 7)).block, (ad.add (j.toNat * 7)).off + 5, none⟩ = some (.int .i64 p.f5) ∧ w'.cell? ⟨(ad.add (j.toNat * 7)).block, (ad.add (j.toNat * 7)).off + 6, none⟩ = some (.int .i64 p.f6)) (ds := [17, 19]) (bb 20 0) (by kernel_rfl) rfl rfl ⟨q0, m0, hx5, hx6⟩ (fun hHeld => ?_)
        refine pu 0 49 (bb 20 1) ?_
        refine pu 1 50 (bb 20 3) ?_
        refine pu 2 51 (bb 20 7) ?_
        refine pu 3 52 (bb 20 15) ?_
        refine pu 5 54 (bb 20 47) ?_
        refine pu 7 56 (bb 20 175) ?_
        refine pu 11 60 (bb 20 2223) ?_
        refine pu 13 62 (bb 20 10415) ?_
        refine pu 18 67 (bb 20 272559) ?_
        refine tu hHeld 4 53 (bb 20 272575) ?_
        refine tu hHeld 6 55 (bb 20 272639) ?_
        refine pu 8 57 (bb 20 272895) ?_
        refine pu 9 58 (bb 20 273407) ?_
        refine tu hHeld 10 59 (bb 20 274431) ?_
        refine tu hHeld 12 61 (bb 20 278527) ?_
        refine pu 14 63 (bb 20 294911) ?_
        refine pu 15 64 (bb 20 327679) ?_
        refine tu hHeld 16 65 (bb 20 393215) ?_
        refine Qdz (i := 17) (N := some 66) (bb 20 524287) rfl rfl (by kernel_rfl) (by decide) (fun K hK => ?_)
        refine Qcz Tryz.func158 (by kernel_rfl) rfl #[.slice A s1.set.length c, .int .i64 p.f5, .int .i64 p.f6] (by rfl) rfl rfl (by simp only [List.map_toArray, List.map_cons, List.map_nil]; rfl) ?_
        with_reducible refine (moveS_calls k A c s1.set l p.f5 p.f6 _ (by repeat (first | exact HC.out | refine Kd.C_drewN ?_ _ | refine Kd.C_drew ?_)) hc1 HL.out).mono ?_
        rintro e w9 ⟨u, rfl, ho9, hb9⟩
        refine ⟨_, rfl, ?_⟩
        refine hK.out _ _ ?_
        clear hK K
        refine Qb5 (a' := ?_) ?_ ?_
        rotate_left
        ·show Act.put _ (some 66) _ = _
         simp only [Act.put, List.setIfInBounds_toArray, List.set_cons_zero, List.set_cons_succ, Qbw, Qbx]
         rfl
        refine Qdz (i := 19) (N := some 68) (bb 20 1048575) rfl rfl (by kernel_rfl) (by decide) (fun K hK => ?_)
        refine goesP_ Tryz.func156 (by kernel_rfl) rfl #[.pointer (some ⟨g, 0, none⟩), u, .int .i64 j] (by rfl) rfl rfl (by simp only [List.map_toArray, List.map_cons, List.map_nil]; rfl) ?_
        with_reducible refine (Qc4 g s1.cost l j u _ _ _ (HK.out.below (Qbj (BU (Below.refl _ w8)) hb9)) (Kd.R_bound ho9) (fun k hk => Nat.ne_of_gt (Nat.lt_of_lt_of_le HK.out.lt (Nat.le_trans (Qbp (BU (Below.refl _ w8))) hk.2.1)))).mono ?_
        rintro e w10 ⟨he, hk, hf⟩
        rw [hbe] at he hk
        have hff := (Fr.of (g := g) (Qbj (BU (Below.refl _ w8)) hb9)).trans hf
        replace B := As0 (hff.blk B.out NB.out)
        replace M := As0 (hff.blk M.out NM.out)
        replace R := As0 (hff.blk R.out NR.out)
        replace HF := As0 (HF.out.trans hff)
        replace HK := As0 hk
        subst he
        clear hff hf hk
        exact ⟨_, rfl, rfl, rfl, HK.out, HF.out⟩
      ·rw [if_neg hb] at H'; cases H'
     ·have hjd := decide_eq_false hj
      have hn : (r.f3 - j).toNat = 0 := by omega
      have H2 := H.out
      rw [hn] at H2
      replace H := As0 (show srcF k bc mc r.f4 r.f5 s1 = some x from H2)
      clear H2 HI
      unfold srcF at H
      by_cases hr4 : r.f4 ≥ 0
      ·have hr4d := decide_eq_true hr4
       replace H := H.out
       rw [if_pos hr4] at H
       by_cases hbb : r.f4 < (bc.length : Int) ∧ 0 ≤ r.f5 ∧ r.f5 < (mc.length : Int)
       ·rw [if_pos hbb] at H
        have HI := As0 H
        obtain ⟨y1, y2, y3⟩ := hbb
        have y0 : 0 ≤ r.f4 := hr4
        obtain ⟨ad0, e, hx0, hx1, hx2, hx3, hx4⟩ := at_T41 H0.out r.f4 y0 y1
        cases e
        obtain ⟨ad, e, hz0, hz1, hz2, hz3, hz4, hz5, hz6⟩ := at_T59 H1.out r.f5 y2 y3
        cases e
        have HBw := HF.out.base HB0.out HG0.out HB0.out.size
        replace hx0 := (HBw.cell (wblt w0 hx0)).trans hx0
        replace hx1 := (HBw.cell (wblt w0 hx1)).trans hx1
        replace hx2 := (HBw.cell (wblt w0 hx2)).trans hx2
        replace hx3 := (HBw.cell (wblt w0 hx3)).trans hx3
        replace hx4 := (HBw.cell (wblt w0 hx4)).trans hx4
        replace hz0 := (HBw.cell (wblt w0 hz0)).trans hz0
        replace hz1 := (HBw.cell (wblt w0 hz1)).trans hz1
        replace hz2 := (HBw.cell (wblt w0 hz2)).trans hz2
        replace hz3 := (HBw.cell (wblt w0 hz3)).trans hz3
        replace hz4 := (HBw.cell (wblt w0 hz4)).trans hz4
        replace hz5 := (HBw.cell (wblt w0 hz5)).trans hz5
        replace hz6 := (HBw.cell (wblt w0 hz6)).trans hz6
        have y0d := decide_eq_true y0
        have y1d := decide_eq_true y1
        have y2d := decide_eq_true y2
        have y3d := decide_eq_true y3
        generalize Qaw bc r.f4 = pi at hx0 hx1 hx2 hx3 hx4 HI
        generalize Qai mc r.f5 = pm at hz0 hz1 hz2 hz3 hz4 hz5 hz6 HI
        clear HBw H
        obtain ⟨s9, px⟩ := x
        go_wp2
        cases px with
        | none =>
         refine Qcd (n := 16) (S := fun w' => w'.cell? ⟨gB, 0, none⟩ = some (.slice (some ad0) bc.length c0) ∧ w'.cell? ⟨gR, 4, none⟩ = some (.int .i64 r.f4) ∧ w'.cell? ⟨gM, 0, none⟩ = some (.slice (some ad) mc.length c1) ∧ w'.cell? ⟨gR, 5, none⟩ = some (.int .i64 r.f5) ∧ w'.cell? (ad0.add (r.f4.toNat * 5)) = some (.int .i64 pi.f0) ∧ w'.cell? ⟨(ad0.add (r.f4.toNat * 5)).block, (ad0.add (r.f4.toNat * 5)).off + 1, none⟩ = some (.int .i64 pi.f1) ∧ w'.cell? ⟨(ad0.add (r.f4.toNat * 5)).block, (ad0.add (r.f4.toNat * 5)).off + 2, none⟩ = some (.int .i64 pi.f2) ∧ w'.cell? ⟨(ad0.add (r.f4.toNat * 5)).block, (ad0.add (r.f4.toNat * 5)).off + 3, none⟩ = some (.int .i64 pi.f3) ∧ w'.cell? ⟨(ad0.add (r.f4.toNat * 5)).block, (ad0.add (r.f4.toNat * 5)).off + 4, none⟩ = some (.int .i64 pi.f4) ∧ w'.cell? (ad.add (r.f5.toNat * 7)) = some (.int .i64 pm.f0) ∧ w'.cell? ⟨(ad.add (r.f5.toNat * 7)).block, (ad.add (r.f5.toNat * 7)).off + 1, none⟩ = some (.int .i64 pm.f1) ∧ w'.cell? ⟨(ad.add (r.f5.toNat * 7)).block, (ad.add (r.f5.toNat * 7)).off + 2, none⟩ = some (.int .i64 pm.f2) ∧ w'.cell? ⟨(ad.add (r.f5.toNat * 7)).block, (ad.add (r.f5.toNat * 7)).off + 3, none⟩ = some (.int .i64 pm.f3) ∧ w'.cell? ⟨(ad.add (r.f5.toNat * 7)).block, (ad.add (r.f5.toNat * 7)).off + 4, none⟩ = some (.int .i64 pm.f4) ∧ w'.cell? ⟨(ad.add (r.f5.toNat * 7)).block, (ad.add (r.f5.toNat * 7)).off + 5, none⟩ = some (.int .i64 pm.f5) ∧ w'.cell? ⟨(ad.add (r.f5.toNat * 7)).block, (ad.add (r.f5.toNat * 7)).off + 6, none⟩ = some (.int .i64 pm.f6)) (ds := [15]) (bb 16 0) (by kernel_rfl) rfl rfl ⟨b0, r_4, m0, r_5, hx0, hx1, hx2, hx3, hx4, hz0, hz1, hz2, hz3, hz4, hz5, hz6⟩ (fun hHeld => ?_)
         refine pu 0 72 (bb 16 1) ?_
         refine pu 1 73 (bb 16 3) ?_
         refine pu 3 75 (bb 16 11) ?_
         refine pu 7 79 (bb 16 139) ?_
         refine pu 9 81 (bb 16 651) ?_
         refine pu 13 85 (bb 16 8843) ?_
         refine tu hHeld 2 74 (bb 16 8847) ?_
         refine tu hHeld 4 76 (bb 16 8863) ?_
         refine pu 5 77 (bb 16 8895) ?_
         refine tu hHeld 6 78 (bb 16 8959) ?_
         refine tu hHeld 8 80 (bb 16 9215) ?_
         refine tu hHeld 10 82 (bb 16 10239) ?_
         refine pu 11 83 (bb 16 12287) ?_
         refine tu hHeld 12 84 (bb 16 16383) ?_
         refine tu hHeld 14 86 (bb 16 32767) ?_
         refine Qdz (i := 15) (N := some 87) (bb 16 65535) rfl rfl (by kernel_rfl) (by decide) (fun K hK => ?_)
         refine Qcz Tryz.func159 (by kernel_rfl) rfl #[.pointer (some ⟨g, 0, none⟩), .agg #[.int .i64 pi.f0, .int .i64 pi.f1, .int .i64 pi.f2, .int .i64 pi.f3, .int .i64 pi.f4], .agg #[.int .i64 pm.f0, .int .i64 pm.f1, .int .i64 pm.f2, .int .i64 pm.f3, .int .i64 pm.f4, .int .i64 pm.f5, .int .i64 pm.f6], .int .i64 r.f5] (by rfl) rfl rfl (by simp only [List.map_toArray, List.map_cons, List.map_nil]; rfl) ?_
         with_reducible refine (instrF_calls k g s1 pi pm r.f5 _ _ (HK.out.below (BU (Below.refl _ _))) HI.out).mono ?_
         rintro e w10 ⟨he, hk, hf⟩
         have hff := (Fr.of (g := g) (BU (Below.refl _ wr))).trans hf
         replace HF := As0 (HF.out.trans hff)
         replace HK := As0 hk
         subst he
         clear hff hf hk
         refine ⟨_, rfl, ?_⟩
         refine hK.out _ _ ?_
         clear hK K
         refine Qb5 (a' := ?_) ?_ ?_
         rotate_left
         ·show Act.put _ (some 87) _ = _
          simp only [Act.put, List.setIfInBounds_toArray, List.set_cons_zero, List.set_cons_succ, Qbw, Qbx]
          rfl
         refine Qc0 (by kernel_rfl) ?_
         go_wp2
         go_returns
         exact ⟨rfl, HK.out, HF.out⟩
        | some q =>
         refine Qcd (n := 16) (S := fun w' => w'.cell? ⟨gB, 0, none⟩ = some (.slice (some ad0) bc.length c0) ∧ w'.cell? ⟨gR, 4, none⟩ = some (.int .i64 r.f4) ∧ w'.cell? ⟨gM, 0, none⟩ = some (.slice (some ad) mc.length c1) ∧ w'.cell? ⟨gR, 5, none⟩ = some (.int .i64 r.f5) ∧ w'.cell? (ad0.add (r.f4.toNat * 5)) = some (.int .i64 pi.f0) ∧ w'.cell? ⟨(ad0.add (r.f4.toNat * 5)).block, (ad0.add (r.f4.toNat * 5)).off + 1, none⟩ = some (.int .i64 pi.f1) ∧ w'.cell? ⟨(ad0.add (r.f4.toNat * 5)).block, (ad0.add (r.f4.toNat * 5)).off + 2, none⟩ = some (.int .i64 pi.f2) ∧ w'.cell? ⟨(ad0.add (r.f4.toNat * 5)).block, (ad0.add (r.f4.toNat * 5)).off + 3, none⟩ = some (.int .i64 pi.f3) ∧ w'.cell? ⟨(ad0.add (r.f4.toNat * 5)).block, (ad0.add (r.f4.toNat * 5)).off + 4, none⟩ = some (.int .i64 pi.f4) ∧ w'.cell? (ad.add (r.f5.toNat * 7)) = some (.int .i64 pm.f0) ∧ w'.cell? ⟨(ad.add (r.f5.toNat * 7)).block, (ad.add (r.f5.toNat * 7)).off + 1, none⟩ = some (.int .i64 pm.f1) ∧ w'.cell? ⟨(ad.add (r.f5.toNat * 7)).block, (ad.add (r.f5.toNat * 7)).off + 2, none⟩ = some (.int .i64 pm.f2) ∧ w'.cell? ⟨(ad.add (r.f5.toNat * 7)).block, (ad.add (r.f5.toNat * 7)).off + 3, none⟩ = some (.int .i64 pm.f3) ∧ w'.cell? ⟨(ad.add (r.f5.toNat * 7)).block, (ad.add (r.f5.toNat * 7)).off + 4, none⟩ = some (.int .i64 pm.f4) ∧ w'.cell? ⟨(ad.add (r.f5.toNat * 7)).block, (ad.add (r.f5.toNat * 7)).off + 5, none⟩ = some (.int .i64 pm.f5) ∧ w'.cell? ⟨(ad.add (r.f5.toNat * 7)).block, (ad.add (r.f5.toNat * 7)).off + 6, none⟩ = some (.int .i64 pm.f6)) (ds := [15]) (bb 16 0) (by kernel_rfl) rfl rfl ⟨b0, r_4, m0, r_5, hx0, hx1, hx2, hx3, hx4, hz0, hz1, hz2, hz3, hz4, hz5, hz6⟩ (fun hHeld => ?_)
         refine pu 0 72 (bb 16 1) ?_
         refine pu 1 73 (bb 16 3) ?_
         refine pu 3 75 (bb 16 11) ?_
         refine pu 7 79 (bb 16 139) ?_
         refine pu 9 81 (bb 16 651) ?_
         refine pu 13 85 (bb 16 8843) ?_
         refine tu hHeld 2 74 (bb 16 8847) ?_
         refine tu hHeld 4 76 (bb 16 8863) ?_
         refine pu 5 77 (bb 16 8895) ?_
         refine tu hHeld 6 78 (bb 16 8959) ?_
         refine tu hHeld 8 80 (bb 16 9215) ?_
         refine tu hHeld 10 82 (bb 16 10239) ?_
         refine pu 11 83 (bb 16 12287) ?_
         refine tu hHeld 12 84 (bb 16 16383) ?_
         refine tu hHeld 14 86 (bb 16 32767) ?_
         refine Qdz (i := 15) (N := some 87) (bb 16 65535) rfl rfl (by kernel_rfl) (by decide) (fun K hK => ?_)
         refine goesP_ Tryz.func159 (by kernel_rfl) rfl #[.pointer (some ⟨g, 0, none⟩), .agg #[.int .i64 pi.f0, .int .i64 pi.f1, .int .i64 pi.f2, .int .i64 pi.f3, .int .i64 pi.f4], .agg #[.int .i64 pm.f0, .int .i64 pm.f1, .int .i64 pm.f2, .int .i64 pm.f3, .int .i64 pm.f4, .int .i64 pm.f5, .int .i64 pm.f6], .int .i64 r.f5] (by rfl) rfl rfl (by simp only [List.map_toArray, List.map_cons, List.map_nil]; rfl) ?_
         with_reducible refine (instrF_calls k g s1 pi pm r.f5 _ _ (HK.out.below (BU (Below.refl _ _))) HI.out).mono ?_
         rintro e w10 ⟨he, hk, hf⟩
         have hff := (Fr.of (g := g) (BU (Below.refl _ wr))).trans hf
         replace HF := As0 (HF.out.trans hff)
         replace HK := As0 hk
         subst he
         clear hff hf hk
         exact ⟨_, rfl, rfl, rfl, HK.out, HF.out⟩
       ·rw [if_neg hbb] at H; cases H
      ·have hr4d := decide_eq_false hr4
       replace H := H.out
       rw [if_neg hr4] at H
       obtain rfl := Option.some.inj H
       go_wp2
       go_returns
       exact ⟨rfl, HK.out, HF.out⟩
 ·rw [if_neg hcut] at hf; cases hf
structure Fr2 (a b : Nat) (w w' : World) : Prop where
 os : w'.os = w.os
 tape : w'.tape = w.tape
 output : w'.output = w.output
 size : w.heap.size ≤ w'.heap.size
 block : ∀ k, k < w.heap.size → k ≠ a → k ≠ b → w'.heap[k]? = w.heap[k]?
theorem Fr2.of {a b : Nat} {w w' : World} (h : Below w.heap.size w w') : Fr2 a b w w' := ⟨h.os, h.tape, h.output, h.size, fun k hk _ _ => h.block k hk⟩
theorem Fr2.trans {a b : Nat} {u v w : World} (h : Fr2 a b u v) (k : Fr2 a b v w) : Fr2 a b u w :=
 ⟨k.os.trans h.os, k.tape.trans h.tape, k.output.trans h.output, Nat.le_trans h.size k.size, fun i hi h1 h2 => (k.block i (Nat.lt_of_lt_of_le hi h.size) h1 h2).trans (h.block i hi h1 h2)⟩
theorem Fr2.setA {a b : Nat} {w w' : World} (h : Fr2 a b w w') (j : Nat) (u : Value) : Fr2 a b w (w'.setCell ⟨a, j, none⟩ u) :=
 h.trans ⟨rfl, rfl, rfl, by simp, fun k hk h1 _ => Below.heap_setCell w' _ u k h1⟩
theorem Fr2.setB {a b : Nat} {w w' : World} (h : Fr2 a b w w') (j : Nat) (u : Value) : Fr2 a b w (w'.setCell ⟨b, j, none⟩ u) :=
 h.trans ⟨rfl, rfl, rfl, by simp, fun k hk _ h2 => Below.heap_setCell w' _ u k h2⟩
theorem Fr2.drew {a b : Nat} {w w' : World} (h : Fr2 a b w w') : Fr2 a b w w'.drew := h.trans (Fr2.of (Qdb (Below.refl _ _)))
theorem C47_fr2 {a b ta tb : Nat} {w w' : World} {A : Option Addr} {l : List S47} {va vb : Value} (h : Fr2 a b w w') (ha : w.heap[a]? = some (.cells #[va] ta (0, 0))) (hb : w.heap[b]? = some (.cells #[vb] tb (0, 0))) (hC : Kd.C k47 w A l.length l) : Kd.C k47 w' A l.length l := by
 obtain ⟨h1, h2, h3⟩ := hC
 refine ⟨h1, h2, fun hn => ?_⟩
 obtain ⟨ad, rfl, hc⟩ := h3 hn
 have hbl : ∀ n, (ad.add n).block = ad.block := fun n => by unfold Addr.add; split <;> rfl
 have hoff : ∀ n, n ≠ 0 → (ad.add n).off = ad.off + n := fun n hn => by unfold Addr.add; rw [if_neg hn]
 have h2c : ∃ u, w.cell? (ad.add 1) = some u := by
  obtain ⟨c, hs, hK, hcell⟩ := hc 0 _ (List.getElem?_eq_getElem hn)
  obtain rfl := k47_open hK
  exact ⟨_, hcell 1 _ rfl⟩
 obtain ⟨u1, hu1⟩ := h2c
 have hno : ∀ (k t : Nat) (v : Value), w.heap[k]? = some (.cells #[v] t (0, 0)) → ad.block ≠ k := by
  intro k t v hk e
  simp only [World.cell?] at hu1
  rw [hbl, e, hk] at hu1
  have := hoff 1 (by omega)
  simp only at hu1
  split at hu1
  ·cases hu1
  ·rw [this] at hu1
   simp at hu1
 refine ⟨ad, rfl, fun j p hj => ?_⟩
 obtain ⟨c, hs, hK, hcell⟩ := hc j p hj
 obtain rfl := k47_open hK
 refine ⟨_, hs, k47_mk w' p, fun i u hu => ?_⟩
 have hq := hcell i u hu
 exact (World.cell?_of_block (h.block _ (wblt w hq) (by rw [hbl]; exact hno a ta va ha) (by rw [hbl]; exact hno b tb vb hb))).trans hq
theorem Ck.fr2 {a b ta tb g : Nat} {w w' : World} {s : Bs} {va vb : Value} (h : Ck w g s) (hf : Fr2 a b w w') (ha : w.heap[a]? = some (.cells #[va] ta (0, 0))) (hb : w.heap[b]? = some (.cells #[vb] tb (0, 0))) (h1 : g ≠ a) (h2 : g ≠ b) (hta : ta ≠ 47) (htb : tb ≠ 47) : Ck w' g s := by
 obtain ⟨A, c, hg, hc, hC, hne⟩ := h
 exact ⟨A, c, (hf.block g (Qbz hg) h1 h2).trans hg, hc, C47_fr2 hf ha hb hC, hne.1, fun ad e => by
  obtain ⟨cs, hcs⟩ := hne.2 ad e
  refine ⟨cs, (hf.block _ (Qbz hcs) ?_ ?_).trans hcs⟩
  ·rintro rfl; rw [ha] at hcs; injection hcs with hcs; injection hcs with h3 h4; exact hta h4
  ·rintro rfl; rw [hb] at hcs; injection hcs with hcs; injection hcs with h3 h4; exact htb h4⟩
theorem Fr2.fr {a b g : Nat} {w w1 w' : World} (h : Fr2 a b w1 w') (hf : Fr g w w1) (ha : w.heap.size ≤ a) (hb : w.heap.size ≤ b) : Fr g w w' :=
 ⟨h.os.trans hf.os, h.tape.trans hf.tape, h.output.trans hf.output, Nat.le_trans hf.size h.size, fun k hk hg => (h.block k (Nat.lt_of_lt_of_le hk hf.size) (by omega) (by omega)).trans (hf.block k hk hg)⟩
theorem catch_pan (a b : Nat) (o1 o2 y i : Int) (older : List PanicEntry) (w : World) (ha : w.heap[a]? = some (.cells #[.int .i64 o1] 49 (0, 0))) (hb : w.heap[b]? = some (.cells #[.int .i64 o2] 3 (0, 0))) (hne : a ≠ b) :
    CallsD Tryz.prog 119 #[.pointer (some ⟨a, 0, none⟩), .pointer (some ⟨b, 0, none⟩)] (.panicking ({ v := .iface 185 (.agg #[.int .i64 y, .int .i64 i]), recovered := false } :: older)) w fun e u' w' =>
     e = .returned (.tuple #[]) ∧ u' = .panicking ({ v := .iface 185 (.agg #[.int .i64 y, .int .i64 i]), recovered := true } :: older) ∧ w'.heap[a]? = some (.cells #[.int .i64 y] 49 (0, 0)) ∧ w'.heap[b]? = some (.cells #[.int .i64 i] 3 (0, 0)) ∧ Fr2 a b w w' := by
 have hu20 := Tryz.underlying20
 have hu49 := Tryz.underlying49
 have hu185 := Tryz.underlying185
 have hu186 := Tryz.underlying186
 have hta : ∀ w : World, (Instr.typeAssert (.iface 185 (.agg #[.int .i64 y, .int .i64 i])) 20 185 true).run Tryz.prog w = .ok (.tuple #[.agg #[.int .i64 y, .int .i64 i], .bool true]) w := fun w => by kernel_rfl
 have HA := As0 ha
 have HBb := As0 hb
 have HF := As0 (Fr2.of (a := a) (b := b) (Below.refl w.heap.size w))
 clear ha hb
 refine callsD_of_wpS Tryz.func119 rfl fun c₀ cs hu => ?_
 apply wpS_seq
 apply wpS_region
 simp [wpOpsS, go_sem, recoverD, hu, Tryz.ntmps119, Exit.thenS]
 have ht : (#[.pointer (some { block := a, off := 0 }), .pointer (some { block := b, off := 0 })] ++ ((Array.replicate 18 undef).setIfInBounds 3 (.iface 185 (.agg #[.int .i64 y, .int .i64 i]))).setIfInBounds 0 (.iface 185 (.agg #[.int .i64 y, .int .i64 i])) : Array Value) = #[.pointer (some { block := a, off := 0 }), .pointer (some { block := b, off := 0 }), .iface 185 (.agg #[.int .i64 y, .int .i64 i]), undef, undef, .iface 185 (.agg #[.int .i64 y, .int .i64 i]), undef, undef, undef, undef, undef, undef, undef, undef, undef, undef, undef, undef, undef, undef] := by kernel_rfl
 rw [ht]
 refine wpS_of_wp ?_
 go_wp2_with (first
  | ((with_reducible refine Qbn (N := 3) rfl ?_); refine bX (N := 3) (cs := #[.int .i64 0, .int .i64 0]) (t := 185) ?_; intro gx hg w1 hbox hb; have X := As0 hbox; have GX := As0 (Nat.le_of_eq hg.symm); have HBX := As0 hb; clear hb hbox hg)
  | ((with_reducible refine Qc6 (.store 185 (.tmp 3) (.tmp 11)) rfl ?_); go_loud (refine Qat rfl rfl 185 _ _ rfl gx #[.int .i64 y, .int .i64 i] rfl rfl 185 #[.int .i64 0, .int .i64 0] X.out (by kernel_rfl) rfl (by kernel_rfl) ?_); intro w5 hg ho hB; have hb := hB _ _ GX.out HBX.out; replace X := As0 hg; have N1 := Qbz HA.out; have N2 := Qbz HBb.out; have G1 := GX.out; replace HA := As0 (Qbo HA.out hb); replace HBb := As0 (Qbo HBb.out hb); replace HF := As0 (HF.out.trans (Fr2.of hb)); (obtain ⟨z0, z1, y0, y1⟩ := cN2 X.out); have c0 := (Qbl HA.out 0).trans rfl; have c1 := (Qbl HBb.out 0).trans rfl; have d0 := Qbk HA.out 0; have d1 := Qbk HBb.out 0; have na : gx ≠ a := (by omega); have nb : gx ≠ b := (by omega); clear hg ho hB hb HBX GX N1 N2 G1))
 have na' := na.symm
 have nb' := nb.symm
 have hne' := hne.symm
 go_region
 go_wp2
 exact ⟨rfl, _, rfl, _, results_none rfl _ _ _, rfl, rfl, Qbu (Qeq (Qbr (cs := #[.int .i64 o1]) HA.out 0 _ rfl) hne _), Qbu (Qbr (cs := #[.int .i64 o2]) (Qeq HBb.out hne' _) 0 _ rfl), ((HF.out.setA 0 _).setB 0 _).drew⟩
theorem catch_idle (p q : Addr) (w : World) :
    CallsD Tryz.prog 119 #[.pointer (some p), .pointer (some q)] .returning w fun e u' w' => e = .returned (.tuple #[]) ∧ u' = .returning ∧ w' = w := by
 have hu20 := Tryz.underlying20
 refine callsD_of_wpS Tryz.func119 rfl fun c₀ cs hu => ?_
 apply wpS_seq
 apply wpS_region
 simp [wpOpsS, go_sem, recoverD, hu, Tryz.ntmps119, Exit.thenS]
 apply wpS_seq
 apply wpS_region
 simp [wpOpsS, go_sem, Exit.thenS]
 refine wpS_cond (t := false) (by simp [Act.eval, Array.replicate]) ?_
 simp only [Bool.false_eq_true, if_false]
 refine wpS_of_wp (wp_skip ?_)
 cases c₀
 simp_all [bodyPostS, results, Tryz.results119, Exit.thenS]
def rowsF (k : Nat) (bc : List S41) (mc : List S59) : List S180 → Bs → (Bs → OBs) → OBs
 | [], s, K => K s
 | r :: t, s, K => (rowF k bc mc r s).then fun s1 => rowsF k bc mc t s1 K
def endF (k : Nat) (bt mt : S37) (n : Int) (s : Bs) : OBs := if bt.f0 = 1 then some (s, none) else useF k s bt.f1 mt.f1 n
def runF (k : Nat) (bc : List S41) (mc : List S59) (bt mt : S37) (rows : List S180) (s : Bs) : OBs := rowsF k bc mc rows s fun s1 => endF k bt mt (mc.length : Int) s1
def whyOf (n : Int) : Pan → Int × Int
 | none => (0, n)
 | some q => q
theorem run_calls (k g : Nat) (s : Bs) (A0 : Option Addr) (c0 : Nat) (bc : List S41) (bt : S37) (A1 : Option Addr) (c1 : Nat) (mc : List S59) (mt : S37) (A2 : Option Addr) (c2 : Nat) (rows : List S180) (x : Bs × Pan) (w0 w : World) (h : Ck w g s) (hB : Below w0.heap.size w0 w) (hg0 : w0.heap.size ≤ g)
    (h0 : Kd.C k41 w0 A0 bc.length bc) (hc0 : bc.length ≤ c0) (h1 : Kd.C k59 w0 A1 mc.length mc) (hc1_ : mc.length ≤ c1) (h2 : Kd.C k180 w0 A2 rows.length rows) (hf : runF k bc mc bt mt rows s = some x) :
    Calls Tryz.prog 66 #[.pointer (some ⟨g, 0, none⟩), .agg #[.slice A0 bc.length c0, .int .i64 bt.f0, .int .i64 bt.f1, .int .i64 bt.f2, .int .i64 bt.f3], .agg #[.slice A1 mc.length c1, .int .i64 mt.f0, .int .i64 mt.f1, .int .i64 mt.f2, .int .i64 mt.f3], .slice A2 rows.length c2] w fun e w' => e = .returned (.tuple #[.int .i64 (whyOf mc.length x.2).1, .int .i64 (whyOf mc.length x.2).2]) ∧ Ck w' g x.1 ∧ Fr g w w' := by
 have hu20 := Tryz.underlying20
 have hu35 := Tryz.underlying35
 have hu37 := Tryz.underlying37
 have hu39 := Tryz.underlying39
 have hu41 := Tryz.underlying41
 have hu49 := Tryz.underlying49
 have hu54 := Tryz.underlying54
 have hu57 := Tryz.underlying57
 have hu59 := Tryz.underlying59
 have hu121 := Tryz.underlying121
 have hu128 := Tryz.underlying128
 have hu180 := Tryz.underlying180
 have HK := As0 h
 have HB0 := As0 hB
 have HG0 := As0 hg0
 have H0 := As0 h0
 have H1 := As0 h1
 have H2 := As0 h2
 have HM2 := As0 h2.2.1
 have H := As0 hf
 have HF := As0 (Fr.refl g w)
 clear h hB hg0 h0 h1 h2 hf
 have hmf : ∀ (fn : Fn) (first cap : Array Value) (w : World), (Instr.makeFunc fn first cap).run Tryz.prog w = .ok (.func fn first cap) w := fun _ _ _ _ => rfl
 go_enter_defers Tryz.func66, Tryz.ntmps66
 go_wp2_with (first
  | ((with_reducible refine Qbn (N := 5) rfl ?_); refine bX (N := 5) (cs := #[.slice A0 bc.length c0, .int .i64 bt.f0, .int .i64 bt.f1, .int .i64 bt.f2, .int .i64 bt.f3]) (t := 39) ?_; intro gB hg w1 hbox hb; have B := As0 hbox; have NB := As0 (by have := HK.out.lt; omega : gB ≠ g); have GB := As0 (by have := HF.out.size; omega : w.heap.size ≤ gB); skip; replace HK := As0 (HK.out.below hb); replace HF := As0 (HF.out.then hb); clear hb hbox hg)
  | ((with_reducible refine Qbn (N := 6) rfl ?_); refine bX (N := 6) (cs := #[.slice A1 mc.length c1, .int .i64 mt.f0, .int .i64 mt.f1, .int .i64 mt.f2, .int .i64 mt.f3]) (t := 57) ?_; intro gM hg w2 hbox hb; have M := As0 hbox; have NM := As0 (by have := HK.out.lt; omega : gM ≠ g); have GM := As0 (by have := HF.out.size; omega : w.heap.size ≤ gM); replace B := As0 (Qbo B.out hb); replace HK := As0 (HK.out.below hb); replace HF := As0 (HF.out.then hb); clear hb hbox hg)
  | ((with_reducible refine Qbn (N := 8) rfl ?_); refine bX (N := 8) (cs := #[.int .i64 0]) (t := 49) ?_; intro gV hg w3 hbox hb; have V := As0 hbox; have NV := As0 (by have := HK.out.lt; omega : gV ≠ g); have GV := As0 (by have := HF.out.size; omega : w.heap.size ≤ gV); replace B := As0 (Qbo B.out hb); have NMV := As0 (by have := Qbz M.out; omega : gM ≠ gV); replace M := As0 (Qbo M.out hb); replace HK := As0 (HK.out.below hb); replace HF := As0 (HF.out.then hb); clear hb hbox hg)
  | ((with_reducible refine Qbn (N := 9) rfl ?_); refine bX (N := 9) (cs := #[.int .i64 0]) (t := 3) ?_; intro gW hg w4 hbox hb; have W := As0 hbox; have NW := As0 (by have := HK.out.lt; omega : gW ≠ g); have GW := As0 (by have := HF.out.size; omega : w.heap.size ≤ gW); replace B := As0 (Qbo B.out hb); replace M := As0 (Qbo M.out hb); have NVW := As0 (by have := Qbz V.out; omega : gV ≠ gW); replace V := As0 (Qbo V.out hb); replace HK := As0 (HK.out.below hb); replace HF := As0 (HF.out.then hb); (obtain ⟨b0, b1, b2, b3, b4, bf0, bf1, bf2, bf3, bf4⟩ := cN5 B.out); (obtain ⟨m0, m1, m2, m3, m4, mf0, mf1, mf2, mf3, mf4⟩ := cN5 M.out); have v0 := (Qbl V.out 0).trans rfl; have vf := Qbk V.out 0; have a0 := (Qbl W.out 0).trans rfl; have af := Qbk W.out 0; clear hb hbox hg))
 go_loopg [15] (rows.length + 1) (fun n v15 w' => ∃ (i : Nat) (s1 : Bs), v15 = .int .i64 (i : Int) ∧ Qbm (i ≤ rows.length ∧ rows.length - i < n) ∧ Qbm (rowsF k bc mc (rows.drop i) s1 (fun s1 => endF k bt mt (mc.length : Int) s1) = some x) ∧ Qbm (Ck w' g s1) ∧ Qbm (Fr g w w') ∧ Qbm (w'.heap[gB]? = some (.cells #[.slice A0 bc.length c0, .int .i64 bt.f0, .int .i64 bt.f1, .int .i64 bt.f2, .int .i64 bt.f3] 39 (0, 0))) ∧ Qbm (w'.heap[gM]? = some (.cells #[.slice A1 mc.length c1, .int .i64 mt.f0, .int .i64 mt.f1, .int .i64 mt.f2, .int .i64 mt.f3] 57 (0, 0))) ∧ Qbm (w'.heap[gV]? = some (.cells #[.int .i64 0] 49 (0, 0))) ∧ Qbm (w'.heap[gW]? = some (.cells #[.int .i64 0] 3 (0, 0))))
 case atStart => exact ⟨0, s, rfl, ⟨by omega, by omega⟩, ⟨by rw [List.drop_zero]; exact H.out⟩, HK, HF, B, M, V, W⟩
 case round =>
  clear b0 b1 b2 b3 b4 bf0 bf1 bf2 bf3 bf4 m0 m1 m2 m3 m4 mf0 mf1 mf2 mf3 mf4 v0 vf a0 af HK HF B M V W H
  obtain ⟨i, s1, rfl, HI, H, HK, HF, B, M, V, W⟩ := hrel
  (obtain ⟨b0, b1, b2, b3, b4, bf0, bf1, bf2, bf3, bf4⟩ := cN5 B.out); (obtain ⟨m0, m1, m2, m3, m4, mf0, mf1, mf2, mf3, mf4⟩ := cN5 M.out); have v0 := (Qbl V.out 0).trans rfl; have vf := Qbk V.out 0; have a0 := (Qbl W.out 0).trans rfl; have af := Qbk W.out 0
  by_cases hi : i < rows.length
  ·have hlt : (i : Int) < (rows.length : Int) := by omega
   have h0' : (0 : Int) ≤ (i : Int) := by omega
   obtain ⟨ad, e, hx0, hx1, hx2, hx3, hx4, hx5⟩ := at_T180 H2.out i h0' hlt
   cases e
   have HBw := HF.out.base HB0.out HG0.out HB0.out.size
   replace hx0 := (HBw.cell (wblt w0 hx0)).trans hx0
   replace hx1 := (HBw.cell (wblt w0 hx1)).trans hx1
   replace hx2 := (HBw.cell (wblt w0 hx2)).trans hx2
   replace hx3 := (HBw.cell (wblt w0 hx3)).trans hx3
   replace hx4 := (HBw.cell (wblt w0 hx4)).trans hx4
   replace hx5 := (HBw.cell (wblt w0 hx5)).trans hx5
   have hw : Go.RowKit.wrap64 ((i : Int) + 1) = ((i + 1 : Nat) : Int) := by have := HM2.out; unfold Go.RowKit.wrap64; omega
   have hp : Qd5 rows (i : Int) = rows[i] := by simp [Qd5, List.getD_eq_getElem?_getD, hi]
   have hdr : rows.drop i = rows[i] :: rows.drop (i + 1) := by rw [List.drop_eq_getElem_cons hi]
   have H' := H.out
   rw [hdr] at H'
   rw [hp] at hx0 hx1 hx2 hx3 hx4 hx5
   simp only [Int.toNat_natCast] at hx0 hx1 hx2 hx3 hx4 hx5
   generalize rows[i] = p at hx0 hx1 hx2 hx3 hx4 hx5 H'
   clear hp hdr HBw
   obtain ⟨s2, pn, hu, hp⟩ := OBs.then_inv (show OBs.then (rowF k bc mc p s1) (fun s1 => rowsF k bc mc (rows.drop (i + 1)) s1 fun s1 => endF k bt mt (mc.length : Int) s1) = some x from H')
   rcases hp with ⟨rfl, hp⟩ | ⟨⟨qy, qi⟩, rfl, rfl⟩
   ·go_wp2_with (first
      | ((with_reducible refine Qbn (N := 11) rfl ?_); refine bX (N := 11) (cs := #[.int .i64 0, .int .i64 0, .int .i64 0, .int .i64 0, .int .i64 0, .int .i64 0]) (t := 180) ?_; intro gi hg w5 hbox hb; have I := As0 hbox; have GI := As0 (Nat.le_of_eq hg.symm); have HBI := As0 hb; clear hb hbox hg)
      | ((with_reducible refine Qc6 (.store 180 (.tmp 11) (.tmp 18)) rfl ?_); go_loud (refine Qat rfl rfl 180 _ _ rfl gi #[.int .i64 p.f0, .int .i64 p.f1, .int .i64 p.f2, .int .i64 p.f3, .int .i64 p.f4, .int .i64 p.f5] rfl rfl 180 #[.int .i64 0, .int .i64 0, .int .i64 0, .int .i64 0, .int .i64 0, .int .i64 0] I.out (by kernel_rfl) rfl (by kernel_rfl) ?_); intro w6 hg ho hB; have hb := hB _ _ GI.out HBI.out; replace I := As0 hg; replace B := As0 (Qbo B.out hb); replace M := As0 (Qbo M.out hb); replace V := As0 (Qbo V.out hb); replace W := As0 (Qbo W.out hb); replace HF := As0 (HF.out.then hb); replace HK := As0 (HK.out.below hb); clear b0 b1 b2 b3 b4 bf0 bf1 bf2 bf3 bf4 m0 m1 m2 m3 m4 mf0 mf1 mf2 mf3 mf4 v0 vf a0 af; (obtain ⟨b0, b1, b2, b3, b4, bf0, bf1, bf2, bf3, bf4⟩ := cN5 B.out); (obtain ⟨m0, m1, m2, m3, m4, mf0, mf1, mf2, mf3, mf4⟩ := cN5 M.out); have v0 := (Qbl V.out 0).trans rfl; have vf := Qbk V.out 0; have a0 := (Qbl W.out 0).trans rfl; have af := Qbk W.out 0; (obtain ⟨i_0, i_1, i_2, i_3, i_4, i_5, i_f0, i_f1, i_f2, i_f3, i_f4, i_f5⟩ := cN6 I.out); clear hg ho hB hb HBI GI)
      | (go_at_call 120; refine (row_calls k g s1 A0 c0 bc bt.f0 bt.f1 bt.f2 bt.f3 A1 c1 mc mt.f0 mt.f1 mt.f2 mt.f3 p _ w0 _ HK.out (HF.out.base HB0.out HG0.out HB0.out.size) HG0.out H0.out hc0 H1.out hc1_ hu).mono ?_; rintro e w7 ⟨he, hk, hf⟩; replace he : e = .returned (.tuple #[]) := he; subst he; replace HK := As0 hk; replace B := As0 (hf.blk B.out NB.out); replace M := As0 (hf.blk M.out NM.out); replace V := As0 (hf.blk V.out NV.out); replace W := As0 (hf.blk W.out NW.out); replace HF := As0 (HF.out.trans hf); clear hf hk))
    go_roundg (rows.length - i)
    case measure => have := HI.out; omega
    case rel => exact ⟨i + 1, s2, by first | rw [hw] | (push_cast; rfl), ⟨by omega, by omega⟩, ⟨hp⟩, HK, HF, B, M, V, W⟩
   ·go_wp2_with (first
      | ((with_reducible refine Qbn (N := 11) rfl ?_); refine bX (N := 11) (cs := #[.int .i64 0, .int .i64 0, .int .i64 0, .int .i64 0, .int .i64 0, .int .i64 0]) (t := 180) ?_; intro gi hg w5 hbox hb; have I := As0 hbox; have GI := As0 (Nat.le_of_eq hg.symm); have HBI := As0 hb; clear hb hbox hg)
      | ((with_reducible refine Qc6 (.store 180 (.tmp 11) (.tmp 18)) rfl ?_); go_loud (refine Qat rfl rfl 180 _ _ rfl gi #[.int .i64 p.f0, .int .i64 p.f1, .int .i64 p.f2, .int .i64 p.f3, .int .i64 p.f4, .int .i64 p.f5] rfl rfl 180 #[.int .i64 0, .int .i64 0, .int .i64 0, .int .i64 0, .int .i64 0, .int .i64 0] I.out (by kernel_rfl) rfl (by kernel_rfl) ?_); intro w6 hg ho hB; have hb := hB _ _ GI.out HBI.out; replace I := As0 hg; replace B := As0 (Qbo B.out hb); replace M := As0 (Qbo M.out hb); replace V := As0 (Qbo V.out hb); replace W := As0 (Qbo W.out hb); replace HF := As0 (HF.out.then hb); replace HK := As0 (HK.out.below hb); clear b0 b1 b2 b3 b4 bf0 bf1 bf2 bf3 bf4 m0 m1 m2 m3 m4 mf0 mf1 mf2 mf3 mf4 v0 vf a0 af; (obtain ⟨b0, b1, b2, b3, b4, bf0, bf1, bf2, bf3, bf4⟩ := cN5 B.out); (obtain ⟨m0, m1, m2, m3, m4, mf0, mf1, mf2, mf3, mf4⟩ := cN5 M.out); have v0 := (Qbl V.out 0).trans rfl; have vf := Qbk V.out 0; have a0 := (Qbl W.out 0).trans rfl; have af := Qbk W.out 0; (obtain ⟨i_0, i_1, i_2, i_3, i_4, i_5, i_f0, i_f1, i_f2, i_f3, i_f4, i_f5⟩ := cN6 I.out); clear hg ho hB hb HBI GI)
      | (go_at_call 120; refine (row_calls k g s1 A0 c0 bc bt.f0 bt.f1 bt.f2 bt.f3 A1 c1 mc mt.f0 mt.f1 mt.f2 mt.f3 p _ w0 _ HK.out (HF.out.base HB0.out HG0.out HB0.out.size) HG0.out H0.out hc0 H1.out hc1_ hu).mono ?_; rintro e w7 ⟨he, hk, hf⟩; replace he : e = .panicked [{ v := .iface 185 (.agg #[.int .i64 qy, .int .i64 qi]), recovered := false }] := he; subst he; replace HK := As0 hk; replace B := As0 (hf.blk B.out NB.out); replace M := As0 (hf.blk M.out NM.out); replace V := As0 (hf.blk V.out NV.out); replace W := As0 (hf.blk W.out NW.out); replace HF := As0 (HF.out.trans hf); clear hf hk))
    refine leaves_cons (f := 119) (args := #[.pointer (some ⟨gV, 0, none⟩), .pointer (some ⟨gW, 0, none⟩)]) (by simp) (by simp [go_sem]) ?_
    refine (catch_pan gV gW 0 0 qy qi [] _ V.out W.out NVW.out).mono ?_
    rintro e u' w'' ⟨rfl, rfl, ha, hb, hf⟩
    have y0 : w''.cell? ⟨gV, 0, none⟩ = some (.int .i64 qy) := (Qbl ha 0).trans rfl
    have y1 : w''.cell? ⟨gW, 0, none⟩ = some (.int .i64 qi) := (Qbl hb 0).trans rfl
    simp [Leaves, settle, results, Tryz.results66, go_sem]
    exact ⟨.tuple #[.int .i64 qy, .int .i64 qi], by simp [y0, y1], rfl, HK.out.fr2 hf V.out W.out NV.out.symm NW.out.symm (by decide) (by decide), hf.fr HF.out GV.out GW.out⟩
  ·have hi' : i = rows.length := by have := HI.out.1; omega
   have H3 := H.out
   rw [hi', List.drop_length] at H3
   replace H : endF k bt mt (mc.length : Int) s1 = some x := H3
   clear H3 HI
   unfold endF at H
   by_cases hk1 : bt.f0 = 1
   ·rw [if_pos hk1] at H
    obtain rfl := Option.some.inj H
    have hk1b : (bt.f0 != 1) = false := bne_eq_false_iff_eq.mpr hk1
    go_wp2
    have hne := NVW.out
    have hne' := hne.symm
    have hmv := NMV.out
    have hmv' := hmv.symm
    go_region
    go_wp2
    refine leaves_cons (f := 119) (args := #[.pointer (some ⟨gV, 0, none⟩), .pointer (some ⟨gW, 0, none⟩)]) (by simp) (by simp [go_sem]) ?_
    refine (catch_idle _ _ _).mono ?_
    rintro e u' w'' ⟨rfl, rfl, rfl⟩
    have hf2 := (((Fr2.of (a := gV) (b := gW) (Below.refl wr.heap.size wr)).setA 0 (.int .i64 0)).setB 0 (.int .i64 (mc.length : Int))).drew
    have ha := Qbu (Qeq (p := ⟨gW, 0, none⟩) (Qbr (cs := #[.int .i64 0]) V.out 0 (.int .i64 0) rfl) hne (.int .i64 (mc.length : Int)))
    have hb := Qbu (Qbr (cs := #[.int .i64 0]) (Qeq (p := ⟨gV, 0, none⟩) W.out hne' (.int .i64 0)) 0 (.int .i64 (mc.length : Int)) rfl)
    generalize ((wr.setCell ⟨gV, 0, none⟩ (.int .i64 0)).setCell ⟨gW, 0, none⟩ (.int .i64 (mc.length : Int))).drew = w9 at hf2 ha hb ⊢
    have y0 : w9.cell? ⟨gV, 0, none⟩ = some (.int .i64 0) := (Qbl ha 0).trans rfl
    have y1 : w9.cell? ⟨gW, 0, none⟩ = some (.int .i64 (mc.length : Int)) := (Qbl hb 0).trans rfl
    simp [Leaves, settle, results, Tryz.results66, go_sem]
    exact ⟨.tuple #[.int .i64 0, .int .i64 (mc.length : Int)], by simp [y0, y1], rfl, HK.out.fr2 hf2 V.out W.out NV.out.symm NW.out.symm (by decide) (by decide), hf2.fr HF.out GV.out GW.out⟩
   ·rw [if_neg hk1] at H
    have hk1b : (bt.f0 != 1) = true := bne_iff_ne.mpr hk1
    obtain ⟨s9, px⟩ := x
    cases px with
    | none =>
     go_wp2_with (go_at_call 121; refine (Qdo k g s1 bt.f1 mt.f1 (mc.length : Int) _ _ HK.out H).mono ?_; rintro e w7 ⟨he, hk, hf⟩; replace he : e = .returned (.tuple #[]) := he; subst he; replace HK := As0 hk; clear b0 b1 b2 b3 b4 bf0 bf1 bf2 bf3 bf4 m0 m1 m2 m3 m4 mf0 mf1 mf2 mf3 mf4 v0 vf a0 af; replace B := As0 (hf.blk B.out NB.out); replace M := As0 (hf.blk M.out NM.out); replace V := As0 (hf.blk V.out NV.out); replace W := As0 (hf.blk W.out NW.out); replace HF := As0 (HF.out.trans hf); (obtain ⟨b0, b1, b2, b3, b4, bf0, bf1, bf2, bf3, bf4⟩ := cN5 B.out); (obtain ⟨m0, m1, m2, m3, m4, mf0, mf1, mf2, mf3, mf4⟩ := cN5 M.out); have v0 := (Qbl V.out 0).trans rfl; have vf := Qbk V.out 0; have a0 := (Qbl W.out 0).trans rfl; have af := Qbk W.out 0; clear hf hk)
     have hne := NVW.out
     have hne' := hne.symm
     have hmv := NMV.out
     have hmv' := hmv.symm
     go_region
     go_wp2
     refine leaves_cons (f := 119) (args := #[.pointer (some ⟨gV, 0, none⟩), .pointer (some ⟨gW, 0, none⟩)]) (by simp) (by simp [go_sem]) ?_
     refine (catch_idle _ _ _).mono ?_
     rintro e u' w'' ⟨rfl, rfl, rfl⟩
     have hf2 := (((Fr2.of (a := gV) (b := gW) (Below.refl w7.heap.size w7)).setA 0 (.int .i64 0)).setB 0 (.int .i64 (mc.length : Int))).drew
     have ha := Qbu (Qeq (p := ⟨gW, 0, none⟩) (Qbr (cs := #[.int .i64 0]) V.out 0 (.int .i64 0) rfl) hne (.int .i64 (mc.length : Int)))
     have hb := Qbu (Qbr (cs := #[.int .i64 0]) (Qeq (p := ⟨gV, 0, none⟩) W.out hne' (.int .i64 0)) 0 (.int .i64 (mc.length : Int)) rfl)
     generalize ((w7.setCell ⟨gV, 0, none⟩ (.int .i64 0)).setCell ⟨gW, 0, none⟩ (.int .i64 (mc.length : Int))).drew = w9 at hf2 ha hb ⊢
     have y0 : w9.cell? ⟨gV, 0, none⟩ = some (.int .i64 0) := (Qbl ha 0).trans rfl
     have y1 : w9.cell? ⟨gW, 0, none⟩ = some (.int .i64 (mc.length : Int)) := (Qbl hb 0).trans rfl
     simp [Leaves, settle, results, Tryz.results66, go_sem]
     exact ⟨.tuple #[.int .i64 0, .int .i64 (mc.length : Int)], by simp [y0, y1], rfl, HK.out.fr2 hf2 V.out W.out NV.out.symm NW.out.symm (by decide) (by decide), hf2.fr HF.out GV.out GW.out⟩
    | some q =>
     obtain ⟨qy, qi⟩ := q
     go_wp2_with (go_at_call 121; refine (Qdo k g s1 bt.f1 mt.f1 (mc.length : Int) _ _ HK.out H).mono ?_; rintro e w7 ⟨he, hk, hf⟩; replace he : e = .panicked [{ v := .iface 185 (.agg #[.int .i64 qy, .int .i64 qi]), recovered := false }] := he; subst he; replace HK := As0 hk; clear b0 b1 b2 b3 b4 bf0 bf1 bf2 bf3 bf4 m0 m1 m2 m3 m4 mf0 mf1 mf2 mf3 mf4 v0 vf a0 af; replace B := As0 (hf.blk B.out NB.out); replace M := As0 (hf.blk M.out NM.out); replace V := As0 (hf.blk V.out NV.out); replace W := As0 (hf.blk W.out NW.out); replace HF := As0 (HF.out.trans hf); (obtain ⟨b0, b1, b2, b3, b4, bf0, bf1, bf2, bf3, bf4⟩ := cN5 B.out); (obtain ⟨m0, m1, m2, m3, m4, mf0, mf1, mf2, mf3, mf4⟩ := cN5 M.out); have v0 := (Qbl V.out 0).trans rfl; have vf := Qbk V.out 0; have a0 := (Qbl W.out 0).trans rfl; have af := Qbk W.out 0; clear hf hk)
     refine leaves_cons (f := 119) (args := #[.pointer (some ⟨gV, 0, none⟩), .pointer (some ⟨gW, 0, none⟩)]) (by simp) (by simp [go_sem]) ?_
     refine (catch_pan gV gW 0 0 qy qi [] _ V.out W.out NVW.out).mono ?_
     rintro e u' w'' ⟨rfl, rfl, ha, hb, hf⟩
     have y0 : w''.cell? ⟨gV, 0, none⟩ = some (.int .i64 qy) := (Qbl ha 0).trans rfl
     have y1 : w''.cell? ⟨gW, 0, none⟩ = some (.int .i64 qi) := (Qbl hb 0).trans rfl
     simp [Leaves, settle, results, Tryz.results66, go_sem]
     exact ⟨.tuple #[.int .i64 qy, .int .i64 qi], by simp [y0, y1], rfl, HK.out.fr2 hf V.out W.out NV.out.symm NW.out.symm (by decide) (by decide), hf.fr HF.out GV.out GW.out⟩
def align_copied.f (a0_0 : Int) (a0_1 : Int) (a0_2 : Int) (a0_3 : Int) (a0_4 : Int) : Option (Bool) := some (a0_0 == 2)
theorem align_copied.calls (a0_0 : Int) (a0_1 : Int) (a0_2 : Int) (a0_3 : Int) (a0_4 : Int) (r : Bool) (w : World) (h : align_copied.f a0_0 a0_1 a0_2 a0_3 a0_4 = some r) :
  Calls Tryz.prog 111 #[.agg #[.int .i64 a0_0, .int .i64 a0_1, .int .i64 a0_2, .int .i64 a0_3, .int .i64 a0_4]] w fun e w' => e = .returned (.bool r) ∧ Below w.heap.size w w' := by
 have hu41 := Tryz.underlying41
 have HB := As0 (Below.refl w.heap.size w)
 have H : (some (a0_0 == 2)) = some r := h
 clear h
 obtain rfl := Option.some.inj H
 go_enter Tryz.func111, Tryz.ntmps111
 go_wp2_with (first | ((with_reducible refine Qbn (N := 1) rfl ?_); refine bX (N := 1) (cs := #[.int .i64 a0_0, .int .i64 a0_1, .int .i64 a0_2, .int .i64 a0_3, .int .i64 a0_4]) (t := 41) ?_; intro gb265 hg w2 hbox hb; have BK265 := As0 (hbox); have GW265 := gW hg HB.out; have GE265 := GW265; replace HB := As0 (Qbj (BU HB.out) hb); clear hb hbox hg; obtain ⟨z3_0, z3_1, z3_2, z3_3, z3_4, y_3_0, y_3_1, y_3_2, y_3_3, y_3_4⟩ := cN5 BK265.out))
 go_ret
 exact ⟨oR, BU HB.out⟩
def align_moved.f (a0_0 : Int) (a0_1 : Int) (a0_2 : Int) (a0_3 : Int) (a0_4 : Int) (a0_5 : Int) (a0_6 : Int) : Option (Bool) := some (a0_0 == 18)
theorem align_moved.calls (a0_0 : Int) (a0_1 : Int) (a0_2 : Int) (a0_3 : Int) (a0_4 : Int) (a0_5 : Int) (a0_6 : Int) (r : Bool) (w : World) (h : align_moved.f a0_0 a0_1 a0_2 a0_3 a0_4 a0_5 a0_6 = some r) :
  Calls Tryz.prog 113 #[.agg #[.int .i64 a0_0, .int .i64 a0_1, .int .i64 a0_2, .int .i64 a0_3, .int .i64 a0_4, .int .i64 a0_5, .int .i64 a0_6]] w fun e w' => e = .returned (.bool r) ∧ Below w.heap.size w w' := by
 have hu59 := Tryz.underlying59
 have HB := As0 (Below.refl w.heap.size w)
 have H : (some (a0_0 == 18)) = some r := h
 clear h
 obtain rfl := Option.some.inj H
 go_enter Tryz.func113, Tryz.ntmps113
 go_wp2_with (first | ((with_reducible refine Qbn (N := 1) rfl ?_); refine bX (N := 1) (cs := #[.int .i64 a0_0, .int .i64 a0_1, .int .i64 a0_2, .int .i64 a0_3, .int .i64 a0_4, .int .i64 a0_5, .int .i64 a0_6]) (t := 59) ?_; intro gb266 hg w2 hbox hb; have BK266 := As0 (hbox); have GW266 := gW hg HB.out; have GE266 := GW266; replace HB := As0 (Qbj (BU HB.out) hb); clear hb hbox hg; obtain ⟨z3_0, z3_1, z3_2, z3_3, z3_4, z3_5, z3_6, y_3_0, y_3_1, y_3_2, y_3_3, y_3_4, y_3_5, y_3_6⟩ := cN7 BK266.out))
 go_ret
 exact ⟨oR, BU HB.out⟩
def align_Same.f (a0_0 : Int) (a0_1 : Int) (a0_2 : Int) (a0_3 : Int) (a0_4 : Int) (a1_0 : Int) (a1_1 : Int) (a1_2 : Int) (a1_3 : Int) (a1_4 : Int) (a1_5 : Int) (a1_6 : Int) : Option (Bool) := if a0_0 = a1_0 then (if a0_4 = a1_4 then (if a0_0 = 2 then (some false) else (some (a0_0 != 18))) else (some false)) else (some false)
theorem align_Same.calls (a0_0 : Int) (a0_1 : Int) (a0_2 : Int) (a0_3 : Int) (a0_4 : Int) (a1_0 : Int) (a1_1 : Int) (a1_2 : Int) (a1_3 : Int) (a1_4 : Int) (a1_5 : Int) (a1_6 : Int) (r : Bool) (w : World) (h : align_Same.f a0_0 a0_1 a0_2 a0_3 a0_4 a1_0 a1_1 a1_2 a1_3 a1_4 a1_5 a1_6 = some r) :
  Calls Tryz.prog 114 #[.agg #[.int .i64 a0_0, .int .i64 a0_1, .int .i64 a0_2, .int .i64 a0_3, .int .i64 a0_4], .agg #[.int .i64 a1_0, .int .i64 a1_1, .int .i64 a1_2, .int .i64 a1_3, .int .i64 a1_4, .int .i64 a1_5, .int .i64 a1_6]] w fun e w' => e = .returned (.bool r) ∧ Below w.heap.size w w' := by
 have hu41 := Tryz.underlying41
 have hu59 := Tryz.underlying59
 have HB := As0 (Below.refl w.heap.size w)
 have H : (if a0_0 = a1_0 then (if a0_4 = a1_4 then (if a0_0 = 2 then (some false) else (some (a0_0 != 18))) else (some false)) else (some false)) = some r := h
 clear h
 by_cases c3 : a0_0 = a1_0
 rotate_left
 ·rw [if_neg c3] at H
  have c3b0 : (a0_0 == a1_0) = false := beq_eq_false_iff_ne.mpr c3
  have c3b1 : (a0_0 != a1_0) = true := bne_iff_ne.mpr c3
  obtain rfl := Option.some.inj H
  go_enter Tryz.func114, Tryz.ntmps114
  go_wp2_with (first | ((with_reducible refine Qbn (N := 2) rfl ?_); refine bX (N := 2) (cs := #[.int .i64 a0_0, .int .i64 a0_1, .int .i64 a0_2, .int .i64 a0_3, .int .i64 a0_4]) (t := 41) ?_; intro gb267 hg w21 hbox hb; have BK267 := As0 (hbox); have GW267 := gW hg HB.out; have GE267 := GW267; replace HB := As0 (Qbj (BU HB.out) hb); clear hb hbox hg) | ((with_reducible refine Qbn (N := 3) rfl ?_); refine bX (N := 3) (cs := #[.int .i64 a1_0, .int .i64 a1_1, .int .i64 a1_2, .int .i64 a1_3, .int .i64 a1_4, .int .i64 a1_5, .int .i64 a1_6]) (t := 59) ?_; intro gb268 hg w22 hbox hb; have BK268 := As0 (hbox); have GW268 := gW hg HB.out; have GE268 := GW268; replace HB := As0 (Qbj (BU HB.out) hb); have NB267_268 := nL hg BK267; have NB268_267 := nR hg BK267; replace BK267 := kB BK267 hb; clear hb hbox hg; have hnb23 := NB267_268.out; have hnc23 := NB268_267.out; obtain ⟨z24_0, z24_1, z24_2, z24_3, z24_4, y_24_0, y_24_1, y_24_2, y_24_3, y_24_4⟩ := cN5 BK267.out; obtain ⟨z25_0, z25_1, z25_2, z25_3, z25_4, z25_5, z25_6, y_25_0, y_25_1, y_25_2, y_25_3, y_25_4, y_25_5, y_25_6⟩ := cN7 BK268.out))
  go_ret
  exact ⟨oR, BU HB.out⟩
 rw [if_pos c3] at H
 have c3b0 : (a0_0 == a1_0) = true := beq_iff_eq.mpr c3
 have c3b1 : (a0_0 != a1_0) = false := bne_eq_false_iff_eq.mpr c3
 clear c3
 by_cases c4 : a0_4 = a1_4
 rotate_left
 ·rw [if_neg c4] at H
  have c4b0 : (a0_4 == a1_4) = false := beq_eq_false_iff_ne.mpr c4
  have c4b1 : (a0_4 != a1_4) = true := bne_iff_ne.mpr c4
  obtain rfl := Option.some.inj H
  go_enter Tryz.func114, Tryz.ntmps114
  go_wp2_with (first | ((with_reducible refine Qbn (N := 2) rfl ?_); refine bX (N := 2) (cs := #[.int .i64 a0_0, .int .i64 a0_1, .int .i64 a0_2, .int .i64 a0_3, .int .i64 a0_4]) (t := 41) ?_; intro gb267 hg w16 hbox hb; have BK267 := As0 (hbox); have GW267 := gW hg HB.out; have GE267 := GW267; replace HB := As0 (Qbj (BU HB.out) hb); clear hb hbox hg) | ((with_reducible refine Qbn (N := 3) rfl ?_); refine bX (N := 3) (cs := #[.int .i64 a1_0, .int .i64 a1_1, .int .i64 a1_2, .int .i64 a1_3, .int .i64 a1_4, .int .i64 a1_5, .int .i64 a1_6]) (t := 59) ?_; intro gb268 hg w17 hbox hb; have BK268 := As0 (hbox); have GW268 := gW hg HB.out; have GE268 := GW268; replace HB := As0 (Qbj (BU HB.out) hb); have NB267_268 := nL hg BK267; have NB268_267 := nR hg BK267; replace BK267 := kB BK267 hb; clear hb hbox hg; have hnb18 := NB267_268.out; have hnc18 := NB268_267.out; obtain ⟨z19_0, z19_1, z19_2, z19_3, z19_4, y_19_0, y_19_1, y_19_2, y_19_3, y_19_4⟩ := cN5 BK267.out; obtain ⟨z20_0, z20_1, z20_2, z20_3, z20_4, z20_5, z20_6, y_20_0, y_20_1, y_20_2, y_20_3, y_20_4, y_20_5, y_20_6⟩ := cN7 BK268.out))
  go_ret
  exact ⟨oR, BU HB.out⟩
 rw [if_pos c4] at H
 have c4b0 : (a0_4 == a1_4) = true := beq_iff_eq.mpr c4
 have c4b1 : (a0_4 != a1_4) = false := bne_eq_false_iff_eq.mpr c4
 clear c4
 by_cases c5 : a0_0 = 2
 rotate_left
 ·rw [if_neg c5] at H
  have c5b0 : (a0_0 == 2) = false := beq_eq_false_iff_ne.mpr c5
  have c5b1 : (a0_0 != 2) = true := bne_iff_ne.mpr c5
  obtain rfl := Option.some.inj H
  go_enter Tryz.func114, Tryz.ntmps114
  go_wp2_with (first | ((with_reducible refine Qbn (N := 2) rfl ?_); refine bX (N := 2) (cs := #[.int .i64 a0_0, .int .i64 a0_1, .int .i64 a0_2, .int .i64 a0_3, .int .i64 a0_4]) (t := 41) ?_; intro gb267 hg w11 hbox hb; have BK267 := As0 (hbox); have GW267 := gW hg HB.out; have GE267 := GW267; replace HB := As0 (Qbj (BU HB.out) hb); clear hb hbox hg) | ((with_reducible refine Qbn (N := 3) rfl ?_); refine bX (N := 3) (cs := #[.int .i64 a1_0, .int .i64 a1_1, .int .i64 a1_2, .int .i64 a1_3, .int .i64 a1_4, .int .i64 a1_5, .int .i64 a1_6]) (t := 59) ?_; intro gb268 hg w12 hbox hb; have BK268 := As0 (hbox); have GW268 := gW hg HB.out; have GE268 := GW268; replace HB := As0 (Qbj (BU HB.out) hb); have NB267_268 := nL hg BK267; have NB268_267 := nR hg BK267; replace BK267 := kB BK267 hb; clear hb hbox hg; have hnb13 := NB267_268.out; have hnc13 := NB268_267.out; obtain ⟨z14_0, z14_1, z14_2, z14_3, z14_4, y_14_0, y_14_1, y_14_2, y_14_3, y_14_4⟩ := cN5 BK267.out; obtain ⟨z15_0, z15_1, z15_2, z15_3, z15_4, z15_5, z15_6, y_15_0, y_15_1, y_15_2, y_15_3, y_15_4, y_15_5, y_15_6⟩ := cN7 BK268.out))
  go_ret
  exact ⟨oR, BU HB.out⟩
 rw [if_pos c5] at H
 have c5b0 : (a0_0 == 2) = true := beq_iff_eq.mpr c5
 have c5b1 : (a0_0 != 2) = false := bne_eq_false_iff_eq.mpr c5
 clear c5
 obtain rfl := Option.some.inj H
 go_enter Tryz.func114, Tryz.ntmps114
 go_wp2_with (first | ((with_reducible refine Qbn (N := 2) rfl ?_); refine bX (N := 2) (cs := #[.int .i64 a0_0, .int .i64 a0_1, .int .i64 a0_2, .int .i64 a0_3, .int .i64 a0_4]) (t := 41) ?_; intro gb267 hg w6 hbox hb; have BK267 := As0 (hbox); have GW267 := gW hg HB.out; have GE267 := GW267; replace HB := As0 (Qbj (BU HB.out) hb); clear hb hbox hg) | ((with_reducible refine Qbn (N := 3) rfl ?_); refine bX (N := 3) (cs := #[.int .i64 a1_0, .int .i64 a1_1, .int .i64 a1_2, .int .i64 a1_3, .int .i64 a1_4, .int .i64 a1_5, .int .i64 a1_6]) (t := 59) ?_; intro gb268 hg w7 hbox hb; have BK268 := As0 (hbox); have GW268 := gW hg HB.out; have GE268 := GW268; replace HB := As0 (Qbj (BU HB.out) hb); have NB267_268 := nL hg BK267; have NB268_267 := nR hg BK267; replace BK267 := kB BK267 hb; clear hb hbox hg; have hnb8 := NB267_268.out; have hnc8 := NB268_267.out; obtain ⟨z9_0, z9_1, z9_2, z9_3, z9_4, y_9_0, y_9_1, y_9_2, y_9_3, y_9_4⟩ := cN5 BK267.out; obtain ⟨z10_0, z10_1, z10_2, z10_3, z10_4, z10_5, z10_6, y_10_0, y_10_1, y_10_2, y_10_3, y_10_4, y_10_5, y_10_6⟩ := cN7 BK268.out))
 go_ret
 exact ⟨oR, BU HB.out⟩
mutual
def Qak.l0 : Nat → List (S41) → Int → Option (Int)
 | 0, _, _ => none
 | k + 1, x0, x1 => if x1 < (x0.length : Int) then (if 0 ≤ x1 then ((align_copied.f ((Qaw x0 x1).f0) ((Qaw x0 x1).f1) ((Qaw x0 x1).f2) ((Qaw x0 x1).f3) ((Qaw x0 x1).f4)).bind fun t270 => (Qak.j1 k x0 x1 t270)) else (none)) else (Qak.j1 k x0 x1 false)
def Qak.j1 : Nat → List (S41) → Int → Bool → Option (Int)
 | 0, _, _, _ => none
 | k + 1, x0, x1, x18 => if x18 = true then (Qak.l0 k x0 (wrap64 (x1 + 1))) else (some x1)
end
def Qak.f (k : Nat) (l0 : List (S41)) (a1 : Int)  : Option (Int) := Qak.l0 k l0 a1
theorem Qak.calls (k : Nat) (A0 : Option Addr) (c0 : Nat) (l0 : List (S41)) (a1 : Int)  (r : Int) (w : World) (hr0 : Kd.C k41 w A0 l0.length l0) (hc0 : l0.length ≤ c0) (h : Qak.f k l0 a1 = some r) :
  Calls Tryz.prog 110 #[.slice A0 l0.length c0, .int .i64 a1, .func (.func 111) #[] #[]] w fun e w' => e = .returned (.int .i64 r) ∧ Below w.heap.size w w' := by
 have hu41 := Tryz.underlying41
 have HR0 := As0 hr0
 have HC0 := As0 hc0
 clear hr0 hc0
 have HB := As0 (Below.refl w.heap.size w)
 have H : (Qak.l0 k l0 a1) = some r := h
 clear h
 have H' := As0 H
 clear H
 go_enter Tryz.func110, Tryz.ntmps110
 go_wp2
 go_loopg [1] k (fun kq v1 w' => ∃ (x1_1 : Int), v1 = .int .i64 x1_1 ∧ Qbm (Qak.l0 kq l0 x1_1 = some r) ∧ Qbm (kq ≤ k) ∧ Qbm (Below w.heap.size w w'))
 case atStart => exact ⟨(a1), eR, H', ⟨Nat.le_refl _⟩, ⟨BU HB.out⟩⟩
 case round =>
  clear H'
  obtain ⟨x1_1, rfl, HA, HK1, HB⟩ := hrel
  cases gk with
  | zero => exact absurd HA.out (by simp [Qak.l0])
  | succ k1 =>
   have H := HA.out
   clear HA
   simp only [Qak.l0] at H
   have HC4 := As0 H
   clear H
   go_upto_region 1 with (fail)
   go_cut [18] (fun v18 wc => ∃ (kq : Nat) (x18_3 : Bool), v18 = .bool x18_3 ∧ Qbm (Qak.j1 kq l0 x1_1 x18_3 = some r) ∧ Qbm (kq ≤ k1) ∧ Qbm (Below w.heap.size w wc))
   case first =>
    have H := HC4.out
    clear HC4
    by_cases c5 : x1_1 < (l0.length : Int)
    rotate_left
    ·rw [if_neg c5] at H
     have c5b0 := decide_eq_false c5
     clear c5
     (first | rw [c5b0] | (simp only [Qbw, Qbx]; rw [c5b0]) | skip)
     have H' := As0 H
     clear H
     go_wp2
     go_meet
     case rel => exact ⟨_, (false), eR, H', ⟨by have := HK1.out; first | omega | exact Nat.le_refl _⟩, ⟨BU HB.out⟩⟩
    rw [if_pos c5] at H
    have c5b0 := decide_eq_true c5
    clear c5
    (first | rw [c5b0] | (simp only [Qbw, Qbx]; rw [c5b0]) | skip)
    by_cases c6 : 0 ≤ x1_1
    rotate_left
    ·rw [if_neg c6] at H
     exact absurd H (by simp)
    rw [if_pos c6] at H
    have c6b0 := decide_eq_true c6
    clear c6
    replace H := Option.bind_eq_some_iff.mp H
    obtain ⟨t270, A70, H⟩ := H
    have A7 := As0 A70
    clear A70
    have H' := As0 H
    clear H
    have p269 : 0 ≤ (x1_1 : Int) := qR
    have q269 : x1_1 < (l0.length : Int) := qR
    obtain ⟨ad269, e269, hx269_0, hx269_1, hx269_2, hx269_3, hx269_4⟩ := at_T41 HR0.out x1_1 p269 q269
    cases e269
    replace hx269_0 := cl HB hx269_0
    replace hx269_1 := cl HB hx269_1
    replace hx269_2 := cl HB hx269_2
    replace hx269_3 := cl HB hx269_3
    replace hx269_4 := cl HB hx269_4
    replace p269 := eq_true p269
    replace q269 := eq_true q269
    go_wp2_with (first | (go_at_call 111; (with_reducible refine (align_copied.calls ((Qaw l0 x1_1).f0) ((Qaw l0 x1_1).f1) ((Qaw l0 x1_1).f2) ((Qaw l0 x1_1).f3) ((Qaw l0 x1_1).f4) t270 _ A7.out).mono ?_); rintro e w8 ⟨rfl, hb⟩; replace HB := As0 (Qbj (BU HB.out) hb); (try clear hb)))
    go_meet
    case rel => exact ⟨_, (t270), eR, H', ⟨by have := HK1.out; first | omega | exact Nat.le_refl _⟩, ⟨BU HB.out⟩⟩
   case rest =>
    clear HC4
    obtain ⟨kq, x18_3, rfl, HA, HJ3, HB⟩ := hcut
    cases kq with
    | zero => exact absurd HA.out (by simp [Qak.j1])
    | succ kj3 =>
     have H := HA.out
     clear HA
     simp only [Qak.j1] at H
     by_cases c9 : x18_3 = true
     rotate_left
     ·replace c9 := Bool.eq_false_iff.mpr c9
      subst c9
      rw [if_neg bF] at H
      obtain rfl := Option.some.inj H
      go_wp2
      go_ret
      exact ⟨oR, BU HB.out⟩
     subst c9
     rw [if_pos rfl] at H
     have H' := As0 H
     clear H
     go_wp2
     go_roundg kj3
     case measure => have := HK1.out; have := HJ3.out; omega
     case rel => exact ⟨(wrap64 (x1_1 + 1)), eR, H', ⟨by have := HK1.out; have := HJ3.out; omega⟩, ⟨BU HB.out⟩⟩
mutual
def Qao.l0 : Nat → List (S59) → Int → Option (Int)
 | 0, _, _ => none
 | k + 1, x0, x1 => if x1 < (x0.length : Int) then (if 0 ≤ x1 then ((align_moved.f ((Qai x0 x1).f0) ((Qai x0 x1).f1) ((Qai x0 x1).f2) ((Qai x0 x1).f3) ((Qai x0 x1).f4) ((Qai x0 x1).f5) ((Qai x0 x1).f6)).bind fun t270 => (Qao.j1 k x0 x1 t270)) else (none)) else (Qao.j1 k x0 x1 false)
def Qao.j1 : Nat → List (S59) → Int → Bool → Option (Int)
 | 0, _, _, _ => none
 | k + 1, x0, x1, x18 => if x18 = true then (Qao.l0 k x0 (wrap64 (x1 + 1))) else (some x1)
end
def Qao.f (k : Nat) (l0 : List (S59)) (a1 : Int)  : Option (Int) := Qao.l0 k l0 a1
theorem Qao.calls (k : Nat) (A0 : Option Addr) (c0 : Nat) (l0 : List (S59)) (a1 : Int)  (r : Int) (w : World) (hr0 : Kd.C k59 w A0 l0.length l0) (hc0 : l0.length ≤ c0) (h : Qao.f k l0 a1 = some r) :
  Calls Tryz.prog 112 #[.slice A0 l0.length c0, .int .i64 a1, .func (.func 113) #[] #[]] w fun e w' => e = .returned (.int .i64 r) ∧ Below w.heap.size w w' := by
 have hu59 := Tryz.underlying59
 have HR0 := As0 hr0
 have HC0 := As0 hc0
 clear hr0 hc0
 have HB := As0 (Below.refl w.heap.size w)
 have H : (Qao.l0 k l0 a1) = some r := h
 clear h
 have H' := As0 H
 clear H
 go_enter Tryz.func112, Tryz.ntmps112
 go_wp2
 go_loopg [1] k (fun kq v1 w' => ∃ (x1_1 : Int), v1 = .int .i64 x1_1 ∧ Qbm (Qao.l0 kq l0 x1_1 = some r) ∧ Qbm (kq ≤ k) ∧ Qbm (Below w.heap.size w w'))
 case atStart => exact ⟨(a1), eR, H', ⟨Nat.le_refl _⟩, ⟨BU HB.out⟩⟩
 case round =>
  clear H'
  obtain ⟨x1_1, rfl, HA, HK1, HB⟩ := hrel
  cases gk with
  | zero => exact absurd HA.out (by simp [Qao.l0])
  | succ k1 =>
   have H := HA.out
   clear HA
   simp only [Qao.l0] at H
   have HC4 := As0 H
   clear H
   go_upto_region 1 with (fail)
   go_cut [18] (fun v18 wc => ∃ (kq : Nat) (x18_3 : Bool), v18 = .bool x18_3 ∧ Qbm (Qao.j1 kq l0 x1_1 x18_3 = some r) ∧ Qbm (kq ≤ k1) ∧ Qbm (Below w.heap.size w wc))
   case first =>
    have H := HC4.out
    clear HC4
    by_cases c5 : x1_1 < (l0.length : Int)
    rotate_left
    ·rw [if_neg c5] at H
     have c5b0 := decide_eq_false c5
     clear c5
     (first | rw [c5b0] | (simp only [Qbw, Qbx]; rw [c5b0]) | skip)
     have H' := As0 H
     clear H
     go_wp2
     go_meet
     case rel => exact ⟨_, (false), eR, H', ⟨by have := HK1.out; first | omega | exact Nat.le_refl _⟩, ⟨BU HB.out⟩⟩
    rw [if_pos c5] at H
    have c5b0 := decide_eq_true c5
    clear c5
    (first | rw [c5b0] | (simp only [Qbw, Qbx]; rw [c5b0]) | skip)
    by_cases c6 : 0 ≤ x1_1
    rotate_left
    ·rw [if_neg c6] at H
     exact absurd H (by simp)
    rw [if_pos c6] at H
    have c6b0 := decide_eq_true c6
    clear c6
    replace H := Option.bind_eq_some_iff.mp H
    obtain ⟨t270, A70, H⟩ := H
    have A7 := As0 A70
    clear A70
    have H' := As0 H
    clear H
    have p269 : 0 ≤ (x1_1 : Int) := qR
    have q269 : x1_1 < (l0.length : Int) := qR
    obtain ⟨ad269, e269, hx269_0, hx269_1, hx269_2, hx269_3, hx269_4, hx269_5, hx269_6⟩ := at_T59 HR0.out x1_1 p269 q269
    cases e269
    replace hx269_0 := cl HB hx269_0
    replace hx269_1 := cl HB hx269_1
    replace hx269_2 := cl HB hx269_2
    replace hx269_3 := cl HB hx269_3
    replace hx269_4 := cl HB hx269_4
    replace hx269_5 := cl HB hx269_5
    replace hx269_6 := cl HB hx269_6
    replace p269 := eq_true p269
    replace q269 := eq_true q269
    go_wp2_with (first | (go_at_call 113; (with_reducible refine (align_moved.calls ((Qai l0 x1_1).f0) ((Qai l0 x1_1).f1) ((Qai l0 x1_1).f2) ((Qai l0 x1_1).f3) ((Qai l0 x1_1).f4) ((Qai l0 x1_1).f5) ((Qai l0 x1_1).f6) t270 _ A7.out).mono ?_); rintro e w8 ⟨rfl, hb⟩; replace HB := As0 (Qbj (BU HB.out) hb); (try clear hb)))
    go_meet
    case rel => exact ⟨_, (t270), eR, H', ⟨by have := HK1.out; first | omega | exact Nat.le_refl _⟩, ⟨BU HB.out⟩⟩
   case rest =>
    clear HC4
    obtain ⟨kq, x18_3, rfl, HA, HJ3, HB⟩ := hcut
    cases kq with
    | zero => exact absurd HA.out (by simp [Qao.j1])
    | succ kj3 =>
     have H := HA.out
     clear HA
     simp only [Qao.j1] at H
     by_cases c9 : x18_3 = true
     rotate_left
     ·replace c9 := Bool.eq_false_iff.mpr c9
      subst c9
      rw [if_neg bF] at H
      obtain rfl := Option.some.inj H
      go_wp2
      go_ret
      exact ⟨oR, BU HB.out⟩
     subst c9
     rw [if_pos rfl] at H
     have H' := As0 H
     clear H
     go_wp2
     go_roundg kj3
     case measure => have := HK1.out; have := HJ3.out; omega
     case rel => exact ⟨(wrap64 (x1_1 + 1)), eR, H', ⟨by have := HK1.out; have := HJ3.out; omega⟩, ⟨BU HB.out⟩⟩
mutual
def Qal.l0 : Nat → List (S41) → List (S59) → List (S180) → Int → Int → Option ((List (S180)) × Int × Int)
 | 0, _, _, _, _, _ => none
 | k + 1, x0, x1, x7, x8, x9 => (Qak.f k x0 x8).bind fun t271 => ((Qao.f k x1 x9).bind fun t272 => (if t271 = (x0.length : Int) then (Qal.j1 k x0 x1 x7 t271 t272 (t272 == (x1.length : Int)) x8 t271 x9 t272 0 0) else (Qal.j1 k x0 x1 x7 t271 t272 false x8 t271 x9 t272 0 0)))
def Qal.j1 : Nat → List (S41) → List (S59) → List (S180) → Int → Int → Bool → Int → Int → Int → Int → Int → Int → Option ((List (S180)) × Int × Int)
 | 0, _, _, _, _, _, _, _, _, _, _, _, _ => none
 | k + 1, x0, x1, x7, x8, x9, x33, x274000, x274001, x274002, x274003, x274004, x274005 => if x33 = true then (if x7.length < 2932031007402 then (some ((x7 ++ [(⟨x274000, x274001, x274002, x274003, (-1), (-1)⟩ : S180)]), x9, 0)) else (none)) else (if x8 = (x0.length : Int) then (Qal.j2 k x0 x1 x7 x8 x9 true x274000 x274001 x274002 x274003 x274004 x274005) else (if x9 = (x1.length : Int) then (Qal.j2 k x0 x1 x7 x8 x9 true x274000 x274001 x274002 x274003 x274004 x274005) else (if 0 ≤ x8 then (if x8 < (x0.length : Int) then (if 0 ≤ x9 then (if x9 < (x1.length : Int) then ((align_Same.f ((Qaw x0 x8).f0) ((Qaw x0 x8).f1) ((Qaw x0 x8).f2) ((Qaw x0 x8).f3) ((Qaw x0 x8).f4) ((Qai x1 x9).f0) ((Qai x1 x9).f1) ((Qai x1 x9).f2) ((Qai x1 x9).f3) ((Qai x1 x9).f4) ((Qai x1 x9).f5) ((Qai x1 x9).f6)).bind fun t279 => (Qal.j2 k x0 x1 x7 x8 x9 (!t279) x274000 x274001 x274002 x274003 x274004 x274005)) else (none)) else (none)) else (none)) else (none))))
def Qal.j2 : Nat → List (S41) → List (S59) → List (S180) → Int → Int → Bool → Int → Int → Int → Int → Int → Int → Option ((List (S180)) × Int × Int)
 | 0, _, _, _, _, _, _, _, _, _, _, _, _ => none
 | k + 1, x0, x1, x7, x8, x9, x62, x274000, x274001, x274002, x274003, x274004, x274005 => if x62 = true then (some (([] : List (S180)), x9, 20)) else (if x7.length < 2932031007402 then (Qal.l0 k x0 x1 (x7 ++ [(⟨x274000, x274001, x274002, x274003, x8, x9⟩ : S180)]) (wrap64 (x8 + 1)) (wrap64 (x9 + 1))) else (none))
end
def Qal.f (k : Nat) (l0 : List (S41)) (l1 : List (S59)) : Option ((List (S180)) × Int × Int) := Qal.l0 k l0 l1 ([] : List (S180)) 0 0
def Qal.T8 : Bool × List (List Nat × List Nat) := (true, [([], []), ([], []), ([1], [1]), ([0, 2], [0, 2]), ([3], [3]), ([4], [4]), ([4], [4]), ([6, 4], [4, 6]), ([5, 7, 4], [4, 5, 7]), ([4, 8], [4, 8]), ([9, 4], [9]), ([10], [10]), ([10], [10]), ([11, 12, 10], [10, 11, 12]), ([13, 10], [10, 13]), ([10], [10]), ([10], [10]), ([15, 16, 10], [10, 15, 16]), ([17, 10], [10, 17]), ([14, 18, 10, 10], [10, 14, 18]), ([19, 10], [10, 19]), ([10, 20], [10, 20])])
def Qal.B8 : List Nat := [0, 0, 2, 7, 15, 31, 31, 95, 255, 511, 1023, 2047, 2047, 8191, 16383, 2047, 2047, 100351, 231423, 524287, 1048575, 2097151]
theorem Qal.tab8 : rtab .any (opsOf Tryz.f63 8) = Qal.T8 := by kernel_rfl
theorem Qal.bits8 : Qcw Qal.T8.2 Qal.B8 = true := by kernel_rfl
theorem Qal.calls (k : Nat) (A0 : Option Addr) (c0 : Nat) (l0 : List (S41)) (A1 : Option Addr) (c1 : Nat) (l1 : List (S59)) (r1 : List (S180)) (r2 : Int) (r3 : Int) (w : World) (hr0 : Kd.C k41 w A0 l0.length l0) (hc0 : l0.length ≤ c0) (hr1 : Kd.C k59 w A1 l1.length l1) (hc1 : l1.length ≤ c1) (h : Qal.f k l0 l1 = some (r1, r2, r3)) :
  Calls Tryz.prog 63 #[.slice A0 l0.length c0, .slice A1 l1.length c1] w fun e w' => ∃ v0_ : Value, e = .returned (.tuple #[v0_, .int .i64 r2, .int .i64 r3]) ∧ Kd.R k180 180 w' w.heap.size (fun _ => True) v0_ r1 ∧ Below w.heap.size w w' := by
 have hu180 := Tryz.underlying180
 have hu41 := Tryz.underlying41
 have hu59 := Tryz.underlying59
 have HR0 := As0 hr0
 have HC0 := As0 hc0
 clear hr0 hc0
 have HR1 := As0 hr1
 have HC1 := As0 hc1
 clear hr1 hc1
 have HB := As0 (Below.refl w.heap.size w)
 have H : (Qal.l0 k l0 l1 ([] : List (S180)) 0 0) = some (r1, r2, r3) := h
 clear h
 have H' := As0 H
 clear H
 go_enter Tryz.func63, Tryz.ntmps63
 go_wp2
 go_loopg [7, 8, 9] k (fun kq v7 v8 v9 w' => ∃ (x7_1 : List (S180)) (x8_1 : Int) (x9_1 : Int), v8 = .int .i64 x8_1 ∧ v9 = .int .i64 x9_1 ∧ Qbm (Qal.l0 kq l0 l1 x7_1 x8_1 x9_1 = some (r1, r2, r3)) ∧ Qbm (kq ≤ k) ∧ Qbm (Kd.R k180 180 w' w.heap.size (fun _ => True) v7 x7_1) ∧ Qbm (Below w.heap.size w w'))
 case atStart => exact ⟨(([] : List (S180))), (0), (0), eR, eR, H', ⟨Nat.le_refl _⟩, ⟨by first | exact Kd.R_nil _ _ _ _ _ | exact Kd.N_nil _ _ _ _ _ | exact Kd.V_nil _ _ _ _ _ | exact Kd.Q_nil _ _ _ _ _ | exact Kd.S_nil _ _ _ _ _⟩, ⟨BU HB.out⟩⟩
 case round =>
  clear H'
  obtain ⟨x7_1, x8_1, x9_1, rfl, rfl, HA, HK1, HO_7, HB⟩ := hrel
  cases gk with
  | zero => exact absurd HA.out (by simp [Qal.l0])
  | succ k1 =>
   have H := HA.out
   clear HA
   simp only [Qal.l0] at H
   replace H := Option.bind_eq_some_iff.mp H
   obtain ⟨t271, A30, H⟩ := H
   have A3 := As0 A30
   clear A30
   replace H := Option.bind_eq_some_iff.mp H
   obtain ⟨t272, A40, H⟩ := H
   have A4 := As0 A40
   clear A40
   have HC5 := As0 H
   clear H
   try go_wp2_with (first | ((with_reducible refine Qbq (f := 110) rfl ?_); refine gL (some 14) Tryz.func110 #[.slice A0 l0.length c0, .int .i64 x8_1, .func (.func 111) #[] #[]] ?_; (with_reducible refine (Qak.calls k1 _ _ l0 x8_1 t271 _ ?side1 ?side2 A3.out).mono ?_); (case side1 => exact CU (Kd.C_below HR0.out HB.out)); (case side2 => exact HC0.out); rintro e w6 ⟨rfl, hb⟩; refine ⟨_, rfl, ?_⟩; replace HO_7 := As0 (Kd.R_below (RU HO_7.out) hb); replace HB := As0 (Qbj (BU HB.out) hb); (try clear hb)) | ((with_reducible refine Qbq (f := 112) rfl ?_); refine gL (some 18) Tryz.func112 #[.slice A1 l1.length c1, .int .i64 x9_1, .func (.func 113) #[] #[]] ?_; (with_reducible refine (Qao.calls k1 _ _ l1 x9_1 t272 _ ?side1 ?side2 A4.out).mono ?_); (case side1 => exact CU (Kd.C_below HR1.out HB.out)); (case side2 => exact HC1.out); rintro e w7 ⟨rfl, hb⟩; refine ⟨_, rfl, ?_⟩; replace HO_7 := As0 (Kd.R_below (RU HO_7.out) hb); replace HB := As0 (Qbj (BU HB.out) hb); (try clear hb)) | ((with_reducible refine Qbn (N := 10) rfl ?_); (try (refine Qb7 (by rfl) ?_; dsimp only)); refine bX (N := 10) (cs := #[.int .i64 0, .int .i64 0, .int .i64 0, .int .i64 0, .int .i64 0, .int .i64 0]) (t := 180) ?_; intro gb273 hg w8 hbox hb; replace HO_7 := As0 (Kd.R_below (Kd.R_elderB (RU HO_7.out) gb273 (Nat.le_of_eq hg.symm)) hb); have BK273 := As0 (hbox); have GW273 := gW hg HB.out; have GE273 := GW273; replace HB := As0 (Qbj (BU HB.out) hb); clear hb hbox hg; obtain ⟨z9_0, z9_1, z9_2, z9_3, z9_4, z9_5, y_9_0, y_9_1, y_9_2, y_9_3, y_9_4, y_9_5⟩ := cN6 BK273.out))
   have n0_ : Qbm (Kd.R k180 180 ((((((w8.setCell ⟨gb273, 0, none⟩ (.int .i64 x8_1)).setCell ⟨gb273, 1, none⟩ (.int .i64 t271)).setCell ⟨gb273, 2, none⟩ (.int .i64 x9_1)).setCell ⟨gb273, 3, none⟩ (.int .i64 t272)).setCell ⟨gb273, 4, none⟩ (.int .i64 0)).setCell ⟨gb273, 5, none⟩ (.int .i64 0)) w.heap.size (fun k_ => k_ ≠ gb273) u7 x7_1) := ⟨RU (Kd.R_mono (RF gb273 5 (RF gb273 4 (RF gb273 3 (RF gb273 2 (RF gb273 1 (RF gb273 0 (Kd.R_mono HO_7.out (fun k_ hk => (⟨hk, hk.2⟩ : _ ∧ k_ ≠ gb273))) (.int .i64 x8_1)) (.int .i64 t271)) (.int .i64 x9_1)) (.int .i64 t272)) (.int .i64 0)) (.int .i64 0)) (fun _ hk => hk.1.2))⟩
   have n1_ : Qbm (((((((w8.setCell ⟨gb273, 0, none⟩ (.int .i64 x8_1)).setCell ⟨gb273, 1, none⟩ (.int .i64 t271)).setCell ⟨gb273, 2, none⟩ (.int .i64 x9_1)).setCell ⟨gb273, 3, none⟩ (.int .i64 t272)).setCell ⟨gb273, 4, none⟩ (.int .i64 0)).setCell ⟨gb273, 5, none⟩ (.int .i64 0)).heap[gb273]? = some (.cells #[.int .i64 x8_1, .int .i64 t271, .int .i64 x9_1, .int .i64 t272, .int .i64 0, .int .i64 0] 180 (0, 0))) := ⟨kV BK273⟩
   have n2_ : Qbm (Below w.heap.size w ((((((w8.setCell ⟨gb273, 0, none⟩ (.int .i64 x8_1)).setCell ⟨gb273, 1, none⟩ (.int .i64 t271)).setCell ⟨gb273, 2, none⟩ (.int .i64 x9_1)).setCell ⟨gb273, 3, none⟩ (.int .i64 t272)).setCell ⟨gb273, 4, none⟩ (.int .i64 0)).setCell ⟨gb273, 5, none⟩ (.int .i64 0))) := ⟨BU HB.out⟩
   (try clear HO_7)
   (try clear BK273)
   (try clear HB)
   generalize ((((((w8.setCell ⟨gb273, 0, none⟩ (.int .i64 x8_1)).setCell ⟨gb273, 1, none⟩ (.int .i64 t271)).setCell ⟨gb273, 2, none⟩ (.int .i64 x9_1)).setCell ⟨gb273, 3, none⟩ (.int .i64 t272)).setCell ⟨gb273, 4, none⟩ (.int .i64 0)).setCell ⟨gb273, 5, none⟩ (.int .i64 0)) = w10 at n0_ n1_ n2_ ⊢
   have HO_7 := n0_
   have BK273 := n1_
   have HB := n2_
   clear n0_ n1_ n2_
   replace HO_7 := As0 (Kd.R_drew HO_7.out)
   replace BK273 := As0 (Qbu BK273.out)
   replace HB := As0 (bd1 HB.out)
   refine Qcd (n := 6) (S := fun w' => w'.cell? ⟨gb273, 0, none⟩ = some (.int .i64 x8_1) ∧ w'.cell? ⟨gb273, 1, none⟩ = some (.int .i64 t271) ∧ w'.cell? ⟨gb273, 2, none⟩ = some (.int .i64 x9_1) ∧ w'.cell? ⟨gb273, 3, none⟩ = some (.int .i64 t272) ∧ w'.cell? ⟨gb273, 4, none⟩ = some (.int .i64 0) ∧ w'.cell? ⟨gb273, 5, none⟩ = some (.int .i64 0)) (ds := []) (bb 6 0) (by kernel_rfl) rfl rfl ⟨bc BK273 0, bc BK273 1, bc BK273 2, bc BK273 3, bc BK273 4, bc BK273 5⟩ (fun hHeld => ?_)
   generalize w10.drew = w11 at HO_7 BK273 HB hHeld ⊢
   refine pu 0 20 (bb 6 1) ?_
   refine pu 2 22 (bb 6 5) ?_
   refine tu hHeld 1 21 (bb 6 7) ?_
   refine pu 4 8 (bb 6 23) ?_
   refine tu hHeld 3 23 (bb 6 31) ?_
   refine pu 5 9 (bb 6 63) ?_
   refine Qc0 (by kernel_rfl) ?_
   go_upto_region 5 with (fail)
   go_cut [33] (fun v33 wc => ∃ (kq : Nat) (x33_4 : Bool), v33 = .bool x33_4 ∧ Qbm (Qal.j1 kq l0 l1 x7_1 t271 t272 x33_4 x8_1 t271 x9_1 t272 0 0 = some (r1, r2, r3)) ∧ Qbm (kq ≤ k1) ∧ Qbm (Kd.R k180 180 wc w.heap.size (fun k_ => k_ ≠ gb273) u7 x7_1) ∧ Qbm (wc.heap[gb273]? = some (.cells #[.int .i64 x8_1, .int .i64 t271, .int .i64 x9_1, .int .i64 t272, .int .i64 0, .int .i64 0] 180 (0, 0))) ∧ Qbm (Below w.heap.size w wc))
   case first =>
    have H := HC5.out
    clear HC5
    by_cases c12 : t271 = (l0.length : Int)
    rotate_left
    ·rw [if_neg c12] at H
     have c12b0 : (t271 == (l0.length : Int)) = false := beq_eq_false_iff_ne.mpr c12
     have c12b1 : (t271 != (l0.length : Int)) = true := bne_iff_ne.mpr c12
     (first | rw [c12b0] | (simp only [Qbw, Qbx]; rw [c12b0]) | skip)
     have H' := As0 H
     clear H
     go_wp2
     go_meet
     case rel => exact ⟨_, (false), eR, H', ⟨by have := HK1.out; first | omega | exact Nat.le_refl _⟩, ⟨RU HO_7.out⟩, ⟨bU BK273.out⟩, ⟨BU HB.out⟩⟩
    rw [if_pos c12] at H
    have c12b0 : (t271 == (l0.length : Int)) = true := beq_iff_eq.mpr c12
    have c12b1 : (t271 != (l0.length : Int)) = false := bne_eq_false_iff_eq.mpr c12
    clear c12
    (first | rw [c12b0] | (simp only [Qbw, Qbx]; rw [c12b0]) | skip)
    have H' := As0 H
    clear H
    go_wp2
    go_meet
    case rel => exact ⟨_, ((t272 == (l1.length : Int))), eR, H', ⟨by have := HK1.out; first | omega | exact Nat.le_refl _⟩, ⟨RU HO_7.out⟩, ⟨bU BK273.out⟩, ⟨BU HB.out⟩⟩
   case rest =>
    clear HC5
    obtain ⟨kq, x33_4, rfl, HA, HJ4, HO_7, BK273, HB⟩ := hcut
    cases kq with
    | zero => exact absurd HA.out (by simp [Qal.j1])
    | succ kj4 =>
     have H := HA.out
     clear HA
     simp only [Qal.j1] at H
     by_cases c13 : x33_4 = true
     ·subst c13
      rw [if_pos rfl] at H
      by_cases c14 : x7_1.length < 2932031007402
      rotate_left
      ·rw [if_neg c14] at H
       exact absurd H (by simp)
      rw [if_pos c14] at H
      have LMc14 := As0 c14
      clear c14
      obtain ⟨y274, hy274⟩ : ∃ y_ : List (S180), y_ = (x7_1 ++ [(⟨x8_1, t271, x9_1, t272, (-1), (-1)⟩ : S180)]) := ⟨_, rfl⟩
      replace H : (some (y274, t272, 0)) = some (r1, r2, r3) := by first | (rw [hy274]; with_reducible exact H) | (have H2_ := (Option.bind_some _ _).symm.trans H; rw [hy274]; with_reducible exact H2_) | (have H2_ := (Option.bind_some _ _).symm.trans H; with_reducible exact H2_) | with_reducible exact H | (rw [hy274]; exact H) | exact H
      have Ny274 := As0 hy274
      clear hy274
      simp only [Option.some.injEq, Prod.mk.injEq] at H
      obtain ⟨rfl, rfl, rfl⟩ := H
      obtain ⟨z15_0, z15_1, z15_2, z15_3, z15_4, z15_5, y_15_0, y_15_1, y_15_2, y_15_3, y_15_4, y_15_5⟩ := cN6 BK273.out
      go_wp2_with (first | ((with_reducible refine Qca (b := .append) (xs := #[.tmp 36, .tmp 38]) rfl ?_); (try (refine Qb7 (by rfl) ?_; dsimp only)); at_builtin; refine Kd.R_append k180 (w0 := w) w.heap.size rfl (.tmp 36) (.tmp 38) 121 180 (.agg #[(.int .i64 0), (.int .i64 0), (.int .i64 0), (.int .i64 0), (.int .i64 0), (.int .i64 0)]) 48 rfl Tryz.underlying121 info180 rfl (by decide) (by omega) u7 x7_1 (⟨x8_1, t271, x9_1, t272, (-1), (-1)⟩ : S180) [.int .i64 x8_1, .int .i64 t271, .int .i64 x9_1, .int .i64 t272, .int .i64 (-1), .int .i64 (-1)] (fun k_ => k_ ≠ gb273) (fun _ => False) rfl (by first | (go_simp; done) | (go_simp; rfl)) ?aP (fun _ hk => hk.elim) ?aF ?aO ?aB ?aS ?aL ?_; (case aP => exact k180_mkM _ _ _ (⟨x8_1, t271, x9_1, t272, (-1), (-1)⟩ : S180)); (case aB => exact (BU HB.out)); (case aF => exact (fun k_ hk => Kd.freshB (g := gb273) (o := .cells #[.int .i64 x8_1, .int .i64 t271, .int .i64 x9_1, .int .i64 t272, .int .i64 (-1), .int .i64 (-1)] 180 (0, 0)) (kV BK273) k_ hk)); (case aO => exact (RU (Kd.R_mono (RF gb273 5 (RF gb273 4 (Kd.R_mono HO_7.out (fun k_ hk => (⟨hk, hk⟩ : _ ∧ k_ ≠ gb273))) (.int .i64 (-1))) (.int .i64 (-1))) (fun _ hk => hk.1)))); (case aS => exact (Qbp (BU HB.out))); (case aL => have := LMc14.out; omega); intro v275 w16 ho hb hg hat; rw [← Ny274.out] at ho; replace BK273 := As0 (Qby (g := gb273) (o := .cells #[.int .i64 x8_1, .int .i64 t271, .int .i64 x9_1, .int .i64 t272, .int .i64 (-1), .int .i64 (-1)] 180 (0, 0)) (kV BK273) hg (Kd.R_away HO_7.out (fun _ hk => hk))); replace HB := As0 (hb); have HO276 := As0 (ho); clear HO_7 ho hb hg hat))
      go_ret3
      exact ⟨_, by first | rfl | (simp [Qbg, Qbf] <;> rfl) | (simp [*, Qbg, Qbf] <;> rfl), RU (Kd.R_mono HO276.out (fun _ hk => trivial)), BU HB.out⟩
     replace c13 := Bool.eq_false_iff.mpr c13
     subst c13
     rw [if_neg bF] at H
     have HC17 := As0 H
     clear H
     go_upto_region 8 with (fail)
     go_cut [62] (fun v62 wc => ∃ (kq : Nat) (x62_16 : Bool), v62 = .bool x62_16 ∧ Qbm (Qal.j2 kq l0 l1 x7_1 t271 t272 x62_16 x8_1 t271 x9_1 t272 0 0 = some (r1, r2, r3)) ∧ Qbm (kq ≤ kj4) ∧ Qbm (Kd.R k180 180 wc w.heap.size (fun k_ => k_ ≠ gb273) u7 x7_1) ∧ Qbm (wc.heap[gb273]? = some (.cells #[.int .i64 x8_1, .int .i64 t271, .int .i64 x9_1, .int .i64 t272, .int .i64 0, .int .i64 0] 180 (0, 0))) ∧ Qbm (Below w.heap.size w wc))
     case first =>
      have H := HC17.out
      clear HC17
      by_cases c18 : t271 = (l0.length : Int)
      ·rw [if_pos c18] at H
       have c18b0 : (t271 == (l0.length : Int)) = true := beq_iff_eq.mpr c18
       have c18b1 : (t271 != (l0.length : Int)) = false := bne_eq_false_iff_eq.mpr c18
       clear c18
       (first | rw [c18b0] | (simp only [Qbw, Qbx]; rw [c18b0]) | skip)
       have H' := As0 H
       clear H
       try go_wp2
       replace HO_7 := As0 (Kd.R_drew HO_7.out)
       replace BK273 := As0 (Qbu BK273.out)
       replace HB := As0 (bd1 HB.out)
       refine Qcd (n := 22) (S := fun w' => True) (ds := []) (bb 22 0) (by kernel_rfl) rfl rfl trivial (fun hHeld => ?_); refine Qcf Qal.tab8 Qal.bits8 (fun HT_ HW_ => ?_)
       generalize wc.drew = w19 at HO_7 BK273 HB hHeld ⊢
       refine pv HT_.out 0 41 (bb 22 1) ?_
       refine pv HT_.out 1 42 (bb 22 3) ?_
       refine pv HT_.out 2 43 (bb 22 7) ?_
       refine pv HT_.out 3 44 (bb 22 15) ?_
       refine pv HT_.out 4 45 (bb 22 31) ?_
       refine py HT_.out 5 46 (bb 22 63) ?_
       refine py HT_.out 6 47 (bb 22 127) ?_
       refine py HT_.out 7 48 (bb 22 255) ?_
       refine py HT_.out 8 49 (bb 22 511) ?_
       refine pv HT_.out 9 50 (bb 22 1023) ?_
       refine pv HT_.out 10 51 (bb 22 2047) ?_
       refine py HT_.out 11 52 (bb 22 4095) ?_
       refine py HT_.out 12 53 (bb 22 8191) ?_
       refine py HT_.out 13 54 (bb 22 16383) ?_
       refine py HT_.out 14 55 (bb 22 32767) ?_
       refine py HT_.out 15 56 (bb 22 65535) ?_
       refine py HT_.out 16 57 (bb 22 131071) ?_
       refine py HT_.out 17 58 (bb 22 262143) ?_
       refine py HT_.out 18 59 (bb 22 524287) ?_
       refine py HT_.out 19 60 (bb 22 1048575) ?_
       refine py HT_.out 20 61 (bb 22 2097151) ?_
       refine pv HT_.out 21 62 (bb 22 4194303) ?_
       refine Qc0 (Qct HT_.out (by kernel_rfl)) ?_
       try go_wp2
       go_meet
       case rel => exact ⟨_, (true), eR, H', ⟨by have := HK1.out; have := HJ4.out; first | omega | exact Nat.le_refl _⟩, ⟨RU HO_7.out⟩, ⟨bU BK273.out⟩, ⟨BU HB.out⟩⟩
      rw [if_neg c18] at H
      have c18b0 : (t271 == (l0.length : Int)) = false := beq_eq_false_iff_ne.mpr c18
      have c18b1 : (t271 != (l0.length : Int)) = true := bne_iff_ne.mpr c18
      (first | rw [c18b0] | (simp only [Qbw, Qbx]; rw [c18b0]) | skip)
      by_cases c20 : t272 = (l1.length : Int)
      ·rw [if_pos c20] at H
       have c20b0 : (t272 == (l1.length : Int)) = true := beq_iff_eq.mpr c20
       have c20b1 : (t272 != (l1.length : Int)) = false := bne_eq_false_iff_eq.mpr c20
       clear c20
       have H' := As0 H
       clear H
       try go_wp2
       replace HO_7 := As0 (Kd.R_drew HO_7.out)
       replace BK273 := As0 (Qbu BK273.out)
       replace HB := As0 (bd1 HB.out)
       refine Qcd (n := 22) (S := fun w' => True) (ds := []) (bb 22 0) (by kernel_rfl) rfl rfl trivial (fun hHeld => ?_); refine Qcf Qal.tab8 Qal.bits8 (fun HT_ HW_ => ?_)
       generalize wc.drew = w21 at HO_7 BK273 HB hHeld ⊢
       refine pv HT_.out 0 41 (bb 22 1) ?_
       refine pv HT_.out 1 42 (bb 22 3) ?_
       refine pv HT_.out 2 43 (bb 22 7) ?_
       refine pv HT_.out 3 44 (bb 22 15) ?_
       refine pv HT_.out 4 45 (bb 22 31) ?_
       refine pv HT_.out 5 46 (bb 22 63) ?_
       refine pv HT_.out 6 47 (bb 22 127) ?_
       refine pv HT_.out 7 48 (bb 22 255) ?_
       refine pv HT_.out 8 49 (bb 22 511) ?_
       refine pv HT_.out 9 50 (bb 22 1023) ?_
       refine pv HT_.out 10 51 (bb 22 2047) ?_
       refine py HT_.out 11 52 (bb 22 4095) ?_
       refine py HT_.out 12 53 (bb 22 8191) ?_
       refine py HT_.out 13 54 (bb 22 16383) ?_
       refine py HT_.out 14 55 (bb 22 32767) ?_
       refine py HT_.out 15 56 (bb 22 65535) ?_
       refine py HT_.out 16 57 (bb 22 131071) ?_
       refine py HT_.out 17 58 (bb 22 262143) ?_
       refine py HT_.out 18 59 (bb 22 524287) ?_
       refine py HT_.out 19 60 (bb 22 1048575) ?_
       refine py HT_.out 20 61 (bb 22 2097151) ?_
       refine pv HT_.out 21 62 (bb 22 4194303) ?_
       refine Qc0 (Qct HT_.out (by kernel_rfl)) ?_
       try go_wp2
       go_meet
       case rel => exact ⟨_, (true), eR, H', ⟨by have := HK1.out; have := HJ4.out; first | omega | exact Nat.le_refl _⟩, ⟨RU HO_7.out⟩, ⟨bU BK273.out⟩, ⟨BU HB.out⟩⟩
      rw [if_neg c20] at H
      have c20b0 : (t272 == (l1.length : Int)) = false := beq_eq_false_iff_ne.mpr c20
      have c20b1 : (t272 != (l1.length : Int)) = true := bne_iff_ne.mpr c20
      by_cases c22 : 0 ≤ t271
      rotate_left
      ·rw [if_neg c22] at H
       exact absurd H (by simp)
      rw [if_pos c22] at H
      have c22b0 := decide_eq_true c22
      clear c22
      by_cases c23 : t271 < (l0.length : Int)
      rotate_left
      ·rw [if_neg c23] at H
       exact absurd H (by simp)
      rw [if_pos c23] at H
      have c23b0 := decide_eq_true c23
      clear c23
      by_cases c24 : 0 ≤ t272
      rotate_left
      ·rw [if_neg c24] at H
       exact absurd H (by simp)
      rw [if_pos c24] at H
      have c24b0 := decide_eq_true c24
      clear c24
      by_cases c25 : t272 < (l1.length : Int)
      rotate_left
      ·rw [if_neg c25] at H
       exact absurd H (by simp)
      rw [if_pos c25] at H
      have c25b0 := decide_eq_true c25
      clear c25
      replace H := Option.bind_eq_some_iff.mp H
      obtain ⟨t279, A260, H⟩ := H
      have A26 := As0 A260
      clear A260
      have H' := As0 H
      clear H
      try go_wp2
      replace HO_7 := As0 (Kd.R_drew HO_7.out)
      replace BK273 := As0 (Qbu BK273.out)
      replace HB := As0 (bd1 HB.out)
      have p277 : 0 ≤ (t271 : Int) := qR
      have q277 : t271 < (l0.length : Int) := qR
      obtain ⟨ad277, e277, hx277_0, hx277_1, hx277_2, hx277_3, hx277_4⟩ := at_T41 HR0.out t271 p277 q277
      have hw277_4 := hx277_4
      have hw277_3 := hx277_3
      have hw277_2 := hx277_2
      have hw277_1 := hx277_1
      have hw277_0 := hx277_0
      cases e277
      replace hx277_0 := cl HB hx277_0
      replace hx277_1 := cl HB hx277_1
      replace hx277_2 := cl HB hx277_2
      replace hx277_3 := cl HB hx277_3
      replace hx277_4 := cl HB hx277_4
      replace p277 := eq_true p277
      replace q277 := eq_true q277
      have p278 : 0 ≤ (t272 : Int) := qR
      have q278 : t272 < (l1.length : Int) := qR
      obtain ⟨ad278, e278, hx278_0, hx278_1, hx278_2, hx278_3, hx278_4, hx278_5, hx278_6⟩ := at_T59 HR1.out t272 p278 q278
      have hw278_6 := hx278_6
      have hw278_5 := hx278_5
      have hw278_4 := hx278_4
      have hw278_3 := hx278_3
      have hw278_2 := hx278_2
      have hw278_1 := hx278_1
      have hw278_0 := hx278_0
      cases e278
      replace hx278_0 := cl HB hx278_0
      replace hx278_1 := cl HB hx278_1
      replace hx278_2 := cl HB hx278_2
      replace hx278_3 := cl HB hx278_3
      replace hx278_4 := cl HB hx278_4
      replace hx278_5 := cl HB hx278_5
      replace hx278_6 := cl HB hx278_6
      replace p278 := eq_true p278
      replace q278 := eq_true q278
      refine Qcd (n := 22) (S := fun w' => w'.cell? (ad277.add ((t271).toNat * 5)) = some (.int .i64 ((Qaw l0 t271).f0)) ∧ w'.cell? ⟨(ad277.add ((t271).toNat * 5)).block, (ad277.add ((t271).toNat * 5)).off + 1, none⟩ = some (.int .i64 ((Qaw l0 t271).f1)) ∧ w'.cell? ⟨(ad277.add ((t271).toNat * 5)).block, (ad277.add ((t271).toNat * 5)).off + 2, none⟩ = some (.int .i64 ((Qaw l0 t271).f2)) ∧ w'.cell? ⟨(ad277.add ((t271).toNat * 5)).block, (ad277.add ((t271).toNat * 5)).off + 3, none⟩ = some (.int .i64 ((Qaw l0 t271).f3)) ∧ w'.cell? ⟨(ad277.add ((t271).toNat * 5)).block, (ad277.add ((t271).toNat * 5)).off + 4, none⟩ = some (.int .i64 ((Qaw l0 t271).f4)) ∧ w'.cell? (ad278.add ((t272).toNat * 7)) = some (.int .i64 ((Qai l1 t272).f0)) ∧ w'.cell? ⟨(ad278.add ((t272).toNat * 7)).block, (ad278.add ((t272).toNat * 7)).off + 1, none⟩ = some (.int .i64 ((Qai l1 t272).f1)) ∧ w'.cell? ⟨(ad278.add ((t272).toNat * 7)).block, (ad278.add ((t272).toNat * 7)).off + 2, none⟩ = some (.int .i64 ((Qai l1 t272).f2)) ∧ w'.cell? ⟨(ad278.add ((t272).toNat * 7)).block, (ad278.add ((t272).toNat * 7)).off + 3, none⟩ = some (.int .i64 ((Qai l1 t272).f3)) ∧ w'.cell? ⟨(ad278.add ((t272).toNat * 7)).block, (ad278.add ((t272).toNat * 7)).off + 4, none⟩ = some (.int .i64 ((Qai l1 t272).f4)) ∧ w'.cell? ⟨(ad278.add ((t272).toNat * 7)).block, (ad278.add ((t272).toNat * 7)).off + 5, none⟩ = some (.int .i64 ((Qai l1 t272).f5)) ∧ w'.cell? ⟨(ad278.add ((t272).toNat * 7)).block, (ad278.add ((t272).toNat * 7)).off + 6, none⟩ = some (.int .i64 ((Qai l1 t272).f6))) (ds := []) (bb 22 0) (by kernel_rfl) rfl rfl ⟨(cl HB hw277_0), (cl HB hw277_1), (cl HB hw277_2), (cl HB hw277_3), (cl HB hw277_4), (cl HB hw278_0), (cl HB hw278_1), (cl HB hw278_2), (cl HB hw278_3), (cl HB hw278_4), (cl HB hw278_5), (cl HB hw278_6)⟩ (fun hHeld => ?_); refine Qcf Qal.tab8 Qal.bits8 (fun HT_ HW_ => ?_)
      generalize wc.drew = w27 at HO_7 BK273 HB hx277_0 hx277_1 hx277_2 hx277_3 hx277_4 hx278_0 hx278_1 hx278_2 hx278_3 hx278_4 hx278_5 hx278_6 hHeld ⊢
      refine pv HT_.out 0 41 (bb 22 1) ?_
      refine pv HT_.out 1 42 (bb 22 3) ?_
      refine pv HT_.out 2 43 (bb 22 7) ?_
      refine pv HT_.out 3 44 (bb 22 15) ?_
      refine pv HT_.out 4 45 (bb 22 31) ?_
      refine pv HT_.out 5 46 (bb 22 63) ?_
      refine pv HT_.out 6 47 (bb 22 127) ?_
      refine pv HT_.out 7 48 (bb 22 255) ?_
      refine pv HT_.out 8 49 (bb 22 511) ?_
      refine pv HT_.out 9 50 (bb 22 1023) ?_
      refine pv HT_.out 10 51 (bb 22 2047) ?_
      refine pv HT_.out 11 52 (bb 22 4095) ?_
      refine pv HT_.out 12 53 (bb 22 8191) ?_
      refine pv HT_.out 13 54 (bb 22 16383) ?_
      refine pv HT_.out 15 56 (bb 22 49151) ?_
      refine pv HT_.out 16 57 (bb 22 114687) ?_
      refine pv HT_.out 17 58 (bb 22 245759) ?_
      refine tv hHeld HT_.out HW_.out 14 55 (bb 22 262143) ?_
      refine tv hHeld HT_.out HW_.out 18 59 (bb 22 524287) ?_
      refine one_ (i := 19) (N := some 60) (bb 22 1048575) rfl rfl (Qcl HT_.out (by kernel_rfl)) (by decide) (fun K hK => ?_)
      refine Qcz Tryz.func114 (by kernel_rfl) rfl #[.agg #[.int .i64 ((Qaw l0 t271).f0), .int .i64 ((Qaw l0 t271).f1), .int .i64 ((Qaw l0 t271).f2), .int .i64 ((Qaw l0 t271).f3), .int .i64 ((Qaw l0 t271).f4)], .agg #[.int .i64 ((Qai l1 t272).f0), .int .i64 ((Qai l1 t272).f1), .int .i64 ((Qai l1 t272).f2), .int .i64 ((Qai l1 t272).f3), .int .i64 ((Qai l1 t272).f4), .int .i64 ((Qai l1 t272).f5), .int .i64 ((Qai l1 t272).f6)]] (by rfl) rfl rfl (by (try simp only [List.map_toArray, List.map_cons, List.map_nil]); first | done | rfl | (simp only [List.length_drop, List.length_take]; rfl)) ?_
      with_reducible refine (align_Same.calls ((Qaw l0 t271).f0) ((Qaw l0 t271).f1) ((Qaw l0 t271).f2) ((Qaw l0 t271).f3) ((Qaw l0 t271).f4) ((Qai l1 t272).f0) ((Qai l1 t272).f1) ((Qai l1 t272).f2) ((Qai l1 t272).f3) ((Qai l1 t272).f4) ((Qai l1 t272).f5) ((Qai l1 t272).f6) t279 _ A26.out).mono ?_
      rintro e w28 ⟨rfl, hb⟩
      refine ⟨_, rfl, ?_⟩
      replace HO_7 := As0 (Kd.R_below (RU HO_7.out) hb)
      replace BK273 := kB BK273 hb
      replace HB := As0 (Qbj (BU HB.out) hb)
      (try clear hb)
      (try clear hb2)
      (try clear hk)
      (try clear hi)
      refine hK.out _ _ ⟨(cl HB hw277_0), (cl HB hw277_1), (cl HB hw277_2), (cl HB hw277_3), (cl HB hw277_4), (cl HB hw278_0), (cl HB hw278_1), (cl HB hw278_2), (cl HB hw278_3), (cl HB hw278_4), (cl HB hw278_5), (cl HB hw278_6)⟩ (fun hHeld => ?_)
      clear hK K
      refine Qb5 (a' := ?_) ?_ ?_
      rotate_left
      ·show Act.put _ (some 60) _ = _
       simp only [Act.put, sL1, sL2, sL3, Qbw, Qbx]
       rfl
      refine pv HT_.out 20 61 (bb 22 2097151) ?_
      refine pv HT_.out 21 62 (bb 22 4194303) ?_
      refine Qc0 (Qct HT_.out (by kernel_rfl)) ?_
      try go_wp2
      go_meet
      case rel => exact ⟨_, (!t279), eR, H', ⟨by have := HK1.out; have := HJ4.out; first | omega | exact Nat.le_refl _⟩, ⟨RU HO_7.out⟩, ⟨bU BK273.out⟩, ⟨BU HB.out⟩⟩
     case rest =>
      clear HC17
      obtain ⟨kq, x62_16, rfl, HA, HJ16, HO_7, BK273, HB⟩ := hcut
      cases kq with
      | zero => exact absurd HA.out (by simp [Qal.j2])
      | succ kj16 =>
       have H := HA.out
       clear HA
       simp only [Qal.j2] at H
       by_cases c29 : x62_16 = true
       ·subst c29
        rw [if_pos rfl] at H
        simp only [Option.some.injEq, Prod.mk.injEq] at H
        obtain ⟨rfl, rfl, rfl⟩ := H
        go_wp2
        go_ret3
        exact ⟨_, by first | rfl | (simp [Qbg, Qbf] <;> rfl) | (simp [*, Qbg, Qbf] <;> rfl), by first | exact Kd.R_nil _ _ _ _ _ | exact Kd.N_nil _ _ _ _ _ | exact Kd.V_nil _ _ _ _ _ | exact Kd.Q_nil _ _ _ _ _ | exact Kd.S_nil _ _ _ _ _, BU HB.out⟩
       replace c29 := Bool.eq_false_iff.mpr c29
       subst c29
       rw [if_neg bF] at H
       by_cases c30 : x7_1.length < 2932031007402
       rotate_left
       ·rw [if_neg c30] at H
        exact absurd H (by simp)
       rw [if_pos c30] at H
       have LMc30 := As0 c30
       clear c30
       obtain ⟨y280, hy280⟩ : ∃ y_ : List (S180), y_ = (x7_1 ++ [(⟨x8_1, t271, x9_1, t272, t271, t272⟩ : S180)]) := ⟨_, rfl⟩
       replace H : (Qal.l0 kj16 l0 l1 y280 (wrap64 (t271 + 1)) (wrap64 (t272 + 1))) = some (r1, r2, r3) := by first | (rw [hy280]; with_reducible exact H) | (have H2_ := (Option.bind_some _ _).symm.trans H; rw [hy280]; with_reducible exact H2_) | (have H2_ := (Option.bind_some _ _).symm.trans H; with_reducible exact H2_) | with_reducible exact H | (rw [hy280]; exact H) | exact H
       have Ny280 := As0 hy280
       clear hy280
       have H' := As0 H
       clear H
       obtain ⟨z31_0, z31_1, z31_2, z31_3, z31_4, z31_5, y_31_0, y_31_1, y_31_2, y_31_3, y_31_4, y_31_5⟩ := cN6 BK273.out
       go_wp2_with (first | ((with_reducible refine Qca (b := .append) (xs := #[.tmp 68, .tmp 70]) rfl ?_); (try (refine Qb7 (by rfl) ?_; dsimp only)); at_builtin; refine Kd.R_append k180 (w0 := w) w.heap.size rfl (.tmp 68) (.tmp 70) 121 180 (.agg #[(.int .i64 0), (.int .i64 0), (.int .i64 0), (.int .i64 0), (.int .i64 0), (.int .i64 0)]) 48 rfl Tryz.underlying121 info180 rfl (by decide) (by omega) u7 x7_1 (⟨x8_1, t271, x9_1, t272, t271, t272⟩ : S180) [.int .i64 x8_1, .int .i64 t271, .int .i64 x9_1, .int .i64 t272, .int .i64 t271, .int .i64 t272] (fun k_ => k_ ≠ gb273) (fun _ => False) rfl (by first | (go_simp; done) | (go_simp; rfl)) ?aP (fun _ hk => hk.elim) ?aF ?aO ?aB ?aS ?aL ?_; (case aP => exact k180_mkM _ _ _ (⟨x8_1, t271, x9_1, t272, t271, t272⟩ : S180)); (case aB => exact (BU HB.out)); (case aF => exact (fun k_ hk => Kd.freshB (g := gb273) (o := .cells #[.int .i64 x8_1, .int .i64 t271, .int .i64 x9_1, .int .i64 t272, .int .i64 t271, .int .i64 t272] 180 (0, 0)) (kV BK273) k_ hk)); (case aO => exact (RU (Kd.R_mono (RF gb273 5 (RF gb273 4 (Kd.R_mono HO_7.out (fun k_ hk => (⟨hk, hk⟩ : _ ∧ k_ ≠ gb273))) (.int .i64 t271)) (.int .i64 t272)) (fun _ hk => hk.1)))); (case aS => exact (Qbp (BU HB.out))); (case aL => have := LMc30.out; omega); intro v281 w32 ho hb hg hat; rw [← Ny280.out] at ho; replace BK273 := As0 (Qby (g := gb273) (o := .cells #[.int .i64 x8_1, .int .i64 t271, .int .i64 x9_1, .int .i64 t272, .int .i64 t271, .int .i64 t272] 180 (0, 0)) (kV BK273) hg (Kd.R_away HO_7.out (fun _ hk => hk))); replace HB := As0 (hb); have HO282 := As0 (ho); clear HO_7 ho hb hg hat))
       go_roundg kj16
       case measure => have := HK1.out; have := HJ4.out; have := HJ16.out; omega
       case rel => exact ⟨(y280), (wrap64 (t271 + 1)), (wrap64 (t272 + 1)), eR, eR, H', ⟨by have := HK1.out; have := HJ4.out; have := HJ16.out; omega⟩, ⟨RU (Kd.R_mono HO282.out (fun _ hk => trivial))⟩, ⟨BU HB.out⟩⟩
def align_Terms.f (a0_0 : Int) (a0_1 : Int) (a0_2 : Int) (a0_3 : Int) (a1_0 : Int) (a1_1 : Int) (a1_2 : Int) (a1_3 : Int) : Option (Bool) := if a0_0 = a1_0 then (if a0_2 = a1_2 then (some (a0_3 == a1_3)) else (some false)) else (some false)
theorem align_Terms.calls (a0_0 : Int) (a0_1 : Int) (a0_2 : Int) (a0_3 : Int) (a1_0 : Int) (a1_1 : Int) (a1_2 : Int) (a1_3 : Int) (r : Bool) (w : World) (h : align_Terms.f a0_0 a0_1 a0_2 a0_3 a1_0 a1_1 a1_2 a1_3 = some r) :
  Calls Tryz.prog 64 #[.agg #[.int .i64 a0_0, .int .i64 a0_1, .int .i64 a0_2, .int .i64 a0_3], .agg #[.int .i64 a1_0, .int .i64 a1_1, .int .i64 a1_2, .int .i64 a1_3]] w fun e w' => e = .returned (.bool r) ∧ Below w.heap.size w w' := by
 have hu37 := Tryz.underlying37
 have HB := As0 (Below.refl w.heap.size w)
 have H : (if a0_0 = a1_0 then (if a0_2 = a1_2 then (some (a0_3 == a1_3)) else (some false)) else (some false)) = some r := h
 clear h
 by_cases c3 : a0_0 = a1_0
 rotate_left
 ·rw [if_neg c3] at H
  have c3b0 : (a0_0 == a1_0) = false := beq_eq_false_iff_ne.mpr c3
  have c3b1 : (a0_0 != a1_0) = true := bne_iff_ne.mpr c3
  obtain rfl := Option.some.inj H
  go_enter Tryz.func64, Tryz.ntmps64
  go_wp2_with (first | ((with_reducible refine Qbn (N := 2) rfl ?_); refine bX (N := 2) (cs := #[.int .i64 a0_0, .int .i64 a0_1, .int .i64 a0_2, .int .i64 a0_3]) (t := 37) ?_; intro gb283 hg w15 hbox hb; have BK283 := As0 (hbox); have GW283 := gW hg HB.out; have GE283 := GW283; replace HB := As0 (Qbj (BU HB.out) hb); clear hb hbox hg) | ((with_reducible refine Qbn (N := 3) rfl ?_); refine bX (N := 3) (cs := #[.int .i64 a1_0, .int .i64 a1_1, .int .i64 a1_2, .int .i64 a1_3]) (t := 37) ?_; intro gb284 hg w16 hbox hb; have BK284 := As0 (hbox); have GW284 := gW hg HB.out; have GE284 := GW284; replace HB := As0 (Qbj (BU HB.out) hb); have NB283_284 := nL hg BK283; have NB284_283 := nR hg BK283; replace BK283 := kB BK283 hb; clear hb hbox hg; have hnb17 := NB283_284.out; have hnc17 := NB284_283.out; obtain ⟨z18_0, z18_1, z18_2, z18_3, y_18_0, y_18_1, y_18_2, y_18_3⟩ := cN4 BK283.out; obtain ⟨z19_0, z19_1, z19_2, z19_3, y_19_0, y_19_1, y_19_2, y_19_3⟩ := cN4 BK284.out))
  go_ret
  exact ⟨oR, BU HB.out⟩
 rw [if_pos c3] at H
 have c3b0 : (a0_0 == a1_0) = true := beq_iff_eq.mpr c3
 have c3b1 : (a0_0 != a1_0) = false := bne_eq_false_iff_eq.mpr c3
 clear c3
 by_cases c4 : a0_2 = a1_2
 rotate_left
 ·rw [if_neg c4] at H
  have c4b0 : (a0_2 == a1_2) = false := beq_eq_false_iff_ne.mpr c4
  have c4b1 : (a0_2 != a1_2) = true := bne_iff_ne.mpr c4
  obtain rfl := Option.some.inj H
  go_enter Tryz.func64, Tryz.ntmps64
  go_wp2_with (first | ((with_reducible refine Qbn (N := 2) rfl ?_); refine bX (N := 2) (cs := #[.int .i64 a0_0, .int .i64 a0_1, .int .i64 a0_2, .int .i64 a0_3]) (t := 37) ?_; intro gb283 hg w10 hbox hb; have BK283 := As0 (hbox); have GW283 := gW hg HB.out; have GE283 := GW283; replace HB := As0 (Qbj (BU HB.out) hb); clear hb hbox hg) | ((with_reducible refine Qbn (N := 3) rfl ?_); refine bX (N := 3) (cs := #[.int .i64 a1_0, .int .i64 a1_1, .int .i64 a1_2, .int .i64 a1_3]) (t := 37) ?_; intro gb284 hg w11 hbox hb; have BK284 := As0 (hbox); have GW284 := gW hg HB.out; have GE284 := GW284; replace HB := As0 (Qbj (BU HB.out) hb); have NB283_284 := nL hg BK283; have NB284_283 := nR hg BK283; replace BK283 := kB BK283 hb; clear hb hbox hg; have hnb12 := NB283_284.out; have hnc12 := NB284_283.out; obtain ⟨z13_0, z13_1, z13_2, z13_3, y_13_0, y_13_1, y_13_2, y_13_3⟩ := cN4 BK283.out; obtain ⟨z14_0, z14_1, z14_2, z14_3, y_14_0, y_14_1, y_14_2, y_14_3⟩ := cN4 BK284.out))
  go_ret
  exact ⟨oR, BU HB.out⟩
 rw [if_pos c4] at H
 have c4b0 : (a0_2 == a1_2) = true := beq_iff_eq.mpr c4
 have c4b1 : (a0_2 != a1_2) = false := bne_eq_false_iff_eq.mpr c4
 clear c4
 obtain rfl := Option.some.inj H
 go_enter Tryz.func64, Tryz.ntmps64
 go_wp2_with (first | ((with_reducible refine Qbn (N := 2) rfl ?_); refine bX (N := 2) (cs := #[.int .i64 a0_0, .int .i64 a0_1, .int .i64 a0_2, .int .i64 a0_3]) (t := 37) ?_; intro gb283 hg w5 hbox hb; have BK283 := As0 (hbox); have GW283 := gW hg HB.out; have GE283 := GW283; replace HB := As0 (Qbj (BU HB.out) hb); clear hb hbox hg) | ((with_reducible refine Qbn (N := 3) rfl ?_); refine bX (N := 3) (cs := #[.int .i64 a1_0, .int .i64 a1_1, .int .i64 a1_2, .int .i64 a1_3]) (t := 37) ?_; intro gb284 hg w6 hbox hb; have BK284 := As0 (hbox); have GW284 := gW hg HB.out; have GE284 := GW284; replace HB := As0 (Qbj (BU HB.out) hb); have NB283_284 := nL hg BK283; have NB284_283 := nR hg BK283; replace BK283 := kB BK283 hb; clear hb hbox hg; have hnb7 := NB283_284.out; have hnc7 := NB284_283.out; obtain ⟨z8_0, z8_1, z8_2, z8_3, y_8_0, y_8_1, y_8_2, y_8_3⟩ := cN4 BK283.out; obtain ⟨z9_0, z9_1, z9_2, z9_3, y_9_0, y_9_1, y_9_2, y_9_3⟩ := cN4 BK284.out))
 go_ret
 exact ⟨oR, BU HB.out⟩
theorem cell_al {w : World} {p : Addr} {v : Value} (h : w.cell? p = some v) (o : Obj) : (w.alloc o).cell? p = some v := ((Qb3 (Below.refl w.heap.size w) o).cell (wblt w h)).trans h
theorem C47_on {w w' : World} {A : Option Addr} {l : List S47} (hC : Kd.C k47 w A l.length l) (h : ∀ ad, A = some ad → w'.heap[ad.block]? = w.heap[ad.block]?) : Kd.C k47 w' A l.length l := by
  obtain ⟨h1, h2, h3⟩ := hC
  refine ⟨h1, h2, fun hn => ?_⟩
  obtain ⟨ad, rfl, hc⟩ := h3 hn
  have hbl : ∀ n, (ad.add n).block = ad.block := fun n => by unfold Addr.add; split <;> rfl
  refine ⟨ad, rfl, fun j p hj => ?_⟩
  obtain ⟨c, hs, hK, hcell⟩ := hc j p hj
  obtain rfl := k47_open hK
  refine ⟨_, hs, k47_mk w' p, fun i u hu => ?_⟩
  exact (World.cell?_of_block (by rw [hbl]; exact h ad rfl)).trans (hcell i u hu)
def okF (n : Int) (x : Bs × Pan) : S87 := ⟨if (whyOf n x.2).1 = 0 then x.1.set else [], (whyOf n x.2).1, (whyOf n x.2).2, x.1.steps, x.1.largest⟩
def goF (k : Nat) (bc : List S41) (mc : List S59) (bt mt : S37) (rows : List S180) (inv : List S47) (most : Int) : Option S87 :=
  if inv.length < 8796093022208 ∧ Asc inv then (runF k bc mc bt mt rows ⟨inv, most, 0, (inv.length : Int)⟩).bind fun x => some (okF (mc.length : Int) x) else none
def blockF (k : Nat) (bc : List S41) (mc : List S59) (bt mt : S37) (inv : List S47) (most : Int) : Option S87 :=
  if (inv.length : Int) > most then some ⟨[], 24, 0, 0, (inv.length : Int)⟩
  else (Qal.f k bc mc).bind fun p => if p.2.2 = 0 then (align_Terms.f bt.f0 bt.f1 bt.f2 bt.f3 mt.f0 mt.f1 mt.f2 mt.f3).bind fun t => if t = true then goF k bc mc bt mt p.1 inv most else some ⟨[], 20, p.2.1, 0, (inv.length : Int)⟩
    else some ⟨[], p.2.2, p.2.1, 0, (inv.length : Int)⟩
def BlkPost (w : World) (r : S87) (e : Ending) (w' : World) : Prop := ∃ A c, e = .returned (.agg #[.slice A r.f0.length c, .int .i64 r.f1, .int .i64 r.f2, .int .i64 r.f3, .int .i64 r.f4]) ∧ r.f0.length ≤ c ∧ Kd.C k47 w' A r.f0.length r.f0 ∧ Ty w' A ∧ Below w.heap.size w w'
theorem block_calls (k : Nat) (A0 : Option Addr) (c0 : Nat) (bc : List S41) (bt : S37) (A1 : Option Addr) (c1 : Nat) (mc : List S59) (mt : S37) (A2 : Option Addr) (c2 : Nat) (inv : List S47) (most : Int) (r : S87) (w : World)
    (h0 : Kd.C k41 w A0 bc.length bc) (hc0 : bc.length ≤ c0) (h1 : Kd.C k59 w A1 mc.length mc) (hc1_ : mc.length ≤ c1) (h2 : Kd.C k47 w A2 inv.length inv) (hf : blockF k bc mc bt mt inv most = some r) :
    Calls Tryz.prog 33 #[.agg #[.slice A0 bc.length c0, .int .i64 bt.f0, .int .i64 bt.f1, .int .i64 bt.f2, .int .i64 bt.f3], .agg #[.slice A1 mc.length c1, .int .i64 mt.f0, .int .i64 mt.f1, .int .i64 mt.f2, .int .i64 mt.f3], .slice A2 inv.length c2, .int .i64 most] w (BlkPost w r) := by
  have hu35 := Tryz.underlying35
  have hu37 := Tryz.underlying37
  have hu39 := Tryz.underlying39
  have hu41 := Tryz.underlying41
  have hu44 := Tryz.underlying44
  have hu49 := Tryz.underlying49
  have hu54 := Tryz.underlying54
  have hu57 := Tryz.underlying57
  have hu59 := Tryz.underlying59
  have hu87 := Tryz.underlying87
  have hu121 := Tryz.underlying121
  have hu128 := Tryz.underlying128
  have hu180 := Tryz.underlying180
  have H0 := As0 h0
  have H1 := As0 h1
  have H2 := As0 h2
  have HB := As0 (Below.refl w.heap.size w)
  clear h0 h1 h2
  unfold blockF at hf
  by_cases hm : (inv.length : Int) > most
  · rw [if_pos hm] at hf
    obtain rfl := Option.some.inj hf
    go_enter Tryz.func33, Tryz.ntmps33
    go_wp2_with (first
      | ((with_reducible refine Qbn (N := 4) rfl ?_); refine bX (N := 4) (cs := #[.slice A0 bc.length c0, .int .i64 bt.f0, .int .i64 bt.f1, .int .i64 bt.f2, .int .i64 bt.f3]) (t := 39) ?_; intro gB hg w1 hbox hb; have B := As0 hbox; have GB := As0 (by rw [hg]; exact Qbp (BU HB.out) : w.heap.size ≤ gB); skip; replace HB := As0 (Qbj (BU HB.out) hb); clear hb hbox hg)
      | ((with_reducible refine Qbn (N := 5) rfl ?_); refine bX (N := 5) (cs := #[.slice A1 mc.length c1, .int .i64 mt.f0, .int .i64 mt.f1, .int .i64 mt.f2, .int .i64 mt.f3]) (t := 57) ?_; intro gM hg w2 hbox hb; have M := As0 hbox; have GM := As0 (by rw [hg]; exact Qbp (BU HB.out) : w.heap.size ≤ gM); replace B := As0 (Qbo B.out hb); replace HB := As0 (Qbj (BU HB.out) hb); clear hb hbox hg)
      | ((with_reducible refine Qbn (N := 8) rfl ?_); refine bX (N := 8) (cs := #[.slice none 0 0, .int .i64 0, .int .i64 0, .int .i64 0, .int .i64 0]) (t := 87) ?_; intro gO hg w3 hbox hb; have O := As0 hbox; have GO := As0 (by rw [hg]; exact Qbp (BU HB.out) : w.heap.size ≤ gO); replace B := As0 (Qbo B.out hb); replace M := As0 (Qbo M.out hb); replace HB := As0 (Qbj (BU HB.out) hb); (obtain ⟨b0, b1, b2, b3, b4, bf0, bf1, bf2, bf3, bf4⟩ := cN5 B.out); (obtain ⟨m0, m1, m2, m3, m4, mf0, mf1, mf2, mf3, mf4⟩ := cN5 M.out); clear hb hbox hg)
      | ((with_reducible refine Qc6 (.store 87 (.tmp 8) (.tmp 20)) rfl ?_); go_loud (refine Qat rfl rfl 87 _ _ rfl gO #[.slice none 0 0, .int .i64 24, .int .i64 0, .int .i64 0, .int .i64 (inv.length : Int)] rfl rfl 87 #[.slice none 0 0, .int .i64 0, .int .i64 0, .int .i64 0, .int .i64 0] (bU O.out) (by kernel_rfl) rfl (by kernel_rfl) ?_); intro w6 hg ho hB; replace HB := As0 (hB _ _ GO.out (BU HB.out)); replace O := As0 hg; clear hg ho hB))
    exact bodyPost_ret (results_cell_row rfl _ _ gO 87 #[.slice none 0 0, .int .i64 24, .int .i64 0, .int .i64 0, .int .i64 (inv.length : Int)] (0, 0) _ rfl (bU O.out) hu87 rfl (by kernel_rfl)) rfl ⟨none, 0, rfl, Nat.le_refl _, Kd.C_nil _ _, fun ad e => (by cases e), BU HB.out⟩
  · rw [if_neg hm] at hf
    obtain ⟨⟨rows, pa, pw⟩, ha, hx⟩ := Option.bind_eq_some_iff.mp hf
    clear hf
    by_cases hp : pw = 0
    · rw [if_pos hp] at hx
      subst hp
      obtain ⟨tt, ht, hx⟩ := Option.bind_eq_some_iff.mp hx
      cases tt with
      | false =>
        obtain rfl := Option.some.inj (show some _ = some r from hx)
        go_enter Tryz.func33, Tryz.ntmps33
        go_wp2_with (first
          | ((with_reducible refine Qbn (N := 4) rfl ?_); refine bX (N := 4) (cs := #[.slice A0 bc.length c0, .int .i64 bt.f0, .int .i64 bt.f1, .int .i64 bt.f2, .int .i64 bt.f3]) (t := 39) ?_; intro gB hg w1 hbox hb; have B := As0 hbox; have GB := As0 (by rw [hg]; exact Qbp (BU HB.out) : w.heap.size ≤ gB); skip; replace HB := As0 (Qbj (BU HB.out) hb); clear hb hbox hg)
          | ((with_reducible refine Qbn (N := 5) rfl ?_); refine bX (N := 5) (cs := #[.slice A1 mc.length c1, .int .i64 mt.f0, .int .i64 mt.f1, .int .i64 mt.f2, .int .i64 mt.f3]) (t := 57) ?_; intro gM hg w2 hbox hb; have M := As0 hbox; have GM := As0 (by rw [hg]; exact Qbp (BU HB.out) : w.heap.size ≤ gM); replace B := As0 (Qbo B.out hb); replace HB := As0 (Qbj (BU HB.out) hb); clear hb hbox hg)
          | ((with_reducible refine Qbn (N := 8) rfl ?_); refine bX (N := 8) (cs := #[.slice none 0 0, .int .i64 0, .int .i64 0, .int .i64 0, .int .i64 0]) (t := 87) ?_; intro gO hg w3 hbox hb; have O := As0 hbox; have GO := As0 (by rw [hg]; exact Qbp (BU HB.out) : w.heap.size ≤ gO); replace B := As0 (Qbo B.out hb); replace M := As0 (Qbo M.out hb); replace HB := As0 (Qbj (BU HB.out) hb); (obtain ⟨b0, b1, b2, b3, b4, bf0, bf1, bf2, bf3, bf4⟩ := cN5 B.out); (obtain ⟨m0, m1, m2, m3, m4, mf0, mf1, mf2, mf3, mf4⟩ := cN5 M.out); clear hb hbox hg)
          | (go_at_call 63; refine (Qal.calls k A0 c0 bc A1 c1 mc rows pa _ _ (Kd.C_below H0.out (BU HB.out)) hc0 (Kd.C_below H1.out (BU HB.out)) hc1_ ha).mono ?_; rintro e w4 ⟨vr, rfl, ho, hb⟩; have HR := As0 (Kd.R_lower ho (Qbp (BU HB.out))); clear b0 b1 b2 b3 b4 bf0 bf1 bf2 bf3 bf4 m0 m1 m2 m3 m4 mf0 mf1 mf2 mf3 mf4; replace B := As0 (Qbo B.out hb); replace M := As0 (Qbo M.out hb); replace O := As0 (Qbo O.out hb); replace HB := As0 (Qbj (BU HB.out) hb); (obtain ⟨b0, b1, b2, b3, b4, bf0, bf1, bf2, bf3, bf4⟩ := cN5 B.out); (obtain ⟨m0, m1, m2, m3, m4, mf0, mf1, mf2, mf3, mf4⟩ := cN5 M.out); clear ho hb)
          | (go_at_call 64; refine (align_Terms.calls bt.f0 bt.f1 bt.f2 bt.f3 mt.f0 mt.f1 mt.f2 mt.f3 _ _ ht).mono ?_; rintro e w5 ⟨rfl, hb⟩; (try (replace HR := As0 (Kd.R_below (RU HR.out) hb))); clear b0 b1 b2 b3 b4 bf0 bf1 bf2 bf3 bf4 m0 m1 m2 m3 m4 mf0 mf1 mf2 mf3 mf4; replace B := As0 (Qbo B.out hb); replace M := As0 (Qbo M.out hb); replace O := As0 (Qbo O.out hb); replace HB := As0 (Qbj (BU HB.out) hb); (obtain ⟨b0, b1, b2, b3, b4, bf0, bf1, bf2, bf3, bf4⟩ := cN5 B.out); (obtain ⟨m0, m1, m2, m3, m4, mf0, mf1, mf2, mf3, mf4⟩ := cN5 M.out); clear hb)
          | ((with_reducible refine Qc6 (.store 87 (.tmp 8) (.tmp 46)) rfl ?_); go_loud (refine Qat rfl rfl 87 _ _ rfl gO #[.slice none 0 0, .int .i64 20, .int .i64 pa, .int .i64 0, .int .i64 (inv.length : Int)] rfl rfl 87 #[.slice none 0 0, .int .i64 0, .int .i64 0, .int .i64 0, .int .i64 0] (bU O.out) (by kernel_rfl) rfl (by kernel_rfl) ?_); intro w6 hg ho hB; replace HB := As0 (hB _ _ GO.out (BU HB.out)); replace O := As0 hg; clear hg ho hB))
        exact bodyPost_ret (results_cell_row rfl _ _ gO 87 #[.slice none 0 0, .int .i64 20, .int .i64 pa, .int .i64 0, .int .i64 (inv.length : Int)] (0, 0) _ rfl (bU O.out) hu87 rfl (by kernel_rfl)) rfl ⟨none, 0, rfl, Nat.le_refl _, Kd.C_nil _ _, fun ad e => (by cases e), BU HB.out⟩
      | true =>
        replace hx : goF k bc mc bt mt rows inv most = some r := hx
        unfold goF at hx
        by_cases hla : inv.length < 8796093022208 ∧ Asc inv
        · rw [if_pos hla] at hx
          obtain ⟨hlen, hasc⟩ := hla
          obtain ⟨x, hrun, hx⟩ := Option.bind_eq_some_iff.mp hx
          obtain rfl := Option.some.inj hx
          go_enter Tryz.func33, Tryz.ntmps33
          go_wp2_with (first
            | ((with_reducible refine Qbn (N := 4) rfl ?_); refine bX (N := 4) (cs := #[.slice A0 bc.length c0, .int .i64 bt.f0, .int .i64 bt.f1, .int .i64 bt.f2, .int .i64 bt.f3]) (t := 39) ?_; intro gB hg w1 hbox hb; have B := As0 hbox; have GB := As0 (by rw [hg]; exact Qbp (BU HB.out) : w.heap.size ≤ gB); skip; replace HB := As0 (Qbj (BU HB.out) hb); clear hb hbox hg)
            | ((with_reducible refine Qbn (N := 5) rfl ?_); refine bX (N := 5) (cs := #[.slice A1 mc.length c1, .int .i64 mt.f0, .int .i64 mt.f1, .int .i64 mt.f2, .int .i64 mt.f3]) (t := 57) ?_; intro gM hg w2 hbox hb; have M := As0 hbox; have GM := As0 (by rw [hg]; exact Qbp (BU HB.out) : w.heap.size ≤ gM); replace B := As0 (Qbo B.out hb); replace HB := As0 (Qbj (BU HB.out) hb); clear hb hbox hg)
            | ((with_reducible refine Qbn (N := 8) rfl ?_); refine bX (N := 8) (cs := #[.slice none 0 0, .int .i64 0, .int .i64 0, .int .i64 0, .int .i64 0]) (t := 87) ?_; intro gO hg w3 hbox hb; have O := As0 hbox; have GO := As0 (by rw [hg]; exact Qbp (BU HB.out) : w.heap.size ≤ gO); replace B := As0 (Qbo B.out hb); replace M := As0 (Qbo M.out hb); replace HB := As0 (Qbj (BU HB.out) hb); (obtain ⟨b0, b1, b2, b3, b4, bf0, bf1, bf2, bf3, bf4⟩ := cN5 B.out); (obtain ⟨m0, m1, m2, m3, m4, mf0, mf1, mf2, mf3, mf4⟩ := cN5 M.out); clear hb hbox hg)
            | (go_at_call 63; refine (Qal.calls k A0 c0 bc A1 c1 mc rows pa _ _ (Kd.C_below H0.out (BU HB.out)) hc0 (Kd.C_below H1.out (BU HB.out)) hc1_ ha).mono ?_; rintro e w4 ⟨vr, rfl, ho, hb⟩; have HR := As0 (Kd.R_lower ho (Qbp (BU HB.out))); clear b0 b1 b2 b3 b4 bf0 bf1 bf2 bf3 bf4 m0 m1 m2 m3 m4 mf0 mf1 mf2 mf3 mf4; replace B := As0 (Qbo B.out hb); replace M := As0 (Qbo M.out hb); replace O := As0 (Qbo O.out hb); replace HB := As0 (Qbj (BU HB.out) hb); (obtain ⟨b0, b1, b2, b3, b4, bf0, bf1, bf2, bf3, bf4⟩ := cN5 B.out); (obtain ⟨m0, m1, m2, m3, m4, mf0, mf1, mf2, mf3, mf4⟩ := cN5 M.out); clear ho hb)
            | (go_at_call 64; refine (align_Terms.calls bt.f0 bt.f1 bt.f2 bt.f3 mt.f0 mt.f1 mt.f2 mt.f3 _ _ ht).mono ?_; rintro e w5 ⟨rfl, hb⟩; (try (replace HR := As0 (Kd.R_below (RU HR.out) hb))); clear b0 b1 b2 b3 b4 bf0 bf1 bf2 bf3 bf4 m0 m1 m2 m3 m4 mf0 mf1 mf2 mf3 mf4; replace B := As0 (Qbo B.out hb); replace M := As0 (Qbo M.out hb); replace O := As0 (Qbo O.out hb); replace HB := As0 (Qbj (BU HB.out) hb); (obtain ⟨b0, b1, b2, b3, b4, bf0, bf1, bf2, bf3, bf4⟩ := cN5 B.out); (obtain ⟨m0, m1, m2, m3, m4, mf0, mf1, mf2, mf3, mf4⟩ := cN5 M.out); clear hb)
            | (go_at_call 65; refine (Qeh _ A2 c2 inv (Kd.C_below H2.out (BU HB.out)) hasc hlen).mono ?_; rintro e w6 ⟨vm, rfl, ho, hb⟩; (obtain ⟨A4, c4, e4, hc4, HC4⟩ := Kd.R_reads HR.out); subst e4; replace HR := As0 (Kd.C_below HC4 (Qbj (BU (Below.refl _ _)) hb)); (obtain ⟨A3, c3, e3, hc3, HC3⟩ := Kd.R_reads ho); subst e3; have HM3 := As0 ho; replace HC3 := As0 HC3; clear b0 b1 b2 b3 b4 bf0 bf1 bf2 bf3 bf4 m0 m1 m2 m3 m4 mf0 mf1 mf2 mf3 mf4; replace B := As0 (Qbo B.out hb); replace M := As0 (Qbo M.out hb); replace O := As0 (Qbo O.out hb); replace HB := As0 (Qbj (BU HB.out) hb); (obtain ⟨b0, b1, b2, b3, b4, bf0, bf1, bf2, bf3, bf4⟩ := cN5 B.out); (obtain ⟨m0, m1, m2, m3, m4, mf0, mf1, mf2, mf3, mf4⟩ := cN5 M.out); clear ho hb HC4)
            | ((with_reducible refine Qbn (N := 53) rfl ?_); go_loud (refine bX (N := 53) (cs := #[.slice A3 inv.length c3, .int .i64 most, .int .i64 0, .int .i64 (inv.length : Int)]) (t := 128) ?_); intro g hg w7 hbox hb; have HK := As0 (show Ck w7 g ⟨inv, most, 0, (inv.length : Int)⟩ from ⟨A3, c3, hbox, hc3, Kd.C_below HC3.out hb, fun ad e => (by subst e; have q := (Kd.R_bound HM3.out).1 ad.block rfl; have q2 := q.2.2.1; omega), (show Ty w6 A3 from fun ad e => (by subst e; obtain ⟨inner, ho⟩ := Kd.R_own HM3.out; exact Qdq ho ad.block rfl)).below hb⟩); have GE := As0 (Nat.le_of_eq hg.symm); have HG := As0 (by rw [hg]; exact Qbp HB.out : w.heap.size ≤ g); have HG6 := As0 hb; have NB := As0 (by have := Qbz B.out; omega : gB ≠ g); have NM := As0 (by have := Qbz M.out; omega : gM ≠ g); have NO := As0 (by have := Qbz O.out; omega : gO ≠ g); have C0 := As0 (Kd.C_below H0.out HB.out); have C1 := As0 (Kd.C_below H1.out HB.out); clear b0 b1 b2 b3 b4 bf0 bf1 bf2 bf3 bf4 m0 m1 m2 m3 m4 mf0 mf1 mf2 mf3 mf4; replace B := As0 (Qbo B.out hb); replace M := As0 (Qbo M.out hb); replace O := As0 (Qbo O.out hb); replace HB := As0 (Qbj (BU HB.out) hb); (obtain ⟨b0, b1, b2, b3, b4, bf0, bf1, bf2, bf3, bf4⟩ := cN5 B.out); (obtain ⟨m0, m1, m2, m3, m4, mf0, mf1, mf2, mf3, mf4⟩ := cN5 M.out); clear hb hbox hg)
            | (go_at_call 66; refine (run_calls k g ⟨inv, most, 0, (inv.length : Int)⟩ A0 c0 bc bt A1 c1 mc mt A4 c4 rows x w6 _ HK.out HG6.out GE.out C0.out hc0 C1.out hc1_ HR.out hrun).mono ?_; rintro e w8 ⟨rfl, hk, hf⟩; replace HK := As0 hk; replace HB := As0 (hf.base HB.out HG.out HB.out.size); replace B := As0 (hf.blk B.out NB.out); replace M := As0 (hf.blk M.out NM.out); replace O := As0 (hf.blk O.out NO.out); clear b0 b1 b2 b3 b4 bf0 bf1 bf2 bf3 bf4 m0 m1 m2 m3 m4 mf0 mf1 mf2 mf3 mf4 hk hf))
          (obtain ⟨A9, c9, hg9, hc9, HC9, hne9⟩ := HK.out)
          (obtain ⟨q0, q1, q2, q3, f0, f1, f2, f3⟩ := cN4 hg9)
          obtain ⟨wy, hwy⟩ : ∃ y, y = (whyOf mc.length x.2).1 := ⟨_, rfl⟩
          obtain ⟨wa, hwa⟩ : ∃ y, y = (whyOf mc.length x.2).2 := ⟨_, rfl⟩
          rw [← hwy, ← hwa]
          have HWY := As0 hwy
          have HWA := As0 hwa
          clear hwy hwa
          have p2 : ∀ o : Obj, (w8.alloc o).cell? ⟨g, 2, none⟩ = some (.int .i64 x.1.steps) := fun o => cell_al q2 o
          have p3 : ∀ o : Obj, (w8.alloc o).cell? ⟨g, 3, none⟩ = some (.int .i64 x.1.largest) := fun o => cell_al q3 o
          go_region
          go_upto_if 74 with (fail)
          have hX := As0 (Qbu (Qde w8 (.cells #[.slice none 0 0, .int .i64 wy, .int .i64 wa, .int .i64 x.1.steps, .int .i64 x.1.largest] 87 (0, 0))))
          have hb9 := Qdb (Qb3 (Below.refl w8.heap.size w8) (.cells #[.slice none 0 0, .int .i64 wy, .int .i64 wa, .int .i64 x.1.steps, .int .i64 x.1.largest] 87 (0, 0)))
          have hgx : g ≠ w8.heap.size := Nat.ne_of_lt HK.out.lt
          have hgs := HB.out.size
          have hox := Qbz O.out
          clear p2 p3 q0 q1 q2 q3 f0 f1 f2 f3 hg9 hc9 HC9 hne9 A9 c9
          replace HB := As0 (Qbj HB.out hb9)
          replace HK := As0 (HK.out.below hb9)
          replace O := As0 (Qbo O.out hb9)
          clear B M hb9
          generalize hw9 : (w8.alloc (.cells #[.slice none 0 0, .int .i64 wy, .int .i64 wa, .int .i64 x.1.steps, .int .i64 x.1.largest] 87 (0, 0))).drew = w9 at *
          have GX : w.heap.size ≤ w8.heap.size := hgs
          have hxo : gO ≠ w8.heap.size := Nat.ne_of_lt hox
          clear hw9
          generalize w8.heap.size = gX at *
          have GX' := As0 GX
          (obtain ⟨A9, c9, hg9, hc9, HC9, hne9⟩ := HK.out)
          (obtain ⟨q0, q1, q2, q3, f0, f1, f2, f3⟩ := cN4 hg9)
          (obtain ⟨x0, x1, x2, x3, x4, y0, y1, y2, y3, y4⟩ := cN5 hX.out)
          have hC9 := As0 HC9
          have hOld := As0 O.out
          clear HC9 hg9
          by_cases hy : wy = 0
          · have hyb : (wy == 0) = true := beq_iff_eq.mpr hy
            have hr : okF mc.length x = ⟨x.1.set, wy, wa, x.1.steps, x.1.largest⟩ := by unfold okF; rw [← HWY.out, ← HWA.out, if_pos hy]
            clear hy
            go_wp2_with ((with_reducible refine Qc6 (.store 87 (.tmp 8) (.tmp 80)) rfl ?_); go_loud (refine Qat rfl rfl 87 _ _ rfl gO #[.slice A9 x.1.set.length c9, .int .i64 wy, .int .i64 wa, .int .i64 x.1.steps, .int .i64 x.1.largest] rfl rfl 87 #[.slice none 0 0, .int .i64 0, .int .i64 0, .int .i64 0, .int .i64 0] (Qeq O.out hxo _) (by kernel_rfl) rfl (by kernel_rfl) ?_); intro wz hg ho hB; replace HB := As0 (hB _ _ GO.out (BU HB.out)); replace O := As0 hg; have HO_ := As0 ho; clear hg ho hB)
            refine bodyPost_ret (results_cell_row rfl _ _ gO 87 #[.slice A9 x.1.set.length c9, .int .i64 wy, .int .i64 wa, .int .i64 x.1.steps, .int .i64 x.1.largest] (0, 0) _ rfl (bU O.out) hu87 rfl (by kernel_rfl)) rfl ?_
            show BlkPost w (okF mc.length x) _ _
            rw [hr]
            have hsame : ∀ ad, A9 = some ad → wz.heap[ad.block]? = w9.heap[ad.block]? := by
             intro ad e
             obtain ⟨cs, hcs⟩ := hne9.2 ad e
             have n1 : ad.block ≠ gX := by rintro rfl; rw [hX.out] at hcs; injection hcs with hcs; injection hcs with h3 h4; cases h4
             have n2 : ad.block ≠ gO := by rintro rfl; rw [hOld.out] at hcs; injection hcs with hcs; injection hcs with h3 h4; cases h4
             exact (HO_.out _ n2).trans (Below.heap_setCell _ _ _ _ n1)
            exact ⟨A9, c9, rfl, hc9, C47_on hC9.out hsame, fun ad e => (by obtain ⟨cs, hcs⟩ := hne9.2 ad e; exact ⟨cs, (hsame ad e).trans hcs⟩), BU HB.out⟩
          · have hyb : (wy == 0) = false := beq_eq_false_iff_ne.mpr hy
            have hr : okF mc.length x = ⟨[], wy, wa, x.1.steps, x.1.largest⟩ := by unfold okF; rw [← HWY.out, ← HWA.out, if_neg hy]
            clear hy
            go_wp2_with ((with_reducible refine Qc6 (.store 87 (.tmp 8) (.tmp 80)) rfl ?_); go_loud (refine Qat rfl rfl 87 _ _ rfl gO #[.slice none 0 0, .int .i64 wy, .int .i64 wa, .int .i64 x.1.steps, .int .i64 x.1.largest] rfl rfl 87 #[.slice none 0 0, .int .i64 0, .int .i64 0, .int .i64 0, .int .i64 0] O.out (by kernel_rfl) rfl (by kernel_rfl) ?_); intro wz hg ho hB; replace HB := As0 (hB _ _ GO.out (BU HB.out)); replace O := As0 hg; have HO_ := As0 ho; clear hg ho hB)
            refine bodyPost_ret (results_cell_row rfl _ _ gO 87 #[.slice none 0 0, .int .i64 wy, .int .i64 wa, .int .i64 x.1.steps, .int .i64 x.1.largest] (0, 0) _ rfl (bU O.out) hu87 rfl (by kernel_rfl)) rfl ?_
            show BlkPost w (okF mc.length x) _ _
            rw [hr]
            exact ⟨none, 0, rfl, Nat.le_refl _, Kd.C_nil _ _, fun ad e => (by cases e), BU HB.out⟩
        · rw [if_neg hla] at hx; cases hx
    · rw [if_neg hp] at hx
      obtain rfl := Option.some.inj hx
      have hpb : (pw == 0) = false := beq_eq_false_iff_ne.mpr hp
      have hpc : (pw != 0) = true := bne_iff_ne.mpr hp
      go_enter Tryz.func33, Tryz.ntmps33
      go_wp2_with (first
        | ((with_reducible refine Qbn (N := 4) rfl ?_); refine bX (N := 4) (cs := #[.slice A0 bc.length c0, .int .i64 bt.f0, .int .i64 bt.f1, .int .i64 bt.f2, .int .i64 bt.f3]) (t := 39) ?_; intro gB hg w1 hbox hb; have B := As0 hbox; have GB := As0 (by rw [hg]; exact Qbp (BU HB.out) : w.heap.size ≤ gB); skip; replace HB := As0 (Qbj (BU HB.out) hb); clear hb hbox hg)
        | ((with_reducible refine Qbn (N := 5) rfl ?_); refine bX (N := 5) (cs := #[.slice A1 mc.length c1, .int .i64 mt.f0, .int .i64 mt.f1, .int .i64 mt.f2, .int .i64 mt.f3]) (t := 57) ?_; intro gM hg w2 hbox hb; have M := As0 hbox; have GM := As0 (by rw [hg]; exact Qbp (BU HB.out) : w.heap.size ≤ gM); replace B := As0 (Qbo B.out hb); replace HB := As0 (Qbj (BU HB.out) hb); clear hb hbox hg)
        | ((with_reducible refine Qbn (N := 8) rfl ?_); refine bX (N := 8) (cs := #[.slice none 0 0, .int .i64 0, .int .i64 0, .int .i64 0, .int .i64 0]) (t := 87) ?_; intro gO hg w3 hbox hb; have O := As0 hbox; have GO := As0 (by rw [hg]; exact Qbp (BU HB.out) : w.heap.size ≤ gO); replace B := As0 (Qbo B.out hb); replace M := As0 (Qbo M.out hb); replace HB := As0 (Qbj (BU HB.out) hb); (obtain ⟨b0, b1, b2, b3, b4, bf0, bf1, bf2, bf3, bf4⟩ := cN5 B.out); (obtain ⟨m0, m1, m2, m3, m4, mf0, mf1, mf2, mf3, mf4⟩ := cN5 M.out); clear hb hbox hg)
        | (go_at_call 63; refine (Qal.calls k A0 c0 bc A1 c1 mc rows pa _ _ (Kd.C_below H0.out (BU HB.out)) hc0 (Kd.C_below H1.out (BU HB.out)) hc1_ ha).mono ?_; rintro e w4 ⟨vr, rfl, ho, hb⟩; have HR := As0 (Kd.R_lower ho (Qbp (BU HB.out))); clear b0 b1 b2 b3 b4 bf0 bf1 bf2 bf3 bf4 m0 m1 m2 m3 m4 mf0 mf1 mf2 mf3 mf4; replace B := As0 (Qbo B.out hb); replace M := As0 (Qbo M.out hb); replace O := As0 (Qbo O.out hb); replace HB := As0 (Qbj (BU HB.out) hb); (obtain ⟨b0, b1, b2, b3, b4, bf0, bf1, bf2, bf3, bf4⟩ := cN5 B.out); (obtain ⟨m0, m1, m2, m3, m4, mf0, mf1, mf2, mf3, mf4⟩ := cN5 M.out); clear ho hb)
        | ((with_reducible refine Qc6 (.store 87 (.tmp 8) (.tmp 46)) rfl ?_); go_loud (refine Qat rfl rfl 87 _ _ rfl gO #[.slice none 0 0, .int .i64 pw, .int .i64 pa, .int .i64 0, .int .i64 (inv.length : Int)] rfl rfl 87 #[.slice none 0 0, .int .i64 0, .int .i64 0, .int .i64 0, .int .i64 0] (bU O.out) (by kernel_rfl) rfl (by kernel_rfl) ?_); intro w6 hg ho hB; replace HB := As0 (hB _ _ GO.out (BU HB.out)); replace O := As0 hg; clear hg ho hB))
      exact bodyPost_ret (results_cell_row rfl _ _ gO 87 #[.slice none 0 0, .int .i64 pw, .int .i64 pa, .int .i64 0, .int .i64 (inv.length : Int)] (0, 0) _ rfl (bU O.out) hu87 rfl (by kernel_rfl)) rfl ⟨none, 0, rfl, Nat.le_refl _, Kd.C_nil _ _, fun ad e => (by cases e), BU HB.out⟩
def machine_others_1.f (k : Nat) (a0_0 : Int) (a0_1 : Int) (a0_2 : Int) (a0_3 : Int) (a0_4 : Int) (a0_5 : Int) (a0_6 : Int) (a1 : Int) (a2 : Int) : Option (Int) := (Qa6.f k a0_0 a0_1 a0_2 a0_3 a0_4 a1).bind fun t122 => (some t122)
theorem machine_others_1.calls (k : Nat) (a0_0 : Int) (a0_1 : Int) (a0_2 : Int) (a0_3 : Int) (a0_4 : Int) (a0_5 : Int) (a0_6 : Int) (a1 : Int) (a2 : Int) (r : Int) (w : World) (h : machine_others_1.f k a0_0 a0_1 a0_2 a0_3 a0_4 a0_5 a0_6 a1 a2 = some r) :
  Calls Tryz.prog 195 #[.agg #[.int .i64 a0_0, .int .i64 a0_1, .int .i64 a0_2, .int .i64 a0_3, .int .i64 a0_4, .int .i64 a0_5, .int .i64 a0_6], .int .i64 a1, .int .i64 a2] w fun e w' => e = .returned (.int .i64 r) ∧ Below w.heap.size w w' := by
 have hu59 := Tryz.underlying59
 have hu41 := Tryz.underlying41
 have HB := As0 (Below.refl w.heap.size w)
 have H : ((Qa6.f k a0_0 a0_1 a0_2 a0_3 a0_4 a1).bind fun t122 => (some t122)) = some r := h
 clear h
 replace H := Option.bind_eq_some_iff.mp H
 obtain ⟨t122, A40, H⟩ := H
 have A4 := As0 A40
 clear A40
 obtain rfl := Option.some.inj H
 go_enter Tryz.func195, Tryz.ntmps195
 go_wp2_with (first | ((with_reducible refine Qbn (N := 3) rfl ?_); refine bX (N := 3) (cs := #[.int .i64 a0_0, .int .i64 a0_1, .int .i64 a0_2, .int .i64 a0_3, .int .i64 a0_4, .int .i64 a0_5, .int .i64 a0_6]) (t := 59) ?_; intro gb121 hg w5 hbox hb; have BK121 := As0 (hbox); have GW121 := gW hg HB.out; have GE121 := GW121; replace HB := As0 (Qbj (BU HB.out) hb); clear hb hbox hg; obtain ⟨z6_0, z6_1, z6_2, z6_3, z6_4, z6_5, z6_6, y_6_0, y_6_1, y_6_2, y_6_3, y_6_4, y_6_5, y_6_6⟩ := cN7 BK121.out) | ((with_reducible refine Qbq (f := 148) rfl ?_); refine gL (some 19) Tryz.func148 #[.agg #[.int .i64 a0_0, .int .i64 a0_1, .int .i64 a0_2, .int .i64 a0_3, .int .i64 a0_4], .int .i64 a1] ?_; (with_reducible refine (Qa6.calls k a0_0 a0_1 a0_2 a0_3 a0_4 a1 t122 _ A4.out).mono ?_); rintro e w7 ⟨rfl, hb⟩; refine ⟨_, rfl, ?_⟩; replace BK121 := kB BK121 hb; replace HB := As0 (Qbj (BU HB.out) hb); (try clear hb)))
 go_ret
 exact ⟨oR, BU HB.out⟩
def machine_others_2.f (a0_0 : Int) (a0_1 : Int) (a0_2 : Int) (a0_3 : Int) (a0_4 : Int) (a0_5 : Int) (a0_6 : Int) : Option (Bool) := if a0_5 = 0 then (some (a0_6 == 0)) else (some false)
theorem machine_others_2.calls (a0_0 : Int) (a0_1 : Int) (a0_2 : Int) (a0_3 : Int) (a0_4 : Int) (a0_5 : Int) (a0_6 : Int) (r : Bool) (w : World) (h : machine_others_2.f a0_0 a0_1 a0_2 a0_3 a0_4 a0_5 a0_6 = some r) :
  Calls Tryz.prog 196 #[.agg #[.int .i64 a0_0, .int .i64 a0_1, .int .i64 a0_2, .int .i64 a0_3, .int .i64 a0_4, .int .i64 a0_5, .int .i64 a0_6]] w fun e w' => e = .returned (.bool r) ∧ Below w.heap.size w w' := by
 have hu59 := Tryz.underlying59
 have HB := As0 (Below.refl w.heap.size w)
 have H : (if a0_5 = 0 then (some (a0_6 == 0)) else (some false)) = some r := h
 clear h
 by_cases c2 : a0_5 = 0
 rotate_left
 ·rw [if_neg c2] at H
  have c2b0 : (a0_5 == 0) = false := beq_eq_false_iff_ne.mpr c2
  have c2b1 : (a0_5 != 0) = true := bne_iff_ne.mpr c2
  obtain rfl := Option.some.inj H
  go_enter Tryz.func196, Tryz.ntmps196
  go_wp2_with (first | ((with_reducible refine Qbn (N := 1) rfl ?_); refine bX (N := 1) (cs := #[.int .i64 a0_0, .int .i64 a0_1, .int .i64 a0_2, .int .i64 a0_3, .int .i64 a0_4, .int .i64 a0_5, .int .i64 a0_6]) (t := 59) ?_; intro gb123 hg w5 hbox hb; have BK123 := As0 (hbox); have GW123 := gW hg HB.out; have GE123 := GW123; replace HB := As0 (Qbj (BU HB.out) hb); clear hb hbox hg; obtain ⟨z6_0, z6_1, z6_2, z6_3, z6_4, z6_5, z6_6, y_6_0, y_6_1, y_6_2, y_6_3, y_6_4, y_6_5, y_6_6⟩ := cN7 BK123.out))
  go_ret
  exact ⟨oR, BU HB.out⟩
 rw [if_pos c2] at H
 have c2b0 : (a0_5 == 0) = true := beq_iff_eq.mpr c2
 have c2b1 : (a0_5 != 0) = false := bne_eq_false_iff_eq.mpr c2
 clear c2
 obtain rfl := Option.some.inj H
 go_enter Tryz.func196, Tryz.ntmps196
 go_wp2_with (first | ((with_reducible refine Qbn (N := 1) rfl ?_); refine bX (N := 1) (cs := #[.int .i64 a0_0, .int .i64 a0_1, .int .i64 a0_2, .int .i64 a0_3, .int .i64 a0_4, .int .i64 a0_5, .int .i64 a0_6]) (t := 59) ?_; intro gb123 hg w3 hbox hb; have BK123 := As0 (hbox); have GW123 := gW hg HB.out; have GE123 := GW123; replace HB := As0 (Qbj (BU HB.out) hb); clear hb hbox hg; obtain ⟨z4_0, z4_1, z4_2, z4_3, z4_4, z4_5, z4_6, y_4_0, y_4_1, y_4_2, y_4_3, y_4_4, y_4_5, y_4_6⟩ := cN7 BK123.out))
 go_ret
 exact ⟨oR, BU HB.out⟩
mutual
def Qay.j0 : Nat → Int → Int → Bool → Int → Int → Int → Int → Int → Int → Int → Option (Int)
 | 0, _, _, _, _, _, _, _, _, _, _ => none
 | k + 1, x1, x2, x7, x128000, x128001, x128002, x128003, x128004, x128005, x128006 => if x7 = true then (Qay.j1 k true) else ((Qa9.f x128005 x1 x2).bind fun t130 => (if t130 = true then ((Qa9.f x128006 x1 x2).bind fun t131 => (Qay.j1 k (!t131))) else (Qay.j1 k true)))
def Qay.j1 : Nat → Bool → Option (Int)
 | 0, _ => none
 | k + 1, x32 => if x32 = true then (some 10) else (some 0)
end
def Qay.f (k : Nat) (a0_0 : Int) (a0_1 : Int) (a0_2 : Int) (a0_3 : Int) (a0_4 : Int) (a0_5 : Int) (a0_6 : Int) (a1 : Int) (a2 : Int) : Option (Int) := (Qav.f a0_5).bind fun t128 => (if t128 = true then ((Qav.f a0_6).bind fun t129 => (Qay.j0 k a1 a2 t129 a0_0 a0_1 a0_2 a0_3 a0_4 a0_5 a0_6)) else (Qay.j0 k a1 a2 false a0_0 a0_1 a0_2 a0_3 a0_4 a0_5 a0_6))
theorem Qay.calls (k : Nat) (a0_0 : Int) (a0_1 : Int) (a0_2 : Int) (a0_3 : Int) (a0_4 : Int) (a0_5 : Int) (a0_6 : Int) (a1 : Int) (a2 : Int) (r : Int) (w : World) (h : Qay.f k a0_0 a0_1 a0_2 a0_3 a0_4 a0_5 a0_6 a1 a2 = some r) :
  Calls Tryz.prog 197 #[.agg #[.int .i64 a0_0, .int .i64 a0_1, .int .i64 a0_2, .int .i64 a0_3, .int .i64 a0_4, .int .i64 a0_5, .int .i64 a0_6], .int .i64 a1, .int .i64 a2] w fun e w' => e = .returned (.int .i64 r) ∧ Below w.heap.size w w' := by
 have hu59 := Tryz.underlying59
 have HB := As0 (Below.refl w.heap.size w)
 have H : ((Qav.f a0_5).bind fun t128 => (if t128 = true then ((Qav.f a0_6).bind fun t129 => (Qay.j0 k a1 a2 t129 a0_0 a0_1 a0_2 a0_3 a0_4 a0_5 a0_6)) else (Qay.j0 k a1 a2 false a0_0 a0_1 a0_2 a0_3 a0_4 a0_5 a0_6))) = some r := h
 clear h
 have HC4 := As0 H
 clear H
 go_enter Tryz.func197, Tryz.ntmps197
 go_upto_region 1 with (first | ((with_reducible refine Qbn (N := 3) rfl ?_); refine bX (N := 3) (cs := #[.int .i64 a0_0, .int .i64 a0_1, .int .i64 a0_2, .int .i64 a0_3, .int .i64 a0_4, .int .i64 a0_5, .int .i64 a0_6]) (t := 59) ?_; intro gb127 hg w5 hbox hb; have BK127 := As0 (hbox); have GW127 := gW hg HB.out; have GE127 := GW127; replace HB := As0 (Qbj (BU HB.out) hb); clear hb hbox hg))
 (try simp only [Act.put, sL1, sL2, sL3])
 go_cut [7] (fun v7 wc => ∃ (kq : Nat) (x7_3 : Bool), v7 = .bool x7_3 ∧ Qbm (Qay.j0 kq a1 a2 x7_3 a0_0 a0_1 a0_2 a0_3 a0_4 a0_5 a0_6 = some r) ∧ Qbm (kq ≤ k) ∧ Qbm (wc.heap[gb127]? = some (.cells #[.int .i64 a0_0, .int .i64 a0_1, .int .i64 a0_2, .int .i64 a0_3, .int .i64 a0_4, .int .i64 a0_5, .int .i64 a0_6] 59 (0, 0))) ∧ Qbm (Below w.heap.size w wc))
 case first =>
  have H := HC4.out
  clear HC4
  replace H := Option.bind_eq_some_iff.mp H
  obtain ⟨t128, A60, H⟩ := H
  have A6 := As0 A60
  clear A60
  by_cases c7 : t128 = true
  rotate_left
  ·replace c7 := Bool.eq_false_iff.mpr c7
   subst c7
   rw [if_neg bF] at H
   have H' := As0 H
   clear H
   obtain ⟨z10_0, z10_1, z10_2, z10_3, z10_4, z10_5, z10_6, y_10_0, y_10_1, y_10_2, y_10_3, y_10_4, y_10_5, y_10_6⟩ := cN7 BK127.out
   go_wp2_with (first | ((with_reducible refine Qbq (f := 135) rfl ?_); refine gL (some 10) Tryz.func135 #[.int .i64 a0_5] ?_; (with_reducible refine (Qav.calls a0_5 false _ A6.out).mono ?_); rintro e w' ⟨rfl, ⟨nd, rfl⟩⟩; refine ⟨_, rfl, ?_⟩))
   go_meet
   case rel => exact ⟨_, (false), eR, H', ⟨by first | omega | exact Nat.le_refl _⟩, ⟨bU BK127.out⟩, ⟨BU HB.out⟩⟩
  subst c7
  rw [if_pos rfl] at H
  replace H := Option.bind_eq_some_iff.mp H
  obtain ⟨t129, A80, H⟩ := H
  have A8 := As0 A80
  clear A80
  have H' := As0 H
  clear H
  obtain ⟨z9_0, z9_1, z9_2, z9_3, z9_4, z9_5, z9_6, y_9_0, y_9_1, y_9_2, y_9_3, y_9_4, y_9_5, y_9_6⟩ := cN7 BK127.out
  go_wp2_with (first | ((with_reducible refine Qbq (f := 135) rfl ?_); refine gL (some 10) Tryz.func135 #[.int .i64 a0_5] ?_; (with_reducible refine (Qav.calls a0_5 true _ A6.out).mono ?_); rintro e w' ⟨rfl, ⟨nd, rfl⟩⟩; refine ⟨_, rfl, ?_⟩) | (go_at_call 135; (with_reducible refine (Qav.calls a0_6 t129 _ A8.out).mono ?_); rintro e w' ⟨rfl, ⟨nd, rfl⟩⟩))
  go_meet
  case rel => exact ⟨_, (t129), eR, H', ⟨by first | omega | exact Nat.le_refl _⟩, ⟨bU BK127.out⟩, ⟨BU HB.out⟩⟩
 case rest =>
  clear HC4
  obtain ⟨kq, x7_3, rfl, HA, HJ3, BK127, HB⟩ := hcut
  cases kq with
  | zero => exact absurd HA.out (by simp [Qay.j0])
  | succ kj3 =>
   have H := HA.out
   clear HA
   simp only [Qay.j0] at H
   have HC11 := As0 H
   clear H
   go_upto_region 2 with (fail)
   go_cut [32] (fun v32 wc => ∃ (kq : Nat) (x32_10 : Bool), v32 = .bool x32_10 ∧ Qbm (Qay.j1 kq x32_10 = some r) ∧ Qbm (kq ≤ kj3) ∧ Qbm (wc.heap[gb127]? = some (.cells #[.int .i64 a0_0, .int .i64 a0_1, .int .i64 a0_2, .int .i64 a0_3, .int .i64 a0_4, .int .i64 a0_5, .int .i64 a0_6] 59 (0, 0))) ∧ Qbm (Below w.heap.size w wc))
   case first =>
    have H := HC11.out
    clear HC11
    by_cases c12 : x7_3 = true
    ·subst c12
     rw [if_pos rfl] at H
     have H' := As0 H
     clear H
     go_wp2
     go_meet
     case rel => exact ⟨_, (true), eR, H', ⟨by have := HJ3.out; first | omega | exact Nat.le_refl _⟩, ⟨bU BK127.out⟩, ⟨BU HB.out⟩⟩
    replace c12 := Bool.eq_false_iff.mpr c12
    subst c12
    rw [if_neg bF] at H
    replace H := Option.bind_eq_some_iff.mp H
    obtain ⟨t130, A130, H⟩ := H
    have A13 := As0 A130
    clear A130
    by_cases c14 : t130 = true
    rotate_left
    ·replace c14 := Bool.eq_false_iff.mpr c14
     subst c14
     rw [if_neg bF] at H
     have H' := As0 H
     clear H
     obtain ⟨z17_0, z17_1, z17_2, z17_3, z17_4, z17_5, z17_6, y_17_0, y_17_1, y_17_2, y_17_3, y_17_4, y_17_5, y_17_6⟩ := cN7 BK127.out
     go_wp2_with (first | (go_at_call 138; (with_reducible refine (Qa9.calls a0_5 a1 a2 false _ A13.out).mono ?_); rintro e w' ⟨rfl, ⟨nd, rfl⟩⟩))
     go_meet
     case rel => exact ⟨_, (true), eR, H', ⟨by have := HJ3.out; first | omega | exact Nat.le_refl _⟩, ⟨bU BK127.out⟩, ⟨BU HB.out⟩⟩
    subst c14
    rw [if_pos rfl] at H
    replace H := Option.bind_eq_some_iff.mp H
    obtain ⟨t131, A150, H⟩ := H
    have A15 := As0 A150
    clear A150
    have H' := As0 H
    clear H
    obtain ⟨z16_0, z16_1, z16_2, z16_3, z16_4, z16_5, z16_6, y_16_0, y_16_1, y_16_2, y_16_3, y_16_4, y_16_5, y_16_6⟩ := cN7 BK127.out
    go_wp2_with (first | (go_at_call 138; (with_reducible refine (Qa9.calls a0_5 a1 a2 true _ A13.out).mono ?_); rintro e w' ⟨rfl, ⟨nd, rfl⟩⟩) | (go_at_call 138; (with_reducible refine (Qa9.calls a0_6 a1 a2 t131 _ A15.out).mono ?_); rintro e w' ⟨rfl, ⟨nd, rfl⟩⟩))
    go_meet
    case rel => exact ⟨_, (!t131), eR, H', ⟨by have := HJ3.out; first | omega | exact Nat.le_refl _⟩, ⟨bU BK127.out⟩, ⟨BU HB.out⟩⟩
   case rest =>
    clear HC11
    obtain ⟨kq, x32_10, rfl, HA, HJ10, BK127, HB⟩ := hcut
    cases kq with
    | zero => exact absurd HA.out (by simp [Qay.j1])
    | succ kj10 =>
     have H := HA.out
     clear HA
     simp only [Qay.j1] at H
     by_cases c18 : x32_10 = true
     ·subst c18
      rw [if_pos rfl] at H
      obtain rfl := Option.some.inj H
      go_wp2
      go_ret
      exact ⟨oR, BU HB.out⟩
     replace c18 := Bool.eq_false_iff.mpr c18
     subst c18
     rw [if_neg bF] at H
     obtain rfl := Option.some.inj H
     go_wp2
     go_ret
     exact ⟨oR, BU HB.out⟩
def machine_moves_2.f (a0_0 : Int) (a0_1 : Int) (a0_2 : Int) (a0_3 : Int) (a0_4 : Int) (a0_5 : Int) (a0_6 : Int) : Option (Bool) := if a0_1 = 0 then (if a0_2 = 0 then (if a0_3 = 0 then (some (a0_4 == 0)) else (some false)) else (some false)) else (some false)
theorem machine_moves_2.calls (a0_0 : Int) (a0_1 : Int) (a0_2 : Int) (a0_3 : Int) (a0_4 : Int) (a0_5 : Int) (a0_6 : Int) (r : Bool) (w : World) (h : machine_moves_2.f a0_0 a0_1 a0_2 a0_3 a0_4 a0_5 a0_6 = some r) :
  Calls Tryz.prog 198 #[.agg #[.int .i64 a0_0, .int .i64 a0_1, .int .i64 a0_2, .int .i64 a0_3, .int .i64 a0_4, .int .i64 a0_5, .int .i64 a0_6]] w fun e w' => e = .returned (.bool r) ∧ Below w.heap.size w w' := by
 have hu59 := Tryz.underlying59
 have HB := As0 (Below.refl w.heap.size w)
 have H : (if a0_1 = 0 then (if a0_2 = 0 then (if a0_3 = 0 then (some (a0_4 == 0)) else (some false)) else (some false)) else (some false)) = some r := h
 clear h
 by_cases c2 : a0_1 = 0
 rotate_left
 ·rw [if_neg c2] at H
  have c2b0 : (a0_1 == 0) = false := beq_eq_false_iff_ne.mpr c2
  have c2b1 : (a0_1 != 0) = true := bne_iff_ne.mpr c2
  obtain rfl := Option.some.inj H
  go_enter Tryz.func198, Tryz.ntmps198
  go_wp2_with (first | ((with_reducible refine Qbn (N := 1) rfl ?_); refine bX (N := 1) (cs := #[.int .i64 a0_0, .int .i64 a0_1, .int .i64 a0_2, .int .i64 a0_3, .int .i64 a0_4, .int .i64 a0_5, .int .i64 a0_6]) (t := 59) ?_; intro gb132 hg w11 hbox hb; have BK132 := As0 (hbox); have GW132 := gW hg HB.out; have GE132 := GW132; replace HB := As0 (Qbj (BU HB.out) hb); clear hb hbox hg; obtain ⟨z12_0, z12_1, z12_2, z12_3, z12_4, z12_5, z12_6, y_12_0, y_12_1, y_12_2, y_12_3, y_12_4, y_12_5, y_12_6⟩ := cN7 BK132.out))
  go_ret
  exact ⟨oR, BU HB.out⟩
 rw [if_pos c2] at H
 have c2b0 : (a0_1 == 0) = true := beq_iff_eq.mpr c2
 have c2b1 : (a0_1 != 0) = false := bne_eq_false_iff_eq.mpr c2
 clear c2
 by_cases c3 : a0_2 = 0
 rotate_left
 ·rw [if_neg c3] at H
  have c3b0 : (a0_2 == 0) = false := beq_eq_false_iff_ne.mpr c3
  have c3b1 : (a0_2 != 0) = true := bne_iff_ne.mpr c3
  obtain rfl := Option.some.inj H
  go_enter Tryz.func198, Tryz.ntmps198
  go_wp2_with (first | ((with_reducible refine Qbn (N := 1) rfl ?_); refine bX (N := 1) (cs := #[.int .i64 a0_0, .int .i64 a0_1, .int .i64 a0_2, .int .i64 a0_3, .int .i64 a0_4, .int .i64 a0_5, .int .i64 a0_6]) (t := 59) ?_; intro gb132 hg w9 hbox hb; have BK132 := As0 (hbox); have GW132 := gW hg HB.out; have GE132 := GW132; replace HB := As0 (Qbj (BU HB.out) hb); clear hb hbox hg; obtain ⟨z10_0, z10_1, z10_2, z10_3, z10_4, z10_5, z10_6, y_10_0, y_10_1, y_10_2, y_10_3, y_10_4, y_10_5, y_10_6⟩ := cN7 BK132.out))
  go_ret
  exact ⟨oR, BU HB.out⟩
 rw [if_pos c3] at H
 have c3b0 : (a0_2 == 0) = true := beq_iff_eq.mpr c3
 have c3b1 : (a0_2 != 0) = false := bne_eq_false_iff_eq.mpr c3
 clear c3
 by_cases c4 : a0_3 = 0
 rotate_left
 ·rw [if_neg c4] at H
  have c4b0 : (a0_3 == 0) = false := beq_eq_false_iff_ne.mpr c4
  have c4b1 : (a0_3 != 0) = true := bne_iff_ne.mpr c4
  obtain rfl := Option.some.inj H
  go_enter Tryz.func198, Tryz.ntmps198
  go_wp2_with (first | ((with_reducible refine Qbn (N := 1) rfl ?_); refine bX (N := 1) (cs := #[.int .i64 a0_0, .int .i64 a0_1, .int .i64 a0_2, .int .i64 a0_3, .int .i64 a0_4, .int .i64 a0_5, .int .i64 a0_6]) (t := 59) ?_; intro gb132 hg w7 hbox hb; have BK132 := As0 (hbox); have GW132 := gW hg HB.out; have GE132 := GW132; replace HB := As0 (Qbj (BU HB.out) hb); clear hb hbox hg; obtain ⟨z8_0, z8_1, z8_2, z8_3, z8_4, z8_5, z8_6, y_8_0, y_8_1, y_8_2, y_8_3, y_8_4, y_8_5, y_8_6⟩ := cN7 BK132.out))
  go_ret
  exact ⟨oR, BU HB.out⟩
 rw [if_pos c4] at H
 have c4b0 : (a0_3 == 0) = true := beq_iff_eq.mpr c4
 have c4b1 : (a0_3 != 0) = false := bne_eq_false_iff_eq.mpr c4
 clear c4
 obtain rfl := Option.some.inj H
 go_enter Tryz.func198, Tryz.ntmps198
 go_wp2_with (first | ((with_reducible refine Qbn (N := 1) rfl ?_); refine bX (N := 1) (cs := #[.int .i64 a0_0, .int .i64 a0_1, .int .i64 a0_2, .int .i64 a0_3, .int .i64 a0_4, .int .i64 a0_5, .int .i64 a0_6]) (t := 59) ?_; intro gb132 hg w5 hbox hb; have BK132 := As0 (hbox); have GW132 := gW hg HB.out; have GE132 := GW132; replace HB := As0 (Qbj (BU HB.out) hb); clear hb hbox hg; obtain ⟨z6_0, z6_1, z6_2, z6_3, z6_4, z6_5, z6_6, y_6_0, y_6_1, y_6_2, y_6_3, y_6_4, y_6_5, y_6_6⟩ := cN7 BK132.out))
 go_ret
 exact ⟨oR, BU HB.out⟩
theorem others_calls (w : World) : Calls Tryz.prog 172 #[] w fun e w' => e = .returned (.agg #[.func (.func 195) #[] #[], .func (.func 196) #[] #[]]) ∧ Below w.heap.size w w' := by
  have hu239 := Tryz.underlying239
  go_enter Tryz.func172, Tryz.ntmps172
  go_wp2_with ((with_reducible refine Qc6 (.store 239 (.tmp 0) (.tmp 1)) rfl ?_); go_loud (refine Qat rfl rfl 239 _ _ rfl w.heap.size #[.func (.func 195) #[] #[], .func (.func 196) #[] #[]] rfl rfl 239 #[.nilFunc, .nilFunc] (Qde w _) (by kernel_rfl) rfl (by kernel_rfl) ?_); intro w1 hg ho hB)
  exact bodyPost_ret (results_cell_row rfl _ _ w.heap.size 239 #[.func (.func 195) #[] #[], .func (.func 196) #[] #[]] (0, 0) _ rfl hg hu239 rfl (by kernel_rfl)) rfl ⟨rfl, hB _ _ (Nat.le_refl _) (Qb3 (Below.refl _ _) _)⟩
theorem moves_calls (w : World) : Calls Tryz.prog 173 #[] w fun e w' => e = .returned (.agg #[.func (.func 197) #[] #[], .func (.func 198) #[] #[]]) ∧ Below w.heap.size w w' := by
  have hu239 := Tryz.underlying239
  go_enter Tryz.func173, Tryz.ntmps173
  go_wp2_with ((with_reducible refine Qc6 (.store 239 (.tmp 0) (.tmp 1)) rfl ?_); go_loud (refine Qat rfl rfl 239 _ _ rfl w.heap.size #[.func (.func 197) #[] #[], .func (.func 198) #[] #[]] rfl rfl 239 #[.nilFunc, .nilFunc] (Qde w _) (by kernel_rfl) rfl (by kernel_rfl) ?_); intro w1 hg ho hB)
  exact bodyPost_ret (results_cell_row rfl _ _ w.heap.size 239 #[.func (.func 197) #[] #[], .func (.func 198) #[] #[]] (0, 0) _ rfl hg hu239 rfl (by kernel_rfl)) rfl ⟨rfl, hB _ _ (Nat.le_refl _) (Qb3 (Below.refl _ _) _)⟩
theorem Qek (a0 : Int) (a1 : Int) (a2 : Int) (a3 : Int) (a4 : Int) (a5 : Int) (a6 : Int) (r : Int) (s : Int) (t z : Bool) (y : Int) (v : Int) (w : World) (hop : a0 ≠ 18)
    (h133 : ∀ W, Calls Tryz.prog 133 #[.int .i64 a0] W fun e w' => e = .returned (.bool t) ∧ Qcb W w')
    (h1 : t = true → ∀ W, Calls Tryz.prog 195 #[.agg #[.int .i64 a0, .int .i64 a1, .int .i64 a2, .int .i64 a3, .int .i64 a4, .int .i64 a5, .int .i64 a6], .int .i64 r, .int .i64 s] W fun e w' => e = .returned (.int .i64 y) ∧ Below W.heap.size W w')
    (h2 : t = true → y = 0 → ∀ W, Calls Tryz.prog 196 #[.agg #[.int .i64 a0, .int .i64 a1, .int .i64 a2, .int .i64 a3, .int .i64 a4, .int .i64 a5, .int .i64 a6]] W fun e w' => e = .returned (.bool z) ∧ Below W.heap.size W w')
    (hv : v = if t = true then (if y = 0 then (if z = true then 0 else 12) else y) else 8) :
    Calls Tryz.prog 150 #[.agg #[.int .i64 a0, .int .i64 a1, .int .i64 a2, .int .i64 a3, .int .i64 a4, .int .i64 a5, .int .i64 a6], .int .i64 r, .int .i64 s] w fun e w' => e = .returned (.int .i64 v) ∧ Below w.heap.size w w' := by
  have hu59 := Tryz.underlying59
  have hu239 := Tryz.underlying239
  have HB := As0 (Below.refl w.heap.size w)
  have hop1 : (a0 == 18) = false := beq_eq_false_iff_ne.mpr hop
  go_enter Tryz.func150, Tryz.ntmps150
  go_wp2_with (first
    | ((with_reducible refine Qbn (N := 3) rfl ?_); refine bX (N := 3) (cs := #[.int .i64 a0, .int .i64 a1, .int .i64 a2, .int .i64 a3, .int .i64 a4, .int .i64 a5, .int .i64 a6]) (t := 59) ?_; intro g hg w1 hbox hb; have X := As0 hbox; replace HB := As0 (Qbj (BU HB.out) hb); (obtain ⟨z0, z1, z2, z3, z4, z5, z6, y0, y1, y2, y3, y4, y5, y6⟩ := cN7 X.out); clear hb hbox hg)
    | (go_at_call 133; refine (h133 _).mono ?_; rintro e w2 ⟨rfl, ⟨m, rfl⟩⟩)
    | (go_at_call 172; refine (others_calls _).mono ?_; rintro e w3 ⟨rfl, hb⟩; (clear z0 z1 z2 z3 z4 z5 z6 y0 y1 y2 y3 y4 y5 y6); (replace X := kB X hb); (replace HB := As0 (Qbj (BU HB.out) hb)); (obtain ⟨z0, z1, z2, z3, z4, z5, z6, y0, y1, y2, y3, y4, y5, y6⟩ := cN7 X.out); clear hb)
    | ((with_reducible refine Qc6 (.store 239 (.tmp 7) (.tmp 13)) rfl ?_); go_loud (refine Qat rfl rfl 239 _ _ rfl w3.heap.size #[.func (.func 195) #[] #[], .func (.func 196) #[] #[]] rfl rfl 239 #[.nilFunc, .nilFunc] (Qde w3 _) (by kernel_rfl) rfl (by kernel_rfl) ?_); intro w4 hg ho hB; have lt := Qbz X.out; replace X := As0 ((ho g (Nat.ne_of_lt lt)).trans (Qbv X.out _)); replace HB := As0 (hB _ _ (Qbp HB.out) (Qb3 HB.out _)); have Y := As0 hg; clear hg ho hB; (clear z0 z1 z2 z3 z4 z5 z6 y0 y1 y2 y3 y4 y5 y6); (obtain ⟨z0, z1, z2, z3, z4, z5, z6, y0, y1, y2, y3, y4, y5, y6⟩ := cN7 X.out); (obtain ⟨e0, e1, f0, f1⟩ := cN2 Y.out))
    | (go_at_call 195; refine (h1 (by simpa using (by assumption : (!t) = false)) _).mono ?_; rintro e w7 ⟨rfl, hb⟩; (clear z0 z1 z2 z3 z4 z5 z6 y0 y1 y2 y3 y4 y5 y6); (replace X := kB X hb); (replace HB := As0 (Qbj (BU HB.out) hb)); (obtain ⟨z0, z1, z2, z3, z4, z5, z6, y0, y1, y2, y3, y4, y5, y6⟩ := cN7 X.out); (replace Y := kB Y hb); (clear e0 e1 f0 f1); (obtain ⟨e0, e1, f0, f1⟩ := cN2 Y.out); clear hb)
    | (go_at_call 196; refine (h2 (by simpa using (by assumption : (!t) = false)) (by simpa using (by assumption : (y != 0) = false)) _).mono ?_; rintro e w8 ⟨rfl, hb⟩; (clear z0 z1 z2 z3 z4 z5 z6 y0 y1 y2 y3 y4 y5 y6); (replace X := kB X hb); (replace HB := As0 (Qbj (BU HB.out) hb)); clear hb))
  all_goals (go_ret; exact ⟨by simp_all, BU HB.out⟩)
theorem instr_move (a1 : Int) (a2 : Int) (a3 : Int) (a4 : Int) (a5 : Int) (a6 : Int) (r : Int) (s : Int) (t z : Bool) (y : Int) (v : Int) (w : World)
    (h133 : ∀ W, Calls Tryz.prog 133 #[.int .i64 18] W fun e w' => e = .returned (.bool t) ∧ Qcb W w')
    (h1 : t = true → ∀ W, Calls Tryz.prog 197 #[.agg #[.int .i64 18, .int .i64 a1, .int .i64 a2, .int .i64 a3, .int .i64 a4, .int .i64 a5, .int .i64 a6], .int .i64 r, .int .i64 s] W fun e w' => e = .returned (.int .i64 y) ∧ Below W.heap.size W w')
    (h2 : t = true → y = 0 → ∀ W, Calls Tryz.prog 198 #[.agg #[.int .i64 18, .int .i64 a1, .int .i64 a2, .int .i64 a3, .int .i64 a4, .int .i64 a5, .int .i64 a6]] W fun e w' => e = .returned (.bool z) ∧ Below W.heap.size W w')
    (hv : v = if t = true then (if y = 0 then (if z = true then 0 else 12) else y) else 8) :
    Calls Tryz.prog 150 #[.agg #[.int .i64 18, .int .i64 a1, .int .i64 a2, .int .i64 a3, .int .i64 a4, .int .i64 a5, .int .i64 a6], .int .i64 r, .int .i64 s] w fun e w' => e = .returned (.int .i64 v) ∧ Below w.heap.size w w' := by
  have hu59 := Tryz.underlying59
  have hu239 := Tryz.underlying239
  have HB := As0 (Below.refl w.heap.size w)
  go_enter Tryz.func150, Tryz.ntmps150
  go_wp2_with (first
    | ((with_reducible refine Qbn (N := 3) rfl ?_); refine bX (N := 3) (cs := #[.int .i64 18, .int .i64 a1, .int .i64 a2, .int .i64 a3, .int .i64 a4, .int .i64 a5, .int .i64 a6]) (t := 59) ?_; intro g hg w1 hbox hb; have X := As0 hbox; replace HB := As0 (Qbj (BU HB.out) hb); (obtain ⟨z0, z1, z2, z3, z4, z5, z6, y0, y1, y2, y3, y4, y5, y6⟩ := cN7 X.out); clear hb hbox hg)
    | (go_at_call 133; refine (h133 _).mono ?_; rintro e w2 ⟨rfl, ⟨m, rfl⟩⟩)
    | (go_at_call 172; refine (others_calls _).mono ?_; rintro e w3 ⟨rfl, hb⟩; (clear z0 z1 z2 z3 z4 z5 z6 y0 y1 y2 y3 y4 y5 y6); (replace X := kB X hb); (replace HB := As0 (Qbj (BU HB.out) hb)); (obtain ⟨z0, z1, z2, z3, z4, z5, z6, y0, y1, y2, y3, y4, y5, y6⟩ := cN7 X.out); clear hb; have HB3 := HB)
    | ((with_reducible refine Qc6 (.store 239 (.tmp 7) (.tmp 13)) rfl ?_); go_loud (refine Qat rfl rfl 239 _ _ rfl w3.heap.size #[.func (.func 195) #[] #[], .func (.func 196) #[] #[]] rfl rfl 239 #[.nilFunc, .nilFunc] (Qde w3 _) (by kernel_rfl) rfl (by kernel_rfl) ?_); intro w4 hg ho hB; have lt := Qbz X.out; replace X := As0 ((ho g (Nat.ne_of_lt lt)).trans (Qbv X.out _)); replace HB := As0 (hB _ _ (Qbp HB.out) (Qb3 HB.out _)); have Y := As0 hg; clear hg ho hB; (clear z0 z1 z2 z3 z4 z5 z6 y0 y1 y2 y3 y4 y5 y6); (obtain ⟨z0, z1, z2, z3, z4, z5, z6, y0, y1, y2, y3, y4, y5, y6⟩ := cN7 X.out); (obtain ⟨e0, e1, f0, f1⟩ := cN2 Y.out))
    | (go_at_call 173; refine (moves_calls _).mono ?_; rintro e w5 ⟨rfl, hb⟩; (clear z0 z1 z2 z3 z4 z5 z6 y0 y1 y2 y3 y4 y5 y6); (replace X := kB X hb); (replace HB := As0 (Qbj (BU HB.out) hb)); (obtain ⟨z0, z1, z2, z3, z4, z5, z6, y0, y1, y2, y3, y4, y5, y6⟩ := cN7 X.out); (replace Y := kB Y hb); (clear e0 e1 f0 f1); (obtain ⟨e0, e1, f0, f1⟩ := cN2 Y.out); clear hb)
    | ((with_reducible refine Qc6 (.store 239 (.tmp 7) (.tmp 17)) rfl ?_); go_loud (refine Qat rfl rfl 239 _ _ rfl w3.heap.size #[.func (.func 197) #[] #[], .func (.func 198) #[] #[]] rfl rfl 239 #[.func (.func 195) #[] #[], .func (.func 196) #[] #[]] Y.out (by kernel_rfl) rfl (by kernel_rfl) ?_); intro w6 hg ho hB; replace X := As0 ((ho g (Nat.ne_of_lt lt)).trans X.out); have B3 := Qbp HB3.out; replace HB := As0 (hB _ _ B3 HB.out); replace Y := As0 hg; clear hg ho hB; (clear z0 z1 z2 z3 z4 z5 z6 y0 y1 y2 y3 y4 y5 y6); (obtain ⟨z0, z1, z2, z3, z4, z5, z6, y0, y1, y2, y3, y4, y5, y6⟩ := cN7 X.out); (clear e0 e1 f0 f1); (obtain ⟨e0, e1, f0, f1⟩ := cN2 Y.out))
    | (go_at_call 197; refine (h1 (by simpa using (by assumption : (!t) = false)) _).mono ?_; rintro e w7 ⟨rfl, hb⟩; (clear z0 z1 z2 z3 z4 z5 z6 y0 y1 y2 y3 y4 y5 y6); (replace X := kB X hb); (replace HB := As0 (Qbj (BU HB.out) hb)); (obtain ⟨z0, z1, z2, z3, z4, z5, z6, y0, y1, y2, y3, y4, y5, y6⟩ := cN7 X.out); (replace Y := kB Y hb); (clear e0 e1 f0 f1); (obtain ⟨e0, e1, f0, f1⟩ := cN2 Y.out); clear hb)
    | (go_at_call 198; refine (h2 (by simpa using (by assumption : (!t) = false)) (by simpa using (by assumption : (y != 0) = false)) _).mono ?_; rintro e w8 ⟨rfl, hb⟩; (clear z0 z1 z2 z3 z4 z5 z6 y0 y1 y2 y3 y4 y5 y6); (replace X := kB X hb); (replace HB := As0 (Qbj (BU HB.out) hb)); clear hb))
  all_goals (go_ret; exact ⟨by simp_all, BU HB.out⟩)
def machine_Instr.f (k : Nat) (a0 a1 a2 a3 a4 a5 a6 r s : Int) : Option Int :=
  (opcode_Machine.f a0).bind fun t => if t = true then (if a0 = 18 then ((Qay.f k a0 a1 a2 a3 a4 a5 a6 r s).bind fun y => if y = 0 then ((machine_moves_2.f a0 a1 a2 a3 a4 a5 a6).bind fun z => some (if z = true then 0 else 12)) else some y)
    else ((machine_others_1.f k a0 a1 a2 a3 a4 a5 a6 r s).bind fun y => if y = 0 then ((machine_others_2.f a0 a1 a2 a3 a4 a5 a6).bind fun z => some (if z = true then 0 else 12)) else some y)) else some 8
theorem machine_Instr.calls (k : Nat) (a0 a1 a2 a3 a4 a5 a6 r s v : Int) (w : World) (h : machine_Instr.f k a0 a1 a2 a3 a4 a5 a6 r s = some v) :
    Calls Tryz.prog 150 #[.agg #[.int .i64 a0, .int .i64 a1, .int .i64 a2, .int .i64 a3, .int .i64 a4, .int .i64 a5, .int .i64 a6], .int .i64 r, .int .i64 s] w fun e w' => e = .returned (.int .i64 v) ∧ Below w.heap.size w w' := by
  unfold machine_Instr.f at h
  obtain ⟨t, ht, h⟩ := Option.bind_eq_some_iff.mp h
  have h133 := fun W => opcode_Machine.calls a0 t W ht
  by_cases hop : a0 = 18
  rotate_left
  ·cases t with
   | false => exact Qek a0 a1 a2 a3 a4 a5 a6 r s false true 0 v w hop h133 (fun h => by cases h) (fun h => by cases h) (by simpa using h.symm)
   | true =>
    rw [if_pos rfl, if_neg hop] at h
    obtain ⟨y, hy, h⟩ := Option.bind_eq_some_iff.mp h
    by_cases y0 : y = 0
    rotate_left
    ·rw [if_neg y0] at h
     exact Qek a0 a1 a2 a3 a4 a5 a6 r s true true y v w hop h133 (fun _ W => machine_others_1.calls k a0 a1 a2 a3 a4 a5 a6 r s y W hy) (fun _ q => absurd q y0) (by simpa [y0] using h.symm)
    rw [if_pos y0] at h
    obtain ⟨z, hz, h⟩ := Option.bind_eq_some_iff.mp h
    exact Qek a0 a1 a2 a3 a4 a5 a6 r s true z y v w hop h133 (fun _ W => machine_others_1.calls k a0 a1 a2 a3 a4 a5 a6 r s y W hy) (fun _ _ W => machine_others_2.calls a0 a1 a2 a3 a4 a5 a6 z W hz) (by simpa [y0] using h.symm)
  subst hop
  cases t with
  | false => exact instr_move a1 a2 a3 a4 a5 a6 r s false true 0 v w h133 (fun h => by cases h) (fun h => by cases h) (by simpa using h.symm)
  | true =>
   rw [if_pos rfl, if_pos rfl] at h
   obtain ⟨y, hy, h⟩ := Option.bind_eq_some_iff.mp h
   by_cases y0 : y = 0
   rotate_left
   ·rw [if_neg y0] at h
    exact instr_move a1 a2 a3 a4 a5 a6 r s true true y v w h133 (fun _ W => Qay.calls k 18 a1 a2 a3 a4 a5 a6 r s y W hy) (fun _ q => absurd q y0) (by simpa [y0] using h.symm)
   rw [if_pos y0] at h
   obtain ⟨z, hz, h⟩ := Option.bind_eq_some_iff.mp h
   exact instr_move a1 a2 a3 a4 a5 a6 r s true z y v w h133 (fun _ W => Qay.calls k 18 a1 a2 a3 a4 a5 a6 r s y W hy) (fun _ _ W => machine_moves_2.calls 18 a1 a2 a3 a4 a5 a6 z W hz) (by simpa [y0] using h.symm)
end Go.Proofs.YtchpkjgibloleaaGreat.Z
