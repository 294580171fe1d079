/- TC -/
import Derived.Shelf.Abstract
import Derived.Deep.RegionWith
import Derived.Test.YtchpkjgibloleaaGreatTB
import Derived.Test.YtchpkjgibloleaaGreatTA
import Derived.Defers
import Derived.Recover
import Derived.WalkMore
import Derived.Deep.LoopGhost
import Derived.Orders
import Derived.Laws.CopyOwn
set_option linter.unusedVariables false
set_option linter.unusedSimpArgs false
namespace Go.Proofs.YtchpkjgibloleaaGreat.Z
set_option maxRecDepth 100000
set_option maxHeartbeats 8000000
open Go.RowKit Go.Proofs.YtchpkjgibloleaaGreatW.PrintWords Go.Proofs.YtchpkjgibloleaaGreatW.PrintLast Go.Proofs.YtchpkjgibloleaaGreatW.PrintMore
attribute [local go_sem] Qbt Qb0
structure Fr (g : Nat) (w w' : World) : Prop where
 os : w'.os = w.os
 tape : w'.tape = w.tape
 output : w'.output = w.output
 size : w.heap.size ≤ w'.heap.size
 block : ∀ k, k < w.heap.size → k ≠ g → w'.heap[k]? = w.heap[k]?
theorem Fr.of {g : Nat} {w w' : World} (h : Below w.heap.size w w') : Fr g w w' := ⟨h.os, h.tape, h.output, h.size, fun k hk _ => h.block k hk⟩
theorem Fr.refl (g : Nat) (w : World) : Fr g w w := Fr.of (Below.refl _ _)
theorem Fr.trans {g : Nat} {a b c : World} (h : Fr g a b) (k : Fr g b c) : Fr g a c :=
 ⟨k.os.trans h.os, k.tape.trans h.tape, k.output.trans h.output, Nat.le_trans h.size k.size, fun i hi hg => (k.block i (Nat.lt_of_lt_of_le hi h.size) hg).trans (h.block i hi hg)⟩
theorem Fr.then {g : Nat} {a b c : World} (h : Fr g a b) (k : Below b.heap.size b c) : Fr g a c := h.trans (Fr.of k)
theorem Fr.set {g : Nat} {w w' : World} (h : Fr g w w') (j : Nat) (u : Value) : Fr g w (w'.setCell ⟨g, j, none⟩ u) :=
 h.trans ⟨rfl, rfl, rfl, by simp, fun k hk hg => Below.heap_setCell w' _ u k hg⟩
theorem Fr.drew {g : Nat} {w w' : World} (h : Fr g w w') : Fr g w w'.drew := h.then (Qcx (Below.refl _ _))
theorem Fr.base {B g : Nat} {w0 w w' : World} (h : Fr g w w') (hb : Below B w0 w) (hg : B ≤ g) (hB : B ≤ w.heap.size) : Below B w0 w' :=
 ⟨h.os.trans hb.os, h.tape.trans hb.tape, h.output.trans hb.output, Nat.le_trans hb.size h.size, fun k hk => (h.block k (Nat.lt_of_lt_of_le hk hB) (by omega)).trans (hb.block k hk)⟩
theorem Fr.blk {g i : Nat} {w w' : World} {o : Obj} (h : Fr g w w') (hi : w.heap[i]? = some o) (hne : i ≠ g) : w'.heap[i]? = some o := (h.block i (Qbs hi) hne).trans hi
theorem C47_fr {g : Nat} {w w' : World} {A : Option Addr} {l : List S47} (h : Fr g w w') (hC : Kd.C k47 w A l.length l) (hne : ∀ ad, A = some ad → ad.block ≠ g) : Kd.C k47 w' A l.length l := by
 obtain ⟨h1, h2, h3⟩ := hC
 refine ⟨h1, h2, fun hn => ?_⟩
 obtain ⟨ad, rfl, hc⟩ := h3 hn
 refine ⟨ad, rfl, fun j p hj => ?_⟩
 obtain ⟨c, hs, hK, hcell⟩ := hc j p hj
 obtain rfl := k47_open hK
 refine ⟨_, hs, k47_mk w' p, fun i u hu => ?_⟩
 have hq := hcell i u hu
 have hlt := wblt w hq
 have hbl : ∀ n, (ad.add n).block = ad.block := fun n => by unfold Addr.add; split <;> rfl
 exact (World.cell?_of_block (h.block _ hlt (by rw [hbl]; exact hne ad rfl))).trans hq
structure Bs where
 set : List S47
 most : Int
 steps : Int
 largest : Int
def Ty (w : World) (A : Option Addr) : Prop := ∀ ad, A = some ad → ∃ cs, w.heap[ad.block]? = some (.cells cs 47 (0, 0))
theorem Ty.below {w w' : World} {A : Option Addr} (h : Ty w A) (hb : Below w.heap.size w w') : Ty w' A := fun ad e => let ⟨cs, hc⟩ := h ad e; ⟨cs, Qbg hc hb⟩
theorem Ty.fr {g : Nat} {w w' : World} {A : Option Addr} (h : Ty w A) (hf : Fr g w w') (hne : ∀ ad, A = some ad → ad.block ≠ g) : Ty w' A := fun ad e => let ⟨cs, hc⟩ := h ad e; ⟨cs, hf.blk hc (hne ad e)⟩
def Ck (w : World) (g : Nat) (s : Bs) : Prop := ∃ A c, w.heap[g]? = some (.cells #[.slice A s.set.length c, .int .i64 s.most, .int .i64 s.steps, .int .i64 s.largest] 128 (0, 0)) ∧ s.set.length ≤ c ∧ Kd.C k47 w A s.set.length s.set ∧ (∀ ad, A = some ad → ad.block ≠ g) ∧ Ty w A
theorem Ck.below {w w' : World} {g : Nat} {s : Bs} (h : Ck w g s) (hb : Below w.heap.size w w') : Ck w' g s := by
 obtain ⟨A, c, h1, h2, h3, h4⟩ := h
 exact ⟨A, c, Qbg h1 hb, h2, Kd.C_below h3 hb, h4.1, h4.2.below hb⟩
def stepsOf (s : Bs) : Int := wrap64 (s.steps + wrap64 (1 + (s.set.length : Int)))
def Bs.cost (s : Bs) : Bs := { s with steps := stepsOf s }
def Bs.become (s : Bs) (l : List S47) : Bs := { s with set := l, largest := max s.largest (l.length : Int) }
def failed (why at_ : Int) : Ending := .panicked [{ v := .iface 185 (.agg #[.int .i64 why, .int .i64 at_]), recovered := false }]
theorem Qdu (g : Nat) (s : Bs) (w : World) (h : Ck w g s) :
    Calls Tryz.prog 155 #[.pointer (some ⟨g, 0, none⟩)] w fun e w' => e = .returned (.tuple #[]) ∧ Ck w' g s.cost ∧ Fr g w w' := by
 have hu44 := Tryz.underlying44
 have hu128 := Tryz.underlying128
 obtain ⟨A, c, hg, hc, hC, hne⟩ := h
 obtain ⟨q0, q1, q2, q3, f0, f1, f2, f3⟩ := cN4 hg
 have HF := As0 (Fr.refl g w)
 have HC := As0 hC
 have HG := As0 hg
 clear hC hg
 go_enter Tryz.func155, Tryz.ntmps155
 go_region
 go_wp2
 go_returns
 exact ⟨rfl, ⟨A, c, Qbm (Qb5 (cs := #[.slice A s.set.length c, .int .i64 s.most, .int .i64 s.steps, .int .i64 s.largest]) HG.out 2 _ rfl), hc, C47_fr (HF.out.set 2 _).drew HC.out hne.1, hne.1, hne.2.fr (HF.out.set 2 _).drew hne.1⟩, (HF.out.set 2 _).drew⟩
theorem become_ok (g : Nat) (s : Bs) (A : Option Addr) (c : Nat) (l : List S47) (i : Int) (w : World) (h : Ck w g s) (hc : l.length ≤ c) (hC : Kd.C k47 w A l.length l) (hne : ∀ ad, A = some ad → ad.block ≠ g) (hty : Ty w A) (hm : ¬ (l.length : Int) > s.most) :
    Calls Tryz.prog 156 #[.pointer (some ⟨g, 0, none⟩), .slice A l.length c, .int .i64 i] w fun e w' => e = .returned (.tuple #[]) ∧ Ck w' g (s.become l) ∧ Fr g w w' := by
 have hu44 := Tryz.underlying44
 have hu128 := Tryz.underlying128
 obtain ⟨A0, c0, hg, hc0, hC0, hne0⟩ := h
 obtain ⟨q0, q1, q2, q3, f0, f1, f2, f3⟩ := cN4 hg
 have HF := As0 (Fr.refl g w)
 have HC := As0 hC
 have HG := As0 hg
 clear hC hg hC0
 go_enter Tryz.func156, Tryz.ntmps156
 go_wp2
 all_goals go_returns
 ·refine ⟨rfl, ⟨A, c, ?_, hc, C47_fr ((HF.out.set 0 _).set 3 _) HC.out hne, hne, hty.fr ((HF.out.set 0 _).set 3 _) hne⟩, (HF.out.set 0 _).set 3 _⟩
  refine Qb5 (cs := #[.slice A l.length c, .int .i64 s.most, .int .i64 s.steps, .int .i64 s.largest]) (Qb5 (cs := #[.slice A0 s.set.length c0, .int .i64 s.most, .int .i64 s.steps, .int .i64 s.largest]) HG.out 0 _ rfl) 3 _ (by simp only [Bs.become]; rw [show max s.largest (l.length : Int) = (l.length : Int) by omega]; rfl)
 ·refine ⟨rfl, ⟨A, c, ?_, hc, C47_fr ((HF.out.set 0 _).set 3 _) HC.out hne, hne, hty.fr ((HF.out.set 0 _).set 3 _) hne⟩, (HF.out.set 0 _).set 3 _⟩
  refine Qb5 (cs := #[.slice A l.length c, .int .i64 s.most, .int .i64 s.steps, .int .i64 s.largest]) (Qb5 (cs := #[.slice A0 s.set.length c0, .int .i64 s.most, .int .i64 s.steps, .int .i64 s.largest]) HG.out 0 _ rfl) 3 _ (by simp only [Bs.become]; rw [show max s.largest (l.length : Int) = s.largest by omega]; rfl)
theorem become_fail (g : Nat) (s : Bs) (A : Option Addr) (c : Nat) (l : List S47) (i : Int) (w : World) (h : Ck w g s) (hc : l.length ≤ c) (hC : Kd.C k47 w A l.length l) (hne : ∀ ad, A = some ad → ad.block ≠ g) (hty : Ty w A) (hm : (l.length : Int) > s.most) :
    Calls Tryz.prog 156 #[.pointer (some ⟨g, 0, none⟩), .slice A l.length c, .int .i64 i] w fun e w' => e = failed 24 i ∧ Ck w' g (s.become l) ∧ Fr g w w' := by
 have hu44 := Tryz.underlying44
 have hu128 := Tryz.underlying128
 obtain ⟨A0, c0, hg, hc0, hC0, hne0⟩ := h
 obtain ⟨q0, q1, q2, q3, f0, f1, f2, f3⟩ := cN4 hg
 have HF := As0 (Fr.refl g w)
 have HC := As0 hC
 have HG := As0 hg
 clear hC hg hC0
 go_enter Tryz.func156, Tryz.ntmps156
 go_wp2
 ·refine ⟨rfl, rfl, ⟨A, c, ?_, hc, C47_fr ((HF.out.set 0 _).set 3 _) HC.out hne, hne, hty.fr ((HF.out.set 0 _).set 3 _) hne⟩, (HF.out.set 0 _).set 3 _⟩
  refine Qb5 (cs := #[.slice A l.length c, .int .i64 s.most, .int .i64 s.steps, .int .i64 s.largest]) (Qb5 (cs := #[.slice A0 s.set.length c0, .int .i64 s.most, .int .i64 s.steps, .int .i64 s.largest]) HG.out 0 _ rfl) 3 _ (by simp only [Bs.become]; rw [show max s.largest (l.length : Int) = (l.length : Int) by omega]; rfl)
 ·refine ⟨rfl, rfl, ⟨A, c, ?_, hc, C47_fr ((HF.out.set 0 _).set 3 _) HC.out hne, hne, hty.fr ((HF.out.set 0 _).set 3 _) hne⟩, (HF.out.set 0 _).set 3 _⟩
  refine Qb5 (cs := #[.slice A l.length c, .int .i64 s.most, .int .i64 s.steps, .int .i64 s.largest]) (Qb5 (cs := #[.slice A0 s.set.length c0, .int .i64 s.most, .int .i64 s.steps, .int .i64 s.largest]) HG.out 0 _ rfl) 3 _ (by simp only [Bs.become]; rw [show max s.largest (l.length : Int) = s.largest by omega]; rfl)
theorem use_ok (k g : Nat) (s : Bs) (v r i : Int) (w : World) (h : Ck w g s) (hh : pairset_Has.f k s.set v (wrap64 (2 * r)) = some true) :
    Calls Tryz.prog 121 #[.pointer (some ⟨g, 0, none⟩), .int .i64 v, .int .i64 r, .int .i64 i] w fun e w' => e = .returned (.tuple #[]) ∧ Ck w' g s.cost ∧ Fr g w w' := by
 have hu44 := Tryz.underlying44
 have hu47 := Tryz.underlying47
 have hu128 := Tryz.underlying128
 have HK := As0 h
 have HH := As0 hh
 clear h hh
 have HF := As0 (Fr.refl g w)
 go_enter Tryz.func121, Tryz.ntmps121
 go_wp2_with (go_at_call 155; refine (Qdu g s _ HK.out).mono ?_; rintro e w1 ⟨rfl, hk, hf⟩; replace HK := As0 hk; replace HF := As0 hf; (obtain ⟨A, c, hg, hc, hC, hne⟩ := hk); (obtain ⟨q0, q1, q2, q3, f0, f1, f2, f3⟩ := cN4 hg); have HC := As0 (show Kd.C k47 w1 A s.set.length s.set from hC); have hc1 : s.set.length ≤ c := hc; clear hg hC hf hc)
 replace q0 : w1.cell? ⟨g, 0, none⟩ = some (.slice A s.set.length c) := q0
 refine Qb1 (n := 10) (S := fun w' => w'.cell? ⟨g, 0, none⟩ = some (.slice A s.set.length c)) (ds := [8]) (bb 10 0) (by kernel_rfl) rfl rfl (q0) (fun aA => ?_)
 refine pu 0 10 (bb 10 1) ?_
 refine pu 1 11 (bb 10 3) ?_
 refine pu 2 12 (bb 10 7) ?_
 refine pu 4 14 (bb 10 23) ?_
 refine pu 5 15 (bb 10 55) ?_
 refine tu aA 3 13 (bb 10 63) ?_
 refine one_ (i := 6) (N := some 16) (bb 10 127) rfl rfl (by kernel_rfl) (by decide) (fun K hK => ?_)
 refine gG Tryz.func161 #[.int .i64 r] ?_
 with_reducible refine (location_Reg.calls r _ _ rfl).mono ?_
 rintro e w2 ⟨rfl, m, rfl⟩
 refine ⟨_, rfl, ?_⟩
 refine hK.out _ _ (q0) (fun aA => ?_)
 clear hK K
 refine Qbz (a' := ?_) ?_ ?_
 rotate_left
 ·show Act.put _ (some 16) _ = _
  simp only [Act.put, List.setIfInBounds_toArray, List.set_cons_zero, List.set_cons_succ, Qbo, Qbp]
  rfl
 refine pu 7 17 (bb 10 255) ?_
 refine Qc7 (i := 8) (N := some 18) (bb 10 511) rfl rfl (by kernel_rfl) (by decide) (fun K hK => ?_)
 refine gG Tryz.func160 #[.slice A s.set.length c, .agg #[.int .i64 v, .int .i64 (wrap64 (2 * r))]] ?_
 with_reducible refine (pairset_Has.calls k A c s.set v _ true _ (by repeat (first | exact HC.out | refine Kd.C_drewN ?_ _ | refine Kd.C_drew ?_)) hc1 HH.out).mono ?_
 rintro e w3 ⟨rfl, hb⟩
 refine ⟨_, rfl, ?_⟩
 replace HF := As0 (HF.out.then (Qbw (BU (Below.refl _ w1)) hb))
 replace HK := As0 (HK.out.below (Qbw (BU (Below.refl _ w1)) hb))
 clear hb
 refine hK.out _ _ ?_
 clear hK K
 refine Qbz (a' := ?_) ?_ ?_
 rotate_left
 ·show Act.put _ (some 18) _ = _
  simp only [Act.put, List.setIfInBounds_toArray, List.set_cons_zero, List.set_cons_succ, Qbo, Qbp]
  rfl
 refine pu 9 19 (bb 10 1023) ?_
 refine Qch (by kernel_rfl) ?_
 go_wp2
 go_returns
 exact ⟨rfl, HK.out, HF.out⟩
theorem use_fail (k g : Nat) (s : Bs) (v r i : Int) (w : World) (h : Ck w g s) (hh : pairset_Has.f k s.set v (wrap64 (2 * r)) = some false) :
    Calls Tryz.prog 121 #[.pointer (some ⟨g, 0, none⟩), .int .i64 v, .int .i64 r, .int .i64 i] w fun e w' => e = failed 21 i ∧ Ck w' g s.cost ∧ Fr g w w' := by
 have hu44 := Tryz.underlying44
 have hu47 := Tryz.underlying47
 have hu128 := Tryz.underlying128
 have HK := As0 h
 have HH := As0 hh
 clear h hh
 have HF := As0 (Fr.refl g w)
 go_enter Tryz.func121, Tryz.ntmps121
 go_wp2_with (go_at_call 155; refine (Qdu g s _ HK.out).mono ?_; rintro e w1 ⟨rfl, hk, hf⟩; replace HK := As0 hk; replace HF := As0 hf; (obtain ⟨A, c, hg, hc, hC, hne⟩ := hk); (obtain ⟨q0, q1, q2, q3, f0, f1, f2, f3⟩ := cN4 hg); have HC := As0 (show Kd.C k47 w1 A s.set.length s.set from hC); have hc1 : s.set.length ≤ c := hc; clear hg hC hf hc)
 replace q0 : w1.cell? ⟨g, 0, none⟩ = some (.slice A s.set.length c) := q0
 refine Qb1 (n := 10) (S := fun w' => w'.cell? ⟨g, 0, none⟩ = some (.slice A s.set.length c)) (ds := [8]) (bb 10 0) (by kernel_rfl) rfl rfl (q0) (fun aA => ?_)
 refine pu 0 10 (bb 10 1) ?_
 refine pu 1 11 (bb 10 3) ?_
 refine pu 2 12 (bb 10 7) ?_
 refine pu 4 14 (bb 10 23) ?_
 refine pu 5 15 (bb 10 55) ?_
 refine tu aA 3 13 (bb 10 63) ?_
 refine one_ (i := 6) (N := some 16) (bb 10 127) rfl rfl (by kernel_rfl) (by decide) (fun K hK => ?_)
 refine gG Tryz.func161 #[.int .i64 r] ?_
 with_reducible refine (location_Reg.calls r _ _ rfl).mono ?_
 rintro e w2 ⟨rfl, m, rfl⟩
 refine ⟨_, rfl, ?_⟩
 refine hK.out _ _ (q0) (fun aA => ?_)
 clear hK K
 refine Qbz (a' := ?_) ?_ ?_
 rotate_left
 ·show Act.put _ (some 16) _ = _
  simp only [Act.put, List.setIfInBounds_toArray, List.set_cons_zero, List.set_cons_succ, Qbo, Qbp]
  rfl
 refine pu 7 17 (bb 10 255) ?_
 refine Qc7 (i := 8) (N := some 18) (bb 10 511) rfl rfl (by kernel_rfl) (by decide) (fun K hK => ?_)
 refine gG Tryz.func160 #[.slice A s.set.length c, .agg #[.int .i64 v, .int .i64 (wrap64 (2 * r))]] ?_
 with_reducible refine (pairset_Has.calls k A c s.set v _ false _ (by repeat (first | exact HC.out | refine Kd.C_drewN ?_ _ | refine Kd.C_drew ?_)) hc1 HH.out).mono ?_
 rintro e w3 ⟨rfl, hb⟩
 refine ⟨_, rfl, ?_⟩
 replace HF := As0 (HF.out.then (Qbw (BU (Below.refl _ w1)) hb))
 replace HK := As0 (HK.out.below (Qbw (BU (Below.refl _ w1)) hb))
 clear hb
 refine hK.out _ _ ?_
 clear hK K
 refine Qbz (a' := ?_) ?_ ?_
 rotate_left
 ·show Act.put _ (some 18) _ = _
  simp only [Act.put, List.setIfInBounds_toArray, List.set_cons_zero, List.set_cons_succ, Qbo, Qbp]
  rfl
 refine pu 9 19 (bb 10 1023) ?_
 refine Qch (by kernel_rfl) ?_
 go_wp2
 exact ⟨rfl, rfl, HK.out, HF.out⟩
section
variable {P : Program} {ops : Array Oper} {Q : Exit → Act → World → Prop}
theorem goesP_ {oi : Oper} {N : Option Tmp} {a : Act} {w : World} {K : Act → World → Prop} {f : FuncId} {fn : Func} {asx : Array Operand} {ts : Array TypeId} (hf : P.funcs[f]? = some fn) (hname : (fn.name == "runtime.NumGoroutine") = false) (hb : fn.body.isSome = true) (args : Array Value)
    (hw : Region.wanted oi (yielded ops a.tmps) = true) (hN : oi.dst = N) (hop : oi.op = .call { callee := .value (.func f), args := asx, argTypes := ts }) (hargs : asx.map a.eval = args)
    (h : Calls P f args w fun e w' => ∃ ch, e = .panicked ch ∧ Q (.panic ch) a w') : if Region.wanted oi (yielded ops a.tmps) = true then Oper.wp P oi a w K Q else K (a.put N undef) w := by
 rw [if_pos hw]
 unfold Oper.wp
 have he := enters_ hf hname hb args w
 have hrun : (execOp a.eval oi).run P w = .ok (.enter f args) w := by
  unfold execOp
  simp [hop, resolve, Deferred.ofValue, invoke, Act.eval, hargs, he]
 rw [hrun, Oper.upon_enter]
 refine h.mono fun e w'' hh => ?_
 obtain ⟨ch, rfl, hk⟩ := hh
 exact hk
end
abbrev Pan := Option (Int × Int)
def endOf : Pan → Ending
 | none => .returned (.tuple #[])
 | some (y, i) => failed y i
abbrev OBs := Option (Bs × Pan)
def OBs.then (o : OBs) (f : Bs → OBs) : OBs := o.bind fun p => match p.2 with
 | none => f p.1
 | some q => some (p.1, some q)
def useF (k : Nat) (s : Bs) (v r i : Int) : OBs := (pairset_Has.f k s.set v (wrap64 (2 * r))).bind fun t => some (s.cost, if t = true then none else some (21, i))
def Qcs (s : Bs) (l : List S47) (i : Int) : Bs × Pan := (s.become l, if (l.length : Int) > s.most then some (24, i) else none)
def defineF (k : Nat) (l : List S47) (d a : Int) : Option (List S47) := if l.length < 8796093022208 then Qak.f k ((l.filter fun p => p.f0 != d).filter fun p => p.f1 != a) d a else none
def instrD (k : Nat) (s : Bs) (d : Bool) (iD mD i : Int) : OBs := if d = true then (defineF k s.set iD (wrap64 (2 * mD))).bind fun l => some (Qcs s.cost l i) else some (s, none)
def instrB (k : Nat) (s : Bs) (d b : Bool) (iD iB mD mB i : Int) : OBs := if b = true then (useF k s iB mB i).then fun s1 => instrD k s1 d iD mD i else instrD k s d iD mD i
def instrA (k : Nat) (s : Bs) (d a b : Bool) (iD iA iB mD mA mB i : Int) : OBs := if a = true then (useF k s iA mA i).then fun s1 => instrB k s1 d b iD iB mD mB i else instrB k s d b iD iB mD mB i
theorem Qdm (k g : Nat) (s : Bs) (v r i : Int) (x : Bs × Pan) (w : World) (h : Ck w g s) (hf : useF k s v r i = some x) :
    Calls Tryz.prog 121 #[.pointer (some ⟨g, 0, none⟩), .int .i64 v, .int .i64 r, .int .i64 i] w fun e w' => e = endOf x.2 ∧ Ck w' g x.1 ∧ Fr g w w' := by
 obtain ⟨t, ht, hx⟩ := Option.bind_eq_some_iff.mp hf
 obtain rfl := Option.some.inj hx
 cases t with
 | true => exact use_ok k g s v r i w h ht
 | false => exact use_fail k g s v r i w h ht
theorem Qcy (g : Nat) (s : Bs) (l : List S47) (i : Int) (v : Value) (base : Nat) (ok : Nat → Prop) (w : World) (h : Ck w g s) (hv : Kd.R k47 47 w base ok v l) (hok : ∀ k, ok k → k ≠ g) :
    Calls Tryz.prog 156 #[.pointer (some ⟨g, 0, none⟩), v, .int .i64 i] w fun e w' => e = endOf (Qcs s l i).2 ∧ Ck w' g (Qcs s l i).1 ∧ Fr g w w' := by
 have hne := Kd.R_away hv hok
 obtain ⟨A, c, rfl, hc, hC⟩ := Kd.R_reads hv
 have hne' : ∀ ad, A = some ad → ad.block ≠ g := by
  rintro ad rfl e
  exact hne (by rw [← e]; rfl)
 have hty : Ty w A := by
  rintro ad rfl
  obtain ⟨inner, ho⟩ := Kd.R_own hv
  exact Qdo ho ad.block rfl
 unfold Qcs
 by_cases hm : (l.length : Int) > s.most
 ·rw [if_pos hm]; exact become_fail g s A c l i w h hc hC hne' hty hm
 ·rw [if_neg hm]; exact become_ok g s A c l i w h hc hC hne' hty hm
theorem defineF_calls (k : Nat) (A : Option Addr) (c : Nat) (l r : List S47) (d a : Int) (w : World) (hr : Kd.C k47 w A l.length l) (hc : l.length ≤ c) (hf : defineF k l d a = some r) :
    Calls Tryz.prog 189 #[.slice A l.length c, .int .i64 d, .int .i64 a] w fun e w' => ∃ u, e = .returned u ∧ Kd.R k47 47 w' w.heap.size (fun _ => True) u r ∧ Below w.heap.size w w' := by
 unfold defineF at hf
 by_cases hl : l.length < 8796093022208
 ·rw [if_pos hl] at hf; exact define_calls k A c l r d a w hr hc hl hf
 ·rw [if_neg hl] at hf; cases hf
theorem Ck.lt {w : World} {g : Nat} {s : Bs} (h : Ck w g s) : g < w.heap.size := by obtain ⟨A, c, h1, _⟩ := h; exact Qbs h1
theorem OBs.then_inv {o : OBs} {f : Bs → OBs} {x : Bs × Pan} (h : o.then f = some x) : ∃ s1 p, o = some (s1, p) ∧ ((p = none ∧ f s1 = some x) ∨ (∃ q, p = some q ∧ x = (s1, some q))) := by
 obtain ⟨⟨s1, p⟩, h1, h2⟩ := Option.bind_eq_some_iff.mp h
 refine ⟨s1, p, h1, ?_⟩
 cases p with
 | none => exact .inl ⟨rfl, h2⟩
 | some q => exact .inr ⟨q, rfl, (Option.some.inj h2).symm⟩
theorem instr_calls (k g : Nat) (s : Bs) (i0 i1 i2 i3 i4 m0 m1 m2 m3 m4 m5 m6 ia : Int) (sd sa sb sm so : Bool) (x : Bs × Pan) (w : World) (h : Ck w g s) (hof : opcode_Of.f i0 = some (sd, sa, sb, sm, so)) (hf : instrA k s sd sa sb i1 i2 i3 m1 m2 m3 ia = some x) :
    Calls Tryz.prog 159 #[.pointer (some ⟨g, 0, none⟩), .agg #[.int .i64 i0, .int .i64 i1, .int .i64 i2, .int .i64 i3, .int .i64 i4], .agg #[.int .i64 m0, .int .i64 m1, .int .i64 m2, .int .i64 m3, .int .i64 m4, .int .i64 m5, .int .i64 m6], .int .i64 ia] w fun e w' => e = endOf x.2 ∧ Ck w' g x.1 ∧ Fr g w w' := by
 have hu41 := Tryz.underlying41
 have hu44 := Tryz.underlying44
 have hu47 := Tryz.underlying47
 have hu59 := Tryz.underlying59
 have hu128 := Tryz.underlying128
 have hu196 := Tryz.underlying196
 have HK := As0 h
 have H := As0 hf
 clear h hf
 have HF := As0 (Fr.refl g w)
 go_enter Tryz.func159, Tryz.ntmps159
 go_upto_if 17 with (first
  | ((with_reducible refine gD 5 ?_); refine bX ?_; intro gi hg w1 aC hb; have I := As0 aC; have NI := As0 (by have := HK.out.lt; omega : gi ≠ g); replace HK := As0 (HK.out.below hb); replace HF := As0 (HF.out.then hb); clear hb aC hg)
  | ((with_reducible refine gD 6 ?_); refine bX ?_; intro gm hg w2 aC hb; have M := As0 aC; have NM := As0 (by have := HK.out.lt; omega : gm ≠ g); replace I := As0 (Qbg I.out hb); replace HK := As0 (HK.out.below hb); replace HF := As0 (HF.out.then hb); (obtain ⟨a0, a1, a2, a3, a4, b0, b1, b2, b3, b4⟩ := cN5 I.out); (obtain ⟨c0, c1, c2, c3, c4, c5, c6, d0, d1, d2, d3, d4, d5, d6⟩ := cN7 M.out); clear hb aC hg)
  | (go_at_call 129; refine (opcode_Of.calls i0 sd sa sb sm so _ hof).mono ?_; rintro e w3 ⟨rfl, hb⟩; clear a0 a1 a2 a3 a4 b0 b1 b2 b3 b4 c0 c1 c2 c3 c4 c5 c6 d0 d1 d2 d3 d4 d5 d6; replace I := As0 (Qbg I.out hb); replace M := As0 (Qbg M.out hb); replace HK := As0 (HK.out.below hb); replace HF := As0 (HF.out.then hb); clear hb)
  | ((with_reducible refine gD 8 ?_); refine bX ?_; intro gs hg w4 aC hb; have S := As0 aC; have NS := As0 (by have := HK.out.lt; omega : gs ≠ g); have GS := As0 (Nat.le_of_eq hg.symm); have HBS := As0 hb; clear hb aC hg)
  | ((with_reducible refine Qcb (.store 196 (.tmp 8) (.tmp 14)) rfl ?_); go_loud (refine Qae rfl rfl 196 _ _ rfl gs #[.bool sd, .bool sa, .bool sb, .bool sm] rfl rfl 196 #[.bool false, .bool false, .bool false, .bool false] S.out (by kernel_rfl) rfl (by kernel_rfl) ?_); intro w5 hg ho hB; have hb := hB _ _ GS.out HBS.out; replace S := As0 hg; replace I := As0 (Qbg I.out hb); replace M := As0 (Qbg M.out hb); replace HK := As0 (HK.out.below hb); replace HF := As0 (HF.out.then hb); (obtain ⟨a0, a1, a2, a3, a4, b0, b1, b2, b3, b4⟩ := cN5 I.out); (obtain ⟨c0, c1, c2, c3, c4, c5, c6, d0, d1, d2, d3, d4, d5, d6⟩ := cN7 M.out); (obtain ⟨e0, e1, e2, e3, f0, f1, f2, f3⟩ := cN4 S.out); clear hg ho hB hb HBS GS))
 go_cut [] (fun wc => ∃ s1, Qbf (instrB k s1 sd sb i1 i3 m1 m3 ia = some x) ∧ Qbf (Ck wc g s1) ∧ Qbf (Fr g w wc) ∧ Qbf (wc.heap[gi]? = some (.cells #[.int .i64 i0, .int .i64 i1, .int .i64 i2, .int .i64 i3, .int .i64 i4] 41 (0, 0))) ∧ Qbf (wc.heap[gm]? = some (.cells #[.int .i64 m0, .int .i64 m1, .int .i64 m2, .int .i64 m3, .int .i64 m4, .int .i64 m5, .int .i64 m6] 59 (0, 0))) ∧ Qbf (wc.heap[gs]? = some (.cells #[.bool sd, .bool sa, .bool sb, .bool sm] 196 (0, 0))))
 case first =>
  cases sa with
  | false =>
   go_wp2
   go_meet
   case rel => exact ⟨s, As0 H.out, HK, HF, I, M, S⟩
  | true =>
   obtain ⟨s7, p, hu, hp⟩ := OBs.then_inv (show OBs.then (useF k s i2 m2 ia) (fun s1 => instrB k s1 sd sb i1 i3 m1 m3 ia) = some x from H.out)
   rcases hp with ⟨rfl, hp⟩ | ⟨q, rfl, rfl⟩
   ·go_wp2_with (go_at_call 121; refine (Qdm k g _ i2 m2 ia _ _ HK.out hu).mono ?_; rintro e w7 ⟨rfl, hk, hf⟩; replace HK := As0 hk; clear hk; replace I := As0 (hf.blk I.out NI.out); replace M := As0 (hf.blk M.out NM.out); replace S := As0 (hf.blk S.out NS.out); replace HF := As0 (HF.out.trans hf); clear hf)
    go_meet
    case rel => exact ⟨s7, As0 hp, HK, HF, I, M, S⟩
   ·go_wp2_with (go_at_call 121; refine (Qdm k g _ i2 m2 ia _ _ HK.out hu).mono ?_; rintro e w7 ⟨rfl, hk, hf⟩; replace HF := As0 (HF.out.trans hf))
    exact ⟨rfl, rfl, hk, HF.out⟩
 case rest =>
  clear HK HF I M S H
  obtain ⟨s1, H, HK, HF, I, M, S⟩ := hcut
  clear a0 a1 a2 a3 a4 b0 b1 b2 b3 b4 c0 c1 c2 c3 c4 c5 c6 d0 d1 d2 d3 d4 d5 d6 e0 e1 e2 e3 f0 f1 f2 f3
  (obtain ⟨a0, a1, a2, a3, a4, b0, b1, b2, b3, b4⟩ := cN5 I.out); (obtain ⟨c0, c1, c2, c3, c4, c5, c6, d0, d1, d2, d3, d4, d5, d6⟩ := cN7 M.out); (obtain ⟨e0, e1, e2, e3, f0, f1, f2, f3⟩ := cN4 S.out)
  go_upto_if 26 with (fail)
  go_cut [] (fun wc => ∃ s2, Qbf (instrD k s2 sd i1 m1 ia = some x) ∧ Qbf (Ck wc g s2) ∧ Qbf (Fr g w wc) ∧ Qbf (wc.heap[gi]? = some (.cells #[.int .i64 i0, .int .i64 i1, .int .i64 i2, .int .i64 i3, .int .i64 i4] 41 (0, 0))) ∧ Qbf (wc.heap[gm]? = some (.cells #[.int .i64 m0, .int .i64 m1, .int .i64 m2, .int .i64 m3, .int .i64 m4, .int .i64 m5, .int .i64 m6] 59 (0, 0))) ∧ Qbf (wc.heap[gs]? = some (.cells #[.bool sd, .bool sa, .bool sb, .bool sm] 196 (0, 0))))
  case first =>
   cases sb with
   | false =>
    go_wp2
    go_meet
    case rel => exact ⟨s1, As0 H.out, HK, HF, I, M, S⟩
   | true =>
    obtain ⟨s7, p, hu, hp⟩ := OBs.then_inv (show OBs.then (useF k s1 i3 m3 ia) (fun s1 => instrD k s1 sd i1 m1 ia) = some x from H.out)
    rcases hp with ⟨rfl, hp⟩ | ⟨q, rfl, rfl⟩
    ·go_wp2_with (go_at_call 121; refine (Qdm k g _ i3 m3 ia _ _ HK.out hu).mono ?_; rintro e w7 ⟨rfl, hk, hf⟩; replace HK := As0 hk; clear hk; replace I := As0 (hf.blk I.out NI.out); replace M := As0 (hf.blk M.out NM.out); replace S := As0 (hf.blk S.out NS.out); replace HF := As0 (HF.out.trans hf); clear hf)
     go_meet
     case rel => exact ⟨s7, As0 hp, HK, HF, I, M, S⟩
    ·go_wp2_with (go_at_call 121; refine (Qdm k g _ i3 m3 ia _ _ HK.out hu).mono ?_; rintro e w7 ⟨rfl, hk, hf⟩; replace HF := As0 (HF.out.trans hf))
     exact ⟨rfl, rfl, hk, HF.out⟩
  case rest =>
   clear HK HF I M S H a0 a1 a2 a3 a4 b0 b1 b2 b3 b4 c0 c1 c2 c3 c4 c5 c6 d0 d1 d2 d3 d4 d5 d6 e0 e1 e2 e3 f0 f1 f2 f3
   obtain ⟨s2, H, HK, HF, I, M, S⟩ := hcut
   (obtain ⟨a0, a1, a2, a3, a4, b0, b1, b2, b3, b4⟩ := cN5 I.out); (obtain ⟨c0, c1, c2, c3, c4, c5, c6, d0, d1, d2, d3, d4, d5, d6⟩ := cN7 M.out); (obtain ⟨e0, e1, e2, e3, f0, f1, f2, f3⟩ := cN4 S.out)
   cases sd with
   | false =>
    obtain rfl := Option.some.inj (show some (s2, none) = some x from H.out)
    go_wp2
    go_returns
    exact ⟨rfl, HK.out, HF.out⟩
   | true =>
    obtain ⟨l, hl, hx⟩ := Option.bind_eq_some_iff.mp (show ((defineF k s2.set i1 (wrap64 (2 * m1))).bind fun l => some (Qcs s2.cost l ia)) = some x from H.out)
    obtain rfl := Option.some.inj hx
    go_wp2_with (go_at_call 155; refine (Qdu g s2 _ HK.out).mono ?_; rintro e w8 ⟨rfl, hk, hf⟩; replace HK := As0 hk; clear hk; replace I := As0 (hf.blk I.out NI.out); replace M := As0 (hf.blk M.out NM.out); replace S := As0 (hf.blk S.out NS.out); replace HF := As0 (HF.out.trans hf); clear hf a0 a1 a2 a3 a4 b0 b1 b2 b3 b4 c0 c1 c2 c3 c4 c5 c6 d0 d1 d2 d3 d4 d5 d6 e0 e1 e2 e3 f0 f1 f2 f3; (obtain ⟨a0, a1, a2, a3, a4, b0, b1, b2, b3, b4⟩ := cN5 I.out); (obtain ⟨c0, c1, c2, c3, c4, c5, c6, d0, d1, d2, d3, d4, d5, d6⟩ := cN7 M.out))
    (obtain ⟨A, c, hg, hc, hC, hne⟩ := HK.out); (obtain ⟨q0, q1, q2, q3, f0, f1, f2, f3⟩ := cN4 hg)
    replace q0 : w8.cell? ⟨g, 0, none⟩ = some (.slice A s2.set.length c) := q0
    have HC := As0 (show Kd.C k47 w8 A s2.set.length s2.set from hC)
    have hc1 : s2.set.length ≤ c := hc
    have HL := As0 hl
    clear hg hC hc hl q1 q2 q3
    cases hp : (Qcs s2.cost l ia).2 with
    | none =>
     refine Qb1 (n := 13) (S := fun w' => w'.cell? ⟨g, 0, none⟩ = some (.slice A s2.set.length c) ∧ w'.cell? ⟨gi, 1, none⟩ = some (.int .i64 i1) ∧ w'.cell? ⟨gm, 1, none⟩ = some (.int .i64 m1)) (ds := [10, 12]) (bb 13 0) (by kernel_rfl) rfl rfl ⟨q0, a1, c1⟩ (fun aA => ?_)
     refine pu 0 38 (bb 13 1) ?_
     refine pu 1 39 (bb 13 3) ?_
     refine pu 2 40 (bb 13 7) ?_
     refine pu 3 41 (bb 13 15) ?_
     refine pu 5 43 (bb 13 47) ?_
     refine pu 7 45 (bb 13 175) ?_
     refine pu 11 49 (bb 13 2223) ?_
     refine tu aA 4 42 (bb 13 2239) ?_
     refine tu aA 6 44 (bb 13 2303) ?_
     refine tu aA 8 46 (bb 13 2559) ?_
     refine one_ (i := 9) (N := some 47) (bb 13 3071) rfl rfl (by kernel_rfl) (by decide) (fun K hK => ?_)
     refine gG Tryz.func161 #[.int .i64 m1] ?_
     with_reducible refine (location_Reg.calls m1 _ _ rfl).mono ?_
     rintro e w2 ⟨rfl, m, rfl⟩
     refine ⟨_, rfl, ?_⟩
     refine hK.out _ _ ⟨q0, a1, c1⟩ (fun aA => ?_)
     clear hK K
     refine Qbz (a' := ?_) ?_ ?_
     rotate_left
     ·show Act.put _ (some 47) _ = _
      simp only [Act.put, List.setIfInBounds_toArray, List.set_cons_zero, List.set_cons_succ, Qbo, Qbp]
      rfl
     refine Qc7 (i := 10) (N := some 48) (bb 13 4095) rfl rfl (by kernel_rfl) (by decide) (fun K hK => ?_)
     refine gG Tryz.func189 #[.slice A s2.set.length c, .int .i64 i1, .int .i64 (wrap64 (2 * m1))] ?_
     with_reducible refine (defineF_calls k A c s2.set l i1 (wrap64 (2 * m1)) _ (by repeat (first | exact HC.out | refine Kd.C_drewN ?_ _ | refine Kd.C_drew ?_)) hc1 HL.out).mono ?_
     rintro e w9 ⟨u, rfl, ho9, hb9⟩
     refine ⟨_, rfl, ?_⟩
     refine hK.out _ _ ?_
     clear hK K
     refine Qbz (a' := ?_) ?_ ?_
     rotate_left
     ·show Act.put _ (some 48) _ = _
      simp only [Act.put, List.setIfInBounds_toArray, List.set_cons_zero, List.set_cons_succ, Qbo, Qbp]
      rfl
     refine Qc7 (i := 12) (N := some 50) (bb 13 8191) rfl rfl (by kernel_rfl) (by decide) (fun K hK => ?_)
     refine gG Tryz.func156 #[.pointer (some ⟨g, 0, none⟩), u, .int .i64 ia] ?_
     with_reducible refine (Qcy g s2.cost l ia u _ _ _ (HK.out.below (Qbw (BU (Below.refl _ w8)) hb9)) (Kd.R_bound ho9) (fun k hk => Nat.ne_of_gt (Nat.lt_of_lt_of_le HK.out.lt (Nat.le_trans (Qbi (BU (Below.refl _ w8))) hk.2.1)))).mono ?_
     rintro e w10 ⟨he, hk, hf⟩
     replace HF := As0 ((HF.out.then (Qbw (BU (Below.refl _ w8)) hb9)).trans hf)
     replace HK := As0 hk
     rw [hp] at he
     subst he
     refine ⟨_, rfl, ?_⟩
     refine hK.out _ _ ?_
     clear hK K
     refine Qbz (a' := ?_) ?_ ?_
     rotate_left
     ·show Act.put _ (some 50) _ = _
      simp only [Act.put, List.setIfInBounds_toArray, List.set_cons_zero, List.set_cons_succ, Qbo, Qbp]
      rfl
     refine Qch (by kernel_rfl) ?_
     go_wp2
     go_returns
     exact ⟨by rw [hp]; rfl, HK.out, HF.out⟩
    | some q =>
     refine Qb1 (n := 13) (S := fun w' => w'.cell? ⟨g, 0, none⟩ = some (.slice A s2.set.length c) ∧ w'.cell? ⟨gi, 1, none⟩ = some (.int .i64 i1) ∧ w'.cell? ⟨gm, 1, none⟩ = some (.int .i64 m1)) (ds := [10, 12]) (bb 13 0) (by kernel_rfl) rfl rfl ⟨q0, a1, c1⟩ (fun aA => ?_)
     refine pu 0 38 (bb 13 1) ?_
     refine pu 1 39 (bb 13 3) ?_
     refine pu 2 40 (bb 13 7) ?_
     refine pu 3 41 (bb 13 15) ?_
     refine pu 5 43 (bb 13 47) ?_
     refine pu 7 45 (bb 13 175) ?_
     refine pu 11 49 (bb 13 2223) ?_
     refine tu aA 4 42 (bb 13 2239) ?_
     refine tu aA 6 44 (bb 13 2303) ?_
     refine tu aA 8 46 (bb 13 2559) ?_
     refine one_ (i := 9) (N := some 47) (bb 13 3071) rfl rfl (by kernel_rfl) (by decide) (fun K hK => ?_)
     refine gG Tryz.func161 #[.int .i64 m1] ?_
     with_reducible refine (location_Reg.calls m1 _ _ rfl).mono ?_
     rintro e w2 ⟨rfl, m, rfl⟩
     refine ⟨_, rfl, ?_⟩
     refine hK.out _ _ ⟨q0, a1, c1⟩ (fun aA => ?_)
     clear hK K
     refine Qbz (a' := ?_) ?_ ?_
     rotate_left
     ·show Act.put _ (some 47) _ = _
      simp only [Act.put, List.setIfInBounds_toArray, List.set_cons_zero, List.set_cons_succ, Qbo, Qbp]
      rfl
     refine Qc7 (i := 10) (N := some 48) (bb 13 4095) rfl rfl (by kernel_rfl) (by decide) (fun K hK => ?_)
     refine gG Tryz.func189 #[.slice A s2.set.length c, .int .i64 i1, .int .i64 (wrap64 (2 * m1))] ?_
     with_reducible refine (defineF_calls k A c s2.set l i1 (wrap64 (2 * m1)) _ (by repeat (first | exact HC.out | refine Kd.C_drewN ?_ _ | refine Kd.C_drew ?_)) hc1 HL.out).mono ?_
     rintro e w9 ⟨u, rfl, ho9, hb9⟩
     refine ⟨_, rfl, ?_⟩
     refine hK.out _ _ ?_
     clear hK K
     refine Qbz (a' := ?_) ?_ ?_
     rotate_left
     ·show Act.put _ (some 48) _ = _
      simp only [Act.put, List.setIfInBounds_toArray, List.set_cons_zero, List.set_cons_succ, Qbo, Qbp]
      rfl
     refine Qc7 (i := 12) (N := some 50) (bb 13 8191) rfl rfl (by kernel_rfl) (by decide) (fun K hK => ?_)
     refine goesP_ Tryz.func156 (by kernel_rfl) rfl #[.pointer (some ⟨g, 0, none⟩), u, .int .i64 ia] (by rfl) rfl rfl (by simp only [List.map_toArray, List.map_cons, List.map_nil]; rfl) ?_
     with_reducible refine (Qcy g s2.cost l ia u _ _ _ (HK.out.below (Qbw (BU (Below.refl _ w8)) hb9)) (Kd.R_bound ho9) (fun k hk => Nat.ne_of_gt (Nat.lt_of_lt_of_le HK.out.lt (Nat.le_trans (Qbi (BU (Below.refl _ w8))) hk.2.1)))).mono ?_
     rintro e w10 ⟨he, hk, hf⟩
     replace HF := As0 ((HF.out.then (Qbw (BU (Below.refl _ w8)) hb9)).trans hf)
     replace HK := As0 hk
     rw [hp] at he
     subst he
     exact ⟨_, rfl, rfl, by rw [hp]; rfl, HK.out, HF.out⟩
theorem Fr.cell_ {g : Nat} {w w' : World} (h : Fr g w w') {p : Addr} (hp : p.block < w.heap.size) (hne : p.block ≠ g) : w'.cell? p = w.cell? p := World.cell?_of_block (h.block p.block hp hne)
theorem cell_b {w W : World} {p : Addr} {v : Value} (hb : Below w.heap.size w W) (h : w.cell? p = some v) : W.cell? p = some v := (hb.cell (wblt w h)).trans h
instance (l : List S47) : Decidable (Asc l) := inferInstanceAs (Decidable (List.Pairwise (fun x y => Qb7 x y = true) l))
def renS (k : Nat) (kept more : List S47) : Option (List S47) := if Asc more then Qac.f k kept more else none
def copyS (k : Nat) (l : List S47) (d a : Int) : Option (List S47) := if l.length < 8796093022208 then (if d = a then (if Asc l then some l else none) else renS k (l.filter fun p => p.f0 != d) ((l.filter fun p => p.f0 == a).map fun p => (⟨d, p.f1⟩ : S47))) else none
def moveS (k : Nat) (l : List S47) (d a : Int) : Option (List S47) := if l.length < 8796093022208 then (if d = a then (if Asc l then some l else none) else renS k (l.filter fun p => p.f1 != d) ((l.filter fun p => p.f1 == a).map fun p => (⟨p.f0, d⟩ : S47))) else none
theorem copyS_calls (k : Nat) (A : Option Addr) (c : Nat) (l r : List S47) (d a : Int) (w : World) (hr : Kd.C k47 w A l.length l) (hc : l.length ≤ c) (hf : copyS k l d a = some r) :
    Calls Tryz.prog 157 #[.slice A l.length c, .int .i64 d, .int .i64 a] w fun e w' => ∃ u, e = .returned u ∧ Kd.R k47 47 w' w.heap.size (fun _ => True) u r ∧ Below w.heap.size w w' := by
 unfold copyS renS at hf
 by_cases hl : l.length < 8796093022208
 ·rw [if_pos hl] at hf
  by_cases hda : d = a
  ·rw [if_pos hda] at hf
   subst hda
   split at hf
   ·rename_i hs
    obtain rfl := Option.some.inj hf
    exact copy_same A c l d w hr hs hl
   ·cases hf
  ·rw [if_neg hda] at hf
   split at hf
   ·rename_i hs
    exact copy_other k A c l r d a w hda hr hc hl hs hf
   ·cases hf
 ·rw [if_neg hl] at hf; cases hf
theorem moveS_calls (k : Nat) (A : Option Addr) (c : Nat) (l r : List S47) (d a : Int) (w : World) (hr : Kd.C k47 w A l.length l) (hc : l.length ≤ c) (hf : moveS k l d a = some r) :
    Calls Tryz.prog 158 #[.slice A l.length c, .int .i64 d, .int .i64 a] w fun e w' => ∃ u, e = .returned u ∧ Kd.R k47 47 w' w.heap.size (fun _ => True) u r ∧ Below w.heap.size w w' := by
 unfold moveS renS at hf
 by_cases hl : l.length < 8796093022208
 ·rw [if_pos hl] at hf
  by_cases hda : d = a
  ·rw [if_pos hda] at hf
   subst hda
   split at hf
   ·rename_i hs
    obtain rfl := Option.some.inj hf
    exact move_same A c l d w hr hs hl
   ·cases hf
  ·rw [if_neg hda] at hf
   split at hf
   ·rename_i hs
    exact move_other k A c l r d a w hda hr hc hl hs hf
   ·cases hf
 ·rw [if_neg hl] at hf; cases hf
def copyF (k : Nat) (s : Bs) (d a i : Int) : OBs := (copyS k s.set d a).bind fun l => some (Qcs s.cost l i)
def moveF (k : Nat) (s : Bs) (d a i : Int) : OBs := (moveS k s.set d a).bind fun l => some (Qcs s.cost l i)
def Qe1 (k : Nat) (m : Int) : List S41 → Bs → (Bs → OBs) → OBs
 | [], s, K => K s
 | i :: t, s, K => (copyF k s i.f1 i.f2 m).then fun s1 => Qe1 k m t s1 K
def Qdp (k : Nat) (mc : List S59) : Nat → Int → Bs → (Bs → OBs) → OBs
 | 0, _, s, K => K s
 | n + 1, j, s, K => if 0 ≤ j ∧ j < (mc.length : Int) then (moveF k s (Qaj mc j).f5 (Qaj mc j).f6 j).then fun s1 => Qdp k mc n (j + 1) s1 K else none
def instrF (k : Nat) (s : Bs) (i : S41) (m : S59) (ia : Int) : OBs := (opcode_Of.f i.f0).bind fun t => instrA k s t.1 t.2.1 t.2.2.1 i.f1 i.f2 i.f3 m.f1 m.f2 m.f3 ia
def srcF (k : Nat) (bc : List S41) (mc : List S59) (r4 r5 : Int) (s : Bs) : OBs :=
 if r4 ≥ 0 then (if r4 < (bc.length : Int) ∧ 0 ≤ r5 ∧ r5 < (mc.length : Int) then instrF k s (Qam bc r4) (Qaj mc r5) r5 else none) else some (s, none)
def rowF (k : Nat) (bc : List S41) (mc : List S59) (r : S180) (s : Bs) : OBs :=
 if 0 ≤ r.f0 ∧ r.f0 ≤ r.f1 ∧ r.f1 ≤ (bc.length : Int) then
  Qe1 k r.f2 ((bc.take r.f1.toNat).drop r.f0.toNat) s fun s1 => Qdp k mc (r.f3 - r.f2).toNat r.f2 s1 fun s2 => srcF k bc mc r.f4 r.f5 s2
 else none
theorem instrF_calls (k g : Nat) (s : Bs) (i : S41) (m : S59) (ia : Int) (x : Bs × Pan) (w : World) (h : Ck w g s) (hf : instrF k s i m ia = some x) :
    Calls Tryz.prog 159 #[.pointer (some ⟨g, 0, none⟩), .agg #[.int .i64 i.f0, .int .i64 i.f1, .int .i64 i.f2, .int .i64 i.f3, .int .i64 i.f4], .agg #[.int .i64 m.f0, .int .i64 m.f1, .int .i64 m.f2, .int .i64 m.f3, .int .i64 m.f4, .int .i64 m.f5, .int .i64 m.f6], .int .i64 ia] w fun e w' => e = endOf x.2 ∧ Ck w' g x.1 ∧ Fr g w w' := by
 obtain ⟨⟨sd, sa, sb, sm, so⟩, ho, hx⟩ := Option.bind_eq_some_iff.mp hf
 exact instr_calls k g s _ _ _ _ _ _ _ _ _ _ _ _ ia sd sa sb sm so x w h ho hx
theorem row_calls (k g : Nat) (s : Bs) (A0 : Option Addr) (c0 : Nat) (bc : List S41) (t0 t1 t2 t3 : Int) (A1 : Option Addr) (c1 : Nat) (mc : List S59) (u0_ u1_ u2_ u3_ : Int) (r : S180) (x : Bs × Pan) (w0 w : World) (h : Ck w g s) (hB : Below w0.heap.size w0 w) (hg0 : w0.heap.size ≤ g)
    (h0 : Kd.C k41 w0 A0 bc.length bc) (hc0 : bc.length ≤ c0) (h1 : Kd.C k59 w0 A1 mc.length mc) (hc1_ : mc.length ≤ c1) (hf : rowF k bc mc r s = some x) :
    Calls Tryz.prog 120 #[.pointer (some ⟨g, 0, none⟩), .agg #[.slice A0 bc.length c0, .int .i64 t0, .int .i64 t1, .int .i64 t2, .int .i64 t3], .agg #[.slice A1 mc.length c1, .int .i64 u0_, .int .i64 u1_, .int .i64 u2_, .int .i64 u3_], .agg #[.int .i64 r.f0, .int .i64 r.f1, .int .i64 r.f2, .int .i64 r.f3, .int .i64 r.f4, .int .i64 r.f5]] w fun e w' => e = endOf x.2 ∧ Ck w' g x.1 ∧ Fr g w w' := by
 have hu35 := Tryz.underlying35
 have hu39 := Tryz.underlying39
 have hu41 := Tryz.underlying41
 have hu44 := Tryz.underlying44
 have hu54 := Tryz.underlying54
 have hu57 := Tryz.underlying57
 have hu59 := Tryz.underlying59
 have hu128 := Tryz.underlying128
 have hu180 := Tryz.underlying180
 have HK := As0 h
 have HB0 := As0 hB
 have HG0 := As0 hg0
 have H0 := As0 h0
 have H1 := As0 h1
 have HM0 := As0 h0.2.1
 have HM1 := As0 h1.2.1
 unfold rowF at hf
 by_cases hcut : 0 ≤ r.f0 ∧ r.f0 ≤ r.f1 ∧ r.f1 ≤ (bc.length : Int)
 ·rw [if_pos hcut] at hf
  have H := As0 hf
  obtain ⟨i41, hi41, _, hsz41, _⟩ := info_parts info41
  have hcm := cut_mid (P := Tryz.prog) 35 41 .i64 .i64 Tryz.underlying35 hi41 5 hsz41 A0 bc.length c0 r.f0 r.f1 hcut.1 hcut.2.1 hcut.2.2 hc0
  have htk : (bc.take r.f1.toNat).length = r.f1.toNat := by rw [List.length_take]; omega
  have hCs : ∃ A2 c2, (if c0 = r.f0.toNat then A0 else A0.map (·.add (r.f0.toNat * 5))) = A2 ∧ c0 - r.f0.toNat = c2 ∧ r.f1.toNat - r.f0.toNat = ((bc.take r.f1.toNat).drop r.f0.toNat).length ∧ Kd.C k41 w0 A2 ((bc.take r.f1.toNat).drop r.f0.toNat).length ((bc.take r.f1.toNat).drop r.f0.toNat) ∧ ((bc.take r.f1.toNat).drop r.f0.toNat).length ≤ 9223372036854775807 := by
   have ht := Kd.C_take (m := r.f1.toNat) h0 (by omega)
   have hd := Kd.C_drop (m := r.f0.toNat) (c := c0) ht (by omega) (by omega)
   exact ⟨_, _, rfl, rfl, by rw [List.length_drop, htk], hd, hd.2.1⟩
  obtain ⟨A2, c2, e1, e2, e3, hC2, hM2⟩ := hCs
  rw [e1, e2, e3] at hcm
  clear e1 e2 e3 htk
  generalize (bc.take r.f1.toNat).drop r.f0.toNat = cs at hcm hC2 hM2 H
  have C2 := As0 hC2
  clear h hB hg0 h0 h1 hf hcut hC2 hi41
  have HF := As0 (Fr.refl g w)
  go_enter Tryz.func120, Tryz.ntmps120
  go_wp2_with (first
   | ((with_reducible refine gD 5 ?_); refine bX ?_; intro gB hg w1 aC hb; have B := As0 aC; have NB := As0 (by have := HK.out.lt; omega : gB ≠ g); replace HK := As0 (HK.out.below hb); replace HF := As0 (HF.out.then hb); clear hb aC hg)
   | ((with_reducible refine gD 6 ?_); refine bX ?_; intro gM hg w2 aC hb; have M := As0 aC; have NM := As0 (by have := HK.out.lt; omega : gM ≠ g); replace B := As0 (Qbg B.out hb); replace HK := As0 (HK.out.below hb); replace HF := As0 (HF.out.then hb); clear hb aC hg)
   | ((with_reducible refine gD 7 ?_); refine bX ?_; intro gR hg w3 aC hb; have R := As0 aC; have NR := As0 (by have := HK.out.lt; omega : gR ≠ g); replace B := As0 (Qbg B.out hb); replace M := As0 (Qbg M.out hb); replace HK := As0 (HK.out.below hb); replace HF := As0 (HF.out.then hb); (obtain ⟨b0, b1, b2, b3, b4, bf0, bf1, bf2, bf3, bf4⟩ := cN5 B.out); (obtain ⟨m0, m1, m2, m3, m4, mf0, mf1, mf2, mf3, mf4⟩ := cN5 M.out); (obtain ⟨r_0, r_1, r_2, r_3, r_4, r_5, r_f0, r_f1, r_f2, r_f3, r_f4, r_f5⟩ := cN6 R.out); clear hb aC hg))
  skip; skip; skip
  go_loopg [19] (cs.length + 1) (fun n v19 w' => ∃ (i : Nat) (s1 : Bs), v19 = .int .i64 (i : Int) ∧ Qbf (i ≤ cs.length ∧ cs.length - i < n) ∧ Qbf (Qe1 k r.f2 (cs.drop i) s1 (fun s1 => Qdp k mc (r.f3 - r.f2).toNat r.f2 s1 fun s2 => srcF k bc mc r.f4 r.f5 s2) = some x) ∧ Qbf (Ck w' g s1) ∧ Qbf (Fr g w w') ∧ Qbf (w'.heap[gB]? = some (.cells #[.slice A0 bc.length c0, .int .i64 t0, .int .i64 t1, .int .i64 t2, .int .i64 t3] 39 (0, 0))) ∧ Qbf (w'.heap[gM]? = some (.cells #[.slice A1 mc.length c1, .int .i64 u0_, .int .i64 u1_, .int .i64 u2_, .int .i64 u3_] 57 (0, 0))) ∧ Qbf (w'.heap[gR]? = some (.cells #[.int .i64 r.f0, .int .i64 r.f1, .int .i64 r.f2, .int .i64 r.f3, .int .i64 r.f4, .int .i64 r.f5] 180 (0, 0))))
  case atStart => exact ⟨0, s, rfl, ⟨by omega, by omega⟩, ⟨by rw [List.drop_zero]; exact H.out⟩, HK, HF, B, M, R⟩
  case round =>
   clear HK HF B M R H
   obtain ⟨i, s1, rfl, HI, H, HK, HF, B, M, R⟩ := hrel
   (obtain ⟨b0, b1, b2, b3, b4, bf0, bf1, bf2, bf3, bf4⟩ := cN5 B.out); (obtain ⟨m0, m1, m2, m3, m4, mf0, mf1, mf2, mf3, mf4⟩ := cN5 M.out); (obtain ⟨r_0, r_1, r_2, r_3, r_4, r_5, r_f0, r_f1, r_f2, r_f3, r_f4, r_f5⟩ := cN6 R.out)
   by_cases hi : i < cs.length
   ·have hlt : (i : Int) < (cs.length : Int) := by omega
    have h0' : (0 : Int) ≤ (i : Int) := by omega
    obtain ⟨ad, e, hx0, hx1, hx2, hx3, hx4⟩ := at_T41 C2.out i h0' hlt
    cases e
    have HBw := HF.out.base HB0.out HG0.out HB0.out.size
    replace hx0 := (HBw.cell (wblt w0 hx0)).trans hx0
    replace hx1 := (HBw.cell (wblt w0 hx1)).trans hx1
    replace hx2 := (HBw.cell (wblt w0 hx2)).trans hx2
    replace hx3 := (HBw.cell (wblt w0 hx3)).trans hx3
    replace hx4 := (HBw.cell (wblt w0 hx4)).trans hx4
    have hw : wrap64 ((i : Int) + 1) = ((i + 1 : Nat) : Int) := by unfold wrap64; omega
    have hp : Qam cs (i : Int) = cs[i] := by simp [Qam, List.getD_eq_getElem?_getD, hi]
    have hdr : cs.drop i = cs[i] :: cs.drop (i + 1) := by rw [List.drop_eq_getElem_cons hi]
    have H' := H.out
    rw [hdr] at H'
    rw [hp] at hx0 hx1 hx2 hx3 hx4
    simp only [Int.toNat_natCast] at hx0 hx1 hx2 hx3 hx4
    generalize cs[i] = p at hx0 hx1 hx2 hx3 hx4 H'
    clear hp hdr HBw
    obtain ⟨s2, pn, hu, hp⟩ := OBs.then_inv (show OBs.then (copyF k s1 p.f1 p.f2 r.f2) (fun s1 => Qe1 k r.f2 (cs.drop (i + 1)) s1 (fun s1 => Qdp k mc (r.f3 - r.f2).toNat r.f2 s1 fun s2 => srcF k bc mc r.f4 r.f5 s2)) = some x from H')
    obtain ⟨l, hl, hx⟩ := Option.bind_eq_some_iff.mp hu
    replace hx := Option.some.inj hx
    have HL := As0 hl
    clear hl hu
    go_wp2_with (first
        | ((with_reducible refine gD 9 ?_); refine bX ?_; intro gi hg w4 aC hb; have I := As0 aC; have NI := As0 (by have := HK.out.lt; omega : gi ≠ g); have GI := As0 (Nat.le_of_eq hg.symm); have HBI := As0 hb; clear hb aC hg)
        | ((with_reducible refine Qcb (.store 41 (.tmp 9) (.tmp 22)) rfl ?_); go_loud (refine Qae rfl rfl 41 _ _ rfl gi #[.int .i64 p.f0, .int .i64 p.f1, .int .i64 p.f2, .int .i64 p.f3, .int .i64 p.f4] rfl rfl 41 #[.int .i64 0, .int .i64 0, .int .i64 0, .int .i64 0, .int .i64 0] I.out (by kernel_rfl) rfl (by kernel_rfl) ?_); intro w5 hg ho hB; have hb := hB _ _ GI.out HBI.out; replace I := As0 hg; replace B := As0 (Qbg B.out hb); replace M := As0 (Qbg M.out hb); replace R := As0 (Qbg R.out hb); replace HF := As0 (HF.out.then hb); replace HK := As0 (HK.out.below hb); clear hg ho hB hb HBI GI)
        | (go_at_call 155; refine (Qdu g s1 _ HK.out).mono ?_; rintro e w8 ⟨rfl, hk, hf⟩; replace HK := As0 hk; clear b0 b1 b2 b3 b4 bf0 bf1 bf2 bf3 bf4 m0 m1 m2 m3 m4 mf0 mf1 mf2 mf3 mf4 r_0 r_1 r_2 r_3 r_4 r_5 r_f0 r_f1 r_f2 r_f3 r_f4 r_f5; replace I := As0 (hf.blk I.out NI.out); replace B := As0 (hf.blk B.out NB.out); replace M := As0 (hf.blk M.out NM.out); replace R := As0 (hf.blk R.out NR.out); replace HF := As0 (HF.out.trans hf); (obtain ⟨b0, b1, b2, b3, b4, bf0, bf1, bf2, bf3, bf4⟩ := cN5 B.out); (obtain ⟨m0, m1, m2, m3, m4, mf0, mf1, mf2, mf3, mf4⟩ := cN5 M.out); (obtain ⟨r_0, r_1, r_2, r_3, r_4, r_5, r_f0, r_f1, r_f2, r_f3, r_f4, r_f5⟩ := cN6 R.out); have i1 := (Qbh I.out 1).trans rfl; have i2 := (Qbh I.out 2).trans rfl; clear hf hk))
    (obtain ⟨A, c, hg, hc, hC, hne⟩ := HK.out); (obtain ⟨q0, q1, q2, q3, f0, f1, f2, f3⟩ := cN4 hg); replace q0 : w8.cell? ⟨g, 0, none⟩ = some (.slice A s1.set.length c) := q0; have HC := As0 (show Kd.C k47 w8 A s1.set.length s1.set from hC); have hc1 : s1.set.length ≤ c := hc; clear hg hC hc q1 q2 q3
    rcases hp with ⟨rfl, hp⟩ | ⟨q, rfl, rfl⟩
    ·have hbe : Qcs s1.cost l r.f2 = (s2, none) := hx
     refine Qb1 (n := 13) (S := fun w' => w'.cell? ⟨g, 0, none⟩ = some (.slice A s1.set.length c) ∧ w'.cell? ⟨gi, 1, none⟩ = some (.int .i64 p.f1) ∧ w'.cell? ⟨gi, 2, none⟩ = some (.int .i64 p.f2) ∧ w'.cell? ⟨gR, 2, none⟩ = some (.int .i64 r.f2)) (ds := [12]) (bb 13 0) (by kernel_rfl) rfl rfl ⟨q0, i1, i2, r_2⟩ (fun aA => ?_)
     refine pu 0 25 (bb 13 1) ?_
     refine pu 1 26 (bb 13 3) ?_
     refine pu 2 27 (bb 13 7) ?_
     refine pu 3 28 (bb 13 15) ?_
     refine pu 5 30 (bb 13 47) ?_
     refine pu 7 32 (bb 13 175) ?_
     refine pu 10 35 (bb 13 1199) ?_
     refine tu aA 4 29 (bb 13 1215) ?_
     refine tu aA 6 31 (bb 13 1279) ?_
     refine tu aA 8 33 (bb 13 1535) ?_
     refine tu aA 11 36 (bb 13 3583) ?_
     refine one_ (i := 9) (N := some 34) (bb 13 4095) rfl rfl (by kernel_rfl) (by decide) (fun K hK => ?_)
     refine gG Tryz.func157 #[.slice A s1.set.length c, .int .i64 p.f1, .int .i64 p.f2] ?_
     with_reducible refine (copyS_calls k A c s1.set l p.f1 p.f2 _ (by repeat (first | exact HC.out | refine Kd.C_drewN ?_ _ | refine Kd.C_drew ?_)) hc1 HL.out).mono ?_
     rintro e w9 ⟨u, rfl, ho9, hb9⟩
     refine ⟨_, rfl, ?_⟩
     refine hK.out _ _ ⟨(cell_b hb9 q0), (cell_b hb9 i1), (cell_b hb9 i2), (cell_b hb9 r_2)⟩ (fun aA => ?_)
     clear hK K
     refine Qbz (a' := ?_) ?_ ?_
     rotate_left
     ·show Act.put _ (some 34) _ = _
      simp only [Act.put, List.setIfInBounds_toArray, List.set_cons_zero, List.set_cons_succ, Qbo, Qbp]
      rfl
     refine Qc7 (i := 12) (N := some 37) (bb 13 8191) rfl rfl (by kernel_rfl) (by decide) (fun K hK => ?_)
     refine gG Tryz.func156 #[.pointer (some ⟨g, 0, none⟩), u, .int .i64 r.f2] ?_
     with_reducible refine (Qcy g s1.cost l r.f2 u _ _ _ (HK.out.below (Qbw (BU (Below.refl _ w8)) hb9)) (Kd.R_bound ho9) (fun k hk => Nat.ne_of_gt (Nat.lt_of_lt_of_le HK.out.lt (Nat.le_trans (Qbi (BU (Below.refl _ w8))) hk.2.1)))).mono ?_
     rintro e w10 ⟨he, hk, hf⟩
     rw [hbe] at he hk
     have hff := (Fr.of (g := g) (Qbw (BU (Below.refl _ w8)) hb9)).trans hf
     replace B := As0 (hff.blk B.out NB.out)
     replace M := As0 (hff.blk M.out NM.out)
     replace R := As0 (hff.blk R.out NR.out)
     replace HF := As0 (HF.out.trans hff)
     replace HK := As0 hk
     subst he
     clear hff hf hk
     refine ⟨_, rfl, ?_⟩
     refine hK.out _ _ ?_
     clear hK K
     refine Qbz (a' := ?_) ?_ ?_
     rotate_left
     ·show Act.put _ (some 37) _ = _
      simp only [Act.put, List.setIfInBounds_toArray, List.set_cons_zero, List.set_cons_succ, Qbo, Qbp]
      rfl
     refine Qch (by kernel_rfl) ?_
     go_wp2
     go_roundg (cs.length - i)
     case measure => have := HI.out; omega
     case rel => exact ⟨i + 1, s2, by first | rw [hw] | (push_cast; rfl), ⟨by omega, by omega⟩, ⟨hp⟩, HK, HF, B, M, R⟩
    ·have hbe : Qcs s1.cost l r.f2 = (s2, some q) := hx
     refine Qb1 (n := 13) (S := fun w' => w'.cell? ⟨g, 0, none⟩ = some (.slice A s1.set.length c) ∧ w'.cell? ⟨gi, 1, none⟩ = some (.int .i64 p.f1) ∧ w'.cell? ⟨gi, 2, none⟩ = some (.int .i64 p.f2) ∧ w'.cell? ⟨gR, 2, none⟩ = some (.int .i64 r.f2)) (ds := [12]) (bb 13 0) (by kernel_rfl) rfl rfl ⟨q0, i1, i2, r_2⟩ (fun aA => ?_)
     refine pu 0 25 (bb 13 1) ?_
     refine pu 1 26 (bb 13 3) ?_
     refine pu 2 27 (bb 13 7) ?_
     refine pu 3 28 (bb 13 15) ?_
     refine pu 5 30 (bb 13 47) ?_
     refine pu 7 32 (bb 13 175) ?_
     refine pu 10 35 (bb 13 1199) ?_
     refine tu aA 4 29 (bb 13 1215) ?_
     refine tu aA 6 31 (bb 13 1279) ?_
     refine tu aA 8 33 (bb 13 1535) ?_
     refine tu aA 11 36 (bb 13 3583) ?_
     refine one_ (i := 9) (N := some 34) (bb 13 4095) rfl rfl (by kernel_rfl) (by decide) (fun K hK => ?_)
     refine gG Tryz.func157 #[.slice A s1.set.length c, .int .i64 p.f1, .int .i64 p.f2] ?_
     with_reducible refine (copyS_calls k A c s1.set l p.f1 p.f2 _ (by repeat (first | exact HC.out | refine Kd.C_drewN ?_ _ | refine Kd.C_drew ?_)) hc1 HL.out).mono ?_
     rintro e w9 ⟨u, rfl, ho9, hb9⟩
     refine ⟨_, rfl, ?_⟩
     refine hK.out _ _ ⟨(cell_b hb9 q0), (cell_b hb9 i1), (cell_b hb9 i2), (cell_b hb9 r_2)⟩ (fun aA => ?_)
     clear hK K
     refine Qbz (a' := ?_) ?_ ?_
     rotate_left
     ·show Act.put _ (some 34) _ = _
      simp only [Act.put, List.setIfInBounds_toArray, List.set_cons_zero, List.set_cons_succ, Qbo, Qbp]
      rfl
     refine Qc7 (i := 12) (N := some 37) (bb 13 8191) rfl rfl (by kernel_rfl) (by decide) (fun K hK => ?_)
     refine goesP_ Tryz.func156 (by kernel_rfl) rfl #[.pointer (some ⟨g, 0, none⟩), u, .int .i64 r.f2] (by rfl) rfl rfl (by simp only [List.map_toArray, List.map_cons, List.map_nil]; rfl) ?_
     with_reducible refine (Qcy g s1.cost l r.f2 u _ _ _ (HK.out.below (Qbw (BU (Below.refl _ w8)) hb9)) (Kd.R_bound ho9) (fun k hk => Nat.ne_of_gt (Nat.lt_of_lt_of_le HK.out.lt (Nat.le_trans (Qbi (BU (Below.refl _ w8))) hk.2.1)))).mono ?_
     rintro e w10 ⟨he, hk, hf⟩
     rw [hbe] at he hk
     have hff := (Fr.of (g := g) (Qbw (BU (Below.refl _ w8)) hb9)).trans hf
     replace B := As0 (hff.blk B.out NB.out)
     replace M := As0 (hff.blk M.out NM.out)
     replace R := As0 (hff.blk R.out NR.out)
     replace HF := As0 (HF.out.trans hff)
     replace HK := As0 hk
     subst he
     clear hff hf hk
     exact ⟨_, rfl, rfl, rfl, HK.out, HF.out⟩
   ·have hi' : i = cs.length := by have := HI.out.1; omega
    have H2 := H.out
    rw [hi', List.drop_length] at H2
    replace H := As0 (show Qdp k mc (r.f3 - r.f2).toNat r.f2 s1 (fun s2 => srcF k bc mc r.f4 r.f5 s2) = some x from H2)
    subst hi'
    clear H2 C2 hcm HI
    go_wp2
    go_loopg [10] ((r.f3 - r.f2).toNat + 1) (fun n v10 w' => ∃ (j : Int) (s1 : Bs), v10 = .int .i64 j ∧ Qbf ((r.f3 - j).toNat < n) ∧ Qbf (Qdp k mc (r.f3 - j).toNat j s1 (fun s2 => srcF k bc mc r.f4 r.f5 s2) = some x) ∧ Qbf (Ck w' g s1) ∧ Qbf (Fr g w w') ∧ Qbf (w'.heap[gB]? = some (.cells #[.slice A0 bc.length c0, .int .i64 t0, .int .i64 t1, .int .i64 t2, .int .i64 t3] 39 (0, 0))) ∧ Qbf (w'.heap[gM]? = some (.cells #[.slice A1 mc.length c1, .int .i64 u0_, .int .i64 u1_, .int .i64 u2_, .int .i64 u3_] 57 (0, 0))) ∧ Qbf (w'.heap[gR]? = some (.cells #[.int .i64 r.f0, .int .i64 r.f1, .int .i64 r.f2, .int .i64 r.f3, .int .i64 r.f4, .int .i64 r.f5] 180 (0, 0))))
    case atStart => exact ⟨r.f2, s1, rfl, ⟨by omega⟩, H, HK, HF, B, M, R⟩
    case round =>
     clear b0 b1 b2 b3 b4 bf0 bf1 bf2 bf3 bf4 m0 m1 m2 m3 m4 mf0 mf1 mf2 mf3 mf4 r_0 r_1 r_2 r_3 r_4 r_5 r_f0 r_f1 r_f2 r_f3 r_f4 r_f5 HK HF B M R H s1
     obtain ⟨j, s1, rfl, HI, H, HK, HF, B, M, R⟩ := hrel
     (obtain ⟨b0, b1, b2, b3, b4, bf0, bf1, bf2, bf3, bf4⟩ := cN5 B.out); (obtain ⟨m0, m1, m2, m3, m4, mf0, mf1, mf2, mf3, mf4⟩ := cN5 M.out); (obtain ⟨r_0, r_1, r_2, r_3, r_4, r_5, r_f0, r_f1, r_f2, r_f3, r_f4, r_f5⟩ := cN6 R.out)
     by_cases hj : j < r.f3
     ·have hjd := decide_eq_true hj
      obtain ⟨n1, hn1⟩ : ∃ n1, (r.f3 - j).toNat = n1 + 1 := ⟨(r.f3 - j).toNat - 1, by omega⟩
      have hn2 : (r.f3 - (j + 1)).toNat = n1 := by omega
      have H' := H.out
      rw [hn1] at H'
      simp only [Qdp] at H'
      by_cases hb : 0 ≤ j ∧ j < (mc.length : Int)
      ·rw [if_pos hb] at H'
       obtain ⟨hb0, hb1⟩ := hb
       obtain ⟨ad, e, hx0, hx1, hx2, hx3, hx4, hx5, hx6⟩ := at_T59 H1.out j hb0 hb1
       cases e
       have HBw := HF.out.base HB0.out HG0.out HB0.out.size
       replace hx5 := (HBw.cell (wblt w0 hx5)).trans hx5
       replace hx6 := (HBw.cell (wblt w0 hx6)).trans hx6
       have HX := As0 (And.intro (wblt w0 ((HBw.cell (wblt w0 hx0)).symm.trans ((HBw.cell (wblt w0 hx0)).trans hx0))) HBw.size)
       clear hx0 hx1 hx2 hx3 hx4
       have hw : wrap64 (j + 1) = j + 1 := by have := HM1.out; unfold wrap64; omega
       have hb0d := decide_eq_true hb0
       have hb1d := decide_eq_true hb1
       generalize Qaj mc j = p at hx5 hx6 H'
       clear HBw
       obtain ⟨s2, pn, hu, hp⟩ := OBs.then_inv (show OBs.then (moveF k s1 p.f5 p.f6 j) (fun s1 => Qdp k mc n1 (j + 1) s1 fun s2 => srcF k bc mc r.f4 r.f5 s2) = some x from H')
       obtain ⟨l, hl, hx⟩ := Option.bind_eq_some_iff.mp hu
       replace hx := Option.some.inj hx
       have HL := As0 hl
       clear hl hu
       go_wp2_with (first
           | (go_at_call 155; refine (Qdu g s1 _ HK.out).mono ?_; rintro e w8 ⟨rfl, hk, hf⟩; replace HK := As0 hk; clear b0 b1 b2 b3 b4 bf0 bf1 bf2 bf3 bf4 m0 m1 m2 m3 m4 mf0 mf1 mf2 mf3 mf4 r_0 r_1 r_2 r_3 r_4 r_5 r_f0 r_f1 r_f2 r_f3 r_f4 r_f5; replace hx5 := (hf.cell_ (wblt _ hx5) (Nat.ne_of_lt (Nat.lt_of_lt_of_le HX.out.1 HG0.out))).trans hx5; replace hx6 := (hf.cell_ (wblt _ hx6) (Nat.ne_of_lt (Nat.lt_of_lt_of_le HX.out.1 HG0.out))).trans hx6; replace B := As0 (hf.blk B.out NB.out); replace M := As0 (hf.blk M.out NM.out); replace R := As0 (hf.blk R.out NR.out); replace HF := As0 (HF.out.trans hf); (obtain ⟨b0, b1, b2, b3, b4, bf0, bf1, bf2, bf3, bf4⟩ := cN5 B.out); (obtain ⟨m0, m1, m2, m3, m4, mf0, mf1, mf2, mf3, mf4⟩ := cN5 M.out); (obtain ⟨r_0, r_1, r_2, r_3, r_4, r_5, r_f0, r_f1, r_f2, r_f3, r_f4, r_f5⟩ := cN6 R.out); clear hf hk))
       (obtain ⟨A, c, hg, hc, hC, hne⟩ := HK.out); (obtain ⟨q0, q1, q2, q3, f0, f1, f2, f3⟩ := cN4 hg); replace q0 : w8.cell? ⟨g, 0, none⟩ = some (.slice A s1.set.length c) := q0; have HC := As0 (show Kd.C k47 w8 A s1.set.length s1.set from hC); have hc1 : s1.set.length ≤ c := hc; clear hg hC hc q1 q2 q3
       rcases hp with ⟨rfl, hp⟩ | ⟨q, rfl, rfl⟩
       ·have hbe : Qcs s1.cost l j = (s2, none) := hx
        refine Qb1 (n := 20) (S := fun w' => w'.cell? ⟨g, 0, none⟩ = some (.slice A s1.set.length c) ∧ w'.cell? ⟨gM, 0, none⟩ = some (.slice (some ad) mc.length c1) ∧ w'.cell? ⟨(ad.add (j.toNat * 7)).block, (ad.add (j.toNat * 7)).off + 5, none⟩ = some (.int .i64 p.f5) ∧ w'.cell? ⟨(ad.add (j.toNat * 7)).block, (ad.add (j.toNat * 7)).off + 6, none⟩ = some (.int .i64 p.f6)) (ds := [17, 19]) (bb 20 0) (by kernel_rfl) rfl rfl ⟨q0, m0, hx5, hx6⟩ (fun aA => ?_)
        refine pu 0 49 (bb 20 1) ?_
        refine pu 1 50 (bb 20 3) ?_
        refine pu 2 51 (bb 20 7) ?_
        refine pu 3 52 (bb 20 15) ?_
        refine pu 5 54 (bb 20 47) ?_
        refine pu 7 56 (bb 20 175) ?_
        refine pu 11 60 (bb 20 2223) ?_
        refine pu 13 62 (bb 20 10415) ?_
        refine pu 18 67 (bb 20 272559) ?_
        refine tu aA 4 53 (bb 20 272575) ?_
        refine tu aA 6 55 (bb 20 272639) ?_
        refine pu 8 57 (bb 20 272895) ?_
        refine pu 9 58 (bb 20 273407) ?_
        refine tu aA 10 59 (bb 20 274431) ?_
        refine tu aA 12 61 (bb 20 278527) ?_
        refine pu 14 63 (bb 20 294911) ?_
        refine pu 15 64 (bb 20 327679) ?_
        refine tu aA 16 65 (bb 20 393215) ?_
        refine Qc7 (i := 17) (N := some 66) (bb 20 524287) rfl rfl (by kernel_rfl) (by decide) (fun K hK => ?_)
        refine gG Tryz.func158 #[.slice A s1.set.length c, .int .i64 p.f5, .int .i64 p.f6] ?_
        with_reducible refine (moveS_calls k A c s1.set l p.f5 p.f6 _ (by repeat (first | exact HC.out | refine Kd.C_drewN ?_ _ | refine Kd.C_drew ?_)) hc1 HL.out).mono ?_
        rintro e w9 ⟨u, rfl, ho9, hb9⟩
        refine ⟨_, rfl, ?_⟩
        refine hK.out _ _ ?_
        clear hK K
        refine Qbz (a' := ?_) ?_ ?_
        rotate_left
        ·show Act.put _ (some 66) _ = _
         simp only [Act.put, List.setIfInBounds_toArray, List.set_cons_zero, List.set_cons_succ, Qbo, Qbp]
         rfl
        refine Qc7 (i := 19) (N := some 68) (bb 20 1048575) rfl rfl (by kernel_rfl) (by decide) (fun K hK => ?_)
        refine gG Tryz.func156 #[.pointer (some ⟨g, 0, none⟩), u, .int .i64 j] ?_
        with_reducible refine (Qcy g s1.cost l j u _ _ _ (HK.out.below (Qbw (BU (Below.refl _ w8)) hb9)) (Kd.R_bound ho9) (fun k hk => Nat.ne_of_gt (Nat.lt_of_lt_of_le HK.out.lt (Nat.le_trans (Qbi (BU (Below.refl _ w8))) hk.2.1)))).mono ?_
        rintro e w10 ⟨he, hk, hf⟩
        rw [hbe] at he hk
        have hff := (Fr.of (g := g) (Qbw (BU (Below.refl _ w8)) hb9)).trans hf
        replace B := As0 (hff.blk B.out NB.out)
        replace M := As0 (hff.blk M.out NM.out)
        replace R := As0 (hff.blk R.out NR.out)
        replace HF := As0 (HF.out.trans hff)
        replace HK := As0 hk
        subst he
        clear hff hf hk
        refine ⟨_, rfl, ?_⟩
        refine hK.out _ _ ?_
        clear hK K
        refine Qbz (a' := ?_) ?_ ?_
        rotate_left
        ·show Act.put _ (some 68) _ = _
         simp only [Act.put, List.setIfInBounds_toArray, List.set_cons_zero, List.set_cons_succ, Qbo, Qbp]
         rfl
        refine Qch (by kernel_rfl) ?_
        go_wp2
        go_roundg ((r.f3 - j).toNat)
        case measure => have := HI.out; omega
        case rel => exact ⟨j + 1, s2, by first | rw [hw] | rfl, ⟨by omega⟩, ⟨by rw [hn2]; exact hp⟩, HK, HF, B, M, R⟩
       ·have hbe : Qcs s1.cost l j = (s2, some q) := hx
        refine Qb1 (n := 20) (S := fun w' => w'.cell? ⟨g, 0, none⟩ = some (.slice A s1.set.length c) ∧ w'.cell? ⟨gM, 0, none⟩ = some (.slice (some ad) mc.length c1) ∧ w'.cell? ⟨(ad.add (j.toNat * 7)).block, (ad.add (j.toNat * 7)).off + 5, none⟩ = some (.int .i64 p.f5) ∧ w'.cell? ⟨(ad.add (j.toNat * 7)).block, (ad.add (j.toNat * 7)).off + 6, none⟩ = some (.int .i64 p.f6)) (ds := [17, 19]) (bb 20 0) (by kernel_rfl) rfl rfl ⟨q0, m0, hx5, hx6⟩ (fun aA => ?_)
        refine pu 0 49 (bb 20 1) ?_
        refine pu 1 50 (bb 20 3) ?_
        refine pu 2 51 (bb 20 7) ?_
        refine pu 3 52 (bb 20 15) ?_
        refine pu 5 54 (bb 20 47) ?_
        refine pu 7 56 (bb 20 175) ?_
        refine pu 11 60 (bb 20 2223) ?_
        refine pu 13 62 (bb 20 10415) ?_
        refine pu 18 67 (bb 20 272559) ?_
        refine tu aA 4 53 (bb 20 272575) ?_
        refine tu aA 6 55 (bb 20 272639) ?_
        refine pu 8 57 (bb 20 272895) ?_
        refine pu 9 58 (bb 20 273407) ?_
        refine tu aA 10 59 (bb 20 274431) ?_
        refine tu aA 12 61 (bb 20 278527) ?_
        refine pu 14 63 (bb 20 294911) ?_
        refine pu 15 64 (bb 20 327679) ?_
        refine tu aA 16 65 (bb 20 393215) ?_
        refine Qc7 (i := 17) (N := some 66) (bb 20 524287) rfl rfl (by kernel_rfl) (by decide) (fun K hK => ?_)
        refine gG Tryz.func158 #[.slice A s1.set.length c, .int .i64 p.f5, .int .i64 p.f6] ?_
        with_reducible refine (moveS_calls k A c s1.set l p.f5 p.f6 _ (by repeat (first | exact HC.out | refine Kd.C_drewN ?_ _ | refine Kd.C_drew ?_)) hc1 HL.out).mono ?_
        rintro e w9 ⟨u, rfl, ho9, hb9⟩
        refine ⟨_, rfl, ?_⟩
        refine hK.out _ _ ?_
        clear hK K
        refine Qbz (a' := ?_) ?_ ?_
        rotate_left
        ·show Act.put _ (some 66) _ = _
         simp only [Act.put, List.setIfInBounds_toArray, List.set_cons_zero, List.set_cons_succ, Qbo, Qbp]
         rfl
        refine Qc7 (i := 19) (N := some 68) (bb 20 1048575) rfl rfl (by kernel_rfl) (by decide) (fun K hK => ?_)
        refine goesP_ Tryz.func156 (by kernel_rfl) rfl #[.pointer (some ⟨g, 0, none⟩), u, .int .i64 j] (by rfl) rfl rfl (by simp only [List.map_toArray, List.map_cons, List.map_nil]; rfl) ?_
        with_reducible refine (Qcy g s1.cost l j u _ _ _ (HK.out.below (Qbw (BU (Below.refl _ w8)) hb9)) (Kd.R_bound ho9) (fun k hk => Nat.ne_of_gt (Nat.lt_of_lt_of_le HK.out.lt (Nat.le_trans (Qbi (BU (Below.refl _ w8))) hk.2.1)))).mono ?_
        rintro e w10 ⟨he, hk, hf⟩
        rw [hbe] at he hk
        have hff := (Fr.of (g := g) (Qbw (BU (Below.refl _ w8)) hb9)).trans hf
        replace B := As0 (hff.blk B.out NB.out)
        replace M := As0 (hff.blk M.out NM.out)
        replace R := As0 (hff.blk R.out NR.out)
        replace HF := As0 (HF.out.trans hff)
        replace HK := As0 hk
        subst he
        clear hff hf hk
        exact ⟨_, rfl, rfl, rfl, HK.out, HF.out⟩
      ·rw [if_neg hb] at H'; cases H'
     ·have hjd := decide_eq_false hj
      have hn : (r.f3 - j).toNat = 0 := by omega
      have H2 := H.out
      rw [hn] at H2
      replace H := As0 (show srcF k bc mc r.f4 r.f5 s1 = some x from H2)
      clear H2 HI
      unfold srcF at H
      by_cases hr4 : r.f4 ≥ 0
      ·have hr4d := decide_eq_true hr4
       replace H := H.out
       rw [if_pos hr4] at H
       by_cases hbb : r.f4 < (bc.length : Int) ∧ 0 ≤ r.f5 ∧ r.f5 < (mc.length : Int)
       ·rw [if_pos hbb] at H
        have HI := As0 H
        obtain ⟨y1, y2, y3⟩ := hbb
        have y0 : 0 ≤ r.f4 := hr4
        obtain ⟨ad0, e, hx0, hx1, hx2, hx3, hx4⟩ := at_T41 H0.out r.f4 y0 y1
        cases e
        obtain ⟨ad, e, hz0, hz1, hz2, hz3, hz4, hz5, hz6⟩ := at_T59 H1.out r.f5 y2 y3
        cases e
        have HBw := HF.out.base HB0.out HG0.out HB0.out.size
        replace hx0 := (HBw.cell (wblt w0 hx0)).trans hx0
        replace hx1 := (HBw.cell (wblt w0 hx1)).trans hx1
        replace hx2 := (HBw.cell (wblt w0 hx2)).trans hx2
        replace hx3 := (HBw.cell (wblt w0 hx3)).trans hx3
        replace hx4 := (HBw.cell (wblt w0 hx4)).trans hx4
        replace hz0 := (HBw.cell (wblt w0 hz0)).trans hz0
        replace hz1 := (HBw.cell (wblt w0 hz1)).trans hz1
        replace hz2 := (HBw.cell (wblt w0 hz2)).trans hz2
        replace hz3 := (HBw.cell (wblt w0 hz3)).trans hz3
        replace hz4 := (HBw.cell (wblt w0 hz4)).trans hz4
        replace hz5 := (HBw.cell (wblt w0 hz5)).trans hz5
        replace hz6 := (HBw.cell (wblt w0 hz6)).trans hz6
        have y0d := decide_eq_true y0
        have y1d := decide_eq_true y1
        have y2d := decide_eq_true y2
        have y3d := decide_eq_true y3
        generalize Qam bc r.f4 = pi at hx0 hx1 hx2 hx3 hx4 HI
        generalize Qaj mc r.f5 = pm at hz0 hz1 hz2 hz3 hz4 hz5 hz6 HI
        clear HBw H
        obtain ⟨s9, px⟩ := x
        go_wp2
        cases px with
        | none =>
         refine Qb1 (n := 16) (S := fun w' => w'.cell? ⟨gB, 0, none⟩ = some (.slice (some ad0) bc.length c0) ∧ w'.cell? ⟨gR, 4, none⟩ = some (.int .i64 r.f4) ∧ w'.cell? ⟨gM, 0, none⟩ = some (.slice (some ad) mc.length c1) ∧ w'.cell? ⟨gR, 5, none⟩ = some (.int .i64 r.f5) ∧ w'.cell? (ad0.add (r.f4.toNat * 5)) = some (.int .i64 pi.f0) ∧ w'.cell? ⟨(ad0.add (r.f4.toNat * 5)).block, (ad0.add (r.f4.toNat * 5)).off + 1, none⟩ = some (.int .i64 pi.f1) ∧ w'.cell? ⟨(ad0.add (r.f4.toNat * 5)).block, (ad0.add (r.f4.toNat * 5)).off + 2, none⟩ = some (.int .i64 pi.f2) ∧ w'.cell? ⟨(ad0.add (r.f4.toNat * 5)).block, (ad0.add (r.f4.toNat * 5)).off + 3, none⟩ = some (.int .i64 pi.f3) ∧ w'.cell? ⟨(ad0.add (r.f4.toNat * 5)).block, (ad0.add (r.f4.toNat * 5)).off + 4, none⟩ = some (.int .i64 pi.f4) ∧ w'.cell? (ad.add (r.f5.toNat * 7)) = some (.int .i64 pm.f0) ∧ w'.cell? ⟨(ad.add (r.f5.toNat * 7)).block, (ad.add (r.f5.toNat * 7)).off + 1, none⟩ = some (.int .i64 pm.f1) ∧ w'.cell? ⟨(ad.add (r.f5.toNat * 7)).block, (ad.add (r.f5.toNat * 7)).off + 2, none⟩ = some (.int .i64 pm.f2) ∧ w'.cell? ⟨(ad.add (r.f5.toNat * 7)).block, (ad.add (r.f5.toNat * 7)).off + 3, none⟩ = some (.int .i64 pm.f3) ∧ w'.cell? ⟨(ad.add (r.f5.toNat * 7)).block, (ad.add (r.f5.toNat * 7)).off + 4, none⟩ = some (.int .i64 pm.f4) ∧ w'.cell? ⟨(ad.add (r.f5.toNat * 7)).block, (ad.add (r.f5.toNat * 7)).off + 5, none⟩ = some (.int .i64 pm.f5) ∧ w'.cell? ⟨(ad.add (r.f5.toNat * 7)).block, (ad.add (r.f5.toNat * 7)).off + 6, none⟩ = some (.int .i64 pm.f6)) (ds := [15]) (bb 16 0) (by kernel_rfl) rfl rfl ⟨b0, r_4, m0, r_5, hx0, hx1, hx2, hx3, hx4, hz0, hz1, hz2, hz3, hz4, hz5, hz6⟩ (fun aA => ?_)
         refine pu 0 72 (bb 16 1) ?_
         refine pu 1 73 (bb 16 3) ?_
         refine pu 3 75 (bb 16 11) ?_
         refine pu 7 79 (bb 16 139) ?_
         refine pu 9 81 (bb 16 651) ?_
         refine pu 13 85 (bb 16 8843) ?_
         refine tu aA 2 74 (bb 16 8847) ?_
         refine tu aA 4 76 (bb 16 8863) ?_
         refine pu 5 77 (bb 16 8895) ?_
         refine tu aA 6 78 (bb 16 8959) ?_
         refine tu aA 8 80 (bb 16 9215) ?_
         refine tu aA 10 82 (bb 16 10239) ?_
         refine pu 11 83 (bb 16 12287) ?_
         refine tu aA 12 84 (bb 16 16383) ?_
         refine tu aA 14 86 (bb 16 32767) ?_
         refine Qc7 (i := 15) (N := some 87) (bb 16 65535) rfl rfl (by kernel_rfl) (by decide) (fun K hK => ?_)
         refine gG Tryz.func159 #[.pointer (some ⟨g, 0, none⟩), .agg #[.int .i64 pi.f0, .int .i64 pi.f1, .int .i64 pi.f2, .int .i64 pi.f3, .int .i64 pi.f4], .agg #[.int .i64 pm.f0, .int .i64 pm.f1, .int .i64 pm.f2, .int .i64 pm.f3, .int .i64 pm.f4, .int .i64 pm.f5, .int .i64 pm.f6], .int .i64 r.f5] ?_
         with_reducible refine (instrF_calls k g s1 pi pm r.f5 _ _ (HK.out.below (BU (Below.refl _ _))) HI.out).mono ?_
         rintro e w10 ⟨he, hk, hf⟩
         have hff := (Fr.of (g := g) (BU (Below.refl _ wr))).trans hf
         replace HF := As0 (HF.out.trans hff)
         replace HK := As0 hk
         subst he
         clear hff hf hk
         refine ⟨_, rfl, ?_⟩
         refine hK.out _ _ ?_
         clear hK K
         refine Qbz (a' := ?_) ?_ ?_
         rotate_left
         ·show Act.put _ (some 87) _ = _
          simp only [Act.put, List.setIfInBounds_toArray, List.set_cons_zero, List.set_cons_succ, Qbo, Qbp]
          rfl
         refine Qch (by kernel_rfl) ?_
         go_wp2
         go_returns
         exact ⟨rfl, HK.out, HF.out⟩
        | some q =>
         refine Qb1 (n := 16) (S := fun w' => w'.cell? ⟨gB, 0, none⟩ = some (.slice (some ad0) bc.length c0) ∧ w'.cell? ⟨gR, 4, none⟩ = some (.int .i64 r.f4) ∧ w'.cell? ⟨gM, 0, none⟩ = some (.slice (some ad) mc.length c1) ∧ w'.cell? ⟨gR, 5, none⟩ = some (.int .i64 r.f5) ∧ w'.cell? (ad0.add (r.f4.toNat * 5)) = some (.int .i64 pi.f0) ∧ w'.cell? ⟨(ad0.add (r.f4.toNat * 5)).block, (ad0.add (r.f4.toNat * 5)).off + 1, none⟩ = some (.int .i64 pi.f1) ∧ w'.cell? ⟨(ad0.add (r.f4.toNat * 5)).block, (ad0.add (r.f4.toNat * 5)).off + 2, none⟩ = some (.int .i64 pi.f2) ∧ w'.cell? ⟨(ad0.add (r.f4.toNat * 5)).block, (ad0.add (r.f4.toNat * 5)).off + 3, none⟩ = some (.int .i64 pi.f3) ∧ w'.cell? ⟨(ad0.add (r.f4.toNat * 5)).block, (ad0.add (r.f4.toNat * 5)).off + 4, none⟩ = some (.int .i64 pi.f4) ∧ w'.cell? (ad.add (r.f5.toNat * 7)) = some (.int .i64 pm.f0) ∧ w'.cell? ⟨(ad.add (r.f5.toNat * 7)).block, (ad.add (r.f5.toNat * 7)).off + 1, none⟩ = some (.int .i64 pm.f1) ∧ w'.cell? ⟨(ad.add (r.f5.toNat * 7)).block, (ad.add (r.f5.toNat * 7)).off + 2, none⟩ = some (.int .i64 pm.f2) ∧ w'.cell? ⟨(ad.add (r.f5.toNat * 7)).block, (ad.add (r.f5.toNat * 7)).off + 3, none⟩ = some (.int .i64 pm.f3) ∧ w'.cell? ⟨(ad.add (r.f5.toNat * 7)).block, (ad.add (r.f5.toNat * 7)).off + 4, none⟩ = some (.int .i64 pm.f4) ∧ w'.cell? ⟨(ad.add (r.f5.toNat * 7)).block, (ad.add (r.f5.toNat * 7)).off + 5, none⟩ = some (.int .i64 pm.f5) ∧ w'.cell? ⟨(ad.add (r.f5.toNat * 7)).block, (ad.add (r.f5.toNat * 7)).off + 6, none⟩ = some (.int .i64 pm.f6)) (ds := [15]) (bb 16 0) (by kernel_rfl) rfl rfl ⟨b0, r_4, m0, r_5, hx0, hx1, hx2, hx3, hx4, hz0, hz1, hz2, hz3, hz4, hz5, hz6⟩ (fun aA => ?_)
         refine pu 0 72 (bb 16 1) ?_
         refine pu 1 73 (bb 16 3) ?_
         refine pu 3 75 (bb 16 11) ?_
         refine pu 7 79 (bb 16 139) ?_
         refine pu 9 81 (bb 16 651) ?_
         refine pu 13 85 (bb 16 8843) ?_
         refine tu aA 2 74 (bb 16 8847) ?_
         refine tu aA 4 76 (bb 16 8863) ?_
         refine pu 5 77 (bb 16 8895) ?_
         refine tu aA 6 78 (bb 16 8959) ?_
         refine tu aA 8 80 (bb 16 9215) ?_
         refine tu aA 10 82 (bb 16 10239) ?_
         refine pu 11 83 (bb 16 12287) ?_
         refine tu aA 12 84 (bb 16 16383) ?_
         refine tu aA 14 86 (bb 16 32767) ?_
         refine Qc7 (i := 15) (N := some 87) (bb 16 65535) rfl rfl (by kernel_rfl) (by decide) (fun K hK => ?_)
         refine goesP_ Tryz.func159 (by kernel_rfl) rfl #[.pointer (some ⟨g, 0, none⟩), .agg #[.int .i64 pi.f0, .int .i64 pi.f1, .int .i64 pi.f2, .int .i64 pi.f3, .int .i64 pi.f4], .agg #[.int .i64 pm.f0, .int .i64 pm.f1, .int .i64 pm.f2, .int .i64 pm.f3, .int .i64 pm.f4, .int .i64 pm.f5, .int .i64 pm.f6], .int .i64 r.f5] (by rfl) rfl rfl (by simp only [List.map_toArray, List.map_cons, List.map_nil]; rfl) ?_
         with_reducible refine (instrF_calls k g s1 pi pm r.f5 _ _ (HK.out.below (BU (Below.refl _ _))) HI.out).mono ?_
         rintro e w10 ⟨he, hk, hf⟩
         have hff := (Fr.of (g := g) (BU (Below.refl _ wr))).trans hf
         replace HF := As0 (HF.out.trans hff)
         replace HK := As0 hk
         subst he
         clear hff hf hk
         exact ⟨_, rfl, rfl, rfl, HK.out, HF.out⟩
       ·rw [if_neg hbb] at H; cases H
      ·have hr4d := decide_eq_false hr4
       replace H := H.out
       rw [if_neg hr4] at H
       obtain rfl := Option.some.inj H
       go_wp2
       go_returns
       exact ⟨rfl, HK.out, HF.out⟩
 ·rw [if_neg hcut] at hf; cases hf
structure Fr2 (a b : Nat) (w w' : World) : Prop where
 os : w'.os = w.os
 tape : w'.tape = w.tape
 output : w'.output = w.output
 size : w.heap.size ≤ w'.heap.size
 block : ∀ k, k < w.heap.size → k ≠ a → k ≠ b → w'.heap[k]? = w.heap[k]?
theorem Fr2.of {a b : Nat} {w w' : World} (h : Below w.heap.size w w') : Fr2 a b w w' := ⟨h.os, h.tape, h.output, h.size, fun k hk _ _ => h.block k hk⟩
theorem Fr2.trans {a b : Nat} {u v w : World} (h : Fr2 a b u v) (k : Fr2 a b v w) : Fr2 a b u w :=
 ⟨k.os.trans h.os, k.tape.trans h.tape, k.output.trans h.output, Nat.le_trans h.size k.size, fun i hi h1 h2 => (k.block i (Nat.lt_of_lt_of_le hi h.size) h1 h2).trans (h.block i hi h1 h2)⟩
theorem Fr2.setA {a b : Nat} {w w' : World} (h : Fr2 a b w w') (j : Nat) (u : Value) : Fr2 a b w (w'.setCell ⟨a, j, none⟩ u) :=
 h.trans ⟨rfl, rfl, rfl, by simp, fun k hk h1 _ => Below.heap_setCell w' _ u k h1⟩
theorem Fr2.setB {a b : Nat} {w w' : World} (h : Fr2 a b w w') (j : Nat) (u : Value) : Fr2 a b w (w'.setCell ⟨b, j, none⟩ u) :=
 h.trans ⟨rfl, rfl, rfl, by simp, fun k hk _ h2 => Below.heap_setCell w' _ u k h2⟩
theorem Fr2.drew {a b : Nat} {w w' : World} (h : Fr2 a b w w') : Fr2 a b w w'.drew := h.trans (Fr2.of (Qcx (Below.refl _ _)))
theorem C47_fr2 {a b ta tb : Nat} {w w' : World} {A : Option Addr} {l : List S47} {va vb : Value} (h : Fr2 a b w w') (ha : w.heap[a]? = some (.cells #[va] ta (0, 0))) (hb : w.heap[b]? = some (.cells #[vb] tb (0, 0))) (hC : Kd.C k47 w A l.length l) : Kd.C k47 w' A l.length l := by
 obtain ⟨h1, h2, h3⟩ := hC
 refine ⟨h1, h2, fun hn => ?_⟩
 obtain ⟨ad, rfl, hc⟩ := h3 hn
 have hbl : ∀ n, (ad.add n).block = ad.block := fun n => by unfold Addr.add; split <;> rfl
 have hoff : ∀ n, n ≠ 0 → (ad.add n).off = ad.off + n := fun n hn => by unfold Addr.add; rw [if_neg hn]
 have h2c : ∃ u, w.cell? (ad.add 1) = some u := by
  obtain ⟨c, hs, hK, hcell⟩ := hc 0 _ (List.getElem?_eq_getElem hn)
  obtain rfl := k47_open hK
  exact ⟨_, hcell 1 _ rfl⟩
 obtain ⟨u1, hu1⟩ := h2c
 have hno : ∀ (k t : Nat) (v : Value), w.heap[k]? = some (.cells #[v] t (0, 0)) → ad.block ≠ k := by
  intro k t v hk e
  simp only [World.cell?] at hu1
  rw [hbl, e, hk] at hu1
  have := hoff 1 (by omega)
  simp only at hu1
  split at hu1
  ·cases hu1
  ·rw [this] at hu1
   simp at hu1
 refine ⟨ad, rfl, fun j p hj => ?_⟩
 obtain ⟨c, hs, hK, hcell⟩ := hc j p hj
 obtain rfl := k47_open hK
 refine ⟨_, hs, k47_mk w' p, fun i u hu => ?_⟩
 have hq := hcell i u hu
 exact (World.cell?_of_block (h.block _ (wblt w hq) (by rw [hbl]; exact hno a ta va ha) (by rw [hbl]; exact hno b tb vb hb))).trans hq
theorem Ck.fr2 {a b ta tb g : Nat} {w w' : World} {s : Bs} {va vb : Value} (h : Ck w g s) (hf : Fr2 a b w w') (ha : w.heap[a]? = some (.cells #[va] ta (0, 0))) (hb : w.heap[b]? = some (.cells #[vb] tb (0, 0))) (h1 : g ≠ a) (h2 : g ≠ b) (hta : ta ≠ 47) (htb : tb ≠ 47) : Ck w' g s := by
 obtain ⟨A, c, hg, hc, hC, hne⟩ := h
 exact ⟨A, c, (hf.block g (Qbs hg) h1 h2).trans hg, hc, C47_fr2 hf ha hb hC, hne.1, fun ad e => by
  obtain ⟨cs, hcs⟩ := hne.2 ad e
  refine ⟨cs, (hf.block _ (Qbs hcs) ?_ ?_).trans hcs⟩
  ·rintro rfl; rw [ha] at hcs; injection hcs with hcs; injection hcs with h3 h4; exact hta h4
  ·rintro rfl; rw [hb] at hcs; injection hcs with hcs; injection hcs with h3 h4; exact htb h4⟩
theorem Fr2.fr {a b g : Nat} {w w1 w' : World} (h : Fr2 a b w1 w') (hf : Fr g w w1) (ha : w.heap.size ≤ a) (hb : w.heap.size ≤ b) : Fr g w w' :=
 ⟨h.os.trans hf.os, h.tape.trans hf.tape, h.output.trans hf.output, Nat.le_trans hf.size h.size, fun k hk hg => (h.block k (Nat.lt_of_lt_of_le hk hf.size) (by omega) (by omega)).trans (hf.block k hk hg)⟩
theorem catch_pan (a b : Nat) (o1 o2 y i : Int) (older : List PanicEntry) (w : World) (ha : w.heap[a]? = some (.cells #[.int .i64 o1] 49 (0, 0))) (hb : w.heap[b]? = some (.cells #[.int .i64 o2] 3 (0, 0))) (hne : a ≠ b) :
    CallsD Tryz.prog 119 #[.pointer (some ⟨a, 0, none⟩), .pointer (some ⟨b, 0, none⟩)] (.panicking ({ v := .iface 185 (.agg #[.int .i64 y, .int .i64 i]), recovered := false } :: older)) w fun e u' w' =>
     e = .returned (.tuple #[]) ∧ u' = .panicking ({ v := .iface 185 (.agg #[.int .i64 y, .int .i64 i]), recovered := true } :: older) ∧ w'.heap[a]? = some (.cells #[.int .i64 y] 49 (0, 0)) ∧ w'.heap[b]? = some (.cells #[.int .i64 i] 3 (0, 0)) ∧ Fr2 a b w w' := by
 have hu20 := Tryz.underlying20
 have hu49 := Tryz.underlying49
 have hu185 := Tryz.underlying185
 have hu186 := Tryz.underlying186
 have hta : ∀ w : World, (Instr.typeAssert (.iface 185 (.agg #[.int .i64 y, .int .i64 i])) 20 185 true).run Tryz.prog w = .ok (.tuple #[.agg #[.int .i64 y, .int .i64 i], .bool true]) w := fun w => by kernel_rfl
 have HA := As0 ha
 have HBb := As0 hb
 have HF := As0 (Fr2.of (a := a) (b := b) (Below.refl w.heap.size w))
 clear ha hb
 refine callsD_of_wpS Tryz.func119 rfl fun c₀ cs hu => ?_
 apply wpS_seq
 apply wpS_region
 simp [wpOpsS, go_sem, recoverD, hu, Tryz.ntmps119, Exit.thenS]
 have ht : (#[.pointer (some { block := a, off := 0 }), .pointer (some { block := b, off := 0 })] ++ ((Array.replicate 18 undef).setIfInBounds 3 (.iface 185 (.agg #[.int .i64 y, .int .i64 i]))).setIfInBounds 0 (.iface 185 (.agg #[.int .i64 y, .int .i64 i])) : Array Value) = #[.pointer (some { block := a, off := 0 }), .pointer (some { block := b, off := 0 }), .iface 185 (.agg #[.int .i64 y, .int .i64 i]), undef, undef, .iface 185 (.agg #[.int .i64 y, .int .i64 i]), undef, undef, undef, undef, undef, undef, undef, undef, undef, undef, undef, undef, undef, undef] := by kernel_rfl
 rw [ht]
 refine wpS_of_wp ?_
 go_wp2_with (first
  | ((with_reducible refine gD 3 ?_); refine bX ?_; intro gx hg w1 aC hb; have X := As0 aC; have GX := As0 (Nat.le_of_eq hg.symm); have HBX := As0 hb; clear hb aC hg)
  | ((with_reducible refine Qcb (.store 185 (.tmp 3) (.tmp 11)) rfl ?_); go_loud (refine Qae rfl rfl 185 _ _ rfl gx #[.int .i64 y, .int .i64 i] rfl rfl 185 #[.int .i64 0, .int .i64 0] X.out (by kernel_rfl) rfl (by kernel_rfl) ?_); intro w5 hg ho hB; have hb := hB _ _ GX.out HBX.out; replace X := As0 hg; have N1 := Qbs HA.out; have N2 := Qbs HBb.out; have G1 := GX.out; replace HA := As0 (Qbg HA.out hb); replace HBb := As0 (Qbg HBb.out hb); replace HF := As0 (HF.out.trans (Fr2.of hb)); (obtain ⟨z0, z1, y0, y1⟩ := cN2 X.out); have c0 := (Qbh HA.out 0).trans rfl; have c1 := (Qbh HBb.out 0).trans rfl; have d0 := Qbj HA.out 0; have d1 := Qbj HBb.out 0; have na : gx ≠ a := (by omega); have nb : gx ≠ b := (by omega); clear hg ho hB hb HBX GX N1 N2 G1))
 have na' := na.symm
 have nb' := nb.symm
 have hne' := hne.symm
 go_region
 go_wp2
 exact ⟨rfl, _, rfl, _, results_none rfl _ _ _, rfl, rfl, Qbm (Qe2 (Qb5 (cs := #[.int .i64 o1]) HA.out 0 _ rfl) hne _), Qbm (Qb5 (cs := #[.int .i64 o2]) (Qe2 HBb.out hne' _) 0 _ rfl), ((HF.out.setA 0 _).setB 0 _).drew⟩
theorem catch_idle (p q : Addr) (w : World) :
    CallsD Tryz.prog 119 #[.pointer (some p), .pointer (some q)] .returning w fun e u' w' => e = .returned (.tuple #[]) ∧ u' = .returning ∧ w' = w := by
 have hu20 := Tryz.underlying20
 refine callsD_of_wpS Tryz.func119 rfl fun c₀ cs hu => ?_
 apply wpS_seq
 apply wpS_region
 simp [wpOpsS, go_sem, recoverD, hu, Tryz.ntmps119, Exit.thenS]
 apply wpS_seq
 apply wpS_region
 simp [wpOpsS, go_sem, Exit.thenS]
 refine wpS_cond (t := false) (by simp [Act.eval, Array.replicate]) ?_
 simp only [Bool.false_eq_true, if_false]
 refine wpS_of_wp (wp_skip ?_)
 cases c₀
 simp_all [bodyPostS, results, Tryz.results119, Exit.thenS]
def rowsF (k : Nat) (bc : List S41) (mc : List S59) : List S180 → Bs → (Bs → OBs) → OBs
 | [], s, K => K s
 | r :: t, s, K => (rowF k bc mc r s).then fun s1 => rowsF k bc mc t s1 K
def endF (k : Nat) (bt mt : S37) (n : Int) (s : Bs) : OBs := if bt.f0 = 1 then some (s, none) else useF k s bt.f1 mt.f1 n
def runF (k : Nat) (bc : List S41) (mc : List S59) (bt mt : S37) (rows : List S180) (s : Bs) : OBs := rowsF k bc mc rows s fun s1 => endF k bt mt (mc.length : Int) s1
def whyOf (n : Int) : Pan → Int × Int
 | none => (0, n)
 | some q => q
theorem run_calls (k g : Nat) (s : Bs) (A0 : Option Addr) (c0 : Nat) (bc : List S41) (bt : S37) (A1 : Option Addr) (c1 : Nat) (mc : List S59) (mt : S37) (A2 : Option Addr) (c2 : Nat) (rows : List S180) (x : Bs × Pan) (w0 w : World) (h : Ck w g s) (hB : Below w0.heap.size w0 w) (hg0 : w0.heap.size ≤ g)
    (h0 : Kd.C k41 w0 A0 bc.length bc) (hc0 : bc.length ≤ c0) (h1 : Kd.C k59 w0 A1 mc.length mc) (hc1_ : mc.length ≤ c1) (h2 : Kd.C k180 w0 A2 rows.length rows) (hf : runF k bc mc bt mt rows s = some x) :
    Calls Tryz.prog 66 #[.pointer (some ⟨g, 0, none⟩), .agg #[.slice A0 bc.length c0, .int .i64 bt.f0, .int .i64 bt.f1, .int .i64 bt.f2, .int .i64 bt.f3], .agg #[.slice A1 mc.length c1, .int .i64 mt.f0, .int .i64 mt.f1, .int .i64 mt.f2, .int .i64 mt.f3], .slice A2 rows.length c2] w fun e w' => e = .returned (.tuple #[.int .i64 (whyOf mc.length x.2).1, .int .i64 (whyOf mc.length x.2).2]) ∧ Ck w' g x.1 ∧ Fr g w w' := by
 have hu20 := Tryz.underlying20
 have hu35 := Tryz.underlying35
 have hu37 := Tryz.underlying37
 have hu39 := Tryz.underlying39
 have hu41 := Tryz.underlying41
 have hu49 := Tryz.underlying49
 have hu54 := Tryz.underlying54
 have hu57 := Tryz.underlying57
 have hu59 := Tryz.underlying59
 have hu121 := Tryz.underlying121
 have hu128 := Tryz.underlying128
 have hu180 := Tryz.underlying180
 have HK := As0 h
 have HB0 := As0 hB
 have HG0 := As0 hg0
 have H0 := As0 h0
 have H1 := As0 h1
 have H2 := As0 h2
 have HM2 := As0 h2.2.1
 have H := As0 hf
 have HF := As0 (Fr.refl g w)
 clear h hB hg0 h0 h1 h2 hf
 have hmf : ∀ (fn : Fn) (first cap : Array Value) (w : World), (Instr.makeFunc fn first cap).run Tryz.prog w = .ok (.func fn first cap) w := fun _ _ _ _ => rfl
 go_enter_defers Tryz.func66, Tryz.ntmps66
 go_wp2_with (first
  | ((with_reducible refine gD 5 ?_); refine bX ?_; intro gB hg w1 aC hb; have B := As0 aC; have NB := As0 (by have := HK.out.lt; omega : gB ≠ g); have GB := As0 (by have := HF.out.size; omega : w.heap.size ≤ gB); skip; replace HK := As0 (HK.out.below hb); replace HF := As0 (HF.out.then hb); clear hb aC hg)
  | ((with_reducible refine gD 6 ?_); refine bX ?_; intro gM hg w2 aC hb; have M := As0 aC; have NM := As0 (by have := HK.out.lt; omega : gM ≠ g); have GM := As0 (by have := HF.out.size; omega : w.heap.size ≤ gM); replace B := As0 (Qbg B.out hb); replace HK := As0 (HK.out.below hb); replace HF := As0 (HF.out.then hb); clear hb aC hg)
  | ((with_reducible refine gD 8 ?_); refine bX ?_; intro gV hg w3 aC hb; have V := As0 aC; have NV := As0 (by have := HK.out.lt; omega : gV ≠ g); have GV := As0 (by have := HF.out.size; omega : w.heap.size ≤ gV); replace B := As0 (Qbg B.out hb); have NMV := As0 (by have := Qbs M.out; omega : gM ≠ gV); replace M := As0 (Qbg M.out hb); replace HK := As0 (HK.out.below hb); replace HF := As0 (HF.out.then hb); clear hb aC hg)
  | ((with_reducible refine gD 9 ?_); refine bX ?_; intro gW hg w4 aC hb; have W := As0 aC; have NW := As0 (by have := HK.out.lt; omega : gW ≠ g); have GW := As0 (by have := HF.out.size; omega : w.heap.size ≤ gW); replace B := As0 (Qbg B.out hb); replace M := As0 (Qbg M.out hb); have NVW := As0 (by have := Qbs V.out; omega : gV ≠ gW); replace V := As0 (Qbg V.out hb); replace HK := As0 (HK.out.below hb); replace HF := As0 (HF.out.then hb); (obtain ⟨b0, b1, b2, b3, b4, bf0, bf1, bf2, bf3, bf4⟩ := cN5 B.out); (obtain ⟨m0, m1, m2, m3, m4, mf0, mf1, mf2, mf3, mf4⟩ := cN5 M.out); have v0 := (Qbh V.out 0).trans rfl; have vf := Qbj V.out 0; have a0 := (Qbh W.out 0).trans rfl; have af := Qbj W.out 0; clear hb aC hg))
 go_loopg [15] (rows.length + 1) (fun n v15 w' => ∃ (i : Nat) (s1 : Bs), v15 = .int .i64 (i : Int) ∧ Qbf (i ≤ rows.length ∧ rows.length - i < n) ∧ Qbf (rowsF k bc mc (rows.drop i) s1 (fun s1 => endF k bt mt (mc.length : Int) s1) = some x) ∧ Qbf (Ck w' g s1) ∧ Qbf (Fr g w w') ∧ Qbf (w'.heap[gB]? = some (.cells #[.slice A0 bc.length c0, .int .i64 bt.f0, .int .i64 bt.f1, .int .i64 bt.f2, .int .i64 bt.f3] 39 (0, 0))) ∧ Qbf (w'.heap[gM]? = some (.cells #[.slice A1 mc.length c1, .int .i64 mt.f0, .int .i64 mt.f1, .int .i64 mt.f2, .int .i64 mt.f3] 57 (0, 0))) ∧ Qbf (w'.heap[gV]? = some (.cells #[.int .i64 0] 49 (0, 0))) ∧ Qbf (w'.heap[gW]? = some (.cells #[.int .i64 0] 3 (0, 0))))
 case atStart => exact ⟨0, s, rfl, ⟨by omega, by omega⟩, ⟨by rw [List.drop_zero]; exact H.out⟩, HK, HF, B, M, V, W⟩
 case round =>
  clear b0 b1 b2 b3 b4 bf0 bf1 bf2 bf3 bf4 m0 m1 m2 m3 m4 mf0 mf1 mf2 mf3 mf4 v0 vf a0 af HK HF B M V W H
  obtain ⟨i, s1, rfl, HI, H, HK, HF, B, M, V, W⟩ := hrel
  (obtain ⟨b0, b1, b2, b3, b4, bf0, bf1, bf2, bf3, bf4⟩ := cN5 B.out); (obtain ⟨m0, m1, m2, m3, m4, mf0, mf1, mf2, mf3, mf4⟩ := cN5 M.out); have v0 := (Qbh V.out 0).trans rfl; have vf := Qbj V.out 0; have a0 := (Qbh W.out 0).trans rfl; have af := Qbj W.out 0
  by_cases hi : i < rows.length
  ·have hlt : (i : Int) < (rows.length : Int) := by omega
   have h0' : (0 : Int) ≤ (i : Int) := by omega
   obtain ⟨ad, e, hx0, hx1, hx2, hx3, hx4, hx5⟩ := at_T180 H2.out i h0' hlt
   cases e
   have HBw := HF.out.base HB0.out HG0.out HB0.out.size
   replace hx0 := (HBw.cell (wblt w0 hx0)).trans hx0
   replace hx1 := (HBw.cell (wblt w0 hx1)).trans hx1
   replace hx2 := (HBw.cell (wblt w0 hx2)).trans hx2
   replace hx3 := (HBw.cell (wblt w0 hx3)).trans hx3
   replace hx4 := (HBw.cell (wblt w0 hx4)).trans hx4
   replace hx5 := (HBw.cell (wblt w0 hx5)).trans hx5
   have hw : wrap64 ((i : Int) + 1) = ((i + 1 : Nat) : Int) := by have := HM2.out; unfold wrap64; omega
   have hp : Qd2 rows (i : Int) = rows[i] := by simp [Qd2, List.getD_eq_getElem?_getD, hi]
   have hdr : rows.drop i = rows[i] :: rows.drop (i + 1) := by rw [List.drop_eq_getElem_cons hi]
   have H' := H.out
   rw [hdr] at H'
   rw [hp] at hx0 hx1 hx2 hx3 hx4 hx5
   simp only [Int.toNat_natCast] at hx0 hx1 hx2 hx3 hx4 hx5
   generalize rows[i] = p at hx0 hx1 hx2 hx3 hx4 hx5 H'
   clear hp hdr HBw
   obtain ⟨s2, pn, hu, hp⟩ := OBs.then_inv (show OBs.then (rowF k bc mc p s1) (fun s1 => rowsF k bc mc (rows.drop (i + 1)) s1 fun s1 => endF k bt mt (mc.length : Int) s1) = some x from H')
   rcases hp with ⟨rfl, hp⟩ | ⟨⟨qy, qi⟩, rfl, rfl⟩
   ·go_wp2_with (first
      | ((with_reducible refine gD 11 ?_); refine bX ?_; intro gi hg w5 aC hb; have I := As0 aC; have GI := As0 (Nat.le_of_eq hg.symm); have HBI := As0 hb; clear hb aC hg)
      | ((with_reducible refine Qcb (.store 180 (.tmp 11) (.tmp 18)) rfl ?_); go_loud (refine Qae rfl rfl 180 _ _ rfl gi #[.int .i64 p.f0, .int .i64 p.f1, .int .i64 p.f2, .int .i64 p.f3, .int .i64 p.f4, .int .i64 p.f5] rfl rfl 180 #[.int .i64 0, .int .i64 0, .int .i64 0, .int .i64 0, .int .i64 0, .int .i64 0] I.out (by kernel_rfl) rfl (by kernel_rfl) ?_); intro w6 hg ho hB; have hb := hB _ _ GI.out HBI.out; replace I := As0 hg; replace B := As0 (Qbg B.out hb); replace M := As0 (Qbg M.out hb); replace V := As0 (Qbg V.out hb); replace W := As0 (Qbg W.out hb); replace HF := As0 (HF.out.then hb); replace HK := As0 (HK.out.below hb); clear b0 b1 b2 b3 b4 bf0 bf1 bf2 bf3 bf4 m0 m1 m2 m3 m4 mf0 mf1 mf2 mf3 mf4 v0 vf a0 af; (obtain ⟨b0, b1, b2, b3, b4, bf0, bf1, bf2, bf3, bf4⟩ := cN5 B.out); (obtain ⟨m0, m1, m2, m3, m4, mf0, mf1, mf2, mf3, mf4⟩ := cN5 M.out); have v0 := (Qbh V.out 0).trans rfl; have vf := Qbj V.out 0; have a0 := (Qbh W.out 0).trans rfl; have af := Qbj W.out 0; (obtain ⟨i_0, i_1, i_2, i_3, i_4, i_5, i_f0, i_f1, i_f2, i_f3, i_f4, i_f5⟩ := cN6 I.out); clear hg ho hB hb HBI GI)
      | (go_at_call 120; refine (row_calls k g s1 A0 c0 bc bt.f0 bt.f1 bt.f2 bt.f3 A1 c1 mc mt.f0 mt.f1 mt.f2 mt.f3 p _ w0 _ HK.out (HF.out.base HB0.out HG0.out HB0.out.size) HG0.out H0.out hc0 H1.out hc1_ hu).mono ?_; rintro e w7 ⟨he, hk, hf⟩; replace he : e = .returned (.tuple #[]) := he; subst he; replace HK := As0 hk; replace B := As0 (hf.blk B.out NB.out); replace M := As0 (hf.blk M.out NM.out); replace V := As0 (hf.blk V.out NV.out); replace W := As0 (hf.blk W.out NW.out); replace HF := As0 (HF.out.trans hf); clear hf hk))
    go_roundg (rows.length - i)
    case measure => have := HI.out; omega
    case rel => exact ⟨i + 1, s2, by first | rw [hw] | (push_cast; rfl), ⟨by omega, by omega⟩, ⟨hp⟩, HK, HF, B, M, V, W⟩
   ·go_wp2_with (first
      | ((with_reducible refine gD 11 ?_); refine bX ?_; intro gi hg w5 aC hb; have I := As0 aC; have GI := As0 (Nat.le_of_eq hg.symm); have HBI := As0 hb; clear hb aC hg)
      | ((with_reducible refine Qcb (.store 180 (.tmp 11) (.tmp 18)) rfl ?_); go_loud (refine Qae rfl rfl 180 _ _ rfl gi #[.int .i64 p.f0, .int .i64 p.f1, .int .i64 p.f2, .int .i64 p.f3, .int .i64 p.f4, .int .i64 p.f5] rfl rfl 180 #[.int .i64 0, .int .i64 0, .int .i64 0, .int .i64 0, .int .i64 0, .int .i64 0] I.out (by kernel_rfl) rfl (by kernel_rfl) ?_); intro w6 hg ho hB; have hb := hB _ _ GI.out HBI.out; replace I := As0 hg; replace B := As0 (Qbg B.out hb); replace M := As0 (Qbg M.out hb); replace V := As0 (Qbg V.out hb); replace W := As0 (Qbg W.out hb); replace HF := As0 (HF.out.then hb); replace HK := As0 (HK.out.below hb); clear b0 b1 b2 b3 b4 bf0 bf1 bf2 bf3 bf4 m0 m1 m2 m3 m4 mf0 mf1 mf2 mf3 mf4 v0 vf a0 af; (obtain ⟨b0, b1, b2, b3, b4, bf0, bf1, bf2, bf3, bf4⟩ := cN5 B.out); (obtain ⟨m0, m1, m2, m3, m4, mf0, mf1, mf2, mf3, mf4⟩ := cN5 M.out); have v0 := (Qbh V.out 0).trans rfl; have vf := Qbj V.out 0; have a0 := (Qbh W.out 0).trans rfl; have af := Qbj W.out 0; (obtain ⟨i_0, i_1, i_2, i_3, i_4, i_5, i_f0, i_f1, i_f2, i_f3, i_f4, i_f5⟩ := cN6 I.out); clear hg ho hB hb HBI GI)
      | (go_at_call 120; refine (row_calls k g s1 A0 c0 bc bt.f0 bt.f1 bt.f2 bt.f3 A1 c1 mc mt.f0 mt.f1 mt.f2 mt.f3 p _ w0 _ HK.out (HF.out.base HB0.out HG0.out HB0.out.size) HG0.out H0.out hc0 H1.out hc1_ hu).mono ?_; rintro e w7 ⟨he, hk, hf⟩; replace he : e = .panicked [{ v := .iface 185 (.agg #[.int .i64 qy, .int .i64 qi]), recovered := false }] := he; subst he; replace HK := As0 hk; replace B := As0 (hf.blk B.out NB.out); replace M := As0 (hf.blk M.out NM.out); replace V := As0 (hf.blk V.out NV.out); replace W := As0 (hf.blk W.out NW.out); replace HF := As0 (HF.out.trans hf); clear hf hk))
    refine leaves_cons (f := 119) (args := #[.pointer (some ⟨gV, 0, none⟩), .pointer (some ⟨gW, 0, none⟩)]) (by simp) (by simp [go_sem]) ?_
    refine (catch_pan gV gW 0 0 qy qi [] _ V.out W.out NVW.out).mono ?_
    rintro e u' w'' ⟨rfl, rfl, ha, hb, hf⟩
    have y0 : w''.cell? ⟨gV, 0, none⟩ = some (.int .i64 qy) := (Qbh ha 0).trans rfl
    have y1 : w''.cell? ⟨gW, 0, none⟩ = some (.int .i64 qi) := (Qbh hb 0).trans rfl
    simp [Leaves, settle, results, Tryz.results66, go_sem]
    exact ⟨.tuple #[.int .i64 qy, .int .i64 qi], by simp [y0, y1], rfl, HK.out.fr2 hf V.out W.out NV.out.symm NW.out.symm (by decide) (by decide), hf.fr HF.out GV.out GW.out⟩
  ·have hi' : i = rows.length := by have := HI.out.1; omega
   have H3 := H.out
   rw [hi', List.drop_length] at H3
   replace H : endF k bt mt (mc.length : Int) s1 = some x := H3
   clear H3 HI
   unfold endF at H
   by_cases hk1 : bt.f0 = 1
   ·rw [if_pos hk1] at H
    obtain rfl := Option.some.inj H
    have hk1b : (bt.f0 != 1) = false := bne_eq_false_iff_eq.mpr hk1
    go_wp2
    have hne := NVW.out
    have hne' := hne.symm
    have hmv := NMV.out
    have hmv' := hmv.symm
    go_region
    go_wp2
    refine leaves_cons (f := 119) (args := #[.pointer (some ⟨gV, 0, none⟩), .pointer (some ⟨gW, 0, none⟩)]) (by simp) (by simp [go_sem]) ?_
    refine (catch_idle _ _ _).mono ?_
    rintro e u' w'' ⟨rfl, rfl, rfl⟩
    have hf2 := (((Fr2.of (a := gV) (b := gW) (Below.refl wr.heap.size wr)).setA 0 (.int .i64 0)).setB 0 (.int .i64 (mc.length : Int))).drew
    have ha := Qbm (Qe2 (p := ⟨gW, 0, none⟩) (Qb5 (cs := #[.int .i64 0]) V.out 0 (.int .i64 0) rfl) hne (.int .i64 (mc.length : Int)))
    have hb := Qbm (Qb5 (cs := #[.int .i64 0]) (Qe2 (p := ⟨gV, 0, none⟩) W.out hne' (.int .i64 0)) 0 (.int .i64 (mc.length : Int)) rfl)
    generalize ((wr.setCell ⟨gV, 0, none⟩ (.int .i64 0)).setCell ⟨gW, 0, none⟩ (.int .i64 (mc.length : Int))).drew = w9 at hf2 ha hb ⊢
    have y0 : w9.cell? ⟨gV, 0, none⟩ = some (.int .i64 0) := (Qbh ha 0).trans rfl
    have y1 : w9.cell? ⟨gW, 0, none⟩ = some (.int .i64 (mc.length : Int)) := (Qbh hb 0).trans rfl
    simp [Leaves, settle, results, Tryz.results66, go_sem]
    exact ⟨.tuple #[.int .i64 0, .int .i64 (mc.length : Int)], by simp [y0, y1], rfl, HK.out.fr2 hf2 V.out W.out NV.out.symm NW.out.symm (by decide) (by decide), hf2.fr HF.out GV.out GW.out⟩
   ·rw [if_neg hk1] at H
    have hk1b : (bt.f0 != 1) = true := bne_iff_ne.mpr hk1
    obtain ⟨s9, px⟩ := x
    cases px with
    | none =>
     go_wp2_with (go_at_call 121; refine (Qdm k g s1 bt.f1 mt.f1 (mc.length : Int) _ _ HK.out H).mono ?_; rintro e w7 ⟨he, hk, hf⟩; replace he : e = .returned (.tuple #[]) := he; subst he; replace HK := As0 hk; clear b0 b1 b2 b3 b4 bf0 bf1 bf2 bf3 bf4 m0 m1 m2 m3 m4 mf0 mf1 mf2 mf3 mf4 v0 vf a0 af; replace B := As0 (hf.blk B.out NB.out); replace M := As0 (hf.blk M.out NM.out); replace V := As0 (hf.blk V.out NV.out); replace W := As0 (hf.blk W.out NW.out); replace HF := As0 (HF.out.trans hf); (obtain ⟨b0, b1, b2, b3, b4, bf0, bf1, bf2, bf3, bf4⟩ := cN5 B.out); (obtain ⟨m0, m1, m2, m3, m4, mf0, mf1, mf2, mf3, mf4⟩ := cN5 M.out); have v0 := (Qbh V.out 0).trans rfl; have vf := Qbj V.out 0; have a0 := (Qbh W.out 0).trans rfl; have af := Qbj W.out 0; clear hf hk)
     have hne := NVW.out
     have hne' := hne.symm
     have hmv := NMV.out
     have hmv' := hmv.symm
     go_region
     go_wp2
     refine leaves_cons (f := 119) (args := #[.pointer (some ⟨gV, 0, none⟩), .pointer (some ⟨gW, 0, none⟩)]) (by simp) (by simp [go_sem]) ?_
     refine (catch_idle _ _ _).mono ?_
     rintro e u' w'' ⟨rfl, rfl, rfl⟩
     have hf2 := (((Fr2.of (a := gV) (b := gW) (Below.refl w7.heap.size w7)).setA 0 (.int .i64 0)).setB 0 (.int .i64 (mc.length : Int))).drew
     have ha := Qbm (Qe2 (p := ⟨gW, 0, none⟩) (Qb5 (cs := #[.int .i64 0]) V.out 0 (.int .i64 0) rfl) hne (.int .i64 (mc.length : Int)))
     have hb := Qbm (Qb5 (cs := #[.int .i64 0]) (Qe2 (p := ⟨gV, 0, none⟩) W.out hne' (.int .i64 0)) 0 (.int .i64 (mc.length : Int)) rfl)
     generalize ((w7.setCell ⟨gV, 0, none⟩ (.int .i64 0)).setCell ⟨gW, 0, none⟩ (.int .i64 (mc.length : Int))).drew = w9 at hf2 ha hb ⊢
     have y0 : w9.cell? ⟨gV, 0, none⟩ = some (.int .i64 0) := (Qbh ha 0).trans rfl
     have y1 : w9.cell? ⟨gW, 0, none⟩ = some (.int .i64 (mc.length : Int)) := (Qbh hb 0).trans rfl
     simp [Leaves, settle, results, Tryz.results66, go_sem]
     exact ⟨.tuple #[.int .i64 0, .int .i64 (mc.length : Int)], by simp [y0, y1], rfl, HK.out.fr2 hf2 V.out W.out NV.out.symm NW.out.symm (by decide) (by decide), hf2.fr HF.out GV.out GW.out⟩
    | some q =>
     obtain ⟨qy, qi⟩ := q
     go_wp2_with (go_at_call 121; refine (Qdm k g s1 bt.f1 mt.f1 (mc.length : Int) _ _ HK.out H).mono ?_; rintro e w7 ⟨he, hk, hf⟩; replace he : e = .panicked [{ v := .iface 185 (.agg #[.int .i64 qy, .int .i64 qi]), recovered := false }] := he; subst he; replace HK := As0 hk; clear b0 b1 b2 b3 b4 bf0 bf1 bf2 bf3 bf4 m0 m1 m2 m3 m4 mf0 mf1 mf2 mf3 mf4 v0 vf a0 af; replace B := As0 (hf.blk B.out NB.out); replace M := As0 (hf.blk M.out NM.out); replace V := As0 (hf.blk V.out NV.out); replace W := As0 (hf.blk W.out NW.out); replace HF := As0 (HF.out.trans hf); (obtain ⟨b0, b1, b2, b3, b4, bf0, bf1, bf2, bf3, bf4⟩ := cN5 B.out); (obtain ⟨m0, m1, m2, m3, m4, mf0, mf1, mf2, mf3, mf4⟩ := cN5 M.out); have v0 := (Qbh V.out 0).trans rfl; have vf := Qbj V.out 0; have a0 := (Qbh W.out 0).trans rfl; have af := Qbj W.out 0; clear hf hk)
     refine leaves_cons (f := 119) (args := #[.pointer (some ⟨gV, 0, none⟩), .pointer (some ⟨gW, 0, none⟩)]) (by simp) (by simp [go_sem]) ?_
     refine (catch_pan gV gW 0 0 qy qi [] _ V.out W.out NVW.out).mono ?_
     rintro e u' w'' ⟨rfl, rfl, ha, hb, hf⟩
     have y0 : w''.cell? ⟨gV, 0, none⟩ = some (.int .i64 qy) := (Qbh ha 0).trans rfl
     have y1 : w''.cell? ⟨gW, 0, none⟩ = some (.int .i64 qi) := (Qbh hb 0).trans rfl
     simp [Leaves, settle, results, Tryz.results66, go_sem]
     exact ⟨.tuple #[.int .i64 qy, .int .i64 qi], by simp [y0, y1], rfl, HK.out.fr2 hf V.out W.out NV.out.symm NW.out.symm (by decide) (by decide), hf.fr HF.out GV.out GW.out⟩
def align_copied.f (a0_0 a0_1 a0_2 a0_3 a0_4 : Int) : Option (Bool) := some (a0_0 == 2)
theorem align_copied.calls (a0_0 a0_1 a0_2 a0_3 a0_4 : Int) (r : Bool) (w : World) (h : align_copied.f a0_0 a0_1 a0_2 a0_3 a0_4 = some r) :
 Calls Tryz.prog 111 #[.agg #[.int .i64 a0_0, .int .i64 a0_1, .int .i64 a0_2, .int .i64 a0_3, .int .i64 a0_4]] w fun e w' => e = .returned (.bool r) ∧ Below w.heap.size w w' := by
 have hu41 := Tryz.underlying41
 have HB := As0 (Below.refl w.heap.size w)
 have H : (some (a0_0 == 2)) = some r := h
 clear h
 obtain rfl := Option.some.inj H
 go_enter Tryz.func111, Tryz.ntmps111
 go_wp2_with (first | ((with_reducible refine gD 1 ?_); refine bY HB.out ?_; intro gb265 w2 hg hb jI GW265 HB; clear hb hg; have q3_ := cN5 jI.out))
 go_ret
 exact ⟨oR, BU HB.out⟩
def align_moved.f (a0_0 a0_1 a0_2 a0_3 a0_4 a0_5 a0_6 : Int) : Option (Bool) := some (a0_0 == 18)
theorem align_moved.calls (a0_0 a0_1 a0_2 a0_3 a0_4 a0_5 a0_6 : Int) (r : Bool) (w : World) (h : align_moved.f a0_0 a0_1 a0_2 a0_3 a0_4 a0_5 a0_6 = some r) :
 Calls Tryz.prog 113 #[.agg #[.int .i64 a0_0, .int .i64 a0_1, .int .i64 a0_2, .int .i64 a0_3, .int .i64 a0_4, .int .i64 a0_5, .int .i64 a0_6]] w fun e w' => e = .returned (.bool r) ∧ Below w.heap.size w w' := by
 have hu59 := Tryz.underlying59
 have HB := As0 (Below.refl w.heap.size w)
 have H : (some (a0_0 == 18)) = some r := h
 clear h
 obtain rfl := Option.some.inj H
 go_enter Tryz.func113, Tryz.ntmps113
 go_wp2_with (first | ((with_reducible refine gD 1 ?_); refine bY HB.out ?_; intro gb266 w2 hg hb K266 GW266 HB; clear hb hg; have q3_ := cN7 K266.out))
 go_ret
 exact ⟨oR, BU HB.out⟩
def align_Same.f (a0_0 a0_1 a0_2 a0_3 a0_4 a1_0 a1_1 a1_2 a1_3 a1_4 a1_5 a1_6 : Int) : Option (Bool) := if a0_0 = a1_0 then (if a0_4 = a1_4 then (if a0_0 = 2 then (some false) else (some (a0_0 != 18))) else (some false)) else (some false)
theorem align_Same.calls (a0_0 a0_1 a0_2 a0_3 a0_4 a1_0 a1_1 a1_2 a1_3 a1_4 a1_5 a1_6 : Int) (r : Bool) (w : World) (h : align_Same.f a0_0 a0_1 a0_2 a0_3 a0_4 a1_0 a1_1 a1_2 a1_3 a1_4 a1_5 a1_6 = some r) :
 Calls Tryz.prog 114 #[.agg #[.int .i64 a0_0, .int .i64 a0_1, .int .i64 a0_2, .int .i64 a0_3, .int .i64 a0_4], .agg #[.int .i64 a1_0, .int .i64 a1_1, .int .i64 a1_2, .int .i64 a1_3, .int .i64 a1_4, .int .i64 a1_5, .int .i64 a1_6]] w fun e w' => e = .returned (.bool r) ∧ Below w.heap.size w w' := by
 have hu41 := Tryz.underlying41
 have hu59 := Tryz.underlying59
 have HB := As0 (Below.refl w.heap.size w)
 have H : (if a0_0 = a1_0 then (if a0_4 = a1_4 then (if a0_0 = 2 then (some false) else (some (a0_0 != 18))) else (some false)) else (some false)) = some r := h
 clear h
 by_cases c3 : a0_0 = a1_0
 rotate_left
 ·rw [if_neg c3] at H
  have c3b0 : (a0_0 == a1_0) = false := beq_eq_false_iff_ne.mpr c3
  have c3b1 : (a0_0 != a1_0) = true := bne_iff_ne.mpr c3
  obtain rfl := Option.some.inj H
  go_enter Tryz.func114, Tryz.ntmps114
  go_wp2_with (first | ((with_reducible refine gD 2 ?_); refine bY HB.out ?_; intro fK w21 hg hb dP GW267 HB; clear hb hg) | ((with_reducible refine gD 3 ?_); refine bY HB.out ?_; intro gb268 w22 hg hb K268 GW268 HB; have N267_268 := pL hg dP; have N268_267 := pR hg dP; replace dP := kB dP hb; clear hb hg; have q24_ := cN5 dP.out; have q25_ := cN7 K268.out))
  go_ret
  exact ⟨oR, BU HB.out⟩
 rw [if_pos c3] at H
 have c3b0 : (a0_0 == a1_0) = true := beq_iff_eq.mpr c3
 have c3b1 : (a0_0 != a1_0) = false := bne_eq_false_iff_eq.mpr c3
 clear c3
 by_cases c4 : a0_4 = a1_4
 rotate_left
 ·rw [if_neg c4] at H
  have c4b0 : (a0_4 == a1_4) = false := beq_eq_false_iff_ne.mpr c4
  have c4b1 : (a0_4 != a1_4) = true := bne_iff_ne.mpr c4
  obtain rfl := Option.some.inj H
  go_enter Tryz.func114, Tryz.ntmps114
  go_wp2_with (first | ((with_reducible refine gD 2 ?_); refine bY HB.out ?_; intro fK w16 hg hb dP GW267 HB; clear hb hg) | ((with_reducible refine gD 3 ?_); refine bY HB.out ?_; intro gb268 w17 hg hb K268 GW268 HB; have N267_268 := pL hg dP; have N268_267 := pR hg dP; replace dP := kB dP hb; clear hb hg; have q19_ := cN5 dP.out; have q20_ := cN7 K268.out))
  go_ret
  exact ⟨oR, BU HB.out⟩
 rw [if_pos c4] at H
 have c4b0 : (a0_4 == a1_4) = true := beq_iff_eq.mpr c4
 have c4b1 : (a0_4 != a1_4) = false := bne_eq_false_iff_eq.mpr c4
 clear c4
 by_cases c5 : a0_0 = 2
 rotate_left
 ·rw [if_neg c5] at H
  have c5b0 : (a0_0 == 2) = false := beq_eq_false_iff_ne.mpr c5
  have c5b1 : (a0_0 != 2) = true := bne_iff_ne.mpr c5
  obtain rfl := Option.some.inj H
  go_enter Tryz.func114, Tryz.ntmps114
  go_wp2_with (first | ((with_reducible refine gD 2 ?_); refine bY HB.out ?_; intro fK w11 hg hb dP GW267 HB; clear hb hg) | ((with_reducible refine gD 3 ?_); refine bY HB.out ?_; intro gb268 w12 hg hb K268 GW268 HB; have N267_268 := pL hg dP; have N268_267 := pR hg dP; replace dP := kB dP hb; clear hb hg; have q14_ := cN5 dP.out; have q15_ := cN7 K268.out))
  go_ret
  exact ⟨oR, BU HB.out⟩
 rw [if_pos c5] at H
 have c5b0 : (a0_0 == 2) = true := beq_iff_eq.mpr c5
 have c5b1 : (a0_0 != 2) = false := bne_eq_false_iff_eq.mpr c5
 clear c5
 obtain rfl := Option.some.inj H
 go_enter Tryz.func114, Tryz.ntmps114
 go_wp2_with (first | ((with_reducible refine gD 2 ?_); refine bY HB.out ?_; intro fK w6 hg hb dP GW267 HB; clear hb hg) | ((with_reducible refine gD 3 ?_); refine bY HB.out ?_; intro gb268 w7 hg hb K268 GW268 HB; have N267_268 := pL hg dP; have N268_267 := pR hg dP; replace dP := kB dP hb; clear hb hg; have q9_ := cN5 dP.out; have q10_ := cN7 K268.out))
 go_ret
 exact ⟨oR, BU HB.out⟩
mutual
def Qai.l0 : Nat → List (S41) → Int → Option (Int)
 | 0, _, _ => none
 | k + 1, x0, x1 => if x1 < (x0.length : Int) then (if 0 ≤ x1 then ((align_copied.f ((Qam x0 x1).f0) ((Qam x0 x1).f1) ((Qam x0 x1).f2) ((Qam x0 x1).f3) ((Qam x0 x1).f4)).bind fun t270 => (Qai.j1 k x0 x1 t270)) else (none)) else (Qai.j1 k x0 x1 false)
def Qai.j1 : Nat → List (S41) → Int → Bool → Option (Int)
 | 0, _, _, _ => none
 | k + 1, x0, x1, x18 => if x18 = true then (Qai.l0 k x0 (wrap64 (x1 + 1))) else (some x1)
end
def Qai.f (k : Nat) (l0 : List (S41)) (a1 : Int)  : Option (Int) := Qai.l0 k l0 a1
theorem Qai.calls (k : Nat) (A0 : Option Addr) (c0 : Nat) (l0 : List (S41)) (a1 : Int)  (r : Int) (w : World) (hr0 : Kd.C k41 w A0 l0.length l0) (hc0 : l0.length ≤ c0) (h : Qai.f k l0 a1 = some r) :
 Calls Tryz.prog 110 #[.slice A0 l0.length c0, .int .i64 a1, .func (.func 111) #[] #[]] w fun e w' => e = .returned (.int .i64 r) ∧ Below w.heap.size w w' := by
 have hu41 := Tryz.underlying41
 have R0 := As0 hr0
 have C0 := As0 hc0
 clear hr0 hc0
 have HB := As0 (Below.refl w.heap.size w)
 have H : (Qai.l0 k l0 a1) = some r := h
 clear h
 have H' := As0 H
 clear H
 go_enter Tryz.func110, Tryz.ntmps110
 go_wp2
 go_loopg [1] k (fun kq v1 w' => ∃ (aM : Int), v1 = .int .i64 aM ∧ Qbf (Qai.l0 kq l0 aM = some r) ∧ Qbf (kq ≤ k) ∧ Qbf (Below w.heap.size w w'))
 case atStart => exact ⟨(a1), eR, H', ⟨Nat.le_refl _⟩, ⟨BU HB.out⟩⟩
 case round =>
  clear H'
  obtain ⟨aM, rfl, HA, HK1, HB⟩ := hrel
  cases gk with
  | zero => exact absurd HA.out (by simp [Qai.l0])
  | succ k1 =>
   have H := HA.out
   clear HA
   simp only [Qai.l0] at H
   have C4 := As0 H
   clear H
   go_upto_region 1 with (fail)
   go_cut [18] (fun v18 wc => ∃ (kq : Nat) (jM : Bool), v18 = .bool jM ∧ Qbf (Qai.j1 kq l0 aM jM = some r) ∧ Qbf (kq ≤ k1) ∧ Qbf (Below w.heap.size w wc))
   case first =>
    have H := C4.out
    clear C4
    by_cases c5 : aM < (l0.length : Int)
    rotate_left
    ·rw [if_neg c5] at H
     have c5b0 := decide_eq_false c5
     clear c5
     (first | rw [c5b0] | (simp only [Qbo, Qbp]; rw [c5b0]) | skip)
     have H' := As0 H
     clear H
     go_wp2
     go_meet
     case rel => exact ⟨_, (false), eR, H', ⟨by have := HK1.out; first | omega | exact Nat.le_refl _⟩, ⟨BU HB.out⟩⟩
    rw [if_pos c5] at H
    have c5b0 := decide_eq_true c5
    clear c5
    (first | rw [c5b0] | (simp only [Qbo, Qbp]; rw [c5b0]) | skip)
    by_cases c6 : 0 ≤ aM
    rotate_left
    ·rw [if_neg c6] at H
     exact absurd H (by simp)
    rw [if_pos c6] at H
    have c6b0 := decide_eq_true c6
    clear c6
    replace H := Option.bind_eq_some_iff.mp H
    obtain ⟨t270, A70, H⟩ := H
    have A7 := As0 A70
    clear A70
    have H' := As0 H
    clear H
    have p269 : 0 ≤ (aM : Int) := qR
    have q269 : aM < (l0.length : Int) := qR
    obtain ⟨ad269, e269, eE, kR, kQ, kO, kN⟩ := at_T41 R0.out aM p269 q269
    cases e269
    replace eE := cl HB eE
    replace kR := cl HB kR
    replace kQ := cl HB kQ
    replace kO := cl HB kO
    replace kN := cl HB kN
    replace p269 := eq_true p269
    replace q269 := eq_true q269
    go_wp2_with (first | (go_at_call 111; (with_reducible refine (align_copied.calls ((Qam l0 aM).f0) ((Qam l0 aM).f1) ((Qam l0 aM).f2) ((Qam l0 aM).f3) ((Qam l0 aM).f4) t270 _ A7.out).mono ?_); rintro e w8 ⟨rfl, hb⟩; replace HB := sB HB hb; (try clear hb)))
    go_meet
    case rel => exact ⟨_, (t270), eR, H', ⟨by have := HK1.out; first | omega | exact Nat.le_refl _⟩, ⟨BU HB.out⟩⟩
   case rest =>
    clear C4
    obtain ⟨kq, jM, rfl, HA, HJ3, HB⟩ := hcut
    cases kq with
    | zero => exact absurd HA.out (by simp [Qai.j1])
    | succ kj3 =>
     have H := HA.out
     clear HA
     simp only [Qai.j1] at H
     by_cases c9 : jM = true
     rotate_left
     ·replace c9 := Bool.eq_false_iff.mpr c9
      subst c9
      rw [if_neg bF] at H
      obtain rfl := Option.some.inj H
      go_wp2
      go_ret
      exact ⟨oR, BU HB.out⟩
     subst c9
     rw [if_pos rfl] at H
     have H' := As0 H
     clear H
     go_wp2
     go_roundg kj3
     case measure => have := HK1.out; have := HJ3.out; omega
     case rel => exact ⟨(wrap64 (aM + 1)), eR, H', ⟨by have := HK1.out; have := HJ3.out; omega⟩, ⟨BU HB.out⟩⟩
mutual
def Qas.l0 : Nat → List (S59) → Int → Option (Int)
 | 0, _, _ => none
 | k + 1, x0, x1 => if x1 < (x0.length : Int) then (if 0 ≤ x1 then ((align_moved.f ((Qaj x0 x1).f0) ((Qaj x0 x1).f1) ((Qaj x0 x1).f2) ((Qaj x0 x1).f3) ((Qaj x0 x1).f4) ((Qaj x0 x1).f5) ((Qaj x0 x1).f6)).bind fun t270 => (Qas.j1 k x0 x1 t270)) else (none)) else (Qas.j1 k x0 x1 false)
def Qas.j1 : Nat → List (S59) → Int → Bool → Option (Int)
 | 0, _, _, _ => none
 | k + 1, x0, x1, x18 => if x18 = true then (Qas.l0 k x0 (wrap64 (x1 + 1))) else (some x1)
end
def Qas.f (k : Nat) (l0 : List (S59)) (a1 : Int)  : Option (Int) := Qas.l0 k l0 a1
theorem Qas.calls (k : Nat) (A0 : Option Addr) (c0 : Nat) (l0 : List (S59)) (a1 : Int)  (r : Int) (w : World) (hr0 : Kd.C k59 w A0 l0.length l0) (hc0 : l0.length ≤ c0) (h : Qas.f k l0 a1 = some r) :
 Calls Tryz.prog 112 #[.slice A0 l0.length c0, .int .i64 a1, .func (.func 113) #[] #[]] w fun e w' => e = .returned (.int .i64 r) ∧ Below w.heap.size w w' := by
 have hu59 := Tryz.underlying59
 have R0 := As0 hr0
 have C0 := As0 hc0
 clear hr0 hc0
 have HB := As0 (Below.refl w.heap.size w)
 have H : (Qas.l0 k l0 a1) = some r := h
 clear h
 have H' := As0 H
 clear H
 go_enter Tryz.func112, Tryz.ntmps112
 go_wp2
 go_loopg [1] k (fun kq v1 w' => ∃ (aM : Int), v1 = .int .i64 aM ∧ Qbf (Qas.l0 kq l0 aM = some r) ∧ Qbf (kq ≤ k) ∧ Qbf (Below w.heap.size w w'))
 case atStart => exact ⟨(a1), eR, H', ⟨Nat.le_refl _⟩, ⟨BU HB.out⟩⟩
 case round =>
  clear H'
  obtain ⟨aM, rfl, HA, HK1, HB⟩ := hrel
  cases gk with
  | zero => exact absurd HA.out (by simp [Qas.l0])
  | succ k1 =>
   have H := HA.out
   clear HA
   simp only [Qas.l0] at H
   have C4 := As0 H
   clear H
   go_upto_region 1 with (fail)
   go_cut [18] (fun v18 wc => ∃ (kq : Nat) (jM : Bool), v18 = .bool jM ∧ Qbf (Qas.j1 kq l0 aM jM = some r) ∧ Qbf (kq ≤ k1) ∧ Qbf (Below w.heap.size w wc))
   case first =>
    have H := C4.out
    clear C4
    by_cases c5 : aM < (l0.length : Int)
    rotate_left
    ·rw [if_neg c5] at H
     have c5b0 := decide_eq_false c5
     clear c5
     (first | rw [c5b0] | (simp only [Qbo, Qbp]; rw [c5b0]) | skip)
     have H' := As0 H
     clear H
     go_wp2
     go_meet
     case rel => exact ⟨_, (false), eR, H', ⟨by have := HK1.out; first | omega | exact Nat.le_refl _⟩, ⟨BU HB.out⟩⟩
    rw [if_pos c5] at H
    have c5b0 := decide_eq_true c5
    clear c5
    (first | rw [c5b0] | (simp only [Qbo, Qbp]; rw [c5b0]) | skip)
    by_cases c6 : 0 ≤ aM
    rotate_left
    ·rw [if_neg c6] at H
     exact absurd H (by simp)
    rw [if_pos c6] at H
    have c6b0 := decide_eq_true c6
    clear c6
    replace H := Option.bind_eq_some_iff.mp H
    obtain ⟨t270, A70, H⟩ := H
    have A7 := As0 A70
    clear A70
    have H' := As0 H
    clear H
    have p269 : 0 ≤ (aM : Int) := qR
    have q269 : aM < (l0.length : Int) := qR
    obtain ⟨ad269, e269, eE, kR, kQ, kO, kN, hx269_5, hx269_6⟩ := at_T59 R0.out aM p269 q269
    cases e269
    replace eE := cl HB eE
    replace kR := cl HB kR
    replace kQ := cl HB kQ
    replace kO := cl HB kO
    replace kN := cl HB kN
    replace hx269_5 := cl HB hx269_5
    replace hx269_6 := cl HB hx269_6
    replace p269 := eq_true p269
    replace q269 := eq_true q269
    go_wp2_with (first | (go_at_call 113; (with_reducible refine (align_moved.calls ((Qaj l0 aM).f0) ((Qaj l0 aM).f1) ((Qaj l0 aM).f2) ((Qaj l0 aM).f3) ((Qaj l0 aM).f4) ((Qaj l0 aM).f5) ((Qaj l0 aM).f6) t270 _ A7.out).mono ?_); rintro e w8 ⟨rfl, hb⟩; replace HB := sB HB hb; (try clear hb)))
    go_meet
    case rel => exact ⟨_, (t270), eR, H', ⟨by have := HK1.out; first | omega | exact Nat.le_refl _⟩, ⟨BU HB.out⟩⟩
   case rest =>
    clear C4
    obtain ⟨kq, jM, rfl, HA, HJ3, HB⟩ := hcut
    cases kq with
    | zero => exact absurd HA.out (by simp [Qas.j1])
    | succ kj3 =>
     have H := HA.out
     clear HA
     simp only [Qas.j1] at H
     by_cases c9 : jM = true
     rotate_left
     ·replace c9 := Bool.eq_false_iff.mpr c9
      subst c9
      rw [if_neg bF] at H
      obtain rfl := Option.some.inj H
      go_wp2
      go_ret
      exact ⟨oR, BU HB.out⟩
     subst c9
     rw [if_pos rfl] at H
     have H' := As0 H
     clear H
     go_wp2
     go_roundg kj3
     case measure => have := HK1.out; have := HJ3.out; omega
     case rel => exact ⟨(wrap64 (aM + 1)), eR, H', ⟨by have := HK1.out; have := HJ3.out; omega⟩, ⟨BU HB.out⟩⟩
mutual
def Qal.l0 : Nat → List (S41) → List (S59) → List (S180) → Int → Int → Option ((List (S180)) × Int × Int)
 | 0, _, _, _, _, _ => none
 | k + 1, x0, x1, x7, x8, x9 => (Qai.f k x0 x8).bind fun aY => ((Qas.f k x1 x9).bind fun aT => (if aY = (x0.length : Int) then (Qal.j1 k x0 x1 x7 aY aT (aT == (x1.length : Int)) x8 aY x9 aT 0 0) else (Qal.j1 k x0 x1 x7 aY aT false x8 aY x9 aT 0 0)))
def Qal.j1 : Nat → List (S41) → List (S59) → List (S180) → Int → Int → Bool → Int → Int → Int → Int → Int → Int → Option ((List (S180)) × Int × Int)
 | 0, _, _, _, _, _, _, _, _, _, _, _, _ => none
 | k + 1, x0, x1, x7, x8, x9, x33, iU, iS, iR, iQ, x274004, x274005 => if x33 = true then (if x7.length < 2932031007402 then (some ((x7 ++ [(⟨iU, iS, iR, iQ, (-1), (-1)⟩ : S180)]), x9, 0)) else (none)) else (if x8 = (x0.length : Int) then (Qal.j2 k x0 x1 x7 x8 x9 true iU iS iR iQ x274004 x274005) else (if x9 = (x1.length : Int) then (Qal.j2 k x0 x1 x7 x8 x9 true iU iS iR iQ x274004 x274005) else (if 0 ≤ x8 then (if x8 < (x0.length : Int) then (if 0 ≤ x9 then (if x9 < (x1.length : Int) then ((align_Same.f ((Qam x0 x8).f0) ((Qam x0 x8).f1) ((Qam x0 x8).f2) ((Qam x0 x8).f3) ((Qam x0 x8).f4) ((Qaj x1 x9).f0) ((Qaj x1 x9).f1) ((Qaj x1 x9).f2) ((Qaj x1 x9).f3) ((Qaj x1 x9).f4) ((Qaj x1 x9).f5) ((Qaj x1 x9).f6)).bind fun t279 => (Qal.j2 k x0 x1 x7 x8 x9 (!t279) iU iS iR iQ x274004 x274005)) else (none)) else (none)) else (none)) else (none))))
def Qal.j2 : Nat → List (S41) → List (S59) → List (S180) → Int → Int → Bool → Int → Int → Int → Int → Int → Int → Option ((List (S180)) × Int × Int)
 | 0, _, _, _, _, _, _, _, _, _, _, _, _ => none
 | k + 1, x0, x1, x7, x8, x9, x62, iU, iS, iR, iQ, x274004, x274005 => if x62 = true then (some (([] : List (S180)), x9, 20)) else (if x7.length < 2932031007402 then (Qal.l0 k x0 x1 (x7 ++ [(⟨iU, iS, iR, iQ, x8, x9⟩ : S180)]) (wrap64 (x8 + 1)) (wrap64 (x9 + 1))) else (none))
end
def Qal.f (k : Nat) (l0 : List (S41)) (l1 : List (S59)) : Option ((List (S180)) × Int × Int) := Qal.l0 k l0 l1 ([] : List (S180)) 0 0
def Qal.T8 : Bool × List (List Nat × List Nat) := (true, [([], []), ([], []), ([1], [1]), ([0, 2], [0, 2]), ([3], [3]), ([4], [4]), ([4], [4]), ([6, 4], [4, 6]), ([5, 7, 4], [4, 5, 7]), ([4, 8], [4, 8]), ([9, 4], [9]), ([10], [10]), ([10], [10]), ([11, 12, 10], [10, 11, 12]), ([13, 10], [10, 13]), ([10], [10]), ([10], [10]), ([15, 16, 10], [10, 15, 16]), ([17, 10], [10, 17]), ([14, 18, 10, 10], [10, 14, 18]), ([19, 10], [10, 19]), ([10, 20], [10, 20])])
def Qal.B8 : List Nat := [0, 0, 2, 7, 15, 31, 31, 95, 255, 511, 1023, 2047, 2047, 8191, 16383, 2047, 2047, 100351, 231423, 524287, 1048575, 2097151]
theorem Qal.tab8 : rtab .any (opsOf Tryz.f63 8) = Qal.T8 := by kernel_rfl
theorem Qal.bits8 : Qco Qal.T8.2 Qal.B8 = true := by kernel_rfl
theorem Qal.calls (k : Nat) (A0 : Option Addr) (c0 : Nat) (l0 : List (S41)) (A1 : Option Addr) (c1 : Nat) (l1 : List (S59)) (r1 : List (S180)) (r2 r3 : Int) (w : World) (hr0 : Kd.C k41 w A0 l0.length l0) (hc0 : l0.length ≤ c0) (hr1 : Kd.C k59 w A1 l1.length l1) (hc1 : l1.length ≤ c1) (h : Qal.f k l0 l1 = some (r1, r2, r3)) :
 Calls Tryz.prog 63 #[.slice A0 l0.length c0, .slice A1 l1.length c1] w fun e w' => ∃ v0_ : Value, e = .returned (.tuple #[v0_, .int .i64 r2, .int .i64 r3]) ∧ Kd.R k180 180 w' w.heap.size (fun _ => True) v0_ r1 ∧ Below w.heap.size w w' := by
 have hu180 := Tryz.underlying180
 have hu41 := Tryz.underlying41
 have hu59 := Tryz.underlying59
 have R0 := As0 hr0
 have C0 := As0 hc0
 clear hr0 hc0
 have R1 := As0 hr1
 have C1 := As0 hc1
 clear hr1 hc1
 have HB := As0 (Below.refl w.heap.size w)
 have H : (Qal.l0 k l0 l1 ([] : List (S180)) 0 0) = some (r1, r2, r3) := h
 clear h
 have H' := As0 H
 clear H
 go_enter Tryz.func63, Tryz.ntmps63
 go_wp2
 go_loopg [7, 8, 9] k (fun kq v7 v8 v9 w' => ∃ (aZ : List (S180)) (dG : Int) (cL : Int), v8 = .int .i64 dG ∧ v9 = .int .i64 cL ∧ Qbf (Qal.l0 kq l0 l1 aZ dG cL = some (r1, r2, r3)) ∧ Qbf (kq ≤ k) ∧ Qbf (Kd.R k180 180 w' w.heap.size (fun _ => True) v7 aZ) ∧ Qbf (Below w.heap.size w w'))
 case atStart => exact ⟨(([] : List (S180))), (0), (0), eR, eR, H', ⟨Nat.le_refl _⟩, ⟨by first | exact Kd.R_nil _ _ _ _ _ | exact Kd.N_nil _ _ _ _ _ | exact Kd.V_nil _ _ _ _ _ | exact Kd.Q_nil _ _ _ _ _ | exact Kd.S_nil _ _ _ _ _⟩, ⟨BU HB.out⟩⟩
 case round =>
  clear H'
  obtain ⟨aZ, dG, cL, rfl, rfl, HA, HK1, dQ, HB⟩ := hrel
  cases gk with
  | zero => exact absurd HA.out (by simp [Qal.l0])
  | succ k1 =>
   have H := HA.out
   clear HA
   simp only [Qal.l0] at H
   replace H := Option.bind_eq_some_iff.mp H
   obtain ⟨aY, A30, H⟩ := H
   have A3 := As0 A30
   clear A30
   replace H := Option.bind_eq_some_iff.mp H
   obtain ⟨aT, A40, H⟩ := H
   have A4 := As0 A40
   clear A40
   have C5 := As0 H
   clear H
   try go_wp2_with (first | ((with_reducible refine Qbk (f := 110) rfl ?_); refine gL (some 14) Tryz.func110 #[.slice A0 l0.length c0, .int .i64 dG, .func (.func 111) #[] #[]] ?_; (with_reducible refine (Qai.calls k1 _ _ l0 dG aY _ ?side1 ?side2 A3.out).mono ?_); (case side1 => exact CU (Kd.C_below R0.out HB.out)); (case side2 => exact C0.out); rintro e w6 ⟨rfl, hb⟩; refine ⟨_, rfl, ?_⟩; replace dQ := As0 (Kd.R_below (RU dQ.out) hb); replace HB := sB HB hb; (try clear hb)) | ((with_reducible refine Qbk (f := 112) rfl ?_); refine gL (some 18) Tryz.func112 #[.slice A1 l1.length c1, .int .i64 cL, .func (.func 113) #[] #[]] ?_; (with_reducible refine (Qas.calls k1 _ _ l1 cL aT _ ?side1 ?side2 A4.out).mono ?_); (case side1 => exact CU (Kd.C_below R1.out HB.out)); (case side2 => exact C1.out); rintro e w7 ⟨rfl, hb⟩; refine ⟨_, rfl, ?_⟩; replace dQ := As0 (Kd.R_below (RU dQ.out) hb); replace HB := sB HB hb; (try clear hb)) | ((with_reducible refine gD 10 ?_); (try (refine Qck (by rfl) ?_; dsimp only)); refine bX ?_; intro aW hg w8 aC hb; replace dQ := As0 (Kd.R_below (Kd.R_elderB (RU dQ.out) aW (Nat.le_of_eq hg.symm)) hb); have dL := As0 (aC); have GW273 := gW hg HB.out; replace HB := sB HB hb; clear hb aC hg; have q9_ := cN6 dL.out))
   have n0_ : Qbf (Kd.R k180 180 ((((((w8.setCell ⟨aW, 0, none⟩ (.int .i64 dG)).setCell ⟨aW, 1, none⟩ (.int .i64 aY)).setCell ⟨aW, 2, none⟩ (.int .i64 cL)).setCell ⟨aW, 3, none⟩ (.int .i64 aT)).setCell ⟨aW, 4, none⟩ (.int .i64 0)).setCell ⟨aW, 5, none⟩ (.int .i64 0)) w.heap.size (fun k_ => k_ ≠ aW) u7 aZ) := ⟨RU (Kd.R_mono (RF aW 5 (RF aW 4 (RF aW 3 (RF aW 2 (RF aW 1 (RF aW 0 (Kd.R_mono dQ.out (fun k_ hk => (⟨hk, hk.2⟩ : _ ∧ k_ ≠ aW))) (.int .i64 dG)) (.int .i64 aY)) (.int .i64 cL)) (.int .i64 aT)) (.int .i64 0)) (.int .i64 0)) (fun _ hk => hk.1.2))⟩
   have n1_ : Qbf (((((((w8.setCell ⟨aW, 0, none⟩ (.int .i64 dG)).setCell ⟨aW, 1, none⟩ (.int .i64 aY)).setCell ⟨aW, 2, none⟩ (.int .i64 cL)).setCell ⟨aW, 3, none⟩ (.int .i64 aT)).setCell ⟨aW, 4, none⟩ (.int .i64 0)).setCell ⟨aW, 5, none⟩ (.int .i64 0)).heap[aW]? = some (.cells #[.int .i64 dG, .int .i64 aY, .int .i64 cL, .int .i64 aT, .int .i64 0, .int .i64 0] 180 (0, 0))) := ⟨kV dL⟩
   have n2_ : Qbf (Below w.heap.size w ((((((w8.setCell ⟨aW, 0, none⟩ (.int .i64 dG)).setCell ⟨aW, 1, none⟩ (.int .i64 aY)).setCell ⟨aW, 2, none⟩ (.int .i64 cL)).setCell ⟨aW, 3, none⟩ (.int .i64 aT)).setCell ⟨aW, 4, none⟩ (.int .i64 0)).setCell ⟨aW, 5, none⟩ (.int .i64 0))) := ⟨BU HB.out⟩
   (try clear dQ)
   (try clear dL)
   (try clear HB)
   generalize ((((((w8.setCell ⟨aW, 0, none⟩ (.int .i64 dG)).setCell ⟨aW, 1, none⟩ (.int .i64 aY)).setCell ⟨aW, 2, none⟩ (.int .i64 cL)).setCell ⟨aW, 3, none⟩ (.int .i64 aT)).setCell ⟨aW, 4, none⟩ (.int .i64 0)).setCell ⟨aW, 5, none⟩ (.int .i64 0)) = w10 at n0_ n1_ n2_ ⊢
   have dQ := n0_
   have dL := n1_
   have HB := n2_
   clear n0_ n1_ n2_
   replace dQ := As0 (Kd.R_drew dQ.out)
   replace dL := As0 (Qbm dL.out)
   replace HB := As0 (bd1 HB.out)
   refine Qb1 (n := 6) (S := fun w' => w'.cell? ⟨aW, 0, none⟩ = some (.int .i64 dG) ∧ w'.cell? ⟨aW, 1, none⟩ = some (.int .i64 aY) ∧ w'.cell? ⟨aW, 2, none⟩ = some (.int .i64 cL) ∧ w'.cell? ⟨aW, 3, none⟩ = some (.int .i64 aT) ∧ w'.cell? ⟨aW, 4, none⟩ = some (.int .i64 0) ∧ w'.cell? ⟨aW, 5, none⟩ = some (.int .i64 0)) (ds := []) (bb 6 0) (by kernel_rfl) rfl rfl ⟨bc dL 0, bc dL 1, bc dL 2, bc dL 3, bc dL 4, bc dL 5⟩ (fun aA => ?_)
   generalize w10.drew = w11 at dQ dL HB aA ⊢
   refine pu 0 20 (bb 6 1) ?_
   refine pu 2 22 (bb 6 5) ?_
   refine tu aA 1 21 (bb 6 7) ?_
   refine pu 4 8 (bb 6 23) ?_
   refine tu aA 3 23 (bb 6 31) ?_
   refine pu 5 9 (bb 6 63) ?_
   refine Qch (by kernel_rfl) ?_
   go_upto_region 5 with (fail)
   go_cut [33] (fun v33 wc => ∃ (kq : Nat) (x33_4 : Bool), v33 = .bool x33_4 ∧ Qbf (Qal.j1 kq l0 l1 aZ aY aT x33_4 dG aY cL aT 0 0 = some (r1, r2, r3)) ∧ Qbf (kq ≤ k1) ∧ Qbf (Kd.R k180 180 wc w.heap.size (fun k_ => k_ ≠ aW) u7 aZ) ∧ Qbf (wc.heap[aW]? = some (.cells #[.int .i64 dG, .int .i64 aY, .int .i64 cL, .int .i64 aT, .int .i64 0, .int .i64 0] 180 (0, 0))) ∧ Qbf (Below w.heap.size w wc))
   case first =>
    have H := C5.out
    clear C5
    by_cases c12 : aY = (l0.length : Int)
    rotate_left
    ·rw [if_neg c12] at H
     have c12b0 : (aY == (l0.length : Int)) = false := beq_eq_false_iff_ne.mpr c12
     have c12b1 : (aY != (l0.length : Int)) = true := bne_iff_ne.mpr c12
     (first | rw [c12b0] | (simp only [Qbo, Qbp]; rw [c12b0]) | skip)
     have H' := As0 H
     clear H
     go_wp2
     go_meet
     case rel => exact ⟨_, (false), eR, H', ⟨by have := HK1.out; first | omega | exact Nat.le_refl _⟩, ⟨RU dQ.out⟩, ⟨bU dL.out⟩, ⟨BU HB.out⟩⟩
    rw [if_pos c12] at H
    have c12b0 : (aY == (l0.length : Int)) = true := beq_iff_eq.mpr c12
    have c12b1 : (aY != (l0.length : Int)) = false := bne_eq_false_iff_eq.mpr c12
    clear c12
    (first | rw [c12b0] | (simp only [Qbo, Qbp]; rw [c12b0]) | skip)
    have H' := As0 H
    clear H
    go_wp2
    go_meet
    case rel => exact ⟨_, ((aT == (l1.length : Int))), eR, H', ⟨by have := HK1.out; first | omega | exact Nat.le_refl _⟩, ⟨RU dQ.out⟩, ⟨bU dL.out⟩, ⟨BU HB.out⟩⟩
   case rest =>
    clear C5
    obtain ⟨kq, x33_4, rfl, HA, HJ4, dQ, dL, HB⟩ := hcut
    cases kq with
    | zero => exact absurd HA.out (by simp [Qal.j1])
    | succ kj4 =>
     have H := HA.out
     clear HA
     simp only [Qal.j1] at H
     by_cases c13 : x33_4 = true
     ·subst c13
      rw [if_pos rfl] at H
      by_cases c14 : aZ.length < 2932031007402
      rotate_left
      ·rw [if_neg c14] at H
       exact absurd H (by simp)
      rw [if_pos c14] at H
      have LMc14 := As0 c14
      clear c14
      obtain ⟨y274, hy274⟩ : ∃ y_ : List (S180), y_ = (aZ ++ [(⟨dG, aY, cL, aT, (-1), (-1)⟩ : S180)]) := ⟨_, rfl⟩
      replace H : (some (y274, aT, 0)) = some (r1, r2, r3) := by first | (rw [hy274]; exact H) | exact H
      have Ny274 := As0 hy274
      clear hy274
      simp only [Option.some.injEq, Prod.mk.injEq] at H
      obtain ⟨rfl, rfl, rfl⟩ := H
      have q15_ := cN6 dL.out
      go_wp2_with (first | ((with_reducible refine Qb6 (b := .append) (xs := #[.tmp 36, .tmp 38]) rfl ?_); (try (refine Qck (by rfl) ?_; dsimp only)); at_builtin; refine Kd.R_append k180 (w0 := w) w.heap.size rfl (.tmp 36) (.tmp 38) 121 180 (.agg #[(.int .i64 0), (.int .i64 0), (.int .i64 0), (.int .i64 0), (.int .i64 0), (.int .i64 0)]) 48 rfl Tryz.underlying121 info180 rfl (by decide) (by omega) u7 aZ (⟨dG, aY, cL, aT, (-1), (-1)⟩ : S180) [.int .i64 dG, .int .i64 aY, .int .i64 cL, .int .i64 aT, .int .i64 (-1), .int .i64 (-1)] (fun k_ => k_ ≠ aW) (fun _ => False) rfl (by first | (go_simp; done) | (go_simp; rfl)) ?aP (fun _ hk => hk.elim) ?aF ?aO ?aB ?aS ?aL ?_; (case aP => exact k180_mkM _ _ _ (⟨dG, aY, cL, aT, (-1), (-1)⟩ : S180)); (case aB => exact (BU HB.out)); (case aF => exact (fun k_ hk => Kd.freshB (g := aW) (o := .cells #[.int .i64 dG, .int .i64 aY, .int .i64 cL, .int .i64 aT, .int .i64 (-1), .int .i64 (-1)] 180 (0, 0)) (kV dL) k_ hk)); (case aO => exact (RU (Kd.R_mono (RF aW 5 (RF aW 4 (Kd.R_mono dQ.out (fun k_ hk => (⟨hk, hk⟩ : _ ∧ k_ ≠ aW))) (.int .i64 (-1))) (.int .i64 (-1))) (fun _ hk => hk.1)))); (case aS => exact (Qbi (BU HB.out))); (case aL => have := LMc14.out; omega); intro v275 w16 ho hb hg hat; rw [← Ny274.out] at ho; replace dL := As0 (Qbu (g := aW) (o := .cells #[.int .i64 dG, .int .i64 aY, .int .i64 cL, .int .i64 aT, .int .i64 (-1), .int .i64 (-1)] 180 (0, 0)) (kV dL) hg (Kd.R_away dQ.out (fun _ hk => hk))); replace HB := As0 (hb); have O276 := As0 (ho); clear dQ ho hb hg hat))
      go_ret3
      exact ⟨_, by first | rfl | (simp [Qa9, Qa8] <;> rfl) | (simp [*, Qa9, Qa8] <;> rfl), RU (Kd.R_mono O276.out (fun _ hk => trivial)), BU HB.out⟩
     replace c13 := Bool.eq_false_iff.mpr c13
     subst c13
     rw [if_neg bF] at H
     have C17 := As0 H
     clear H
     go_upto_region 8 with (fail)
     go_cut [62] (fun v62 wc => ∃ (kq : Nat) (x62_16 : Bool), v62 = .bool x62_16 ∧ Qbf (Qal.j2 kq l0 l1 aZ aY aT x62_16 dG aY cL aT 0 0 = some (r1, r2, r3)) ∧ Qbf (kq ≤ kj4) ∧ Qbf (Kd.R k180 180 wc w.heap.size (fun k_ => k_ ≠ aW) u7 aZ) ∧ Qbf (wc.heap[aW]? = some (.cells #[.int .i64 dG, .int .i64 aY, .int .i64 cL, .int .i64 aT, .int .i64 0, .int .i64 0] 180 (0, 0))) ∧ Qbf (Below w.heap.size w wc))
     case first =>
      have H := C17.out
      clear C17
      by_cases c18 : aY = (l0.length : Int)
      ·rw [if_pos c18] at H
       have c18b0 : (aY == (l0.length : Int)) = true := beq_iff_eq.mpr c18
       have c18b1 : (aY != (l0.length : Int)) = false := bne_eq_false_iff_eq.mpr c18
       clear c18
       (first | rw [c18b0] | (simp only [Qbo, Qbp]; rw [c18b0]) | skip)
       have H' := As0 H
       clear H
       try go_wp2
       replace dQ := As0 (Kd.R_drew dQ.out)
       replace dL := As0 (Qbm dL.out)
       replace HB := As0 (bd1 HB.out)
       refine Qb1 (n := 22) (S := fun w' => True) (ds := []) (bb 22 0) (by kernel_rfl) rfl rfl trivial (fun aA => ?_); refine Qb8 Qal.tab8 Qal.bits8 (fun HT_ HW_ => ?_)
       generalize wc.drew = w19 at dQ dL HB aA ⊢
       refine pv HT_.out 0 41 (bb 22 1) ?_
       refine pv HT_.out 1 42 (bb 22 3) ?_
       refine pv HT_.out 2 43 (bb 22 7) ?_
       refine pv HT_.out 3 44 (bb 22 15) ?_
       refine pv HT_.out 4 45 (bb 22 31) ?_
       refine py HT_.out 5 46 (bb 22 63) ?_
       refine py HT_.out 6 47 (bb 22 127) ?_
       refine py HT_.out 7 48 (bb 22 255) ?_
       refine py HT_.out 8 49 (bb 22 511) ?_
       refine pv HT_.out 9 50 (bb 22 1023) ?_
       refine pv HT_.out 10 51 (bb 22 2047) ?_
       refine py HT_.out 11 52 (bb 22 4095) ?_
       refine py HT_.out 12 53 (bb 22 8191) ?_
       refine py HT_.out 13 54 (bb 22 16383) ?_
       refine py HT_.out 14 55 (bb 22 32767) ?_
       refine py HT_.out 15 56 (bb 22 65535) ?_
       refine py HT_.out 16 57 (bb 22 131071) ?_
       refine py HT_.out 17 58 (bb 22 262143) ?_
       refine py HT_.out 18 59 (bb 22 524287) ?_
       refine py HT_.out 19 60 (bb 22 1048575) ?_
       refine py HT_.out 20 61 (bb 22 2097151) ?_
       refine pv HT_.out 21 62 (bb 22 4194303) ?_
       refine Qch (Qcm HT_.out (by kernel_rfl)) ?_
       try go_wp2
       go_meet
       case rel => exact ⟨_, (true), eR, H', ⟨by have := HK1.out; have := HJ4.out; first | omega | exact Nat.le_refl _⟩, ⟨RU dQ.out⟩, ⟨bU dL.out⟩, ⟨BU HB.out⟩⟩
      rw [if_neg c18] at H
      have c18b0 : (aY == (l0.length : Int)) = false := beq_eq_false_iff_ne.mpr c18
      have c18b1 : (aY != (l0.length : Int)) = true := bne_iff_ne.mpr c18
      (first | rw [c18b0] | (simp only [Qbo, Qbp]; rw [c18b0]) | skip)
      by_cases c20 : aT = (l1.length : Int)
      ·rw [if_pos c20] at H
       have c20b0 : (aT == (l1.length : Int)) = true := beq_iff_eq.mpr c20
       have c20b1 : (aT != (l1.length : Int)) = false := bne_eq_false_iff_eq.mpr c20
       clear c20
       have H' := As0 H
       clear H
       try go_wp2
       replace dQ := As0 (Kd.R_drew dQ.out)
       replace dL := As0 (Qbm dL.out)
       replace HB := As0 (bd1 HB.out)
       refine Qb1 (n := 22) (S := fun w' => True) (ds := []) (bb 22 0) (by kernel_rfl) rfl rfl trivial (fun aA => ?_); refine Qb8 Qal.tab8 Qal.bits8 (fun HT_ HW_ => ?_)
       generalize wc.drew = w21 at dQ dL HB aA ⊢
       refine pv HT_.out 0 41 (bb 22 1) ?_
       refine pv HT_.out 1 42 (bb 22 3) ?_
       refine pv HT_.out 2 43 (bb 22 7) ?_
       refine pv HT_.out 3 44 (bb 22 15) ?_
       refine pv HT_.out 4 45 (bb 22 31) ?_
       refine pv HT_.out 5 46 (bb 22 63) ?_
       refine pv HT_.out 6 47 (bb 22 127) ?_
       refine pv HT_.out 7 48 (bb 22 255) ?_
       refine pv HT_.out 8 49 (bb 22 511) ?_
       refine pv HT_.out 9 50 (bb 22 1023) ?_
       refine pv HT_.out 10 51 (bb 22 2047) ?_
       refine py HT_.out 11 52 (bb 22 4095) ?_
       refine py HT_.out 12 53 (bb 22 8191) ?_
       refine py HT_.out 13 54 (bb 22 16383) ?_
       refine py HT_.out 14 55 (bb 22 32767) ?_
       refine py HT_.out 15 56 (bb 22 65535) ?_
       refine py HT_.out 16 57 (bb 22 131071) ?_
       refine py HT_.out 17 58 (bb 22 262143) ?_
       refine py HT_.out 18 59 (bb 22 524287) ?_
       refine py HT_.out 19 60 (bb 22 1048575) ?_
       refine py HT_.out 20 61 (bb 22 2097151) ?_
       refine pv HT_.out 21 62 (bb 22 4194303) ?_
       refine Qch (Qcm HT_.out (by kernel_rfl)) ?_
       try go_wp2
       go_meet
       case rel => exact ⟨_, (true), eR, H', ⟨by have := HK1.out; have := HJ4.out; first | omega | exact Nat.le_refl _⟩, ⟨RU dQ.out⟩, ⟨bU dL.out⟩, ⟨BU HB.out⟩⟩
      rw [if_neg c20] at H
      have c20b0 : (aT == (l1.length : Int)) = false := beq_eq_false_iff_ne.mpr c20
      have c20b1 : (aT != (l1.length : Int)) = true := bne_iff_ne.mpr c20
      by_cases c22 : 0 ≤ aY
      rotate_left
      ·rw [if_neg c22] at H
       exact absurd H (by simp)
      rw [if_pos c22] at H
      have c22b0 := decide_eq_true c22
      clear c22
      by_cases c23 : aY < (l0.length : Int)
      rotate_left
      ·rw [if_neg c23] at H
       exact absurd H (by simp)
      rw [if_pos c23] at H
      have c23b0 := decide_eq_true c23
      clear c23
      by_cases c24 : 0 ≤ aT
      rotate_left
      ·rw [if_neg c24] at H
       exact absurd H (by simp)
      rw [if_pos c24] at H
      have c24b0 := decide_eq_true c24
      clear c24
      by_cases c25 : aT < (l1.length : Int)
      rotate_left
      ·rw [if_neg c25] at H
       exact absurd H (by simp)
      rw [if_pos c25] at H
      have c25b0 := decide_eq_true c25
      clear c25
      replace H := Option.bind_eq_some_iff.mp H
      obtain ⟨t279, A260, H⟩ := H
      have A26 := As0 A260
      clear A260
      have H' := As0 H
      clear H
      try go_wp2
      replace dQ := As0 (Kd.R_drew dQ.out)
      replace dL := As0 (Qbm dL.out)
      replace HB := As0 (bd1 HB.out)
      have p277 : 0 ≤ (aY : Int) := qR
      have q277 : aY < (l0.length : Int) := qR
      obtain ⟨mC, e277, hx277_0, hx277_1, hx277_2, hx277_3, hx277_4⟩ := at_T41 R0.out aY p277 q277
      have hw277_4 := hx277_4
      have hw277_3 := hx277_3
      have hw277_2 := hx277_2
      have hw277_1 := hx277_1
      have hw277_0 := hx277_0
      cases e277
      replace hx277_0 := cl HB hx277_0
      replace hx277_1 := cl HB hx277_1
      replace hx277_2 := cl HB hx277_2
      replace hx277_3 := cl HB hx277_3
      replace hx277_4 := cl HB hx277_4
      replace p277 := eq_true p277
      replace q277 := eq_true q277
      have p278 : 0 ≤ (aT : Int) := qR
      have q278 : aT < (l1.length : Int) := qR
      obtain ⟨fY, e278, hx278_0, hx278_1, hx278_2, hx278_3, hx278_4, hx278_5, hx278_6⟩ := at_T59 R1.out aT p278 q278
      have hw278_6 := hx278_6
      have hw278_5 := hx278_5
      have hw278_4 := hx278_4
      have hw278_3 := hx278_3
      have hw278_2 := hx278_2
      have hw278_1 := hx278_1
      have hw278_0 := hx278_0
      cases e278
      replace hx278_0 := cl HB hx278_0
      replace hx278_1 := cl HB hx278_1
      replace hx278_2 := cl HB hx278_2
      replace hx278_3 := cl HB hx278_3
      replace hx278_4 := cl HB hx278_4
      replace hx278_5 := cl HB hx278_5
      replace hx278_6 := cl HB hx278_6
      replace p278 := eq_true p278
      replace q278 := eq_true q278
      refine Qb1 (n := 22) (S := fun w' => w'.cell? (mC.add ((aY).toNat * 5)) = some (.int .i64 ((Qam l0 aY).f0)) ∧ w'.cell? ⟨(mC.add ((aY).toNat * 5)).block, (mC.add ((aY).toNat * 5)).off + 1, none⟩ = some (.int .i64 ((Qam l0 aY).f1)) ∧ w'.cell? ⟨(mC.add ((aY).toNat * 5)).block, (mC.add ((aY).toNat * 5)).off + 2, none⟩ = some (.int .i64 ((Qam l0 aY).f2)) ∧ w'.cell? ⟨(mC.add ((aY).toNat * 5)).block, (mC.add ((aY).toNat * 5)).off + 3, none⟩ = some (.int .i64 ((Qam l0 aY).f3)) ∧ w'.cell? ⟨(mC.add ((aY).toNat * 5)).block, (mC.add ((aY).toNat * 5)).off + 4, none⟩ = some (.int .i64 ((Qam l0 aY).f4)) ∧ w'.cell? (fY.add ((aT).toNat * 7)) = some (.int .i64 ((Qaj l1 aT).f0)) ∧ w'.cell? ⟨(fY.add ((aT).toNat * 7)).block, (fY.add ((aT).toNat * 7)).off + 1, none⟩ = some (.int .i64 ((Qaj l1 aT).f1)) ∧ w'.cell? ⟨(fY.add ((aT).toNat * 7)).block, (fY.add ((aT).toNat * 7)).off + 2, none⟩ = some (.int .i64 ((Qaj l1 aT).f2)) ∧ w'.cell? ⟨(fY.add ((aT).toNat * 7)).block, (fY.add ((aT).toNat * 7)).off + 3, none⟩ = some (.int .i64 ((Qaj l1 aT).f3)) ∧ w'.cell? ⟨(fY.add ((aT).toNat * 7)).block, (fY.add ((aT).toNat * 7)).off + 4, none⟩ = some (.int .i64 ((Qaj l1 aT).f4)) ∧ w'.cell? ⟨(fY.add ((aT).toNat * 7)).block, (fY.add ((aT).toNat * 7)).off + 5, none⟩ = some (.int .i64 ((Qaj l1 aT).f5)) ∧ w'.cell? ⟨(fY.add ((aT).toNat * 7)).block, (fY.add ((aT).toNat * 7)).off + 6, none⟩ = some (.int .i64 ((Qaj l1 aT).f6))) (ds := []) (bb 22 0) (by kernel_rfl) rfl rfl ⟨(cl HB hw277_0), (cl HB hw277_1), (cl HB hw277_2), (cl HB hw277_3), (cl HB hw277_4), (cl HB hw278_0), (cl HB hw278_1), (cl HB hw278_2), (cl HB hw278_3), (cl HB hw278_4), (cl HB hw278_5), (cl HB hw278_6)⟩ (fun aA => ?_); refine Qb8 Qal.tab8 Qal.bits8 (fun HT_ HW_ => ?_)
      generalize wc.drew = w27 at dQ dL HB hx277_0 hx277_1 hx277_2 hx277_3 hx277_4 hx278_0 hx278_1 hx278_2 hx278_3 hx278_4 hx278_5 hx278_6 aA ⊢
      refine pv HT_.out 0 41 (bb 22 1) ?_
      refine pv HT_.out 1 42 (bb 22 3) ?_
      refine pv HT_.out 2 43 (bb 22 7) ?_
      refine pv HT_.out 3 44 (bb 22 15) ?_
      refine pv HT_.out 4 45 (bb 22 31) ?_
      refine pv HT_.out 5 46 (bb 22 63) ?_
      refine pv HT_.out 6 47 (bb 22 127) ?_
      refine pv HT_.out 7 48 (bb 22 255) ?_
      refine pv HT_.out 8 49 (bb 22 511) ?_
      refine pv HT_.out 9 50 (bb 22 1023) ?_
      refine pv HT_.out 10 51 (bb 22 2047) ?_
      refine pv HT_.out 11 52 (bb 22 4095) ?_
      refine pv HT_.out 12 53 (bb 22 8191) ?_
      refine pv HT_.out 13 54 (bb 22 16383) ?_
      refine pv HT_.out 15 56 (bb 22 49151) ?_
      refine pv HT_.out 16 57 (bb 22 114687) ?_
      refine pv HT_.out 17 58 (bb 22 245759) ?_
      refine tv aA HT_.out HW_.out 14 55 (bb 22 262143) ?_
      refine tv aA HT_.out HW_.out 18 59 (bb 22 524287) ?_
      refine one_ (i := 19) (N := some 60) (bb 22 1048575) rfl rfl (Qcf HT_.out (by kernel_rfl)) (by decide) (fun K hK => ?_)
      refine gG Tryz.func114 #[.agg #[.int .i64 ((Qam l0 aY).f0), .int .i64 ((Qam l0 aY).f1), .int .i64 ((Qam l0 aY).f2), .int .i64 ((Qam l0 aY).f3), .int .i64 ((Qam l0 aY).f4)], .agg #[.int .i64 ((Qaj l1 aT).f0), .int .i64 ((Qaj l1 aT).f1), .int .i64 ((Qaj l1 aT).f2), .int .i64 ((Qaj l1 aT).f3), .int .i64 ((Qaj l1 aT).f4), .int .i64 ((Qaj l1 aT).f5), .int .i64 ((Qaj l1 aT).f6)]] ?_
      with_reducible refine (align_Same.calls ((Qam l0 aY).f0) ((Qam l0 aY).f1) ((Qam l0 aY).f2) ((Qam l0 aY).f3) ((Qam l0 aY).f4) ((Qaj l1 aT).f0) ((Qaj l1 aT).f1) ((Qaj l1 aT).f2) ((Qaj l1 aT).f3) ((Qaj l1 aT).f4) ((Qaj l1 aT).f5) ((Qaj l1 aT).f6) t279 _ A26.out).mono ?_
      rintro e w28 ⟨rfl, hb⟩
      refine ⟨_, rfl, ?_⟩
      replace dQ := As0 (Kd.R_below (RU dQ.out) hb)
      replace dL := kB dL hb
      replace HB := sB HB hb
      (try clear hb)
      (try clear hb2)
      (try clear hk)
      (try clear hi)
      refine hK.out _ _ ⟨(cl HB hw277_0), (cl HB hw277_1), (cl HB hw277_2), (cl HB hw277_3), (cl HB hw277_4), (cl HB hw278_0), (cl HB hw278_1), (cl HB hw278_2), (cl HB hw278_3), (cl HB hw278_4), (cl HB hw278_5), (cl HB hw278_6)⟩ (fun aA => ?_)
      clear hK K
      refine Qbz (a' := ?_) ?_ ?_
      rotate_left
      ·show Act.put _ (some 60) _ = _
       simp only [Act.put, sL1, sL2, sL3, Qbo, Qbp]
       rfl
      refine pv HT_.out 20 61 (bb 22 2097151) ?_
      refine pv HT_.out 21 62 (bb 22 4194303) ?_
      refine Qch (Qcm HT_.out (by kernel_rfl)) ?_
      try go_wp2
      go_meet
      case rel => exact ⟨_, (!t279), eR, H', ⟨by have := HK1.out; have := HJ4.out; first | omega | exact Nat.le_refl _⟩, ⟨RU dQ.out⟩, ⟨bU dL.out⟩, ⟨BU HB.out⟩⟩
     case rest =>
      clear C17
      obtain ⟨kq, x62_16, rfl, HA, HJ16, dQ, dL, HB⟩ := hcut
      cases kq with
      | zero => exact absurd HA.out (by simp [Qal.j2])
      | succ kj16 =>
       have H := HA.out
       clear HA
       simp only [Qal.j2] at H
       by_cases c29 : x62_16 = true
       ·subst c29
        rw [if_pos rfl] at H
        simp only [Option.some.injEq, Prod.mk.injEq] at H
        obtain ⟨rfl, rfl, rfl⟩ := H
        go_wp2
        go_ret3
        exact ⟨_, by first | rfl | (simp [Qa9, Qa8] <;> rfl) | (simp [*, Qa9, Qa8] <;> rfl), by first | exact Kd.R_nil _ _ _ _ _ | exact Kd.N_nil _ _ _ _ _ | exact Kd.V_nil _ _ _ _ _ | exact Kd.Q_nil _ _ _ _ _ | exact Kd.S_nil _ _ _ _ _, BU HB.out⟩
       replace c29 := Bool.eq_false_iff.mpr c29
       subst c29
       rw [if_neg bF] at H
       by_cases c30 : aZ.length < 2932031007402
       rotate_left
       ·rw [if_neg c30] at H
        exact absurd H (by simp)
       rw [if_pos c30] at H
       have LMc30 := As0 c30
       clear c30
       obtain ⟨y280, hy280⟩ : ∃ y_ : List (S180), y_ = (aZ ++ [(⟨dG, aY, cL, aT, aY, aT⟩ : S180)]) := ⟨_, rfl⟩
       replace H : (Qal.l0 kj16 l0 l1 y280 (wrap64 (aY + 1)) (wrap64 (aT + 1))) = some (r1, r2, r3) := by first | (rw [hy280]; exact H) | exact H
       have Ny280 := As0 hy280
       clear hy280
       have H' := As0 H
       clear H
       have q31_ := cN6 dL.out
       go_wp2_with (first | ((with_reducible refine Qb6 (b := .append) (xs := #[.tmp 68, .tmp 70]) rfl ?_); (try (refine Qck (by rfl) ?_; dsimp only)); at_builtin; refine Kd.R_append k180 (w0 := w) w.heap.size rfl (.tmp 68) (.tmp 70) 121 180 (.agg #[(.int .i64 0), (.int .i64 0), (.int .i64 0), (.int .i64 0), (.int .i64 0), (.int .i64 0)]) 48 rfl Tryz.underlying121 info180 rfl (by decide) (by omega) u7 aZ (⟨dG, aY, cL, aT, aY, aT⟩ : S180) [.int .i64 dG, .int .i64 aY, .int .i64 cL, .int .i64 aT, .int .i64 aY, .int .i64 aT] (fun k_ => k_ ≠ aW) (fun _ => False) rfl (by first | (go_simp; done) | (go_simp; rfl)) ?aP (fun _ hk => hk.elim) ?aF ?aO ?aB ?aS ?aL ?_; (case aP => exact k180_mkM _ _ _ (⟨dG, aY, cL, aT, aY, aT⟩ : S180)); (case aB => exact (BU HB.out)); (case aF => exact (fun k_ hk => Kd.freshB (g := aW) (o := .cells #[.int .i64 dG, .int .i64 aY, .int .i64 cL, .int .i64 aT, .int .i64 aY, .int .i64 aT] 180 (0, 0)) (kV dL) k_ hk)); (case aO => exact (RU (Kd.R_mono (RF aW 5 (RF aW 4 (Kd.R_mono dQ.out (fun k_ hk => (⟨hk, hk⟩ : _ ∧ k_ ≠ aW))) (.int .i64 aY)) (.int .i64 aT)) (fun _ hk => hk.1)))); (case aS => exact (Qbi (BU HB.out))); (case aL => have := LMc30.out; omega); intro v281 w32 ho hb hg hat; rw [← Ny280.out] at ho; replace dL := As0 (Qbu (g := aW) (o := .cells #[.int .i64 dG, .int .i64 aY, .int .i64 cL, .int .i64 aT, .int .i64 aY, .int .i64 aT] 180 (0, 0)) (kV dL) hg (Kd.R_away dQ.out (fun _ hk => hk))); replace HB := As0 (hb); have O282 := As0 (ho); clear dQ ho hb hg hat))
       go_roundg kj16
       case measure => have := HK1.out; have := HJ4.out; have := HJ16.out; omega
       case rel => exact ⟨(y280), (wrap64 (aY + 1)), (wrap64 (aT + 1)), eR, eR, H', ⟨by have := HK1.out; have := HJ4.out; have := HJ16.out; omega⟩, ⟨RU (Kd.R_mono O282.out (fun _ hk => trivial))⟩, ⟨BU HB.out⟩⟩
def align_Terms.f (a0_0 a0_1 a0_2 a0_3 a1_0 a1_1 a1_2 a1_3 : Int) : Option (Bool) := if a0_0 = a1_0 then (if a0_2 = a1_2 then (some (a0_3 == a1_3)) else (some false)) else (some false)
theorem align_Terms.calls (a0_0 a0_1 a0_2 a0_3 a1_0 a1_1 a1_2 a1_3 : Int) (r : Bool) (w : World) (h : align_Terms.f a0_0 a0_1 a0_2 a0_3 a1_0 a1_1 a1_2 a1_3 = some r) :
 Calls Tryz.prog 64 #[.agg #[.int .i64 a0_0, .int .i64 a0_1, .int .i64 a0_2, .int .i64 a0_3], .agg #[.int .i64 a1_0, .int .i64 a1_1, .int .i64 a1_2, .int .i64 a1_3]] w fun e w' => e = .returned (.bool r) ∧ Below w.heap.size w w' := by
 have hu37 := Tryz.underlying37
 have HB := As0 (Below.refl w.heap.size w)
 have H : (if a0_0 = a1_0 then (if a0_2 = a1_2 then (some (a0_3 == a1_3)) else (some false)) else (some false)) = some r := h
 clear h
 by_cases c3 : a0_0 = a1_0
 rotate_left
 ·rw [if_neg c3] at H
  have c3b0 : (a0_0 == a1_0) = false := beq_eq_false_iff_ne.mpr c3
  have c3b1 : (a0_0 != a1_0) = true := bne_iff_ne.mpr c3
  obtain rfl := Option.some.inj H
  go_enter Tryz.func64, Tryz.ntmps64
  go_wp2_with (first | ((with_reducible refine gD 2 ?_); refine bY HB.out ?_; intro gb283 w15 hg hb iM GW283 HB; clear hb hg) | ((with_reducible refine gD 3 ?_); refine bY HB.out ?_; intro gb284 w16 hg hb K284 GW284 HB; have N283_284 := pL hg iM; have N284_283 := pR hg iM; replace iM := kB iM hb; clear hb hg; have q18_ := cN4 iM.out; have q19_ := cN4 K284.out))
  go_ret
  exact ⟨oR, BU HB.out⟩
 rw [if_pos c3] at H
 have c3b0 : (a0_0 == a1_0) = true := beq_iff_eq.mpr c3
 have c3b1 : (a0_0 != a1_0) = false := bne_eq_false_iff_eq.mpr c3
 clear c3
 by_cases c4 : a0_2 = a1_2
 rotate_left
 ·rw [if_neg c4] at H
  have c4b0 : (a0_2 == a1_2) = false := beq_eq_false_iff_ne.mpr c4
  have c4b1 : (a0_2 != a1_2) = true := bne_iff_ne.mpr c4
  obtain rfl := Option.some.inj H
  go_enter Tryz.func64, Tryz.ntmps64
  go_wp2_with (first | ((with_reducible refine gD 2 ?_); refine bY HB.out ?_; intro gb283 w10 hg hb iM GW283 HB; clear hb hg) | ((with_reducible refine gD 3 ?_); refine bY HB.out ?_; intro gb284 w11 hg hb K284 GW284 HB; have N283_284 := pL hg iM; have N284_283 := pR hg iM; replace iM := kB iM hb; clear hb hg; have q13_ := cN4 iM.out; have q14_ := cN4 K284.out))
  go_ret
  exact ⟨oR, BU HB.out⟩
 rw [if_pos c4] at H
 have c4b0 : (a0_2 == a1_2) = true := beq_iff_eq.mpr c4
 have c4b1 : (a0_2 != a1_2) = false := bne_eq_false_iff_eq.mpr c4
 clear c4
 obtain rfl := Option.some.inj H
 go_enter Tryz.func64, Tryz.ntmps64
 go_wp2_with (first | ((with_reducible refine gD 2 ?_); refine bY HB.out ?_; intro gb283 w5 hg hb iM GW283 HB; clear hb hg) | ((with_reducible refine gD 3 ?_); refine bY HB.out ?_; intro gb284 w6 hg hb K284 GW284 HB; have N283_284 := pL hg iM; have N284_283 := pR hg iM; replace iM := kB iM hb; clear hb hg; have q8_ := cN4 iM.out; have q9_ := cN4 K284.out))
 go_ret
 exact ⟨oR, BU HB.out⟩
theorem cell_al {w : World} {p : Addr} {v : Value} (h : w.cell? p = some v) (o : Obj) : (w.alloc o).cell? p = some v := ((Qby (Below.refl w.heap.size w) o).cell (wblt w h)).trans h
theorem C47_on {w w' : World} {A : Option Addr} {l : List S47} (hC : Kd.C k47 w A l.length l) (h : ∀ ad, A = some ad → w'.heap[ad.block]? = w.heap[ad.block]?) : Kd.C k47 w' A l.length l := by
 obtain ⟨h1, h2, h3⟩ := hC
 refine ⟨h1, h2, fun hn => ?_⟩
 obtain ⟨ad, rfl, hc⟩ := h3 hn
 have hbl : ∀ n, (ad.add n).block = ad.block := fun n => by unfold Addr.add; split <;> rfl
 refine ⟨ad, rfl, fun j p hj => ?_⟩
 obtain ⟨c, hs, hK, hcell⟩ := hc j p hj
 obtain rfl := k47_open hK
 refine ⟨_, hs, k47_mk w' p, fun i u hu => ?_⟩
 exact (World.cell?_of_block (by rw [hbl]; exact h ad rfl)).trans (hcell i u hu)
def okF (n : Int) (x : Bs × Pan) : S87 := ⟨if (whyOf n x.2).1 = 0 then x.1.set else [], (whyOf n x.2).1, (whyOf n x.2).2, x.1.steps, x.1.largest⟩
def goF (k : Nat) (bc : List S41) (mc : List S59) (bt mt : S37) (rows : List S180) (inv : List S47) (most : Int) : Option S87 :=
 if inv.length < 8796093022208 ∧ Asc inv then (runF k bc mc bt mt rows ⟨inv, most, 0, (inv.length : Int)⟩).bind fun x => some (okF (mc.length : Int) x) else none
def Qec (k : Nat) (bc : List S41) (mc : List S59) (bt mt : S37) (inv : List S47) (most : Int) : Option S87 :=
 if (inv.length : Int) > most then some ⟨[], 24, 0, 0, (inv.length : Int)⟩
 else (Qal.f k bc mc).bind fun p => if p.2.2 = 0 then (align_Terms.f bt.f0 bt.f1 bt.f2 bt.f3 mt.f0 mt.f1 mt.f2 mt.f3).bind fun t => if t = true then goF k bc mc bt mt p.1 inv most else some ⟨[], 20, p.2.1, 0, (inv.length : Int)⟩
  else some ⟨[], p.2.2, p.2.1, 0, (inv.length : Int)⟩
def BlkPost (w : World) (r : S87) (e : Ending) (w' : World) : Prop := ∃ A c, e = .returned (.agg #[.slice A r.f0.length c, .int .i64 r.f1, .int .i64 r.f2, .int .i64 r.f3, .int .i64 r.f4]) ∧ r.f0.length ≤ c ∧ Kd.C k47 w' A r.f0.length r.f0 ∧ Ty w' A ∧ Below w.heap.size w w'
theorem block_calls (k : Nat) (A0 : Option Addr) (c0 : Nat) (bc : List S41) (bt : S37) (A1 : Option Addr) (c1 : Nat) (mc : List S59) (mt : S37) (A2 : Option Addr) (c2 : Nat) (inv : List S47) (most : Int) (r : S87) (w : World)
    (h0 : Kd.C k41 w A0 bc.length bc) (hc0 : bc.length ≤ c0) (h1 : Kd.C k59 w A1 mc.length mc) (hc1_ : mc.length ≤ c1) (h2 : Kd.C k47 w A2 inv.length inv) (hf : Qec k bc mc bt mt inv most = some r) :
    Calls Tryz.prog 33 #[.agg #[.slice A0 bc.length c0, .int .i64 bt.f0, .int .i64 bt.f1, .int .i64 bt.f2, .int .i64 bt.f3], .agg #[.slice A1 mc.length c1, .int .i64 mt.f0, .int .i64 mt.f1, .int .i64 mt.f2, .int .i64 mt.f3], .slice A2 inv.length c2, .int .i64 most] w (BlkPost w r) := by
 have hu35 := Tryz.underlying35
 have hu37 := Tryz.underlying37
 have hu39 := Tryz.underlying39
 have hu41 := Tryz.underlying41
 have hu44 := Tryz.underlying44
 have hu49 := Tryz.underlying49
 have hu54 := Tryz.underlying54
 have hu57 := Tryz.underlying57
 have hu59 := Tryz.underlying59
 have hu87 := Tryz.underlying87
 have hu121 := Tryz.underlying121
 have hu128 := Tryz.underlying128
 have hu180 := Tryz.underlying180
 have H0 := As0 h0
 have H1 := As0 h1
 have H2 := As0 h2
 have HB := As0 (Below.refl w.heap.size w)
 clear h0 h1 h2
 unfold Qec at hf
 by_cases hm : (inv.length : Int) > most
 ·rw [if_pos hm] at hf
  obtain rfl := Option.some.inj hf
  go_enter Tryz.func33, Tryz.ntmps33
  go_wp2_with (first
   | ((with_reducible refine gD 4 ?_); refine bX ?_; intro gB hg w1 aC hb; have B := As0 aC; have GB := As0 (by rw [hg]; exact Qbi (BU HB.out) : w.heap.size ≤ gB); skip; replace HB := sB HB hb; clear hb aC hg)
   | ((with_reducible refine gD 5 ?_); refine bX ?_; intro gM hg w2 aC hb; have M := As0 aC; have GM := As0 (by rw [hg]; exact Qbi (BU HB.out) : w.heap.size ≤ gM); replace B := As0 (Qbg B.out hb); replace HB := sB HB hb; clear hb aC hg)
   | ((with_reducible refine gD 8 ?_); refine bX ?_; intro gO hg w3 aC hb; have O := As0 aC; have GO := As0 (by rw [hg]; exact Qbi (BU HB.out) : w.heap.size ≤ gO); replace B := As0 (Qbg B.out hb); replace M := As0 (Qbg M.out hb); replace HB := sB HB hb; (obtain ⟨b0, b1, b2, b3, b4, bf0, bf1, bf2, bf3, bf4⟩ := cN5 B.out); (obtain ⟨m0, m1, m2, m3, m4, mf0, mf1, mf2, mf3, mf4⟩ := cN5 M.out); clear hb aC hg)
   | ((with_reducible refine Qcb (.store 87 (.tmp 8) (.tmp 20)) rfl ?_); go_loud (refine Qae rfl rfl 87 _ _ rfl gO #[.slice none 0 0, .int .i64 24, .int .i64 0, .int .i64 0, .int .i64 (inv.length : Int)] rfl rfl 87 #[.slice none 0 0, .int .i64 0, .int .i64 0, .int .i64 0, .int .i64 0] (bU O.out) (by kernel_rfl) rfl (by kernel_rfl) ?_); intro w6 hg ho hB; replace HB := As0 (hB _ _ GO.out (BU HB.out)); replace O := As0 hg; clear hg ho hB))
  exact bodyPost_ret (results_cell_row rfl _ _ gO 87 #[.slice none 0 0, .int .i64 24, .int .i64 0, .int .i64 0, .int .i64 (inv.length : Int)] (0, 0) _ rfl (bU O.out) hu87 rfl (by kernel_rfl)) rfl ⟨none, 0, rfl, Nat.le_refl _, Kd.C_nil _ _, fun ad e => (by cases e), BU HB.out⟩
 ·rw [if_neg hm] at hf
  obtain ⟨⟨rows, pa, pw⟩, ha, hx⟩ := Option.bind_eq_some_iff.mp hf
  clear hf
  by_cases hp : pw = 0
  ·rw [if_pos hp] at hx
   subst hp
   obtain ⟨tt, ht, hx⟩ := Option.bind_eq_some_iff.mp hx
   cases tt with
   | false =>
    obtain rfl := Option.some.inj (show some _ = some r from hx)
    go_enter Tryz.func33, Tryz.ntmps33
    go_wp2_with (first
     | ((with_reducible refine gD 4 ?_); refine bX ?_; intro gB hg w1 aC hb; have B := As0 aC; have GB := As0 (by rw [hg]; exact Qbi (BU HB.out) : w.heap.size ≤ gB); skip; replace HB := sB HB hb; clear hb aC hg)
     | ((with_reducible refine gD 5 ?_); refine bX ?_; intro gM hg w2 aC hb; have M := As0 aC; have GM := As0 (by rw [hg]; exact Qbi (BU HB.out) : w.heap.size ≤ gM); replace B := As0 (Qbg B.out hb); replace HB := sB HB hb; clear hb aC hg)
     | ((with_reducible refine gD 8 ?_); refine bX ?_; intro gO hg w3 aC hb; have O := As0 aC; have GO := As0 (by rw [hg]; exact Qbi (BU HB.out) : w.heap.size ≤ gO); replace B := As0 (Qbg B.out hb); replace M := As0 (Qbg M.out hb); replace HB := sB HB hb; (obtain ⟨b0, b1, b2, b3, b4, bf0, bf1, bf2, bf3, bf4⟩ := cN5 B.out); (obtain ⟨m0, m1, m2, m3, m4, mf0, mf1, mf2, mf3, mf4⟩ := cN5 M.out); clear hb aC hg)
     | (go_at_call 63; refine (Qal.calls k A0 c0 bc A1 c1 mc rows pa _ _ (Kd.C_below H0.out (BU HB.out)) hc0 (Kd.C_below H1.out (BU HB.out)) hc1_ ha).mono ?_; rintro e w4 ⟨vr, rfl, ho, hb⟩; have HR := As0 (Kd.R_lower ho (Qbi (BU HB.out))); clear b0 b1 b2 b3 b4 bf0 bf1 bf2 bf3 bf4 m0 m1 m2 m3 m4 mf0 mf1 mf2 mf3 mf4; replace B := As0 (Qbg B.out hb); replace M := As0 (Qbg M.out hb); replace O := As0 (Qbg O.out hb); replace HB := sB HB hb; (obtain ⟨b0, b1, b2, b3, b4, bf0, bf1, bf2, bf3, bf4⟩ := cN5 B.out); (obtain ⟨m0, m1, m2, m3, m4, mf0, mf1, mf2, mf3, mf4⟩ := cN5 M.out); clear ho hb)
     | (go_at_call 64; refine (align_Terms.calls bt.f0 bt.f1 bt.f2 bt.f3 mt.f0 mt.f1 mt.f2 mt.f3 _ _ ht).mono ?_; rintro e w5 ⟨rfl, hb⟩; (try (replace HR := As0 (Kd.R_below (RU HR.out) hb))); clear b0 b1 b2 b3 b4 bf0 bf1 bf2 bf3 bf4 m0 m1 m2 m3 m4 mf0 mf1 mf2 mf3 mf4; replace B := As0 (Qbg B.out hb); replace M := As0 (Qbg M.out hb); replace O := As0 (Qbg O.out hb); replace HB := sB HB hb; (obtain ⟨b0, b1, b2, b3, b4, bf0, bf1, bf2, bf3, bf4⟩ := cN5 B.out); (obtain ⟨m0, m1, m2, m3, m4, mf0, mf1, mf2, mf3, mf4⟩ := cN5 M.out); clear hb)
     | ((with_reducible refine Qcb (.store 87 (.tmp 8) (.tmp 46)) rfl ?_); go_loud (refine Qae rfl rfl 87 _ _ rfl gO #[.slice none 0 0, .int .i64 20, .int .i64 pa, .int .i64 0, .int .i64 (inv.length : Int)] rfl rfl 87 #[.slice none 0 0, .int .i64 0, .int .i64 0, .int .i64 0, .int .i64 0] (bU O.out) (by kernel_rfl) rfl (by kernel_rfl) ?_); intro w6 hg ho hB; replace HB := As0 (hB _ _ GO.out (BU HB.out)); replace O := As0 hg; clear hg ho hB))
    exact bodyPost_ret (results_cell_row rfl _ _ gO 87 #[.slice none 0 0, .int .i64 20, .int .i64 pa, .int .i64 0, .int .i64 (inv.length : Int)] (0, 0) _ rfl (bU O.out) hu87 rfl (by kernel_rfl)) rfl ⟨none, 0, rfl, Nat.le_refl _, Kd.C_nil _ _, fun ad e => (by cases e), BU HB.out⟩
   | true =>
    replace hx : goF k bc mc bt mt rows inv most = some r := hx
    unfold goF at hx
    by_cases hla : inv.length < 8796093022208 ∧ Asc inv
    ·rw [if_pos hla] at hx
     obtain ⟨hlen, hasc⟩ := hla
     obtain ⟨x, hrun, hx⟩ := Option.bind_eq_some_iff.mp hx
     obtain rfl := Option.some.inj hx
     go_enter Tryz.func33, Tryz.ntmps33
     go_wp2_with (first
      | ((with_reducible refine gD 4 ?_); refine bX ?_; intro gB hg w1 aC hb; have B := As0 aC; have GB := As0 (by rw [hg]; exact Qbi (BU HB.out) : w.heap.size ≤ gB); skip; replace HB := sB HB hb; clear hb aC hg)
      | ((with_reducible refine gD 5 ?_); refine bX ?_; intro gM hg w2 aC hb; have M := As0 aC; have GM := As0 (by rw [hg]; exact Qbi (BU HB.out) : w.heap.size ≤ gM); replace B := As0 (Qbg B.out hb); replace HB := sB HB hb; clear hb aC hg)
      | ((with_reducible refine gD 8 ?_); refine bX ?_; intro gO hg w3 aC hb; have O := As0 aC; have GO := As0 (by rw [hg]; exact Qbi (BU HB.out) : w.heap.size ≤ gO); replace B := As0 (Qbg B.out hb); replace M := As0 (Qbg M.out hb); replace HB := sB HB hb; (obtain ⟨b0, b1, b2, b3, b4, bf0, bf1, bf2, bf3, bf4⟩ := cN5 B.out); (obtain ⟨m0, m1, m2, m3, m4, mf0, mf1, mf2, mf3, mf4⟩ := cN5 M.out); clear hb aC hg)
      | (go_at_call 63; refine (Qal.calls k A0 c0 bc A1 c1 mc rows pa _ _ (Kd.C_below H0.out (BU HB.out)) hc0 (Kd.C_below H1.out (BU HB.out)) hc1_ ha).mono ?_; rintro e w4 ⟨vr, rfl, ho, hb⟩; have HR := As0 (Kd.R_lower ho (Qbi (BU HB.out))); clear b0 b1 b2 b3 b4 bf0 bf1 bf2 bf3 bf4 m0 m1 m2 m3 m4 mf0 mf1 mf2 mf3 mf4; replace B := As0 (Qbg B.out hb); replace M := As0 (Qbg M.out hb); replace O := As0 (Qbg O.out hb); replace HB := sB HB hb; (obtain ⟨b0, b1, b2, b3, b4, bf0, bf1, bf2, bf3, bf4⟩ := cN5 B.out); (obtain ⟨m0, m1, m2, m3, m4, mf0, mf1, mf2, mf3, mf4⟩ := cN5 M.out); clear ho hb)
      | (go_at_call 64; refine (align_Terms.calls bt.f0 bt.f1 bt.f2 bt.f3 mt.f0 mt.f1 mt.f2 mt.f3 _ _ ht).mono ?_; rintro e w5 ⟨rfl, hb⟩; (try (replace HR := As0 (Kd.R_below (RU HR.out) hb))); clear b0 b1 b2 b3 b4 bf0 bf1 bf2 bf3 bf4 m0 m1 m2 m3 m4 mf0 mf1 mf2 mf3 mf4; replace B := As0 (Qbg B.out hb); replace M := As0 (Qbg M.out hb); replace O := As0 (Qbg O.out hb); replace HB := sB HB hb; (obtain ⟨b0, b1, b2, b3, b4, bf0, bf1, bf2, bf3, bf4⟩ := cN5 B.out); (obtain ⟨m0, m1, m2, m3, m4, mf0, mf1, mf2, mf3, mf4⟩ := cN5 M.out); clear hb)
      | (go_at_call 65; refine (Qem _ A2 c2 inv (Kd.C_below H2.out (BU HB.out)) hasc hlen).mono ?_; rintro e w6 ⟨vm, rfl, ho, hb⟩; (obtain ⟨A4, c4, e4, hc4, HC4⟩ := Kd.R_reads HR.out); subst e4; replace HR := As0 (Kd.C_below HC4 (Qbw (BU (Below.refl _ _)) hb)); (obtain ⟨A3, c3, e3, hc3, HC3⟩ := Kd.R_reads ho); subst e3; have HM3 := As0 ho; replace HC3 := As0 HC3; clear b0 b1 b2 b3 b4 bf0 bf1 bf2 bf3 bf4 m0 m1 m2 m3 m4 mf0 mf1 mf2 mf3 mf4; replace B := As0 (Qbg B.out hb); replace M := As0 (Qbg M.out hb); replace O := As0 (Qbg O.out hb); replace HB := sB HB hb; (obtain ⟨b0, b1, b2, b3, b4, bf0, bf1, bf2, bf3, bf4⟩ := cN5 B.out); (obtain ⟨m0, m1, m2, m3, m4, mf0, mf1, mf2, mf3, mf4⟩ := cN5 M.out); clear ho hb HC4)
      | ((with_reducible refine gD 53 ?_); go_loud (refine bX ?_); intro g hg w7 aC hb; have HK := As0 (show Ck w7 g ⟨inv, most, 0, (inv.length : Int)⟩ from ⟨A3, c3, aC, hc3, Kd.C_below HC3.out hb, fun ad e => (by subst e; have q := (Kd.R_bound HM3.out).1 ad.block rfl; have q2 := q.2.2.1; omega), (show Ty w6 A3 from fun ad e => (by subst e; obtain ⟨inner, ho⟩ := Kd.R_own HM3.out; exact Qdo ho ad.block rfl)).below hb⟩); have GE := As0 (Nat.le_of_eq hg.symm); have HG := As0 (by rw [hg]; exact Qbi HB.out : w.heap.size ≤ g); have HG6 := As0 hb; have NB := As0 (by have := Qbs B.out; omega : gB ≠ g); have NM := As0 (by have := Qbs M.out; omega : gM ≠ g); have NO := As0 (by have := Qbs O.out; omega : gO ≠ g); have C0 := As0 (Kd.C_below H0.out HB.out); have C1 := As0 (Kd.C_below H1.out HB.out); clear b0 b1 b2 b3 b4 bf0 bf1 bf2 bf3 bf4 m0 m1 m2 m3 m4 mf0 mf1 mf2 mf3 mf4; replace B := As0 (Qbg B.out hb); replace M := As0 (Qbg M.out hb); replace O := As0 (Qbg O.out hb); replace HB := sB HB hb; (obtain ⟨b0, b1, b2, b3, b4, bf0, bf1, bf2, bf3, bf4⟩ := cN5 B.out); (obtain ⟨m0, m1, m2, m3, m4, mf0, mf1, mf2, mf3, mf4⟩ := cN5 M.out); clear hb aC hg)
      | (go_at_call 66; refine (run_calls k g ⟨inv, most, 0, (inv.length : Int)⟩ A0 c0 bc bt A1 c1 mc mt A4 c4 rows x w6 _ HK.out HG6.out GE.out C0.out hc0 C1.out hc1_ HR.out hrun).mono ?_; rintro e w8 ⟨rfl, hk, hf⟩; replace HK := As0 hk; replace HB := As0 (hf.base HB.out HG.out HB.out.size); replace B := As0 (hf.blk B.out NB.out); replace M := As0 (hf.blk M.out NM.out); replace O := As0 (hf.blk O.out NO.out); clear b0 b1 b2 b3 b4 bf0 bf1 bf2 bf3 bf4 m0 m1 m2 m3 m4 mf0 mf1 mf2 mf3 mf4 hk hf))
     (obtain ⟨A9, c9, hg9, hc9, HC9, hne9⟩ := HK.out)
     (obtain ⟨q0, q1, q2, q3, f0, f1, f2, f3⟩ := cN4 hg9)
     obtain ⟨wy, hwy⟩ : ∃ y, y = (whyOf mc.length x.2).1 := ⟨_, rfl⟩
     obtain ⟨wa, hwa⟩ : ∃ y, y = (whyOf mc.length x.2).2 := ⟨_, rfl⟩
     rw [← hwy, ← hwa]
     have HWY := As0 hwy
     have HWA := As0 hwa
     clear hwy hwa
     have p2 : ∀ o : Obj, (w8.alloc o).cell? ⟨g, 2, none⟩ = some (.int .i64 x.1.steps) := fun o => cell_al q2 o
     have p3 : ∀ o : Obj, (w8.alloc o).cell? ⟨g, 3, none⟩ = some (.int .i64 x.1.largest) := fun o => cell_al q3 o
     go_region
     go_upto_if 74 with (fail)
     have hX := As0 (Qbm (Qc9 w8 (.cells #[.slice none 0 0, .int .i64 wy, .int .i64 wa, .int .i64 x.1.steps, .int .i64 x.1.largest] 87 (0, 0))))
     have hb9 := Qcx (Qby (Below.refl w8.heap.size w8) (.cells #[.slice none 0 0, .int .i64 wy, .int .i64 wa, .int .i64 x.1.steps, .int .i64 x.1.largest] 87 (0, 0)))
     have hgx : g ≠ w8.heap.size := Nat.ne_of_lt HK.out.lt
     have hgs := HB.out.size
     have hox := Qbs O.out
     clear p2 p3 q0 q1 q2 q3 f0 f1 f2 f3 hg9 hc9 HC9 hne9 A9 c9
     replace HB := As0 (Qbw HB.out hb9)
     replace HK := As0 (HK.out.below hb9)
     replace O := As0 (Qbg O.out hb9)
     clear B M hb9
     generalize hw9 : (w8.alloc (.cells #[.slice none 0 0, .int .i64 wy, .int .i64 wa, .int .i64 x.1.steps, .int .i64 x.1.largest] 87 (0, 0))).drew = w9 at *
     have GX : w.heap.size ≤ w8.heap.size := hgs
     have hxo : gO ≠ w8.heap.size := Nat.ne_of_lt hox
     clear hw9
     generalize w8.heap.size = gX at *
     have GX' := As0 GX
     (obtain ⟨A9, c9, hg9, hc9, HC9, hne9⟩ := HK.out)
     (obtain ⟨q0, q1, q2, q3, f0, f1, f2, f3⟩ := cN4 hg9)
     (obtain ⟨x0, x1, x2, x3, x4, y0, y1, y2, y3, y4⟩ := cN5 hX.out)
     have hC9 := As0 HC9
     have hOld := As0 O.out
     clear HC9 hg9
     by_cases hy : wy = 0
     ·have hyb : (wy == 0) = true := beq_iff_eq.mpr hy
      have hr : okF mc.length x = ⟨x.1.set, wy, wa, x.1.steps, x.1.largest⟩ := by unfold okF; rw [← HWY.out, ← HWA.out, if_pos hy]
      clear hy
      go_wp2_with ((with_reducible refine Qcb (.store 87 (.tmp 8) (.tmp 80)) rfl ?_); go_loud (refine Qae rfl rfl 87 _ _ rfl gO #[.slice A9 x.1.set.length c9, .int .i64 wy, .int .i64 wa, .int .i64 x.1.steps, .int .i64 x.1.largest] rfl rfl 87 #[.slice none 0 0, .int .i64 0, .int .i64 0, .int .i64 0, .int .i64 0] (Qe2 O.out hxo _) (by kernel_rfl) rfl (by kernel_rfl) ?_); intro wz hg ho hB; replace HB := As0 (hB _ _ GO.out (BU HB.out)); replace O := As0 hg; have HO_ := As0 ho; clear hg ho hB)
      refine bodyPost_ret (results_cell_row rfl _ _ gO 87 #[.slice A9 x.1.set.length c9, .int .i64 wy, .int .i64 wa, .int .i64 x.1.steps, .int .i64 x.1.largest] (0, 0) _ rfl (bU O.out) hu87 rfl (by kernel_rfl)) rfl ?_
      show BlkPost w (okF mc.length x) _ _
      rw [hr]
      have hsame : ∀ ad, A9 = some ad → wz.heap[ad.block]? = w9.heap[ad.block]? := by
       intro ad e
       obtain ⟨cs, hcs⟩ := hne9.2 ad e
       have n1 : ad.block ≠ gX := by rintro rfl; rw [hX.out] at hcs; injection hcs with hcs; injection hcs with h3 h4; cases h4
       have n2 : ad.block ≠ gO := by rintro rfl; rw [hOld.out] at hcs; injection hcs with hcs; injection hcs with h3 h4; cases h4
       exact (HO_.out _ n2).trans (Below.heap_setCell _ _ _ _ n1)
      exact ⟨A9, c9, rfl, hc9, C47_on hC9.out hsame, fun ad e => (by obtain ⟨cs, hcs⟩ := hne9.2 ad e; exact ⟨cs, (hsame ad e).trans hcs⟩), BU HB.out⟩
     ·have hyb : (wy == 0) = false := beq_eq_false_iff_ne.mpr hy
      have hr : okF mc.length x = ⟨[], wy, wa, x.1.steps, x.1.largest⟩ := by unfold okF; rw [← HWY.out, ← HWA.out, if_neg hy]
      clear hy
      go_wp2_with ((with_reducible refine Qcb (.store 87 (.tmp 8) (.tmp 80)) rfl ?_); go_loud (refine Qae rfl rfl 87 _ _ rfl gO #[.slice none 0 0, .int .i64 wy, .int .i64 wa, .int .i64 x.1.steps, .int .i64 x.1.largest] rfl rfl 87 #[.slice none 0 0, .int .i64 0, .int .i64 0, .int .i64 0, .int .i64 0] O.out (by kernel_rfl) rfl (by kernel_rfl) ?_); intro wz hg ho hB; replace HB := As0 (hB _ _ GO.out (BU HB.out)); replace O := As0 hg; have HO_ := As0 ho; clear hg ho hB)
      refine bodyPost_ret (results_cell_row rfl _ _ gO 87 #[.slice none 0 0, .int .i64 wy, .int .i64 wa, .int .i64 x.1.steps, .int .i64 x.1.largest] (0, 0) _ rfl (bU O.out) hu87 rfl (by kernel_rfl)) rfl ?_
      show BlkPost w (okF mc.length x) _ _
      rw [hr]
      exact ⟨none, 0, rfl, Nat.le_refl _, Kd.C_nil _ _, fun ad e => (by cases e), BU HB.out⟩
    ·rw [if_neg hla] at hx; cases hx
  ·rw [if_neg hp] at hx
   obtain rfl := Option.some.inj hx
   have hpb : (pw == 0) = false := beq_eq_false_iff_ne.mpr hp
   have hpc : (pw != 0) = true := bne_iff_ne.mpr hp
   go_enter Tryz.func33, Tryz.ntmps33
   go_wp2_with (first
    | ((with_reducible refine gD 4 ?_); refine bX ?_; intro gB hg w1 aC hb; have B := As0 aC; have GB := As0 (by rw [hg]; exact Qbi (BU HB.out) : w.heap.size ≤ gB); skip; replace HB := sB HB hb; clear hb aC hg)
    | ((with_reducible refine gD 5 ?_); refine bX ?_; intro gM hg w2 aC hb; have M := As0 aC; have GM := As0 (by rw [hg]; exact Qbi (BU HB.out) : w.heap.size ≤ gM); replace B := As0 (Qbg B.out hb); replace HB := sB HB hb; clear hb aC hg)
    | ((with_reducible refine gD 8 ?_); refine bX ?_; intro gO hg w3 aC hb; have O := As0 aC; have GO := As0 (by rw [hg]; exact Qbi (BU HB.out) : w.heap.size ≤ gO); replace B := As0 (Qbg B.out hb); replace M := As0 (Qbg M.out hb); replace HB := sB HB hb; (obtain ⟨b0, b1, b2, b3, b4, bf0, bf1, bf2, bf3, bf4⟩ := cN5 B.out); (obtain ⟨m0, m1, m2, m3, m4, mf0, mf1, mf2, mf3, mf4⟩ := cN5 M.out); clear hb aC hg)
    | (go_at_call 63; refine (Qal.calls k A0 c0 bc A1 c1 mc rows pa _ _ (Kd.C_below H0.out (BU HB.out)) hc0 (Kd.C_below H1.out (BU HB.out)) hc1_ ha).mono ?_; rintro e w4 ⟨vr, rfl, ho, hb⟩; have HR := As0 (Kd.R_lower ho (Qbi (BU HB.out))); clear b0 b1 b2 b3 b4 bf0 bf1 bf2 bf3 bf4 m0 m1 m2 m3 m4 mf0 mf1 mf2 mf3 mf4; replace B := As0 (Qbg B.out hb); replace M := As0 (Qbg M.out hb); replace O := As0 (Qbg O.out hb); replace HB := sB HB hb; (obtain ⟨b0, b1, b2, b3, b4, bf0, bf1, bf2, bf3, bf4⟩ := cN5 B.out); (obtain ⟨m0, m1, m2, m3, m4, mf0, mf1, mf2, mf3, mf4⟩ := cN5 M.out); clear ho hb)
    | ((with_reducible refine Qcb (.store 87 (.tmp 8) (.tmp 46)) rfl ?_); go_loud (refine Qae rfl rfl 87 _ _ rfl gO #[.slice none 0 0, .int .i64 pw, .int .i64 pa, .int .i64 0, .int .i64 (inv.length : Int)] rfl rfl 87 #[.slice none 0 0, .int .i64 0, .int .i64 0, .int .i64 0, .int .i64 0] (bU O.out) (by kernel_rfl) rfl (by kernel_rfl) ?_); intro w6 hg ho hB; replace HB := As0 (hB _ _ GO.out (BU HB.out)); replace O := As0 hg; clear hg ho hB))
   exact bodyPost_ret (results_cell_row rfl _ _ gO 87 #[.slice none 0 0, .int .i64 pw, .int .i64 pa, .int .i64 0, .int .i64 (inv.length : Int)] (0, 0) _ rfl (bU O.out) hu87 rfl (by kernel_rfl)) rfl ⟨none, 0, rfl, Nat.le_refl _, Kd.C_nil _ _, fun ad e => (by cases e), BU HB.out⟩
def Qes (d : Code) : List Bool → Code → Code
 | [], _ => d
 | false :: l, .seq a b => .seq (Qes d l a) b
 | true :: l, .seq a b => .seq a (Qes d l b)
 | _ :: l, .block i c => .block i (Qes d l c)
 | _ :: l, .loop c => .loop (Qes d l c)
 | _ :: l, .scope c => .scope (Qes d l c)
 | _ :: _, c => c
def On (g : Nat) (w W : World) : Prop := (∀ i, i ≠ g → W.heap[i]? = w.heap[i]?) ∧ ∀ B w0, B ≤ g → Below B w0 w → Below B w0 W
theorem On.refl (g : Nat) (w : World) : On g w w := ⟨fun _ _ => rfl, fun _ _ _ h => h⟩
theorem On.set {g : Nat} {w W : World} (h : On g w W) (j : Nat) (u : Value) : On g w (W.setCell ⟨g, j, none⟩ u) := ⟨fun i hi => (Below.heap_setCell W _ u i hi).trans (h.1 i hi), fun B w0 hB hb => have q := h.2 B w0 hB hb; ⟨q.os, q.tape, q.output, by simpa using q.size, fun k hk => (Below.heap_setCell W _ u k (by show k ≠ g; omega)).trans (q.block k hk)⟩⟩
theorem On.drew {g : Nat} {w W : World} (h : On g w W) : On g w W.drew := ⟨h.1, fun B w0 hB hb => bd1 (h.2 B w0 hB hb)⟩
theorem Ci_on {g : Nat} {w w' : World} {A : Option Addr} {l : List Int} (hC : Kd.C (Kd.int .i64) w A l.length l) (ho : On g w w') (hne : ∀ ad, A = some ad → ad.block ≠ g) : Kd.C (Kd.int .i64) w' A l.length l := by
 obtain ⟨h1, h2, h3⟩ := hC
 refine ⟨h1, h2, fun hn => ?_⟩
 obtain ⟨ad, rfl, hc⟩ := h3 hn
 have hbl : ∀ n, (ad.add n).block = ad.block := fun n => by unfold Addr.add; split <;> rfl
 refine ⟨ad, rfl, fun j p hj => ?_⟩
 obtain ⟨c, hs, hK, hcell⟩ := hc j p hj
 refine ⟨c, hs, hK, fun i u hu => ?_⟩
 exact (World.cell?_of_block (by rw [hbl]; exact ho.1 _ (hne ad rfl))).trans (hcell i u hu)
def OutR (w : World) (A : Option Addr) (l : List S47) : Prop := Kd.C k47 w A l.length l ∧ Ty w A
theorem OutR.below {w w' : World} {A : Option Addr} {l : List S47} (h : OutR w A l) (hb : Below w.heap.size w w') : OutR w' A l := ⟨Kd.C_below h.1 hb, h.2.below hb⟩
theorem OutR.on {g t : Nat} {cs : Array Value} {w w' : World} {A : Option Addr} {l : List S47} (h : OutR w A l) (ho : On g w w') (hg : w.heap[g]? = some (.cells cs t (0, 0))) (ht : t ≠ 47) : OutR w' A l := by
 have hs : ∀ ad, A = some ad → w'.heap[ad.block]? = w.heap[ad.block]? := by
  intro ad e
  obtain ⟨cs2, h2⟩ := h.2 ad e
  refine ho.1 _ ?_
  rintro rfl
  rw [hg] at h2
  injection h2 with h2; injection h2 with h3 h4
  exact ht h4
 exact ⟨C47_on h.1 hs, fun ad e => let ⟨cs2, h2⟩ := h.2 ad e; ⟨cs2, (hs ad e).trans h2⟩⟩
theorem OutR.c {w : World} {A : Option Addr} {l : List S47} (h : OutR w A l) : Kd.C k47 w A l.length l := h.1
theorem addB (ad : Addr) (n : Nat) : (ad.add n).block = ad.block := by unfold Addr.add; split <;> rfl
theorem OutR.on' {g : Nat} {w w' : World} {A : Option Addr} {l : List S47} (h : OutR w A l) (ho : On g w w') (hne : ∀ ad, A = some ad → ad.block ≠ g) : OutR w' A l :=
 ⟨C47_on h.1 fun ad e => ho.1 _ (hne ad e), fun ad e => let ⟨cs2, h2⟩ := h.2 ad e; ⟨cs2, (ho.1 _ (hne ad e)).trans h2⟩⟩
theorem put5 {w : World} {g t : Nat} {a0 a1 a2 a3 a4 : Value} (h : w.heap[g]? = some (.cells #[a0, a1, a2, a3, a4] t (0, 0))) (b0 b1 b2 b3 b4 : Value) : (((((w.setCell ⟨g, 0, none⟩ b0).setCell ⟨g, 1, none⟩ b1).setCell ⟨g, 2, none⟩ b2).setCell ⟨g, 3, none⟩ b3).setCell ⟨g, 4, none⟩ b4).heap[g]? = some (.cells #[b0, b1, b2, b3, b4] t (0, 0)) :=
 Qb5 (cs := #[b0, b1, b2, b3, a4]) (Qb5 (cs := #[b0, b1, b2, a3, a4]) (Qb5 (cs := #[b0, b1, a2, a3, a4]) (Qb5 (cs := #[b0, a1, a2, a3, a4]) (Qb5 (cs := #[a0, a1, a2, a3, a4]) h 0 _ rfl) 1 _ rfl) 2 _ rfl) 3 _ rfl) 4 _ rfl
theorem put7a {w : World} {g t : Nat} {a0 a1 a2 a3 a4 a5 a6 : Value} (h : w.heap[g]? = some (.cells #[a0, a1, a2, a3, a4, a5, a6] t (0, 0))) (b3 b5 b6 : Value) : (((w.setCell ⟨g, 3, none⟩ b3).setCell ⟨g, 5, none⟩ b5).setCell ⟨g, 6, none⟩ b6).heap[g]? = some (.cells #[a0, a1, a2, b3, a4, b5, b6] t (0, 0)) :=
 Qb5 (cs := #[a0, a1, a2, b3, a4, b5, a6]) (Qb5 (cs := #[a0, a1, a2, b3, a4, a5, a6]) (Qb5 (cs := #[a0, a1, a2, a3, a4, a5, a6]) h 3 _ rfl) 5 _ rfl) 6 _ rfl
theorem put7b {w : World} {g t : Nat} {a0 a1 a2 a3 a4 a5 a6 : Value} (h : w.heap[g]? = some (.cells #[a0, a1, a2, a3, a4, a5, a6] t (0, 0))) (b0 b1 b2 : Value) : (((w.setCell ⟨g, 0, none⟩ b0).setCell ⟨g, 1, none⟩ b1).setCell ⟨g, 2, none⟩ b2).heap[g]? = some (.cells #[b0, b1, b2, a3, a4, a5, a6] t (0, 0)) :=
 Qb5 (cs := #[b0, b1, a2, a3, a4, a5, a6]) (Qb5 (cs := #[b0, a1, a2, a3, a4, a5, a6]) (Qb5 (cs := #[a0, a1, a2, a3, a4, a5, a6]) h 0 _ rfl) 1 _ rfl) 2 _ rfl
theorem put7c {w : World} {g t : Nat} {a0 a1 a2 a3 a4 a5 a6 : Value} (h : w.heap[g]? = some (.cells #[a0, a1, a2, a3, a4, a5, a6] t (0, 0))) (b4 b5 : Value) : ((w.setCell ⟨g, 4, none⟩ b4).setCell ⟨g, 5, none⟩ b5).heap[g]? = some (.cells #[a0, a1, a2, a3, b4, b5, a6] t (0, 0)) :=
 Qb5 (cs := #[a0, a1, a2, a3, b4, a5, a6]) (Qb5 (cs := #[a0, a1, a2, a3, a4, a5, a6]) h 4 _ rfl) 5 _ rfl
def nextR (r : S51) (x : S87) : S51 := ⟨r.f0, r.f1, r.f2, wrap64 (r.f3 + 1), r.f4, wrap64 (r.f5 + x.f3), if r.f6 < x.f4 then x.f4 else r.f6⟩
def failR (r : S51) (y i j : Int) : S51 := ⟨y, i, j, r.f3, r.f4, r.f5, r.f6⟩
def edgeR (r : S51) (n m : Nat) : S51 := ⟨r.f0, r.f1, r.f2, r.f3, wrap64 (r.f4 + 1), wrap64 (wrap64 (wrap64 (r.f5 + 1) + (n : Int)) + (m : Int)), r.f6⟩
def edgesF (k i : Nat) (Wl : List (List S47)) (out : List S47) : List Int → Nat → S51 → (S51 → Option S51) → Option S51
 | [], _, r, K => K r
 | tg :: t, j, r, K =>
  if 0 ≤ tg ∧ tg < (Wl.length : Int) then (edge_Implies.f k out (Qao Wl tg)).bind fun p =>
   if p.2.2 = 0 then edgesF k i Wl out t (j + 1) (edgeR r out.length (Qao Wl tg).length) K
   else some (failR (edgeR r out.length (Qao Wl tg).length) p.2.2 (i : Int) (j : Int))
  else none
def Qdg (k : Nat) (TB : List S57) (Wl : List (List S47)) : List S39 → Nat → S51 → Option S51
 | [], _, r => some r
 | b :: t, i, r =>
  if (i : Int) < (TB.length : Int) ∧ (i : Int) < (Wl.length : Int) then
   (Qec k b.f0 (Qaq TB i).f0 b.f1 (Qaq TB i).f1 (Qao Wl i) 1048576).bind fun x =>
    if x.f1 = 0 then (source_Successors.f b.f1.f0 b.f1.f1 b.f1.f2 b.f1.f3).bind fun tg =>
     edgesF k i Wl x.f0 tg 0 (nextR r x) fun r2 => Qdg k TB Wl t (i + 1) r2
    else some (failR (nextR r x) x.f1 (i : Int) x.f2)
  else none
def Qeb (k : Nat) (sa sr : Int) (SB : List S39) (ta tr ts : Int) (TB : List S57) (Wl : List (List S47)) : Option S51 :=
 (Qbc.f k sa sr SB ta tr ts TB Wl).bind fun y => if y = 0 then
  (Qax.f k sa sr SB ta tr ts TB Wl).bind fun p => if p.1 = 0 then Qdg k TB Wl SB 0 ⟨p.1, p.2.1, p.2.2.1, p.2.2.2.1, p.2.2.2.2.1, p.2.2.2.2.2.1, p.2.2.2.2.2.2⟩
   else some ⟨p.1, p.2.1, p.2.2.1, p.2.2.2.1, p.2.2.2.2.1, p.2.2.2.2.2.1, p.2.2.2.2.2.2⟩
 else some ⟨y, 0, 0, 0, 0, 0, 0⟩
theorem fin23 {ops : Array Oper} {id : Nat} {o0 o1 : Oper} {R : Ending → World → Prop} {K : Act → World → Prop} {Q : Exit → Act → World → Prop} (a : Act) (W : World) (gO gR : Nat) (cs : Array Value)
    (hs : ops.size = 2) (h0 : ops[0]? = some o0) (h1 : ops[1]? = some o1) (e0 : o0.op = .load 51 (.tmp 4)) (e1 : o1.op = .store 51 (.tmp 2) (.tmp 122)) (d0 : o0.dst = some 122) (d1 : o1.dst = none) (q0 : o0.guard = none) (q1 : o1.guard = none)
    (hd : a.defers = []) (hsz : 122 < a.tmps.size) (h4 : a.eval (.tmp 4) = .pointer (some ⟨gR, 0, none⟩)) (h2 : a.eval (.tmp 2) = .pointer (some ⟨gO, 0, none⟩)) (hcs : cs.size = 7) (hone : cs.all (·.oneCell') = true)
    (hR : W.heap[gR]? = some (.cells cs 51 (0, 0))) {old : Array Value} (hold : old.size = 7) (hO : W.heap[gO]? = some (.cells old 51 (0, 0)))
    (hQ : ∀ W', (∀ B w0, B ≤ gO → Below B w0 W → Below B w0 W') → R (.returned (.agg cs)) W')
    (hK : ∀ a w, Code.ret.wp Tryz.prog (Exit.noGoto (bodyPost Tryz.prog Tryz.f14 R)) a w → K a w) : (Code.region id ops false).wp Tryz.prog (Exit.then K Q) a W := by
 have hi : (Tryz.prog.info? 51).map (·.size) = some cs.size := by rw [hcs]; kernel_rfl
 refine wp_region ?_
 have hr : List.range ops.size = [0, 1] := by rw [hs]; rfl
 rw [hr, wpOps_cons]
 unfold wpOp
 simp only [h0, Region.wanted, q0, if_true]
 left
 refine wp_load_row 51 (.tmp 4) e0 gR h4 51 cs (0, 0) _ hR Tryz.underlying51 rfl hi ?_
 rw [wpOps_cons]
 unfold wpOp
 simp only [h1, Region.wanted, q1, if_true]
 left
 have h2' : (a.put o0.dst (.agg cs)).eval (.tmp 2) = .pointer (some ⟨gO, 0, none⟩) := by rw [Act.eval_put (fun d e => by rw [d0] at e; injection e with e; subst e; simp)]; exact h2
 have hy : (a.put o0.dst (.agg cs)).eval (.tmp 122) = .agg cs := by rw [d0]; simp [Act.eval, Act.put, hsz]
 refine wp_store_row 51 (.tmp 2) (.tmp 122) e1 gO cs h2' hy 51 old hO hi (by rw [hold, hcs]) hone ?_
 rw [d1]
 refine hK _ _ (wp_ret ?_)
 show bodyPost Tryz.prog Tryz.f14 R .ret _ _
 refine ⟨by rw [d0]; exact hd, .agg cs, results_cell_row rfl _ _ gO 51 cs (0, 0) _ ?_ (setRow_heap W gO old cs 51 (0, 0) hO) Tryz.underlying51 rfl hi, hQ _ fun B w0 hB hb => below_setRow hb hB cs⟩
 have : (a.put o0.dst (.agg cs)).tmps.getD 2 undef = _ := h2'
 exact this
theorem check_calls (k : Nat) (sa sr : Int) (A0 : Option Addr) (c0 : Nat) (SB : List S39) (ta tr ts : Int) (A1 : Option Addr) (c1 : Nat) (TB : List S57) (A2 : Option Addr) (c2 : Nat) (Wl : List (List S47)) (x : S51) (w : World)
    (h0 : Kd.C k39 w A0 SB.length SB) (hc0 : SB.length ≤ c0) (h1 : Kd.C k57 w A1 TB.length TB) (hc1 : TB.length ≤ c1) (h2 : Kd.C (Kd.slice 47 k47) w A2 Wl.length Wl) (hc2 : Wl.length ≤ c2) (hf : Qeb k sa sr SB ta tr ts TB Wl = some x) :
    Calls Tryz.prog 14 #[.agg #[.int .i64 sa, .int .i64 sr, .slice A0 SB.length c0, .int .i64 ta, .int .i64 tr, .int .i64 ts, .slice A1 TB.length c1, .slice A2 Wl.length c2]] w fun e w' => e = .returned (.agg #[.int .i64 x.f0, .int .i64 x.f1, .int .i64 x.f2, .int .i64 x.f3, .int .i64 x.f4, .int .i64 x.f5, .int .i64 x.f6]) ∧ Below w.heap.size w w' := by
 have hu22 := Tryz.underlying22
 have hu24 := Tryz.underlying24
 have hu25 := Tryz.underlying25
 have hu27 := Tryz.underlying27
 have hu28 := Tryz.underlying28
 have hu30 := Tryz.underlying30
 have hu37 := Tryz.underlying37
 have hu39 := Tryz.underlying39
 have hu44 := Tryz.underlying44
 have hu47 := Tryz.underlying47
 have hu49 := Tryz.underlying49
 have hu51 := Tryz.underlying51
 have hu57 := Tryz.underlying57
 have hu87 := Tryz.underlying87
 have hu89 := Tryz.underlying89
 have hu91 := Tryz.underlying91
 have H0 := As0 h0
 have H1 := As0 h1
 have H2 := As0 h2
 have HM0 := As0 h0.2.1
 have HB := As0 (Below.refl w.heap.size w)
 clear h0 h1 h2
 obtain ⟨y, hv, hx⟩ := Option.bind_eq_some_iff.mp hf
 clear hf
 by_cases hy : y = 0
 ·rw [if_pos hy] at hx
  subst hy
  obtain ⟨⟨e0, e1, e2, e3, e4, e5, e6⟩, hbg, hx⟩ := Option.bind_eq_some_iff.mp hx
  by_cases he : e0 = 0
  ·rw [if_pos he] at hx
   subst he
   have H := As0 hx
   clear hx
   go_enter Tryz.func14, Tryz.ntmps14
   go_wp2_with (first
    | ((with_reducible refine gD 1 ?_); refine bX ?_; intro gC hg w1 aC hb; have C := As0 aC; have GC := As0 (by rw [hg]; exact Qbi (BU HB.out) : w.heap.size ≤ gC); replace HB := sB HB hb; clear hb aC hg)
    | ((with_reducible refine gD 2 ?_); refine bX ?_; intro gO hg w2 aC hb; have O := As0 aC; have GO := As0 (by rw [hg]; exact Qbi (BU HB.out) : w.heap.size ≤ gO); have NCO := As0 (by have := Qbs C.out; omega : gC ≠ gO); replace C := As0 (Qbg C.out hb); replace HB := sB HB hb; (obtain ⟨c_0, c_1, c_2, c_3, c_4, c_5, c_6, c_7, c_f0, c_f1, c_f2, c_f3, c_f4, c_f5, c_f6, c_f7⟩ := cN8 C.out); clear hb aC hg))
   go_step3
   go_wp2_with (first
    | (go_at_call 31; refine (Qbc.calls k sa sr A0 c0 SB ta tr ts A1 c1 TB A2 c2 Wl _ _ (Kd.C_below H0.out (BU HB.out)) hc0 (Kd.C_below H1.out (BU HB.out)) hc1 (Kd.C_below H2.out (BU HB.out)) hc2 hv).mono ?_; rintro e w3 ⟨rfl, hb⟩; clear c_0 c_1 c_2 c_3 c_4 c_5 c_6 c_7 c_f0 c_f1 c_f2 c_f3 c_f4 c_f5 c_f6 c_f7; replace C := As0 (Qbg C.out hb); replace O := As0 (Qbg O.out hb); replace HB := sB HB hb; (obtain ⟨c_0, c_1, c_2, c_3, c_4, c_5, c_6, c_7, c_f0, c_f1, c_f2, c_f3, c_f4, c_f5, c_f6, c_f7⟩ := cN8 C.out); clear hb)
    | (go_at_call 32; refine (Qax.calls k sa sr A0 c0 SB ta tr ts A1 c1 TB A2 c2 Wl _ _ _ _ _ _ _ _ (Kd.C_below H0.out (BU HB.out)) hc0 (Kd.C_below H1.out (BU HB.out)) hc1 (Kd.C_below H2.out (BU HB.out)) hc2 hbg).mono ?_; rintro e w4 ⟨rfl, hb⟩; clear c_0 c_1 c_2 c_3 c_4 c_5 c_6 c_7 c_f0 c_f1 c_f2 c_f3 c_f4 c_f5 c_f6 c_f7; replace C := As0 (Qbg C.out hb); replace O := As0 (Qbg O.out hb); replace HB := sB HB hb; (obtain ⟨c_0, c_1, c_2, c_3, c_4, c_5, c_6, c_7, c_f0, c_f1, c_f2, c_f3, c_f4, c_f5, c_f6, c_f7⟩ := cN8 C.out); clear hb)
    | ((with_reducible refine gD 4 ?_); refine bX ?_; intro gR hg w5 aC hb; have R := As0 aC; have GR := As0 (by rw [hg]; exact Qbi (BU HB.out) : w.heap.size ≤ gR); have NCR := As0 (by have := Qbs C.out; omega : gC ≠ gR); have NOR := As0 (by have := Qbs O.out; omega : gO ≠ gR); replace C := As0 (Qbg C.out hb); replace O := As0 (Qbg O.out hb); replace HB := sB HB hb; clear c_0 c_1 c_2 c_3 c_4 c_5 c_6 c_7 c_f0 c_f1 c_f2 c_f3 c_f4 c_f5 c_f6 c_f7; (obtain ⟨c_0, c_1, c_2, c_3, c_4, c_5, c_6, c_7, c_f0, c_f1, c_f2, c_f3, c_f4, c_f5, c_f6, c_f7⟩ := cN8 C.out); clear hb aC hg)
    | ((with_reducible refine Qcb (.store 51 (.tmp 4) (.tmp 19)) rfl ?_); go_loud (refine Qae rfl rfl 51 _ _ rfl gR #[.int .i64 0, .int .i64 e1, .int .i64 e2, .int .i64 e3, .int .i64 e4, .int .i64 e5, .int .i64 e6] rfl rfl 51 #[.int .i64 0, .int .i64 0, .int .i64 0, .int .i64 0, .int .i64 0, .int .i64 0, .int .i64 0] R.out (by kernel_rfl) rfl (by kernel_rfl) ?_); intro w6 hg ho hB; replace HB := As0 (hB _ _ GR.out (BU HB.out)); replace R := As0 hg; replace C := As0 ((ho _ NCR.out).trans C.out); replace O := As0 ((ho _ NOR.out).trans O.out); clear c_0 c_1 c_2 c_3 c_4 c_5 c_6 c_7 c_f0 c_f1 c_f2 c_f3 c_f4 c_f5 c_f6 c_f7; (obtain ⟨c_0, c_1, c_2, c_3, c_4, c_5, c_6, c_7, c_f0, c_f1, c_f2, c_f3, c_f4, c_f5, c_f6, c_f7⟩ := cN8 C.out); (obtain ⟨r_0, r_1, r_2, r_3, r_4, r_5, r_6, r_f0, r_f1, r_f2, r_f3, r_f4, r_f5, r_f6⟩ := cN7 R.out); clear hg ho hB))
   go_step3
   go_wp2
   go_loopg [28] (SB.length + 1) (fun n v28 w' => ∃ (i : Nat) (e : S51), v28 = .int .i64 (i : Int) ∧ Qbf (i ≤ SB.length ∧ SB.length - i < n) ∧ Qbf (Qdg k TB Wl (SB.drop i) i e = some x) ∧ Qbf (Below w.heap.size w w') ∧ Qbf (w'.heap[gC]? = some (.cells #[.int .i64 sa, .int .i64 sr, .slice A0 SB.length c0, .int .i64 ta, .int .i64 tr, .int .i64 ts, .slice A1 TB.length c1, .slice A2 Wl.length c2] 30 (0, 0))) ∧ Qbf (w'.heap[gO]? = some (.cells #[.int .i64 0, .int .i64 0, .int .i64 0, .int .i64 0, .int .i64 0, .int .i64 0, .int .i64 0] 51 (0, 0))) ∧ Qbf (w'.heap[gR]? = some (.cells #[.int .i64 e.f0, .int .i64 e.f1, .int .i64 e.f2, .int .i64 e.f3, .int .i64 e.f4, .int .i64 e.f5, .int .i64 e.f6] 51 (0, 0))))
   case atStart => exact ⟨0, ⟨0, e1, e2, e3, e4, e5, e6⟩, rfl, ⟨by omega, by omega⟩, ⟨by rw [List.drop_zero]; exact H.out⟩, HB, C, O, R⟩
   case round =>
    clear c_0 c_1 c_2 c_3 c_4 c_5 c_6 c_7 c_f0 c_f1 c_f2 c_f3 c_f4 c_f5 c_f6 c_f7 r_0 r_1 r_2 r_3 r_4 r_5 r_6 r_f0 r_f1 r_f2 r_f3 r_f4 r_f5 r_f6 HB C O R H
    obtain ⟨i, e, rfl, HI, H, HB, C, O, R⟩ := hrel
    by_cases hi : i < SB.length
    ·have hlt : (i : Int) < (SB.length : Int) := by omega
     have h0' : (0 : Int) ≤ (i : Int) := by omega
     obtain ⟨adS, A0b, c0b, eS, hS0, hS1, hS2, hS3, hS4, hcb, hB0⟩ := Qed H0.out i h0' hlt
     cases eS
     have hw : wrap64 ((i : Int) + 1) = ((i + 1 : Nat) : Int) := by have := HM0.out; unfold wrap64; omega
     have hp : Qag SB (i : Int) = SB[i] := by simp [Qag, List.getD_eq_getElem?_getD, hi]
     have hdr : SB.drop i = SB[i] :: SB.drop (i + 1) := by rw [List.drop_eq_getElem_cons hi]
     have H' := H.out
     rw [hdr] at H'
     rw [hp] at hS0 hS1 hS2 hS3 hS4 hcb hB0
     simp only [Int.toNat_natCast] at hS0 hS1 hS2 hS3 hS4
     generalize SB[i] = p at hS0 hS1 hS2 hS3 hS4 hcb hB0 H'
     clear hp hdr
     simp only [Qdg] at H'
     by_cases hb2 : (i : Int) < (TB.length : Int) ∧ (i : Int) < (Wl.length : Int)
     ·rw [if_pos hb2] at H'
      obtain ⟨y1, y2⟩ := hb2
      obtain ⟨adT, A1m, c1m, eT, hT0, hT1, hT2, hT3, hT4, hcm, hM0⟩ := Qep H1.out i h0' y1
      cases eT
      obtain ⟨adW, A2w, c2w, eW, hW0, hcw, hP0⟩ := Qdk H2.out i h0' y2
      cases eW
      simp only [Int.toNat_natCast] at hT0 hT1 hT2 hT3 hT4 hW0
      have y0d : decide ((0 : Int) ≤ (i : Int)) = true := decide_eq_true h0'
      have y1d := decide_eq_true y1
      have y2d := decide_eq_true y2
      generalize Qaq TB (i : Int) = pm at hT0 hT1 hT2 hT3 hT4 hcm hM0 H'
      generalize Qao Wl (i : Int) = pw at hW0 hcw hP0 H'
      obtain ⟨xb, hxb, H'⟩ := Option.bind_eq_some_iff.mp H'
      have HX := As0 hxb
      have HH := As0 H'
      replace hB0 := As0 hB0
      replace hM0 := As0 hM0
      replace hP0 := As0 hP0
      clear hxb H'
      have hz0 := cl HB hS0
      have hz1 := cl HB hS1
      have hz2 := cl HB hS2
      have hz3 := cl HB hS3
      have hz4 := cl HB hS4
      (obtain ⟨c_0, c_1, c_2, c_3, c_4, c_5, c_6, c_7, c_f0, c_f1, c_f2, c_f3, c_f4, c_f5, c_f6, c_f7⟩ := cN8 C.out); (obtain ⟨r_0, r_1, r_2, r_3, r_4, r_5, r_6, r_f0, r_f1, r_f2, r_f3, r_f4, r_f5, r_f6⟩ := cN7 R.out)
      go_wp2_with (first
       | ((with_reducible refine gD 6 ?_); refine bX ?_; intro gB hg w7 aC hb; have B := As0 aC; have GB := As0 (by rw [hg]; exact Qbi (BU HB.out) : w.heap.size ≤ gB); have NCB := As0 (by have := Qbs C.out; omega : gC ≠ gB); have NOB := As0 (by have := Qbs O.out; omega : gO ≠ gB); have NRB := As0 (by have := Qbs R.out; omega : gR ≠ gB); replace C := As0 (Qbg C.out hb); replace O := As0 (Qbg O.out hb); replace R := As0 (Qbg R.out hb); replace HB := sB HB hb; clear hb aC hg)
       | ((with_reducible refine Qcb (.store 39 (.tmp 6) (.tmp 32)) rfl ?_); go_loud (refine Qae rfl rfl 39 _ _ rfl gB #[.slice A0b p.f0.length c0b, .int .i64 p.f1.f0, .int .i64 p.f1.f1, .int .i64 p.f1.f2, .int .i64 p.f1.f3] rfl rfl 39 #[.slice none 0 0, .int .i64 0, .int .i64 0, .int .i64 0, .int .i64 0] B.out (by kernel_rfl) rfl (by kernel_rfl) ?_); intro w8 hg ho hB; replace HB := As0 (hB _ _ GB.out (BU HB.out)); replace B := As0 hg; replace C := As0 ((ho _ NCB.out).trans C.out); replace O := As0 ((ho _ NOB.out).trans O.out); replace R := As0 ((ho _ NRB.out).trans R.out); clear hg ho hB))
      replace B := As0 (Qbm B.out)
      replace C := As0 (Qbm C.out)
      replace O := As0 (Qbm O.out)
      replace R := As0 (Qbm R.out)
      replace HB := As0 (bd1 HB.out)
      refine Qb1 (n := 15) (S := fun w' => w'.cell? ⟨gB, 0, none⟩ = some (.slice A0b p.f0.length c0b) ∧ w'.cell? ⟨gB, 1, none⟩ = some (.int .i64 p.f1.f0) ∧ w'.cell? ⟨gB, 2, none⟩ = some (.int .i64 p.f1.f1) ∧ w'.cell? ⟨gB, 3, none⟩ = some (.int .i64 p.f1.f2) ∧ w'.cell? ⟨gB, 4, none⟩ = some (.int .i64 p.f1.f3) ∧ w'.cell? ⟨gC, 6, none⟩ = some (.slice (some adT) TB.length c1) ∧ w'.cell? (adT.add (i * 5)) = some (.slice A1m pm.f0.length c1m) ∧ w'.cell? ⟨(adT.add (i * 5)).block, (adT.add (i * 5)).off + 1, none⟩ = some (.int .i64 pm.f1.f0) ∧ w'.cell? ⟨(adT.add (i * 5)).block, (adT.add (i * 5)).off + 2, none⟩ = some (.int .i64 pm.f1.f1) ∧ w'.cell? ⟨(adT.add (i * 5)).block, (adT.add (i * 5)).off + 3, none⟩ = some (.int .i64 pm.f1.f2) ∧ w'.cell? ⟨(adT.add (i * 5)).block, (adT.add (i * 5)).off + 4, none⟩ = some (.int .i64 pm.f1.f3) ∧ w'.cell? ⟨gC, 7, none⟩ = some (.slice (some adW) Wl.length c2) ∧ w'.cell? (adW.add i) = some (.slice A2w pw.length c2w)) (ds := [14]) (bb 15 0) (by kernel_rfl) rfl rfl ⟨(bc B 0), (bc B 1), (bc B 2), (bc B 3), (bc B 4), (bc C 6), (cl HB hT0), (cl HB hT1), (cl HB hT2), (cl HB hT3), (cl HB hT4), (bc C 7), (cl HB hW0)⟩ (fun aA => ?_)
      generalize w8.drew = wd at B C O R HB aA ⊢
      refine pu 1 34 (bb 15 2) ?_
      refine pu 2 35 (bb 15 6) ?_
      refine pu 4 37 (bb 15 22) ?_
      refine pu 7 40 (bb 15 150) ?_
      refine pu 9 42 (bb 15 662) ?_
      refine tu aA 0 33 (bb 15 663) ?_
      refine tu aA 3 36 (bb 15 671) ?_
      refine pu 5 38 (bb 15 703) ?_
      refine tu aA 6 39 (bb 15 767) ?_
      refine tu aA 8 41 (bb 15 1023) ?_
      refine pu 10 43 (bb 15 2047) ?_
      refine tu aA 11 44 (bb 15 4095) ?_
      refine join_ (σ := Option Addr × Nat × Nat) 1 (bb 15 16383) (fun s_ => [(45, .agg #[.slice s_.1 xb.f0.length s_.2.1, .int .i64 xb.f1, .int .i64 xb.f2, .int .i64 xb.f3, .int .i64 xb.f4]), (7, .pointer (some ⟨s_.2.2, 0, none⟩))]) (fun s_ w' => (w'.cell? ⟨gB, 0, none⟩ = some (.slice A0b p.f0.length c0b) ∧ w'.cell? ⟨gB, 1, none⟩ = some (.int .i64 p.f1.f0) ∧ w'.cell? ⟨gB, 2, none⟩ = some (.int .i64 p.f1.f1) ∧ w'.cell? ⟨gB, 3, none⟩ = some (.int .i64 p.f1.f2) ∧ w'.cell? ⟨gB, 4, none⟩ = some (.int .i64 p.f1.f3) ∧ w'.cell? ⟨gC, 6, none⟩ = some (.slice (some adT) TB.length c1) ∧ w'.cell? (adT.add (i * 5)) = some (.slice A1m pm.f0.length c1m) ∧ w'.cell? ⟨(adT.add (i * 5)).block, (adT.add (i * 5)).off + 1, none⟩ = some (.int .i64 pm.f1.f0) ∧ w'.cell? ⟨(adT.add (i * 5)).block, (adT.add (i * 5)).off + 2, none⟩ = some (.int .i64 pm.f1.f1) ∧ w'.cell? ⟨(adT.add (i * 5)).block, (adT.add (i * 5)).off + 3, none⟩ = some (.int .i64 pm.f1.f2) ∧ w'.cell? ⟨(adT.add (i * 5)).block, (adT.add (i * 5)).off + 4, none⟩ = some (.int .i64 pm.f1.f3) ∧ w'.cell? ⟨gC, 7, none⟩ = some (.slice (some adW) Wl.length c2) ∧ w'.cell? (adW.add i) = some (.slice A2w pw.length c2w)) ∧ xb.f0.length ≤ s_.2.1 ∧ Qbf (OutR w' s_.1 xb.f0) ∧ Qbf (w'.heap[s_.2.2]? = some (.cells #[.slice none 0 0, .int .i64 0, .int .i64 0, .int .i64 0, .int .i64 0] 87 (0, 0))) ∧ Qbf (w.heap.size ≤ s_.2.2) ∧ Qbf (Below w.heap.size w w') ∧ Qbf (w'.heap[gB]? = some (.cells #[.slice A0b p.f0.length c0b, .int .i64 p.f1.f0, .int .i64 p.f1.f1, .int .i64 p.f1.f2, .int .i64 p.f1.f3] 39 (0, 0))) ∧ Qbf (w'.heap[gC]? = some (.cells #[.int .i64 sa, .int .i64 sr, .slice (some adS) SB.length c0, .int .i64 ta, .int .i64 tr, .int .i64 ts, .slice (some adT) TB.length c1, .slice (some adW) Wl.length c2] 30 (0, 0))) ∧ Qbf (w'.heap[gO]? = some (.cells #[.int .i64 0, .int .i64 0, .int .i64 0, .int .i64 0, .int .i64 0, .int .i64 0, .int .i64 0] 51 (0, 0))) ∧ Qbf (w'.heap[gR]? = some (.cells #[.int .i64 e.f0, .int .i64 e.f1, .int .i64 e.f2, .int .i64 e.f3, .int .i64 e.f4, .int .i64 e.f5, .int .i64 e.f6] 51 (0, 0))) ∧ Qbf (gB ≠ s_.2.2) ∧ Qbf (gC ≠ s_.2.2) ∧ Qbf (gO ≠ s_.2.2) ∧ Qbf (gR ≠ s_.2.2)) ?_ ?_
      rotate_left
      ·intro hCont
       refine two_ (i := 12) (j := 13) (Ni := some 45) (Nj := some 7) (bb 15 8191) (bb 15 12287) rfl rfl rfl rfl (by kernel_rfl) (by decide) (by decide) (fun K hK => ?_) (fun K hK => ?_)
       ·skip
        refine gG Tryz.func33 #[.agg #[.slice A0b p.f0.length c0b, .int .i64 p.f1.f0, .int .i64 p.f1.f1, .int .i64 p.f1.f2, .int .i64 p.f1.f3], .agg #[.slice A1m pm.f0.length c1m, .int .i64 pm.f1.f0, .int .i64 pm.f1.f1, .int .i64 pm.f1.f2, .int .i64 pm.f1.f3], .slice A2w pw.length c2w, .int .i64 1048576] ?_
        with_reducible refine (block_calls k A0b c0b p.f0 p.f1 A1m c1m pm.f0 pm.f1 A2w c2w pw 1048576 xb _ (Kd.C_below hB0.out (BU HB.out)) hcb (Kd.C_below hM0.out (BU HB.out)) hcm (Kd.C_below hP0.out (BU HB.out)) HX.out).mono ?_
        rintro e w9 ⟨Ao, co, rfl, hco, hCo, hTy, hb⟩
        refine ⟨_, rfl, ?_⟩
        have HCo := As0 (show OutR w9 Ao xb.f0 from ⟨hCo, hTy⟩)
        clear hTy
        replace B := As0 (Qbg B.out hb)
        replace C := As0 (Qbg C.out hb)
        replace O := As0 (Qbg O.out hb)
        replace R := As0 (Qbg R.out hb)
        replace HB := sB HB hb
        clear hb hCo
        refine hK.out _ _ ⟨(bc B 0), (bc B 1), (bc B 2), (bc B 3), (bc B 4), (bc C 6), (cl HB hT0), (cl HB hT1), (cl HB hT2), (cl HB hT3), (cl HB hT4), (bc C 7), (cl HB hW0)⟩ (fun aA => ?_)
        clear hK K
        refine Qbz (a' := ?_) ?_ ?_
        rotate_left
        ·show Act.put _ (some 45) _ = _
         simp only [Act.put, List.setIfInBounds_toArray, List.set_cons_zero, List.set_cons_succ, Qbo, Qbp]
         rfl
        refine one_ (i := 13) (N := some 7) (bb 15 16383) rfl rfl (by kernel_rfl) (by decide) (fun K hK => ?_)
        refine value_ (w1 := ?_) (v := ?_) (by rfl) rfl ?_ ?_
        rotate_left 2
        ·go_simp
         constructor
         ·rfl
         ·rfl
        have X := As0 (Qc9 (w9) (.cells #[.slice none 0 0, .int .i64 0, .int .i64 0, .int .i64 0, .int .i64 0] 87 (0, 0)))
        have hb := Qby (Below.refl (w9).heap.size (w9)) (.cells #[.slice none 0 0, .int .i64 0, .int .i64 0, .int .i64 0, .int .i64 0] 87 (0, 0))
        have GX := As0 (Qbi (BU HB.out) : w.heap.size ≤ (w9).heap.size)
        have NBX := As0 (Nat.ne_of_lt (Qbs (w := w9) B.out) : gB ≠ (w9).heap.size)
        have NCX := As0 (Nat.ne_of_lt (Qbs (w := w9) C.out) : gC ≠ (w9).heap.size)
        have NOX := As0 (Nat.ne_of_lt (Qbs (w := w9) O.out) : gO ≠ (w9).heap.size)
        have NRX := As0 (Nat.ne_of_lt (Qbs (w := w9) R.out) : gR ≠ (w9).heap.size)
        replace B := As0 (Qbg B.out hb)
        replace C := As0 (Qbg C.out hb)
        replace O := As0 (Qbg O.out hb)
        replace R := As0 (Qbg R.out hb)
        replace HB := sB HB hb
        replace HCo := As0 (HCo.out.below hb)
        clear hb
        generalize (w9).alloc (.cells #[.slice none 0 0, .int .i64 0, .int .i64 0, .int .i64 0, .int .i64 0] 87 (0, 0)) = w10 at *
        generalize (w9).heap.size = gX at *
        refine hK.out _ _ ⟨(bc B 0), (bc B 1), (bc B 2), (bc B 3), (bc B 4), (bc C 6), (cl HB hT0), (cl HB hT1), (cl HB hT2), (cl HB hT3), (cl HB hT4), (bc C 7), (cl HB hW0)⟩ (fun aA => ?_)
        clear hK K
        refine Qbz (a' := ?_) ?_ ?_
        rotate_left
        ·show Act.put _ (some 7) _ = _
         simp only [Act.put, List.setIfInBounds_toArray, List.set_cons_zero, List.set_cons_succ, Qbo, Qbp]
         rfl
        exact Qbz (by simp only [Qda, Act.put, List.setIfInBounds_toArray, List.set_cons_zero, List.set_cons_succ]) (hCont (Ao, co, gX) _ ⟨aA, hco, HCo, X, GX, HB, B, C, O, R, NBX, NCX, NOX, NRX⟩)
       ·skip
        refine value_ (w1 := ?_) (v := ?_) (by rfl) rfl ?_ ?_
        rotate_left 2
        ·go_simp
         constructor
         ·rfl
         ·rfl
        have X := As0 (Qc9 (wd) (.cells #[.slice none 0 0, .int .i64 0, .int .i64 0, .int .i64 0, .int .i64 0] 87 (0, 0)))
        have hb := Qby (Below.refl (wd).heap.size (wd)) (.cells #[.slice none 0 0, .int .i64 0, .int .i64 0, .int .i64 0, .int .i64 0] 87 (0, 0))
        have GX := As0 (Qbi (BU HB.out) : w.heap.size ≤ (wd).heap.size)
        have NBX := As0 (Nat.ne_of_lt (Qbs (w := wd) B.out) : gB ≠ (wd).heap.size)
        have NCX := As0 (Nat.ne_of_lt (Qbs (w := wd) C.out) : gC ≠ (wd).heap.size)
        have NOX := As0 (Nat.ne_of_lt (Qbs (w := wd) O.out) : gO ≠ (wd).heap.size)
        have NRX := As0 (Nat.ne_of_lt (Qbs (w := wd) R.out) : gR ≠ (wd).heap.size)
        replace B := As0 (Qbg B.out hb)
        replace C := As0 (Qbg C.out hb)
        replace O := As0 (Qbg O.out hb)
        replace R := As0 (Qbg R.out hb)
        replace HB := sB HB hb
        clear hb
        generalize (wd).alloc (.cells #[.slice none 0 0, .int .i64 0, .int .i64 0, .int .i64 0, .int .i64 0] 87 (0, 0)) = w10 at *
        generalize (wd).heap.size = gX at *
        refine hK.out _ _ ⟨(bc B 0), (bc B 1), (bc B 2), (bc B 3), (bc B 4), (bc C 6), (cl HB hT0), (cl HB hT1), (cl HB hT2), (cl HB hT3), (cl HB hT4), (bc C 7), (cl HB hW0)⟩ (fun aA => ?_)
        clear hK K
        refine Qbz (a' := ?_) ?_ ?_
        rotate_left
        ·show Act.put _ (some 7) _ = _
         simp only [Act.put, List.setIfInBounds_toArray, List.set_cons_zero, List.set_cons_succ, Qbo, Qbp]
         rfl
        refine one_ (i := 12) (N := some 45) (bb 15 16383) rfl rfl (by kernel_rfl) (by decide) (fun K hK => ?_)
        refine gG Tryz.func33 #[.agg #[.slice A0b p.f0.length c0b, .int .i64 p.f1.f0, .int .i64 p.f1.f1, .int .i64 p.f1.f2, .int .i64 p.f1.f3], .agg #[.slice A1m pm.f0.length c1m, .int .i64 pm.f1.f0, .int .i64 pm.f1.f1, .int .i64 pm.f1.f2, .int .i64 pm.f1.f3], .slice A2w pw.length c2w, .int .i64 1048576] ?_
        with_reducible refine (block_calls k A0b c0b p.f0 p.f1 A1m c1m pm.f0 pm.f1 A2w c2w pw 1048576 xb _ (Kd.C_below hB0.out (BU HB.out)) hcb (Kd.C_below hM0.out (BU HB.out)) hcm (Kd.C_below hP0.out (BU HB.out)) HX.out).mono ?_
        rintro e w9 ⟨Ao, co, rfl, hco, hCo, hTy, hb⟩
        refine ⟨_, rfl, ?_⟩
        have HCo := As0 (show OutR w9 Ao xb.f0 from ⟨hCo, hTy⟩)
        clear hTy
        replace X := As0 (Qbg X.out hb)
        replace B := As0 (Qbg B.out hb)
        replace C := As0 (Qbg C.out hb)
        replace O := As0 (Qbg O.out hb)
        replace R := As0 (Qbg R.out hb)
        replace HB := sB HB hb
        clear hb hCo
        refine hK.out _ _ ⟨(bc B 0), (bc B 1), (bc B 2), (bc B 3), (bc B 4), (bc C 6), (cl HB hT0), (cl HB hT1), (cl HB hT2), (cl HB hT3), (cl HB hT4), (bc C 7), (cl HB hW0)⟩ (fun aA => ?_)
        clear hK K
        refine Qbz (a' := ?_) ?_ ?_
        rotate_left
        ·show Act.put _ (some 45) _ = _
         simp only [Act.put, List.setIfInBounds_toArray, List.set_cons_zero, List.set_cons_succ, Qbo, Qbp]
         rfl
        exact Qbz (by simp only [Qda, Act.put, List.setIfInBounds_toArray, List.set_cons_zero, List.set_cons_succ]) (hCont (Ao, co, gX) _ ⟨aA, hco, HCo, X, GX, HB, B, C, O, R, NBX, NCX, NOX, NRX⟩)
      clear HB B C O R
      rintro ⟨Ao, co, gX⟩ w10 ⟨aA, hco, HCo, X, GX, HB, B, C, O, R, NBX, NCX, NOX, NRX⟩
      dsimp only at hco HCo X GX NBX NCX NOX NRX ⊢
      (obtain ⟨x_0, x_1, x_2, x_3, x_4, x_f0, x_f1, x_f2, x_f3, x_f4⟩ := cN5 X.out)
      refine Qbz (a' := ?_) ?_ ?_
      rotate_left
      ·simp only [Qda, Act.put, List.setIfInBounds_toArray, List.set_cons_zero, List.set_cons_succ]
       rfl
      refine Qc7 (i := 14) (N := none) (bb 15 32767) rfl rfl (by kernel_rfl) (by decide) (fun K hK => ?_)
      refine skip_ (w1 := ?_) (by rfl) rfl ?_ ?_
      rotate_left
      ·go_simp
       rfl
      refine hK.out _ _ ?_
      clear hK K
      refine Qch (by kernel_rfl) ?_
      have hOx := ((((On.refl gX w10).set 0 (.slice Ao xb.f0.length co)).set 1 (.int .i64 xb.f1)).set 2 (.int .i64 xb.f2)).set 3 (.int .i64 xb.f3) |>.set 4 (.int .i64 xb.f4)
      have hx5 := put5 X.out (.slice Ao xb.f0.length co) (.int .i64 xb.f1) (.int .i64 xb.f2) (.int .i64 xb.f3) (.int .i64 xb.f4)
      generalize ((((w10.setCell ⟨gX, 0, none⟩ (.slice Ao xb.f0.length co)).setCell ⟨gX, 1, none⟩ (.int .i64 xb.f1)).setCell ⟨gX, 2, none⟩ (.int .i64 xb.f2)).setCell ⟨gX, 3, none⟩ (.int .i64 xb.f3)).setCell ⟨gX, 4, none⟩ (.int .i64 xb.f4) = w11 at hOx hx5 ⊢
      replace HCo := As0 (HCo.out.on hOx X.out (by decide))
      replace HB := As0 (hOx.2 _ _ GX.out HB.out)
      replace B := As0 ((hOx.1 _ NBX.out).trans B.out)
      replace C := As0 ((hOx.1 _ NCX.out).trans C.out)
      replace O := As0 ((hOx.1 _ NOX.out).trans O.out)
      replace R := As0 ((hOx.1 _ NRX.out).trans R.out)
      replace X := As0 hx5
      clear hx5 hOx x_0 x_1 x_2 x_3 x_4 x_f0 x_f1 x_f2 x_f3 x_f4 hS0 hS1 hS2 hS3 hS4 hz0 hz1 hz2 hz3 hz4 hT0 hT1 hT2 hT3 hT4 hW0 y0d y1d y2d hcb hcm hcw hB0 hM0 hP0 HX aA h0' hlt y1 y2
      (obtain ⟨x_0, x_1, x_2, x_3, x_4, x_f0, x_f1, x_f2, x_f3, x_f4⟩ := cN5 X.out)
      (obtain ⟨r_0, r_1, r_2, r_3, r_4, r_5, r_6, r_f0, r_f1, r_f2, r_f3, r_f4, r_f5, r_f6⟩ := cN7 R.out)
      as_aux_lemma =>
       have nrx := NRX.out
       have nrx' := nrx.symm
       obtain ⟨mx, hmx⟩ : ∃ mx, (if e.f6 < xb.f4 then xb.f4 else e.f6) = mx := ⟨_, rfl⟩
       have ncr := NCR.out
       have ncr' := ncr.symm
       have nbr := NRB.out
       have nbr' := nbr.symm
       go_wp2
       go_region
       go_upto_if 64 with (fail)
       obtain ⟨eN, heN⟩ : ∃ eN : S51, eN = nextR e xb := ⟨_, rfl⟩
       have hO_ := ((((On.refl gR w11).set 3 (.int .i64 (wrap64 (e.f3 + 1)))).set 5 (.int .i64 (wrap64 (e.f5 + xb.f3)))).set 6 (.int .i64 mx)).drew
       have hr_ := Qbm (put7a R.out (.int .i64 (wrap64 (e.f3 + 1))) (.int .i64 (wrap64 (e.f5 + xb.f3))) (.int .i64 mx))
       generalize ((((w11).setCell ⟨gR, 3, none⟩ (.int .i64 (wrap64 (e.f3 + 1)))).setCell ⟨gR, 5, none⟩ (.int .i64 (wrap64 (e.f5 + xb.f3)))).setCell ⟨gR, 6, none⟩ (.int .i64 mx)).drew = w12 at hO_ hr_ ⊢
       replace C := As0 ((hO_.1 _ NCR.out).trans C.out)
       replace O := As0 ((hO_.1 _ NOR.out).trans O.out)
       replace HCo := As0 (HCo.out.on hO_ R.out (by decide))
       replace B := As0 ((hO_.1 _ nbr').trans B.out)
       replace X := As0 ((hO_.1 _ nrx').trans X.out)
       replace R := As0 (show w12.heap[gR]? = some (.cells #[.int .i64 eN.f0, .int .i64 eN.f1, .int .i64 eN.f2, .int .i64 eN.f3, .int .i64 eN.f4, .int .i64 eN.f5, .int .i64 eN.f6] 51 (0, 0)) from by (have h6 : (nextR e xb).f6 = mx := hmx); rw [heN, h6]; exact hr_)
       replace HB := As0 (hO_.2 _ _ GR.out HB.out)
       replace HH := HH.out
       rw [← heN] at HH
       clear hmx hr_ hO_ heN x_0 x_1 x_2 x_3 x_4 x_f0 x_f1 x_f2 x_f3 x_f4 r_0 r_1 r_2 r_3 r_4 r_5 r_6 r_f0 r_f1 r_f2 r_f3 r_f4 r_f5 r_f6
       (obtain ⟨b_0, b_1, b_2, b_3, b_4, b_f0, b_f1, b_f2, b_f3, b_f4⟩ := cN5 B.out)
       as_aux_lemma =>
        by_cases hf1 : xb.f1 = 0
        ·rw [if_pos hf1] at HH
         have hf1b : (xb.f1 != 0) = false := bne_eq_false_iff_eq.mpr hf1
         clear hf1
         obtain ⟨tg, htg, HH⟩ := Option.bind_eq_some_iff.mp HH
         replace HH := As0 HH
         go_wp2_with (go_at_call 34; refine (source_Successors.calls p.f1.f0 p.f1.f1 p.f1.f2 p.f1.f3 tg _ htg).mono ?_; rintro e w13 ⟨vt, rfl, ho, hb⟩; (obtain ⟨At, ct, et, hct, hCt⟩ := Kd.R_reads ho); subst et; have HNt := As0 (show ∀ ad, At = some ad → ad.block ≠ gR from fun ad e => (by subst e; have q := ((Kd.R_bound ho).1 ad.block rfl).2.1; have q2 := Qbs R.out; omega)); have HCt := As0 hCt; clear ho hCt b_0 b_1 b_2 b_3 b_4 b_f0 b_f1 b_f2 b_f3 b_f4; replace HCo := As0 (HCo.out.below hb); replace C := As0 (Qbg C.out hb); replace O := As0 (Qbg O.out hb); replace R := As0 (Qbg R.out hb); replace X := As0 (Qbg X.out hb); replace HB := sB HB hb; clear hb)
         have HMt := As0 HCt.out.2.1
         go_loopg [77] (tg.length + 1) (fun n v77 w' => ∃ (j : Nat) (ei : S51), v77 = .int .i64 (j : Int) ∧ Qbf (j ≤ tg.length ∧ tg.length - j < n) ∧ Qbf (edgesF k i Wl xb.f0 (tg.drop j) j ei (fun r2 => Qdg k TB Wl (SB.drop (i + 1)) (i + 1) r2) = some x) ∧ Qbf (Below w.heap.size w w') ∧ Qbf (w'.heap[gC]? = some (.cells #[.int .i64 sa, .int .i64 sr, .slice (some adS) SB.length c0, .int .i64 ta, .int .i64 tr, .int .i64 ts, .slice (some adT) TB.length c1, .slice (some adW) Wl.length c2] 30 (0, 0))) ∧ Qbf (w'.heap[gO]? = some (.cells #[.int .i64 0, .int .i64 0, .int .i64 0, .int .i64 0, .int .i64 0, .int .i64 0, .int .i64 0] 51 (0, 0))) ∧ Qbf (w'.heap[gR]? = some (.cells #[.int .i64 ei.f0, .int .i64 ei.f1, .int .i64 ei.f2, .int .i64 ei.f3, .int .i64 ei.f4, .int .i64 ei.f5, .int .i64 ei.f6] 51 (0, 0))) ∧ Qbf (w'.heap[gX]? = some (.cells #[.slice Ao xb.f0.length co, .int .i64 xb.f1, .int .i64 xb.f2, .int .i64 xb.f3, .int .i64 xb.f4] 87 (0, 0))) ∧ Qbf (OutR w' Ao xb.f0) ∧ Qbf (Kd.C (Kd.int .i64) w' At tg.length tg))
         case atStart => exact ⟨0, eN, rfl, ⟨by omega, by omega⟩, ⟨by rw [List.drop_zero]; exact HH.out⟩, ⟨BU HB.out⟩, C, O, R, X, HCo, HCt⟩
         case round =>
          clear HB C O R X HCo HCt HH
          obtain ⟨j, ei, rfl, HJ, HH, HB, C, O, R, X, HCo, HCt⟩ := hrel
          as_aux_lemma =>
           by_cases hj : j < tg.length
           ·have hjlt : (j : Int) < (tg.length : Int) := by omega
            have hj0 : (0 : Int) ≤ (j : Int) := by omega
            obtain ⟨adt, et, ht0⟩ := Kd.at_int HCt.out j hj0 hjlt
            cases et
            simp only [Int.toNat_natCast] at ht0
            have hwj : wrap64 ((j : Int) + 1) = ((j + 1 : Nat) : Int) := by have := HMt.out; unfold wrap64; omega
            have hpt : rd tg (j : Int) = tg[j] := by simp [rd, List.getD_eq_getElem?_getD, hj]
            have hdt : tg.drop j = tg[j] :: tg.drop (j + 1) := by rw [List.drop_eq_getElem_cons hj]
            have H' := HH.out
            rw [hdt] at H'
            rw [hpt] at ht0
            generalize tg[j] = tv at ht0 H'
            clear hpt hdt
            simp only [edgesF] at H'
            by_cases hb3 : 0 ≤ tv ∧ tv < (Wl.length : Int)
            ·rw [if_pos hb3] at H'
             obtain ⟨z1, z2⟩ := hb3
             obtain ⟨adW2, A2q, c2q, eW2, hq0, hcq, hQ0⟩ := Qdk H2.out tv z1 z2
             cases eW2
             have z1d := decide_eq_true z1
             have z2d := decide_eq_true z2
             have hn4 : (adW.add tv.toNat).block ≠ gR := by have q1 := wblt w hq0; have q2 := GR.out; omega
             have hqw := cl HB hq0
             generalize Qao Wl tv = wq at hq0 hcq hQ0 hqw H'
             obtain ⟨⟨p0, p1, y⟩, hed, H'⟩ := Option.bind_eq_some_iff.mp H'
             replace hQ0 := As0 hQ0
             (obtain ⟨x_0, x_1, x_2, x_3, x_4, x_f0, x_f1, x_f2, x_f3, x_f4⟩ := cN5 X.out)
             (obtain ⟨r_0, r_1, r_2, r_3, r_4, r_5, r_6, r_f0, r_f1, r_f2, r_f3, r_f4, r_f5, r_f6⟩ := cN7 R.out)
             (obtain ⟨c_0, c_1, c_2, c_3, c_4, c_5, c_6, c_7, c_f0, c_f1, c_f2, c_f3, c_f4, c_f5, c_f6, c_f7⟩ := cN8 C.out)
             have hqs : ∀ u : Value, (wr.setCell ⟨gR, 4, none⟩ u).cell? (adW.add tv.toNat) = some (.slice A2q wq.length c2q) := fun u => (World.cell?_setCell_other _ _ _ _ (fun e => hn4 (congrArg Addr.block e).symm)).trans hqw
             go_wp2
             go_region
             go_upto_region 18 with (fail)
             obtain ⟨eN, heN⟩ : ∃ eN : S51, eN = edgeR ei xb.f0.length wq.length := ⟨_, rfl⟩
             have hO_ := (((On.refl gR wr).set 4 (.int .i64 (wrap64 (ei.f4 + 1)))).set 5 (.int .i64 (wrap64 (wrap64 (wrap64 (ei.f5 + 1) + (xb.f0.length : Int)) + (wq.length : Int))))).drew
             have hr_ := Qbm (put7c R.out (.int .i64 (wrap64 (ei.f4 + 1))) (.int .i64 (wrap64 (wrap64 (wrap64 (ei.f5 + 1) + (xb.f0.length : Int)) + (wq.length : Int)))))
             generalize ((wr.setCell ⟨gR, 4, none⟩ (.int .i64 (wrap64 (ei.f4 + 1)))).setCell ⟨gR, 5, none⟩ (.int .i64 (wrap64 (wrap64 (wrap64 (ei.f5 + 1) + (xb.f0.length : Int)) + (wq.length : Int))))).drew = wd at hO_ hr_ ⊢
             replace HCo := As0 (HCo.out.on hO_ R.out (by decide))
             replace HCt := As0 (Ci_on HCt.out hO_ HNt.out)
             replace C := As0 ((hO_.1 _ NCR.out).trans C.out)
             replace O := As0 ((hO_.1 _ NOR.out).trans O.out)
             replace X := As0 ((hO_.1 _ nrx').trans X.out)
             replace R := As0 (show wd.heap[gR]? = some (.cells #[.int .i64 eN.f0, .int .i64 eN.f1, .int .i64 eN.f2, .int .i64 eN.f3, .int .i64 eN.f4, .int .i64 eN.f5, .int .i64 eN.f6] 51 (0, 0)) from by rw [heN]; exact hr_)
             replace HB := As0 (hO_.2 _ _ GR.out HB.out)
             rw [← heN] at H'
             clear hr_ hO_ heN hqs hqw x_0 x_1 x_2 x_3 x_4 x_f0 x_f1 x_f2 x_f3 x_f4 r_0 r_1 r_2 r_3 r_4 r_5 r_6 r_f0 r_f1 r_f2 r_f3 r_f4 r_f5 r_f6 c_0 c_1 c_2 c_3 c_4 c_5 c_6 c_7 c_f0 c_f1 c_f2 c_f3 c_f4 c_f5 c_f6 c_f7
             replace HCo := As0 (HCo.out.on ((On.refl gR wd).drew) R.out (by decide))
             replace HCt := As0 (Ci_on HCt.out ((On.refl gR wd).drew) HNt.out)
             replace C := As0 (Qbm C.out)
             replace O := As0 (Qbm O.out)
             replace R := As0 (Qbm R.out)
             replace X := As0 (Qbm X.out)
             replace HB := As0 (bd1 HB.out)
             clear z1d z2d
             have z1d := decide_eq_true z1
             have z2d := decide_eq_true z2
             refine Qb1 (n := 14) (S := fun w' => w'.cell? ⟨gX, 0, none⟩ = some (.slice Ao xb.f0.length co) ∧ w'.cell? ⟨gC, 7, none⟩ = some (.slice (some adW) Wl.length c2) ∧ w'.cell? (adW.add tv.toNat) = some (.slice A2q wq.length c2q)) (ds := [12]) (bb 14 0) (by kernel_rfl) rfl rfl ⟨(bc X 0), (bc C 7), (cl HB hq0)⟩ (fun aA => ?_)
             generalize wd.drew = we at X C O R HB HCo HCt aA ⊢
             refine pu 0 102 (bb 14 1) ?_
             refine pu 2 104 (bb 14 5) ?_
             refine pu 4 106 (bb 14 21) ?_
             refine tu aA 1 103 (bb 14 23) ?_
             refine tu aA 3 105 (bb 14 31) ?_
             refine pu 5 107 (bb 14 63) ?_
             refine tu aA 6 108 (bb 14 127) ?_
             refine join_ (σ := Nat) 2 (bb 14 4095) (fun s_ => [(109, .tuple #[.agg #[.int .i64 p0, .int .i64 p1], .int .i64 y]), (10, .pointer (some ⟨s_, 0, none⟩)), (101, .tuple #[.agg #[.int .i64 p0, .int .i64 p1], .int .i64 y]), (110, .agg #[.int .i64 p0, .int .i64 p1]), (111, .int .i64 y)]) (fun s_ w' => (w'.cell? ⟨gX, 0, none⟩ = some (.slice Ao xb.f0.length co) ∧ w'.cell? ⟨gC, 7, none⟩ = some (.slice (some adW) Wl.length c2) ∧ w'.cell? (adW.add tv.toNat) = some (.slice A2q wq.length c2q)) ∧ Qbf (w'.heap[s_]? = some (.cells #[.int .i64 0, .int .i64 0] 47 (0, 0))) ∧ Qbf (w.heap.size ≤ s_) ∧ Qbf (Below w.heap.size w w') ∧ Qbf (w'.heap[gC]? = some (.cells #[.int .i64 sa, .int .i64 sr, .slice (some adS) SB.length c0, .int .i64 ta, .int .i64 tr, .int .i64 ts, .slice (some adT) TB.length c1, .slice (some adW) Wl.length c2] 30 (0, 0))) ∧ Qbf (w'.heap[gO]? = some (.cells #[.int .i64 0, .int .i64 0, .int .i64 0, .int .i64 0, .int .i64 0, .int .i64 0, .int .i64 0] 51 (0, 0))) ∧ Qbf (w'.heap[gR]? = some (.cells #[.int .i64 eN.f0, .int .i64 eN.f1, .int .i64 eN.f2, .int .i64 eN.f3, .int .i64 eN.f4, .int .i64 eN.f5, .int .i64 eN.f6] 51 (0, 0))) ∧ Qbf (w'.heap[gX]? = some (.cells #[.slice Ao xb.f0.length co, .int .i64 xb.f1, .int .i64 xb.f2, .int .i64 xb.f3, .int .i64 xb.f4] 87 (0, 0))) ∧ Qbf (OutR w' Ao xb.f0) ∧ Qbf (Kd.C (Kd.int .i64) w' (some adt) tg.length tg) ∧ Qbf (gC ≠ s_) ∧ Qbf (gO ≠ s_) ∧ Qbf (gR ≠ s_) ∧ Qbf (gX ≠ s_) ∧ Qbf (∀ ad, Ao = some ad → ad.block ≠ s_) ∧ Qbf (adt.block ≠ s_)) ?_ ?_
             rotate_left
             ·intro hCont
              refine two_ (i := 7) (j := 11) (Ni := some 109) (Nj := some 10) (bb 14 255) (bb 14 2175) rfl rfl rfl rfl (by kernel_rfl) (by decide) (by decide) (fun K hK => ?_) (fun K hK => ?_)
              ·skip
               refine gG Tryz.func35 #[.slice Ao xb.f0.length co, .slice A2q wq.length c2q] ?_
               with_reducible refine (edge_Implies.calls k Ao co xb.f0 A2q c2q wq p0 p1 y _ (OutR.c HCo.out) hco (Kd.C_below hQ0.out (BU HB.out)) hcq hed).mono ?_
               rintro e w9 ⟨rfl, hb⟩
               refine ⟨_, rfl, ?_⟩
               replace C := As0 (Qbg C.out hb)
               replace O := As0 (Qbg O.out hb)
               replace R := As0 (Qbg R.out hb)
               replace X := As0 (Qbg X.out hb)
               replace HB := sB HB hb
               replace HCo := As0 (HCo.out.below hb)
               replace HCt := As0 (Kd.C_below HCt.out hb)
               clear hb
               refine hK.out _ _ ⟨(bc X 0), (bc C 7), (cl HB hq0)⟩ (fun aA => ?_)
               clear hK K
               refine Qbz (a' := ?_) ?_ ?_
               rotate_left
               ·show Act.put _ (some 109) _ = _
                simp only [Act.put, List.setIfInBounds_toArray, List.set_cons_zero, List.set_cons_succ, Qbo, Qbp]
                rfl
               refine pu 8 101 (bb 14 511) ?_
               refine pu 9 110 (bb 14 1023) ?_
               refine pu 10 111 (bb 14 2047) ?_
               refine one_ (i := 11) (N := some 10) (bb 14 4095) rfl rfl (by kernel_rfl) (by decide) (fun K hK => ?_)
               refine value_ (w1 := ?_) (v := ?_) (by rfl) rfl ?_ ?_
               rotate_left 2
               ·go_simp
                constructor
                ·rfl
                ·rfl
               have Y := As0 (Qc9 (w9) (.cells #[.int .i64 0, .int .i64 0] 47 (0, 0)))
               have hb := Qby (Below.refl (w9).heap.size (w9)) (.cells #[.int .i64 0, .int .i64 0] 47 (0, 0))
               have GY := As0 (Qbi (BU HB.out) : w.heap.size ≤ (w9).heap.size)
               have HAY := As0 (show ∀ ad, Ao = some ad → ad.block ≠ (w9).heap.size from fun ad e => let ⟨cs2, h2⟩ := HCo.out.2 ad e; Nat.ne_of_lt (Qbs h2))
               have HTY := As0 (show adt.block ≠ (w9).heap.size from by (obtain ⟨ad9, e9, h9⟩ := Kd.at_int HCt.out j hj0 hjlt; cases e9; have q9 := wblt _ h9; rw [addB] at q9; exact Nat.ne_of_lt q9))
               have NCY := As0 (Nat.ne_of_lt (Qbs (w := w9) C.out) : gC ≠ (w9).heap.size)
               have NOY := As0 (Nat.ne_of_lt (Qbs (w := w9) O.out) : gO ≠ (w9).heap.size)
               have NRY := As0 (Nat.ne_of_lt (Qbs (w := w9) R.out) : gR ≠ (w9).heap.size)
               have NXY := As0 (Nat.ne_of_lt (Qbs (w := w9) X.out) : gX ≠ (w9).heap.size)
               replace C := As0 (Qbg C.out hb)
               replace O := As0 (Qbg O.out hb)
               replace R := As0 (Qbg R.out hb)
               replace X := As0 (Qbg X.out hb)
               replace HB := sB HB hb
               replace HCo := As0 (HCo.out.below hb)
               replace HCt := As0 (Kd.C_below HCt.out hb)
               clear hb
               generalize (w9).alloc (.cells #[.int .i64 0, .int .i64 0] 47 (0, 0)) = w10 at *
               generalize (w9).heap.size = gY at *
               refine hK.out _ _ ⟨(bc X 0), (bc C 7), (cl HB hq0)⟩ (fun aA => ?_)
               clear hK K
               refine Qbz (a' := ?_) ?_ ?_
               rotate_left
               ·show Act.put _ (some 10) _ = _
                simp only [Act.put, List.setIfInBounds_toArray, List.set_cons_zero, List.set_cons_succ, Qbo, Qbp]
                rfl
               exact Qbz (by simp only [Qda, Act.put, List.setIfInBounds_toArray, List.set_cons_zero, List.set_cons_succ]) (hCont gY _ ⟨aA, Y, GY, HB, C, O, R, X, HCo, HCt, NCY, NOY, NRY, NXY, HAY, HTY⟩)
              ·skip
               refine value_ (w1 := ?_) (v := ?_) (by rfl) rfl ?_ ?_
               rotate_left 2
               ·go_simp
                constructor
                ·rfl
                ·rfl
               have Y := As0 (Qc9 (we) (.cells #[.int .i64 0, .int .i64 0] 47 (0, 0)))
               have hb := Qby (Below.refl (we).heap.size (we)) (.cells #[.int .i64 0, .int .i64 0] 47 (0, 0))
               have GY := As0 (Qbi (BU HB.out) : w.heap.size ≤ (we).heap.size)
               have HAY := As0 (show ∀ ad, Ao = some ad → ad.block ≠ (we).heap.size from fun ad e => let ⟨cs2, h2⟩ := HCo.out.2 ad e; Nat.ne_of_lt (Qbs h2))
               have HTY := As0 (show adt.block ≠ (we).heap.size from by (obtain ⟨ad9, e9, h9⟩ := Kd.at_int HCt.out j hj0 hjlt; cases e9; have q9 := wblt _ h9; rw [addB] at q9; exact Nat.ne_of_lt q9))
               have NCY := As0 (Nat.ne_of_lt (Qbs (w := we) C.out) : gC ≠ (we).heap.size)
               have NOY := As0 (Nat.ne_of_lt (Qbs (w := we) O.out) : gO ≠ (we).heap.size)
               have NRY := As0 (Nat.ne_of_lt (Qbs (w := we) R.out) : gR ≠ (we).heap.size)
               have NXY := As0 (Nat.ne_of_lt (Qbs (w := we) X.out) : gX ≠ (we).heap.size)
               replace C := As0 (Qbg C.out hb)
               replace O := As0 (Qbg O.out hb)
               replace R := As0 (Qbg R.out hb)
               replace X := As0 (Qbg X.out hb)
               replace HB := sB HB hb
               replace HCo := As0 (HCo.out.below hb)
               replace HCt := As0 (Kd.C_below HCt.out hb)
               clear hb
               generalize (we).alloc (.cells #[.int .i64 0, .int .i64 0] 47 (0, 0)) = w10 at *
               generalize (we).heap.size = gY at *
               refine hK.out _ _ ⟨(bc X 0), (bc C 7), (cl HB hq0)⟩ (fun aA => ?_)
               clear hK K
               refine Qbz (a' := ?_) ?_ ?_
               rotate_left
               ·show Act.put _ (some 10) _ = _
                simp only [Act.put, List.setIfInBounds_toArray, List.set_cons_zero, List.set_cons_succ, Qbo, Qbp]
                rfl
               refine one_ (i := 7) (N := some 109) (bb 14 2303) rfl rfl (by kernel_rfl) (by decide) (fun K hK => ?_)
               refine gG Tryz.func35 #[.slice Ao xb.f0.length co, .slice A2q wq.length c2q] ?_
               with_reducible refine (edge_Implies.calls k Ao co xb.f0 A2q c2q wq p0 p1 y _ (OutR.c HCo.out) hco (Kd.C_below hQ0.out (BU HB.out)) hcq hed).mono ?_
               rintro e w9 ⟨rfl, hb⟩
               refine ⟨_, rfl, ?_⟩
               replace Y := As0 (Qbg Y.out hb)
               replace C := As0 (Qbg C.out hb)
               replace O := As0 (Qbg O.out hb)
               replace R := As0 (Qbg R.out hb)
               replace X := As0 (Qbg X.out hb)
               replace HB := sB HB hb
               replace HCo := As0 (HCo.out.below hb)
               replace HCt := As0 (Kd.C_below HCt.out hb)
               clear hb
               refine hK.out _ _ ⟨(bc X 0), (bc C 7), (cl HB hq0)⟩ (fun aA => ?_)
               clear hK K
               refine Qbz (a' := ?_) ?_ ?_
               rotate_left
               ·show Act.put _ (some 109) _ = _
                simp only [Act.put, List.setIfInBounds_toArray, List.set_cons_zero, List.set_cons_succ, Qbo, Qbp]
                rfl
               refine pu 8 101 (bb 14 2559) ?_
               refine pu 9 110 (bb 14 3071) ?_
               refine pu 10 111 (bb 14 4095) ?_
               exact Qbz (by simp only [Qda, Act.put, List.setIfInBounds_toArray, List.set_cons_zero, List.set_cons_succ]) (hCont gY _ ⟨aA, Y, GY, HB, C, O, R, X, HCo, HCt, NCY, NOY, NRY, NXY, HAY, HTY⟩)
             clear HB C O R X HCo HCt
             rintro gY w10 ⟨aA, Y, GY, HB, C, O, R, X, HCo, HCt, NCY, NOY, NRY, NXY, HAY, HTY⟩
             try dsimp only at Y GY NCY NOY NRY NXY HAY HTY ⊢
             (obtain ⟨y_0, y_1, y_f0, y_f1⟩ := cN2 Y.out)
             refine Qbz (a' := ?_) ?_ ?_
             rotate_left
             ·simp only [Qda, Act.put, List.setIfInBounds_toArray, List.set_cons_zero, List.set_cons_succ]
              rfl
             refine Qc7 (i := 12) (N := none) (bb 14 8191) rfl rfl (by kernel_rfl) (by decide) (fun K hK => ?_)
             refine skip_ (w1 := ?_) (by rfl) rfl ?_ ?_
             rotate_left
             ·go_simp
              rfl
             refine hK.out _ _ ?_
             clear hK K
             refine pu 13 11 (bb 14 16383) ?_
             refine Qch (by kernel_rfl) ?_
             have hOy := ((On.refl gY w10).set 0 (.int .i64 p0)).set 1 (.int .i64 p1)
             generalize ((w10.setCell ⟨gY, 0, none⟩ (.int .i64 p0)).setCell ⟨gY, 1, none⟩ (.int .i64 p1)) = w11 at hOy ⊢
             replace HB := As0 (hOy.2 _ _ GY.out HB.out)
             replace C := As0 ((hOy.1 _ NCY.out).trans C.out)
             replace O := As0 ((hOy.1 _ NOY.out).trans O.out)
             replace R := As0 ((hOy.1 _ NRY.out).trans R.out)
             replace X := As0 ((hOy.1 _ NXY.out).trans X.out)
             replace HCo := As0 (HCo.out.on' hOy HAY.out)
             replace HCt := As0 (Ci_on HCt.out hOy (fun ad e => by cases e; exact HTY.out))
             clear hOy y_0 y_1 y_f0 y_f1 aA hed hQ0 hq0 hcq
             by_cases hy : y = 0
             ·rw [if_pos hy] at H'
              have hyb : (y != 0) = false := bne_eq_false_iff_eq.mpr hy
              clear hy
              replace H' := As0 H'
              go_wp2
              go_roundg (tg.length - j)
              case measure => exact HJ.out.2
              case rel => exact ⟨j + 1, eN, by first | rw [hwj] | rfl, ⟨hj, Nat.sub_lt_sub_left hj (Nat.lt_succ_self j)⟩, H', HB, C, O, R, X, HCo, HCt⟩
             ·rw [if_neg hy] at H'
              have hyb : (y != 0) = true := bne_iff_ne.mpr hy
              clear hy
              obtain rfl := Option.some.inj H'
              (obtain ⟨r_0, r_1, r_2, r_3, r_4, r_5, r_6, r_f0, r_f1, r_f2, r_f3, r_f4, r_f5, r_f6⟩ := cN7 R.out)
              have nrx := NRX.out
              go_upto_region 23 with (fail)
              have hO_ := (((On.refl gR w11).set 0 (.int .i64 y)).set 1 (.int .i64 (i : Int))).set 2 (.int .i64 (j : Int))
              have hr_ := put7b R.out (.int .i64 y) (.int .i64 (i : Int)) (.int .i64 (j : Int))
              generalize (((w11.setCell ⟨gR, 0, none⟩ (.int .i64 y)).setCell ⟨gR, 1, none⟩ (.int .i64 (i : Int))).setCell ⟨gR, 2, none⟩ (.int .i64 (j : Int))) = w13 at hO_ hr_ ⊢
              replace O := As0 ((hO_.1 _ NOR.out).trans O.out)
              replace HB := As0 (hO_.2 _ _ GR.out HB.out)
              replace R := As0 hr_
              clear hr_ hO_
              apply fin23 _ _ gO gR #[.int .i64 y, .int .i64 (i : Int), .int .i64 (j : Int), .int .i64 eN.f3, .int .i64 eN.f4, .int .i64 eN.f5, .int .i64 eN.f6]
              case hK => assumption
              case hO => exact O.out
              case hR => exact R.out
              case h0 => rfl
              case h1 => rfl
              case hQ => exact fun W' hW => ⟨rfl, hW _ _ GO.out HB.out⟩
              case hsz => show 122 < 123; decide
              case hone => kernel_rfl
              all_goals rfl
            ·rw [if_neg hb3] at H'; cases H'
           ·have hj' : j = tg.length := by have := HJ.out; omega
            subst hj'
            have H' := HH.out
            simp only [List.drop_length, edgesF] at H'
            replace H' := As0 H'
            clear HH
            go_wp2
            go_roundg (SB.length - i)
            case measure => have := HI.out; omega
            case rel => exact ⟨i + 1, ei, by first | rw [hw] | rfl, ⟨by omega, by omega⟩, H', HB, C, O, R⟩
        ·rw [if_neg hf1] at HH
         (obtain ⟨x_0, x_1, x_2, x_3, x_4, x_f0, x_f1, x_f2, x_f3, x_f4⟩ := cN5 X.out)
         (obtain ⟨r_0, r_1, r_2, r_3, r_4, r_5, r_6, r_f0, r_f1, r_f2, r_f3, r_f4, r_f5, r_f6⟩ := cN7 R.out)
         have hf1b : (xb.f1 != 0) = true := bne_iff_ne.mpr hf1
         obtain rfl := Option.some.inj HH
         clear hf1
         go_wp2
         go_region
         go_upto_region 23 with (fail)
         have hO_ := ((((On.refl gR w12).set 0 (.int .i64 xb.f1)).set 1 (.int .i64 (i : Int))).set 2 (.int .i64 xb.f2)).drew
         have hr_ := Qbm (put7b R.out (.int .i64 xb.f1) (.int .i64 (i : Int)) (.int .i64 xb.f2))
         generalize ((((w12).setCell ⟨gR, 0, none⟩ (.int .i64 xb.f1)).setCell ⟨gR, 1, none⟩ (.int .i64 (i : Int))).setCell ⟨gR, 2, none⟩ (.int .i64 xb.f2)).drew = w13 at hO_ hr_ ⊢
         replace O := As0 ((hO_.1 _ NOR.out).trans O.out)
         replace HB := As0 (hO_.2 _ _ GR.out HB.out)
         replace R := As0 hr_
         clear hr_ hO_
         (try clear r_0 r_1 r_2 r_3 r_4 r_5 r_6 r_f0 r_f1 r_f2 r_f3 r_f4 r_f5 r_f6)
         (have rr0 := (Qbh R.out 0).trans rfl; have rrf0 := Qbj R.out 0; have rr1 := (Qbh R.out 1).trans rfl; have rrf1 := Qbj R.out 1; have rr2 := (Qbh R.out 2).trans rfl; have rrf2 := Qbj R.out 2; have rr3 := (Qbh R.out 3).trans rfl; have rrf3 := Qbj R.out 3; have rr4 := (Qbh R.out 4).trans rfl; have rrf4 := Qbj R.out 4; have rr5 := (Qbh R.out 5).trans rfl; have rrf5 := Qbj R.out 5; have rr6 := (Qbh R.out 6).trans rfl; have rrf6 := Qbj R.out 6)
         go_wp2_with ((with_reducible refine Qcb (.store 51 (.tmp 2) (.tmp 122)) rfl ?_); go_loud (refine Qae rfl rfl 51 _ _ rfl gO #[.int .i64 xb.f1, .int .i64 (i : Int), .int .i64 xb.f2, .int .i64 eN.f3, .int .i64 eN.f4, .int .i64 eN.f5, .int .i64 eN.f6] rfl rfl 51 #[.int .i64 0, .int .i64 0, .int .i64 0, .int .i64 0, .int .i64 0, .int .i64 0, .int .i64 0] O.out (by kernel_rfl) rfl (by kernel_rfl) ?_); intro wz hg ho hB; replace HB := As0 (hB _ _ GO.out (BU HB.out)); replace O := As0 hg; skip; clear hg ho hB)
         (try rw [Exit.noGoto_ret])
         exact bodyPost_ret (results_cell_row rfl _ _ gO 51 #[.int .i64 xb.f1, .int .i64 (i : Int), .int .i64 xb.f2, .int .i64 eN.f3, .int .i64 eN.f4, .int .i64 eN.f5, .int .i64 eN.f6] (0, 0) _ rfl O.out hu51 rfl (by kernel_rfl)) rfl ⟨rfl, BU HB.out⟩
     ·rw [if_neg hb2] at H'; cases H'
    ·have hi' : i = SB.length := by have := HI.out; omega
     subst hi'
     have H' := H.out
     simp only [List.drop_length, Qdg] at H'
     obtain rfl := Option.some.inj H'
     clear H H'
     (have rr0 := (Qbh R.out 0).trans rfl; have rrf0 := Qbj R.out 0; have rr1 := (Qbh R.out 1).trans rfl; have rrf1 := Qbj R.out 1; have rr2 := (Qbh R.out 2).trans rfl; have rrf2 := Qbj R.out 2; have rr3 := (Qbh R.out 3).trans rfl; have rrf3 := Qbj R.out 3; have rr4 := (Qbh R.out 4).trans rfl; have rrf4 := Qbj R.out 4; have rr5 := (Qbh R.out 5).trans rfl; have rrf5 := Qbj R.out 5; have rr6 := (Qbh R.out 6).trans rfl; have rrf6 := Qbj R.out 6)
     go_wp2_with ((with_reducible refine Qcb (.store 51 (.tmp 2) (.tmp 122)) rfl ?_); go_loud (refine Qae rfl rfl 51 _ _ rfl gO #[.int .i64 e.f0, .int .i64 e.f1, .int .i64 e.f2, .int .i64 e.f3, .int .i64 e.f4, .int .i64 e.f5, .int .i64 e.f6] rfl rfl 51 #[.int .i64 0, .int .i64 0, .int .i64 0, .int .i64 0, .int .i64 0, .int .i64 0, .int .i64 0] O.out (by kernel_rfl) rfl (by kernel_rfl) ?_); intro wz hg ho hB; replace HB := As0 (hB _ _ GO.out (BU HB.out)); replace O := As0 hg; skip; clear hg ho hB)
     (try rw [Exit.noGoto_ret])
     exact bodyPost_ret (results_cell_row rfl _ _ gO 51 #[.int .i64 e.f0, .int .i64 e.f1, .int .i64 e.f2, .int .i64 e.f3, .int .i64 e.f4, .int .i64 e.f5, .int .i64 e.f6] (0, 0) _ rfl O.out hu51 rfl (by kernel_rfl)) rfl ⟨rfl, BU HB.out⟩
  ·rw [if_neg he] at hx
   obtain rfl := Option.some.inj hx
   have heb : (e0 != 0) = true := bne_iff_ne.mpr he
   go_enter Tryz.func14, Tryz.ntmps14
   go_wp2_with (first
    | ((with_reducible refine gD 1 ?_); refine bX ?_; intro gC hg w1 aC hb; have C := As0 aC; have GC := As0 (by rw [hg]; exact Qbi (BU HB.out) : w.heap.size ≤ gC); replace HB := sB HB hb; clear hb aC hg)
    | ((with_reducible refine gD 2 ?_); refine bX ?_; intro gO hg w2 aC hb; have O := As0 aC; have GO := As0 (by rw [hg]; exact Qbi (BU HB.out) : w.heap.size ≤ gO); have NCO := As0 (by have := Qbs C.out; omega : gC ≠ gO); replace C := As0 (Qbg C.out hb); replace HB := sB HB hb; (obtain ⟨c_0, c_1, c_2, c_3, c_4, c_5, c_6, c_7, c_f0, c_f1, c_f2, c_f3, c_f4, c_f5, c_f6, c_f7⟩ := cN8 C.out); clear hb aC hg))
   go_step3
   go_wp2_with (first
    | (go_at_call 31; refine (Qbc.calls k sa sr A0 c0 SB ta tr ts A1 c1 TB A2 c2 Wl _ _ (Kd.C_below H0.out (BU HB.out)) hc0 (Kd.C_below H1.out (BU HB.out)) hc1 (Kd.C_below H2.out (BU HB.out)) hc2 hv).mono ?_; rintro e w3 ⟨rfl, hb⟩; clear c_0 c_1 c_2 c_3 c_4 c_5 c_6 c_7 c_f0 c_f1 c_f2 c_f3 c_f4 c_f5 c_f6 c_f7; replace C := As0 (Qbg C.out hb); replace O := As0 (Qbg O.out hb); replace HB := sB HB hb; (obtain ⟨c_0, c_1, c_2, c_3, c_4, c_5, c_6, c_7, c_f0, c_f1, c_f2, c_f3, c_f4, c_f5, c_f6, c_f7⟩ := cN8 C.out); clear hb)
    | (go_at_call 32; refine (Qax.calls k sa sr A0 c0 SB ta tr ts A1 c1 TB A2 c2 Wl _ _ _ _ _ _ _ _ (Kd.C_below H0.out (BU HB.out)) hc0 (Kd.C_below H1.out (BU HB.out)) hc1 (Kd.C_below H2.out (BU HB.out)) hc2 hbg).mono ?_; rintro e w4 ⟨rfl, hb⟩; clear c_0 c_1 c_2 c_3 c_4 c_5 c_6 c_7 c_f0 c_f1 c_f2 c_f3 c_f4 c_f5 c_f6 c_f7; replace C := As0 (Qbg C.out hb); replace O := As0 (Qbg O.out hb); replace HB := sB HB hb; (obtain ⟨c_0, c_1, c_2, c_3, c_4, c_5, c_6, c_7, c_f0, c_f1, c_f2, c_f3, c_f4, c_f5, c_f6, c_f7⟩ := cN8 C.out); clear hb)
    | ((with_reducible refine gD 4 ?_); refine bX ?_; intro gR hg w5 aC hb; have R := As0 aC; have GR := As0 (by rw [hg]; exact Qbi (BU HB.out) : w.heap.size ≤ gR); have NCR := As0 (by have := Qbs C.out; omega : gC ≠ gR); have NOR := As0 (by have := Qbs O.out; omega : gO ≠ gR); replace C := As0 (Qbg C.out hb); replace O := As0 (Qbg O.out hb); replace HB := sB HB hb; clear c_0 c_1 c_2 c_3 c_4 c_5 c_6 c_7 c_f0 c_f1 c_f2 c_f3 c_f4 c_f5 c_f6 c_f7; (obtain ⟨c_0, c_1, c_2, c_3, c_4, c_5, c_6, c_7, c_f0, c_f1, c_f2, c_f3, c_f4, c_f5, c_f6, c_f7⟩ := cN8 C.out); clear hb aC hg)
    | ((with_reducible refine Qcb (.store 51 (.tmp 4) (.tmp 19)) rfl ?_); go_loud (refine Qae rfl rfl 51 _ _ rfl gR #[.int .i64 e0, .int .i64 e1, .int .i64 e2, .int .i64 e3, .int .i64 e4, .int .i64 e5, .int .i64 e6] rfl rfl 51 #[.int .i64 0, .int .i64 0, .int .i64 0, .int .i64 0, .int .i64 0, .int .i64 0, .int .i64 0] R.out (by kernel_rfl) rfl (by kernel_rfl) ?_); intro w6 hg ho hB; replace HB := As0 (hB _ _ GR.out (BU HB.out)); replace R := As0 hg; replace C := As0 ((ho _ NCR.out).trans C.out); replace O := As0 ((ho _ NOR.out).trans O.out); clear c_0 c_1 c_2 c_3 c_4 c_5 c_6 c_7 c_f0 c_f1 c_f2 c_f3 c_f4 c_f5 c_f6 c_f7; (obtain ⟨c_0, c_1, c_2, c_3, c_4, c_5, c_6, c_7, c_f0, c_f1, c_f2, c_f3, c_f4, c_f5, c_f6, c_f7⟩ := cN8 C.out); (obtain ⟨r_0, r_1, r_2, r_3, r_4, r_5, r_6, r_f0, r_f1, r_f2, r_f3, r_f4, r_f5, r_f6⟩ := cN7 R.out); clear hg ho hB)
    | ((with_reducible refine Qcb (.store 51 (.tmp 2) (.tmp 23)) rfl ?_); go_loud (refine Qae rfl rfl 51 _ _ rfl gO #[.int .i64 e0, .int .i64 e1, .int .i64 e2, .int .i64 e3, .int .i64 e4, .int .i64 e5, .int .i64 e6] rfl rfl 51 #[.int .i64 0, .int .i64 0, .int .i64 0, .int .i64 0, .int .i64 0, .int .i64 0, .int .i64 0] O.out (by kernel_rfl) rfl (by kernel_rfl) ?_); intro w7 hg ho hB; replace HB := As0 (hB _ _ GO.out (BU HB.out)); replace O := As0 hg; skip; clear hg ho hB))
   rw [Exit.noGoto_ret]
   exact bodyPost_ret (results_cell_row rfl _ _ gO 51 #[.int .i64 e0, .int .i64 e1, .int .i64 e2, .int .i64 e3, .int .i64 e4, .int .i64 e5, .int .i64 e6] (0, 0) _ rfl O.out hu51 rfl (by kernel_rfl)) rfl ⟨rfl, BU HB.out⟩
 ·rw [if_neg hy] at hx
  obtain rfl := Option.some.inj hx
  have hyb : (y != 0) = true := bne_iff_ne.mpr hy
  go_enter Tryz.func14, Tryz.ntmps14
  go_wp2_with (first
   | ((with_reducible refine gD 1 ?_); refine bX ?_; intro gC hg w1 aC hb; have C := As0 aC; have GC := As0 (by rw [hg]; exact Qbi (BU HB.out) : w.heap.size ≤ gC); replace HB := sB HB hb; clear hb aC hg)
   | ((with_reducible refine gD 2 ?_); refine bX ?_; intro gO hg w2 aC hb; have O := As0 aC; have GO := As0 (by rw [hg]; exact Qbi (BU HB.out) : w.heap.size ≤ gO); have NCO := As0 (by have := Qbs C.out; omega : gC ≠ gO); replace C := As0 (Qbg C.out hb); replace HB := sB HB hb; (obtain ⟨c_0, c_1, c_2, c_3, c_4, c_5, c_6, c_7, c_f0, c_f1, c_f2, c_f3, c_f4, c_f5, c_f6, c_f7⟩ := cN8 C.out); clear hb aC hg))
  go_step3
  go_wp2_with (first
   | (go_at_call 31; refine (Qbc.calls k sa sr A0 c0 SB ta tr ts A1 c1 TB A2 c2 Wl _ _ (Kd.C_below H0.out (BU HB.out)) hc0 (Kd.C_below H1.out (BU HB.out)) hc1 (Kd.C_below H2.out (BU HB.out)) hc2 hv).mono ?_; rintro e w3 ⟨rfl, hb⟩; clear c_0 c_1 c_2 c_3 c_4 c_5 c_6 c_7 c_f0 c_f1 c_f2 c_f3 c_f4 c_f5 c_f6 c_f7; replace C := As0 (Qbg C.out hb); replace O := As0 (Qbg O.out hb); replace HB := sB HB hb; (obtain ⟨c_0, c_1, c_2, c_3, c_4, c_5, c_6, c_7, c_f0, c_f1, c_f2, c_f3, c_f4, c_f5, c_f6, c_f7⟩ := cN8 C.out); clear hb)
   | ((with_reducible refine Qcb (.store 51 (.tmp 2) (.tmp 17)) rfl ?_); go_loud (refine Qae rfl rfl 51 _ _ rfl gO #[.int .i64 y, .int .i64 0, .int .i64 0, .int .i64 0, .int .i64 0, .int .i64 0, .int .i64 0] rfl rfl 51 #[.int .i64 0, .int .i64 0, .int .i64 0, .int .i64 0, .int .i64 0, .int .i64 0, .int .i64 0] O.out (by kernel_rfl) rfl (by kernel_rfl) ?_); intro w7 hg ho hB; replace HB := As0 (hB _ _ GO.out (BU HB.out)); replace O := As0 hg; skip; clear hg ho hB))
  rw [Exit.noGoto_ret]
  exact bodyPost_ret (results_cell_row rfl _ _ gO 51 #[.int .i64 y, .int .i64 0, .int .i64 0, .int .i64 0, .int .i64 0, .int .i64 0, .int .i64 0] (0, 0) _ rfl O.out hu51 rfl (by kernel_rfl)) rfl ⟨rfl, BU HB.out⟩
theorem Qdd {l : List S47} (h : Asc l) (f : S47 → Bool) : Asc (l.filter f) := h.sub List.filter_sublist
theorem flt_len (l : List S47) (f : S47 → Bool) : (l.filter f).length ≤ l.length := List.length_filter_le f l
theorem asc_copies {l : List S47} (h : Asc l) (d a : Int) : Asc ((l.filter fun p => p.f0 == a).map fun p => (⟨d, p.f1⟩ : S47)) := by
 unfold Asc
 rw [List.pairwise_map]
 refine List.Pairwise.imp_of_mem (fun {x y} hx hy hxy => ?_) (Qdd h _)
 have h1 := (List.mem_filter.1 hx).2
 have h2 := (List.mem_filter.1 hy).2
 simp only [beq_iff_eq] at h1 h2
 rw [Qdf] at hxy ⊢
 show d < d ∨ (d = d ∧ x.f1 < y.f1)
 omega
theorem asc_moves {l : List S47} (h : Asc l) (d a : Int) : Asc ((l.filter fun p => p.f1 == a).map fun p => (⟨p.f0, d⟩ : S47)) := by
 unfold Asc
 rw [List.pairwise_map]
 refine List.Pairwise.imp_of_mem (fun {x y} hx hy hxy => ?_) (Qdd h _)
 have h1 := (List.mem_filter.1 hx).2
 have h2 := (List.mem_filter.1 hy).2
 simp only [beq_iff_eq] at h1 h2
 rw [Qdf] at hxy ⊢
 show x.f0 < y.f0 ∨ (x.f0 = y.f0 ∧ d < d)
 omega
theorem define_spec (l : List S47) (d a : Int) (hl : l.length ≤ 10000000) (hA : Asc l) : ∃ r, Ev (fun k => defineF k l d a) r ∧ Asc r ∧ r.length ≤ l.length + 1 ∧ ∀ y, y ∈ r ↔ y = ⟨d, a⟩ ∨ (y ∈ l ∧ y.f0 ≠ d ∧ y.f1 ≠ a) := by
 have h1 := flt_len (l.filter fun p => p.f0 != d) fun p => p.f1 != a
 have h2 := flt_len l fun p => p.f0 != d
 obtain ⟨r, e, hr, hn, hm⟩ := add_spec ((l.filter fun p => p.f0 != d).filter fun p => p.f1 != a) ⟨d, a⟩ (by omega) (Qdd (Qdd hA _) _)
 refine ⟨r, ?_, hr, by omega, fun y => (hm y).trans ?_⟩
 ·unfold defineF; exact Ev.pos (by omega) e
 ·simp only [List.mem_filter, bne_iff_ne, ne_eq, and_assoc]
theorem copyS_spec (l : List S47) (d a : Int) (hl : l.length ≤ 10000000) (hA : Asc l) : ∃ r, Ev (fun k => copyS k l d a) r ∧ Asc r ∧ r.length ≤ l.length + l.length ∧ ∀ y, y ∈ r ↔ (y ∈ l ∧ y.f0 ≠ d) ∨ (y.f0 = d ∧ (⟨a, y.f1⟩ : S47) ∈ l) := by
 unfold copyS
 by_cases h : d = a
 ·subst h
  refine ⟨l, Ev.pos (by omega) (Ev.pos rfl (Ev.pos hA (Ev.val rfl))), hA, by omega, fun y => ?_⟩
  constructor
  ·intro hy
   by_cases hd : y.f0 = d
   ·exact Or.inr ⟨hd, by rw [← hd]; exact hy⟩
   ·exact Or.inl ⟨hy, hd⟩
  ·rintro (h | ⟨h1, h2⟩)
   ·exact h.1
   ·rw [← h1] at h2; exact h2
 ·have h1 := flt_len l fun p => p.f0 != d
  have h2 := flt_len l fun p => p.f0 == a
  obtain ⟨r, e, hr, hn, hm⟩ := union_spec (l.filter fun p => p.f0 != d) ((l.filter fun p => p.f0 == a).map fun p => (⟨d, p.f1⟩ : S47)) (Qdd hA _) (asc_copies hA d a) (by rw [List.length_map]; omega)
  rw [List.length_map] at hn
  refine ⟨r, Ev.pos (by omega) (Ev.neg h (by unfold renS; exact Ev.pos (asc_copies hA d a) e)), hr, by omega, fun y => (hm y).trans ?_⟩
  simp only [List.mem_filter, bne_iff_ne, ne_eq, List.mem_map, beq_iff_eq]
  refine or_congr Iff.rfl ⟨?_, ?_⟩
  ·rintro ⟨p, ⟨h3, h4⟩, rfl⟩
   exact ⟨rfl, by rw [← h4]; exact h3⟩
  ·rintro ⟨h3, h4⟩
   exact ⟨_, ⟨h4, rfl⟩, by rw [← h3]⟩
theorem moveS_spec (l : List S47) (d a : Int) (hl : l.length ≤ 10000000) (hA : Asc l) : ∃ r, Ev (fun k => moveS k l d a) r ∧ Asc r ∧ r.length ≤ l.length + l.length ∧ ∀ y, y ∈ r ↔ (y ∈ l ∧ y.f1 ≠ d) ∨ (y.f1 = d ∧ (⟨y.f0, a⟩ : S47) ∈ l) := by
 unfold moveS
 by_cases h : d = a
 ·subst h
  refine ⟨l, Ev.pos (by omega) (Ev.pos rfl (Ev.pos hA (Ev.val rfl))), hA, by omega, fun y => ?_⟩
  constructor
  ·intro hy
   by_cases hd : y.f1 = d
   ·exact Or.inr ⟨hd, by rw [← hd]; exact hy⟩
   ·exact Or.inl ⟨hy, hd⟩
  ·rintro (h | ⟨h1, h2⟩)
   ·exact h.1
   ·rw [← h1] at h2; exact h2
 ·have h1 := flt_len l fun p => p.f1 != d
  have h2 := flt_len l fun p => p.f1 == a
  obtain ⟨r, e, hr, hn, hm⟩ := union_spec (l.filter fun p => p.f1 != d) ((l.filter fun p => p.f1 == a).map fun p => (⟨p.f0, d⟩ : S47)) (Qdd hA _) (asc_moves hA d a) (by rw [List.length_map]; omega)
  rw [List.length_map] at hn
  refine ⟨r, Ev.pos (by omega) (Ev.neg h (by unfold renS; exact Ev.pos (asc_moves hA d a) e)), hr, by omega, fun y => (hm y).trans ?_⟩
  simp only [List.mem_filter, bne_iff_ne, ne_eq, List.mem_map, beq_iff_eq]
  refine or_congr Iff.rfl ⟨?_, ?_⟩
  ·rintro ⟨p, ⟨h3, h4⟩, rfl⟩
   exact ⟨rfl, by rw [← h4]; exact h3⟩
  ·rintro ⟨h3, h4⟩
   exact ⟨_, ⟨h4, rfl⟩, by rw [← h3]⟩
def Goo (s : Bs) : Prop := Asc s.set ∧ s.set.length ≤ 1048576 ∧ s.most = 1048576
def okAr (n m : Nat) (r : S180) : Prop := (0 ≤ r.f0 ∧ r.f0 ≤ r.f1 ∧ r.f1 ≤ (n : Int)) ∧ (0 ≤ r.f2 ∧ r.f2 ≤ r.f3 ∧ r.f3 ≤ (m : Int)) ∧ (r.f4 ≥ 0 → r.f4 < (n : Int) ∧ 0 ≤ r.f5 ∧ r.f5 < (m : Int))
theorem same_some (a b c d e a' b' c' d' e' f' g' : Int) : ∃ t, align_Same.f a b c d e a' b' c' d' e' f' g' = some t := by
 unfold align_Same.f
 split
 ·split
  ·split <;> exact ⟨_, rfl⟩
  ·exact ⟨_, rfl⟩
 ·exact ⟨_, rfl⟩
theorem terms_some (a b c d a' b' c' d' : Int) : ∃ t, align_Terms.f a b c d a' b' c' d' = some t := by
 unfold align_Terms.f
 split
 ·split <;> exact ⟨_, rfl⟩
 ·exact ⟨_, rfl⟩
inductive Evt where
 | cp (d a : Int)
 | mv (d a : Int)
 | ins (i : S41) (m : S59)
def evF (k : Nat) : Evt → Int → Bs → OBs
 | .cp d a, x, s => copyF k s d a x
 | .mv d a, x, s => moveF k s d a x
 | .ins i m, x, s => instrF k s i m x
def runE (k : Nat) : List (Evt × Int) → Bs → (Bs → OBs) → OBs
 | [], s, K => K s
 | e :: t, s, K => (evF k e.1 e.2 s).then fun s1 => runE k t s1 K
theorem OBs.then_assoc (o : OBs) (f g : Bs → OBs) : (o.then f).then g = o.then fun s => (f s).then g := by
 cases o with
 | none => rfl
 | some p =>
  obtain ⟨s, q⟩ := p
  cases q <;> rfl
theorem runE_app (k : Nat) : ∀ (a b : List (Evt × Int)) (s : Bs) (K : Bs → OBs), runE k (a ++ b) s K = runE k a s fun s1 => runE k b s1 K
 | [], b, s, K => rfl
 | e :: a, b, s, K => by
  show (evF k e.1 e.2 s).then _ = (evF k e.1 e.2 s).then _
  exact congrArg _ (funext fun s1 => runE_app k a b s1 K)
def movesE (mc : List S59) : Nat → Int → List (Evt × Int)
 | 0, _ => []
 | n + 1, j => (.mv (Qaj mc j).f5 (Qaj mc j).f6, j) :: movesE mc n (j + 1)
def srcE (bc : List S41) (mc : List S59) (r4 r5 : Int) : List (Evt × Int) := if r4 ≥ 0 then [(.ins (Qam bc r4) (Qaj mc r5), r5)] else []
def copiesE (m : Int) (l : List S41) : List (Evt × Int) := l.map fun i => (Evt.cp i.f1 i.f2, m)
def rowE (bc : List S41) (mc : List S59) (r : S180) : List (Evt × Int) := copiesE r.f2 ((bc.take r.f1.toNat).drop r.f0.toNat) ++ (movesE mc (r.f3 - r.f2).toNat r.f2 ++ srcE bc mc r.f4 r.f5)
theorem copies_eq (k : Nat) (m : Int) (K : Bs → OBs) : ∀ (l : List S41) (s : Bs), Qe1 k m l s K = runE k (copiesE m l) s K
 | [], s => rfl
 | c :: l, s => by
  show (copyF k s c.f1 c.f2 m).then _ = (copyF k s c.f1 c.f2 m).then _
  exact congrArg _ (funext fun s1 => copies_eq k m K l s1)
theorem moves_eq (k : Nat) (mc : List S59) (K : Bs → OBs) : ∀ (n : Nat) (j : Int) (s : Bs), 0 ≤ j → j + n ≤ (mc.length : Int) → Qdp k mc n j s K = runE k (movesE mc n j) s K
 | 0, j, s, _, _ => rfl
 | n + 1, j, s, h0, h1 => by
  rw [Qdp, if_pos ⟨h0, by omega⟩]
  show (moveF k s _ _ j).then _ = (moveF k s _ _ j).then _
  exact congrArg _ (funext fun s1 => moves_eq k mc K n (j + 1) s1 (by omega) (by omega))
theorem src_eq (k : Nat) (bc : List S41) (mc : List S59) (r4 r5 : Int) (h : r4 ≥ 0 → r4 < (bc.length : Int) ∧ 0 ≤ r5 ∧ r5 < (mc.length : Int)) (s : Bs) (K : Bs → OBs) : (srcF k bc mc r4 r5 s).then K = runE k (srcE bc mc r4 r5) s K := by
 unfold srcF srcE
 by_cases h4 : r4 ≥ 0
 ·rw [if_pos h4, if_pos h4, if_pos (h h4)]; rfl
 ·rw [if_neg h4, if_neg h4]; rfl
theorem copies_then (k : Nat) (m : Int) (K L : Bs → OBs) : ∀ (l : List S41) (s : Bs), (Qe1 k m l s K).then L = Qe1 k m l s fun s1 => (K s1).then L
 | [], s => rfl
 | c :: l, s => by
  show ((copyF k s c.f1 c.f2 m).then _).then L = (copyF k s c.f1 c.f2 m).then _
  rw [OBs.then_assoc]
  exact congrArg _ (funext fun s1 => copies_then k m K L l s1)
theorem moves_then (k : Nat) (mc : List S59) (K L : Bs → OBs) : ∀ (n : Nat) (j : Int) (s : Bs), (Qdp k mc n j s K).then L = Qdp k mc n j s fun s1 => (K s1).then L
 | 0, j, s => rfl
 | n + 1, j, s => by
  unfold Qdp
  by_cases h : 0 ≤ j ∧ j < (mc.length : Int)
  ·rw [if_pos h, if_pos h, OBs.then_assoc]
   exact congrArg _ (funext fun s1 => moves_then k mc K L n (j + 1) s1)
  ·rw [if_neg h, if_neg h]; rfl
theorem row_eq (k : Nat) (bc : List S41) (mc : List S59) (r : S180) (h : okAr bc.length mc.length r) (s : Bs) (K : Bs → OBs) : (rowF k bc mc r s).then K = runE k (rowE bc mc r) s K := by
 unfold rowF rowE
 rw [if_pos h.1, copies_then, copies_eq, runE_app]
 refine congrArg _ (funext fun s1 => ?_)
 rw [moves_then, moves_eq k mc _ _ _ s1 h.2.1.1 (by have := h.2.1; omega), runE_app]
 exact congrArg _ (funext fun s2 => src_eq k bc mc r.f4 r.f5 h.2.2 s2 K)
theorem rows_eq (k : Nat) (bc : List S41) (mc : List S59) (K : Bs → OBs) : ∀ (l : List S180), (∀ r ∈ l, okAr bc.length mc.length r) → ∀ s, rowsF k bc mc l s K = runE k (l.flatMap (rowE bc mc)) s K
 | [], _, s => rfl
 | r :: l, h, s => by
  rw [List.flatMap_cons, runE_app]
  show (rowF k bc mc r s).then _ = _
  rw [row_eq k bc mc r (h r (by simp))]
  exact congrArg _ (funext fun s1 => rows_eq k bc mc K l (fun q hq => h q (by simp [hq])) s1)
def isC (i : S41) : Bool := i.f0 == 2
def isM (m : S59) : Bool := m.f0 == 18
def cpE (i : S41) : Evt := .cp i.f1 i.f2
def mvE (m : S59) : Evt := .mv m.f5 m.f6
def sameB (i : S41) (m : S59) : Bool := (align_Same.f i.f0 i.f1 i.f2 i.f3 i.f4 m.f0 m.f1 m.f2 m.f3 m.f4 m.f5 m.f6).getD false
def evs : Nat → List S41 → List S59 → List Evt
 | 0, _, _ => []
 | n + 1, bc, mc => (bc.takeWhile isC).map cpE ++ ((mc.takeWhile isM).map mvE ++ match bc.dropWhile isC, mc.dropWhile isM with
  | i :: b, m :: c => .ins i m :: evs n b c
  | _, _ => [])
def alOk : Nat → List S41 → List S59 → Bool
 | 0, _, _ => false
 | n + 1, bc, mc => match bc.dropWhile isC, mc.dropWhile isM with
  | [], [] => true
  | i :: b, m :: c => sameB i m && alOk n b c
  | _, _ => false
def era (l : List (Evt × Int)) : List Evt := l.map Prod.fst
theorem era_app (a b : List (Evt × Int)) : era (a ++ b) = era a ++ era b := List.map_append
theorem skipc_sp (l : List S41) (hl : l.length ≤ 100000000) : ∀ n (i : Nat), l.length - i = n → i ≤ l.length → ∃ r : Nat, i ≤ r ∧ r ≤ l.length ∧ Ev (fun k => Qai.f k l (i : Int)) (r : Int) ∧ (l.drop i).takeWhile isC = (l.take r).drop i ∧ (l.drop i).dropWhile isC = l.drop r := by
 intro n
 unfold Qai.f
 induction n with
 | zero =>
  intro i hn hi
  obtain rfl : i = l.length := by omega
  refine ⟨l.length, by omega, hi, ⟨2, fun n hn => by obtain ⟨m, rfl⟩ : ∃ m, n = m + 2 := ⟨n - 2, by omega⟩; show Qai.l0 (m + 2) l (l.length : Int) = _; rw [Qai.l0, if_neg (by omega), Qai.j1]; rfl⟩, by simp, by simp⟩
 | succ n ih =>
  intro i hn hi
  have hd : l.drop i = Qam l (i : Int) :: l.drop (i + 1) := Qcg l z41 i (by omega)
  have e : ∀ k, Qai.l0 (k + 2) l (i : Int) = if isC (Qam l (i : Int)) = true then Qai.l0 k l ((i + 1 : Nat) : Int) else some (i : Int) := fun k => by
   rw [Qai.l0, if_pos (by omega), if_pos (by omega)]
   show Qai.j1 (k + 1) l (i : Int) (isC (Qam l (i : Int))) = _
   rw [Qai.j1, w64s (n := l.length) (by omega) (by omega)]
  rw [hd]
  by_cases h : isC (Qam l (i : Int)) = true
  ·obtain ⟨r, h1, h2, h3, h4, h5⟩ := ih (i + 1) (by omega) (by omega)
   refine ⟨r, by omega, h2, Ev.upn 2 e (Ev.pos h h3), ?_, ?_⟩
   ·rw [List.takeWhile_cons, if_pos h, h4]
    have ht : i < (l.take r).length := by rw [List.length_take]; omega
    rw [Qcg (l.take r) z41 i ht]
    refine congrArg (· :: _) ?_
    show l.getD i z41 = (l.take r).getD i z41
    rw [List.getD_eq_getElem?_getD, List.getD_eq_getElem?_getD, List.getElem?_take, if_pos (by omega)]
   ·rw [List.dropWhile_cons, if_pos h, h5]
  ·refine ⟨i, by omega, hi, Ev.upn 2 e (Ev.neg h (Ev.val rfl)), ?_, ?_⟩
   ·rw [List.takeWhile_cons, if_neg h, List.drop_of_length_le (by rw [List.length_take]; omega)]
   ·rw [List.dropWhile_cons, if_neg h, hd]
theorem skipm_sp (l : List S59) (hl : l.length ≤ 100000000) : ∀ n (i : Nat), l.length - i = n → i ≤ l.length → ∃ r : Nat, i ≤ r ∧ r ≤ l.length ∧ Ev (fun k => Qas.f k l (i : Int)) (r : Int) ∧ ((l.drop i).takeWhile isM).map mvE = era (movesE l (r - i) (i : Int)) ∧ (l.drop i).dropWhile isM = l.drop r := by
 intro n
 unfold Qas.f
 induction n with
 | zero =>
  intro i hn hi
  obtain rfl : i = l.length := by omega
  refine ⟨l.length, by omega, hi, ⟨2, fun n hn => by obtain ⟨m, rfl⟩ : ∃ m, n = m + 2 := ⟨n - 2, by omega⟩; show Qas.l0 (m + 2) l (l.length : Int) = _; rw [Qas.l0, if_neg (by omega), Qas.j1]; rfl⟩, by simp [movesE, era], by simp⟩
 | succ n ih =>
  intro i hn hi
  have hd : l.drop i = Qaj l (i : Int) :: l.drop (i + 1) := Qcg l z59 i (by omega)
  have e : ∀ k, Qas.l0 (k + 2) l (i : Int) = if isM (Qaj l (i : Int)) = true then Qas.l0 k l ((i + 1 : Nat) : Int) else some (i : Int) := fun k => by
   rw [Qas.l0, if_pos (by omega), if_pos (by omega)]
   show Qas.j1 (k + 1) l (i : Int) (isM (Qaj l (i : Int))) = _
   rw [Qas.j1, w64s (n := l.length) (by omega) (by omega)]
  rw [hd]
  by_cases h : isM (Qaj l (i : Int)) = true
  ·obtain ⟨r, h1, h2, h3, h4, h5⟩ := ih (i + 1) (by omega) (by omega)
   refine ⟨r, by omega, h2, Ev.upn 2 e (Ev.pos h h3), ?_, ?_⟩
   ·rw [List.takeWhile_cons, if_pos h, List.map_cons, h4, show r - i = (r - (i + 1)) + 1 by omega]
    show _ = mvE (Qaj l (i : Int)) :: era (movesE l (r - (i + 1)) ((i : Int) + 1))
    rw [show ((i + 1 : Nat) : Int) = (i : Int) + 1 by omega]
   ·rw [List.dropWhile_cons, if_pos h, h5]
  ·refine ⟨i, by omega, hi, Ev.upn 2 e (Ev.neg h (Ev.val rfl)), ?_, ?_⟩
   ·rw [List.takeWhile_cons, if_neg h, Nat.sub_self]; rfl
   ·rw [List.dropWhile_cons, if_neg h, hd]
theorem era_copies (m : Int) (l : List S41) : era (copiesE m l) = l.map cpE := by simp [era, copiesE, cpE, Function.comp_def]
theorem row_era (bc : List S41) (mc : List S59) (i i' j j' : Nat) (a b : Int) (hj : j ≤ j') (hc : (bc.drop i).takeWhile isC = (bc.take i').drop i) (hm : ((mc.drop j).takeWhile isM).map mvE = era (movesE mc (j' - j) (j : Int))) :
    era (rowE bc mc ⟨(i : Int), (i' : Int), (j : Int), (j' : Int), a, b⟩) = ((bc.drop i).takeWhile isC).map cpE ++ (((mc.drop j).takeWhile isM).map mvE ++ era (srcE bc mc a b)) := by
 show era (copiesE (j : Int) ((bc.take (i' : Int).toNat).drop (i : Int).toNat) ++ (movesE mc ((j' : Int) - (j : Int)).toNat (j : Int) ++ srcE bc mc a b)) = _
 rw [show ((j' : Int) - (j : Int)).toNat = j' - j by omega, Int.toNat_natCast, Int.toNat_natCast, era_app, era_app, era_copies, hc, hm]
theorem align_sp (bc : List S41) (mc : List S59) (h1 : bc.length ≤ 100000000) (h2 : mc.length ≤ 100000000) : ∀ n (i j : Nat) (o : List S180), bc.length - i < n → i ≤ bc.length → j ≤ mc.length → o.length ≤ i → (∀ r ∈ o, okAr bc.length mc.length r) →
    ∃ p, Ev (fun k => Qal.l0 k bc mc o (i : Int) (j : Int)) p ∧ (∀ r ∈ p.1, okAr bc.length mc.length r) ∧ (p.2.2 = 0 ∨ p.2.2 = 20) ∧ (p.2.2 = 0 ↔ alOk n (bc.drop i) (mc.drop j) = true) ∧
     (p.2.2 = 0 → era (p.1.flatMap (rowE bc mc)) = era (o.flatMap (rowE bc mc)) ++ evs n (bc.drop i) (mc.drop j)) := by
 intro n
 induction n with
 | zero => intro i j o hn; omega
 | succ n ih =>
  intro i j o hn hi hj ho hO
  obtain ⟨i', hi1, hi2, ei, ci, di⟩ := skipc_sp bc h1 _ i rfl hi
  obtain ⟨j', hj1, hj2, ej, cj, dj⟩ := skipm_sp mc h2 _ j rfl hj
  have hup : ∀ k, Qal.l0 (k + 1) bc mc o (i : Int) (j : Int) = _ := fun k => by rw [Qal.l0]
  have hj1f : ∀ k, Qal.j1 (k + 1) bc mc o (i' : Int) (j' : Int) false (i : Int) (i' : Int) (j : Int) (j' : Int) 0 0 = _ := fun k => by rw [Qal.j1, if_neg (by simp)]
  have f1 : Ev (fun k => Qal.j2 k bc mc o (i' : Int) (j' : Int) true (i : Int) (i' : Int) (j : Int) (j' : Int) 0 0) (([] : List S180), (j' : Int), 20) :=
   ⟨1, fun n hn => by obtain ⟨m, rfl⟩ : ∃ m, n = m + 1 := ⟨n - 1, by omega⟩; show Qal.j2 (m + 1) _ _ _ _ _ true _ _ _ _ _ _ = _; rw [Qal.j2]; rfl⟩
  have top : ∀ (b : Bool) p, (b = true → (i' : Int) = (bc.length : Int) ∧ (j' : Int) = (mc.length : Int)) → (b = false → ¬ ((i' : Int) = (bc.length : Int) ∧ (j' : Int) = (mc.length : Int))) → Ev (fun k => Qal.j1 k bc mc o (i' : Int) (j' : Int) b (i : Int) (i' : Int) (j : Int) (j' : Int) 0 0) p → Ev (fun k => Qal.l0 k bc mc o (i : Int) (j : Int)) p := by
   intro b p hb1 hb2 hp
   by_cases hi3 : (i' : Int) = (bc.length : Int)
   ·have e : b = ((j' : Int) == (mc.length : Int)) := by
      cases b with
      | true => have := (hb1 rfl).2; simp [this]
      | false => have := fun h => hb2 rfl ⟨hi3, h⟩; simp; exact this
    rw [e] at hp
    exact Ev.up hup (Ev.then ei (Ev.then ej (Ev.pos hi3 hp)))
   ·have e : b = false := by
      cases b with
      | true => exact absurd (hb1 rfl).1 hi3
      | false => rfl
    rw [e] at hp
    exact Ev.up hup (Ev.then ei (Ev.then ej (Ev.neg hi3 hp)))
  by_cases hi3 : i' = bc.length
  ·have dbi : (bc.drop i).dropWhile isC = [] := by rw [di, hi3, List.drop_length]
   by_cases hj3 : j' = mc.length
   ·have dmj : (mc.drop j).dropWhile isM = [] := by rw [dj, hj3, List.drop_length]
    refine ⟨(o ++ [⟨(i : Int), (i' : Int), (j : Int), (j' : Int), -1, -1⟩], (j' : Int), 0), top true _ (fun _ => ⟨by omega, by omega⟩) (fun h => by cases h) ⟨1, fun n hn => by
     obtain ⟨m, rfl⟩ : ∃ m, n = m + 1 := ⟨n - 1, by omega⟩
     show Qal.j1 (m + 1) _ _ _ _ _ true _ _ _ _ _ _ = _
     rw [Qal.j1]
     show (if o.length < 2932031007402 then _ else none) = _
     rw [if_pos (by omega)]⟩, fun r hr => ?_, Or.inl rfl, ⟨fun _ => by simp only [alOk, dbi, dmj], fun _ => rfl⟩, fun _ => ?_⟩
    ·rcases List.mem_append.1 hr with h | h
     ·exact hO r h
     ·rw [List.mem_singleton] at h; rw [h]
      exact ⟨⟨by simp, by simp; omega, by simp; omega⟩, ⟨by simp, by simp; omega, by simp; omega⟩, fun h => absurd h (by simp)⟩
    ·rw [List.flatMap_append, era_app, List.flatMap_cons, List.flatMap_nil, List.append_nil, row_era bc mc i i' j j' _ _ hj1 ci cj]
     simp only [evs, dbi, dmj]
     rfl
   ·have dmj : (mc.drop j).dropWhile isM = Qaj mc (j' : Int) :: mc.drop (j' + 1) := by rw [dj]; exact Qcg mc z59 j' (by omega)
    refine ⟨([], (j' : Int), 20), top false _ (fun h => by cases h) (fun _ h => hj3 (by omega)) (Ev.up hj1f (Ev.pos (by omega) f1)), by simp, Or.inr rfl, ⟨fun h => by simp at h, fun h => by simp [alOk, dbi, dmj] at h⟩, fun h => by simp at h⟩
  ·have dbi : (bc.drop i).dropWhile isC = Qam bc (i' : Int) :: bc.drop (i' + 1) := by rw [di]; exact Qcg bc z41 i' (by omega)
   by_cases hj3 : j' = mc.length
   ·have dmj : (mc.drop j).dropWhile isM = [] := by rw [dj, hj3, List.drop_length]
    refine ⟨([], (j' : Int), 20), top false _ (fun h => by cases h) (fun _ h => hi3 (by omega)) (Ev.up hj1f (Ev.neg (by omega) (Ev.pos (by omega) f1))), by simp, Or.inr rfl, ⟨fun h => by simp at h, fun h => by simp [alOk, dbi, dmj] at h⟩, fun h => by simp at h⟩
   ·have dmj : (mc.drop j).dropWhile isM = Qaj mc (j' : Int) :: mc.drop (j' + 1) := by rw [dj]; exact Qcg mc z59 j' (by omega)
    obtain ⟨t, ht⟩ := same_some (Qam bc (i' : Int)).f0 (Qam bc (i' : Int)).f1 (Qam bc (i' : Int)).f2 (Qam bc (i' : Int)).f3 (Qam bc (i' : Int)).f4 (Qaj mc (j' : Int)).f0 (Qaj mc (j' : Int)).f1 (Qaj mc (j' : Int)).f2 (Qaj mc (j' : Int)).f3 (Qaj mc (j' : Int)).f4 (Qaj mc (j' : Int)).f5 (Qaj mc (j' : Int)).f6
    have hs : sameB (Qam bc (i' : Int)) (Qaj mc (j' : Int)) = t := by unfold sameB; rw [ht]; rfl
    have step : ∀ p, Ev (fun k => Qal.j2 k bc mc o (i' : Int) (j' : Int) (!t) (i : Int) (i' : Int) (j : Int) (j' : Int) 0 0) p → Ev (fun k => Qal.l0 k bc mc o (i : Int) (j : Int)) p := fun p hp =>
     top false p (fun h => by cases h) (fun _ h => hi3 (by omega)) (Ev.up hj1f (Ev.neg (by omega) (Ev.neg (by omega) (Ev.pos (by omega) (Ev.pos (by omega) (Ev.pos (by omega) (Ev.pos (by omega) (Ev.then (g := fun _ => _) ⟨0, fun _ _ => ht⟩ hp))))))))
    cases t with
    | false => exact ⟨([], (j' : Int), 20), step _ f1, by simp, Or.inr rfl, ⟨fun h => by simp at h, fun h => by simp [alOk, dbi, dmj, hs] at h⟩, fun h => by simp at h⟩
    | true =>
     obtain ⟨p, hp, hq, hz, ha, he⟩ := ih (i' + 1) (j' + 1) (o ++ [⟨(i : Int), (i' : Int), (j : Int), (j' : Int), (i' : Int), (j' : Int)⟩]) (by omega) (by omega) (by omega) (by rw [List.length_append, List.length_singleton]; omega) (fun r hr => by
      rcases List.mem_append.1 hr with h | h
      ·exact hO r h
      ·rw [List.mem_singleton] at h; rw [h]
       exact ⟨⟨by simp, by simp; omega, by simp; omega⟩, ⟨by simp, by simp; omega, by simp; omega⟩, fun _ => ⟨by simp; omega, by simp, by simp; omega⟩⟩)
     refine ⟨p, step p (Ev.up (g := fun k => Qal.l0 k bc mc (o ++ [⟨(i : Int), (i' : Int), (j : Int), (j' : Int), (i' : Int), (j' : Int)⟩]) ((i' + 1 : Nat) : Int) ((j' + 1 : Nat) : Int)) (fun k => ?_) hp), hq, hz, ?_, fun h0 => ?_⟩
     ·show Qal.j2 (k + 1) bc mc o (i' : Int) (j' : Int) false (i : Int) (i' : Int) (j : Int) (j' : Int) 0 0 = _
      rw [Qal.j2, if_neg (by simp), if_pos (by omega), w64s (n := bc.length) (by omega) (by omega), w64s (n := mc.length) (by omega) (by omega)]
     ·rw [ha]; simp only [alOk, dbi, dmj, hs, Bool.true_and]
     ·rw [he h0, List.flatMap_append, era_app, List.flatMap_cons, List.flatMap_nil, List.append_nil, row_era bc mc i i' j j' _ _ hj1 ci cj]
      have hsrc : era (srcE bc mc (i' : Int) (j' : Int)) = [Evt.ins (Qam bc (i' : Int)) (Qaj mc (j' : Int))] := by unfold srcE; rw [if_pos (by omega)]; rfl
      simp only [evs, dbi, dmj, hsrc, List.append_assoc, List.cons_append, List.nil_append]
theorem drop47 (l : List S47) (i : Nat) (h : i < l.length) : l.drop i = Qaa l (i : Int) :: l.drop (i + 1) := Qcg l z47 i h
theorem asc_drop {l : List S47} (h : Asc l) {i : Nat} (hi : i < l.length) {p : S47} (hp : p ∈ l.drop (i + 1)) : Qb7 (Qaa l (i : Int)) p = true := by
 have := h.sub (List.drop_sublist i l)
 rw [drop47 l i hi] at this
 exact (asc_cons this).1 p hp
theorem miss_sp (l1 l9 : List S47) (h1 : l1.length ≤ 100000000) (h9 : l9.length ≤ 100000000) (A1 : Asc l1) (A9 : Asc l9) : ∀ m (j i : Nat), (l9.length - i) + (l1.length - j) = m → j ≤ l1.length → i ≤ l9.length →
    (i < l9.length → ∃ r, Ev (fun k => Qab.l1 k l1 (j : Int) l9 (l9.length : Int) (i : Int) (Qaa l9 (i : Int)).f0 (Qaa l9 (i : Int)).f1) r ∧ (r.2.2 = false ↔ ∀ p ∈ l9.drop i, p ∈ l1.drop j)) ∧
    ∃ r, Ev (fun k => Qab.l0 k l1 (j : Int) l9 (l9.length : Int) (i : Int)) r ∧ (r.2.2 = false ↔ ∀ p ∈ l9.drop i, p ∈ l1.drop j) := by
 intro m
 induction m using Nat.strongRecOn with
 | _ m ih =>
  intro j i hm hj hi
  have key : i < l9.length → ∃ r, Ev (fun k => Qab.l1 k l1 (j : Int) l9 (l9.length : Int) (i : Int) (Qaa l9 (i : Int)).f0 (Qaa l9 (i : Int)).f1) r ∧ (r.2.2 = false ↔ ∀ p ∈ l9.drop i, p ∈ l1.drop j) := by
   intro hlt
   have hx : Qaa l9 (i : Int) ∈ l9.drop i := by rw [drop47 l9 i hlt]; simp
   have j3t : Qaa l9 (i : Int) ∉ l1.drop j → ∃ r, Ev (fun k => Qab.j3 k l1 (j : Int) l9 (l9.length : Int) (i : Int) true (Qaa l9 (i : Int)).f0 (Qaa l9 (i : Int)).f1) r ∧ (r.2.2 = false ↔ ∀ p ∈ l9.drop i, p ∈ l1.drop j) := fun hn =>
    ⟨_, Ev.up (g := fun k => _) (fun k => by rw [Qab.j3]) (Ev.pos (c := true = true) rfl (Ev.val rfl)), ⟨fun h => by simp at h, fun h => absurd (h _ hx) hn⟩⟩
   by_cases hjl : j < l1.length
   ·have ht : Ev (fun _ : Nat => Qa6.f (Qaa l1 (j : Int)).f0 (Qaa l1 (j : Int)).f1 (Qaa l9 (i : Int)).f0 (Qaa l9 (i : Int)).f1) (Qb7 (Qaa l1 (j : Int)) (Qaa l9 (i : Int))) := ⟨0, fun _ _ => less_eq _ _⟩
    have : ∃ r, Ev (fun k => Qab.j2 k l1 (j : Int) l9 (l9.length : Int) (i : Int) (Qb7 (Qaa l1 (j : Int)) (Qaa l9 (i : Int))) (Qaa l9 (i : Int)).f0 (Qaa l9 (i : Int)).f1) r ∧ (r.2.2 = false ↔ ∀ p ∈ l9.drop i, p ∈ l1.drop j) := by
     cases hb : Qb7 (Qaa l1 (j : Int)) (Qaa l9 (i : Int)) with
     | true =>
      obtain ⟨r, hr, hq⟩ := (ih _ (by omega) (j + 1) i rfl (by omega) hi).1 hlt
      refine ⟨r, Ev.up (g := fun k => _) (fun k => by rw [Qab.j2]) (Ev.pos (c := true = true) rfl (by rw [w64s (n := l1.length) (by omega) hjl]; exact hr)), hq.trans ?_⟩
      have hne : ∀ p ∈ l9.drop i, p ≠ Qaa l1 (j : Int) := by
       intro p hp e
       have hp2 : Qb7 (Qaa l1 (j : Int)) p = true := by
        rw [drop47 l9 i hlt] at hp
        rcases List.mem_cons.1 hp with h | h
        ·rw [h]; exact hb
        ·exact Qcp hb (asc_drop A9 hlt h)
       rw [e, Qd8] at hp2; cases hp2
      rw [drop47 l1 j hjl]
      exact ⟨fun h p hp => List.mem_cons_of_mem _ (h p hp), fun h p hp => (List.mem_cons.1 (h p hp)).resolve_left (hne p hp)⟩
     | false =>
      have go : ∃ r, Ev (fun k => Qab.j3 k l1 (j : Int) l9 (l9.length : Int) (i : Int) (!(((Qaa l1 (j : Int)).f0) == (Qaa l9 (i : Int)).f0) || (!(((Qaa l1 (j : Int)).f1) == (Qaa l9 (i : Int)).f1))) (Qaa l9 (i : Int)).f0 (Qaa l9 (i : Int)).f1) r ∧ (r.2.2 = false ↔ ∀ p ∈ l9.drop i, p ∈ l1.drop j) := by
       by_cases he : Qaa l1 (j : Int) = Qaa l9 (i : Int)
       ·rw [he]
        rw [show (!((Qaa l9 (i : Int)).f0 == (Qaa l9 (i : Int)).f0) || !((Qaa l9 (i : Int)).f1 == (Qaa l9 (i : Int)).f1)) = false by simp]
        obtain ⟨r, hr, hq⟩ := (ih _ (by omega) j (i + 1) rfl hj (by omega)).2
        refine ⟨r, Ev.up (g := fun k => _) (fun k => by rw [Qab.j3]) (Ev.neg (c := false = true) (by simp) (by rw [w64s (n := l9.length) (by omega) hlt]; exact hr)), hq.trans ?_⟩
        rw [drop47 l9 i hlt]
        refine ⟨fun h p hp => ?_, fun h p hp => h p (List.mem_cons_of_mem _ hp)⟩
        rcases List.mem_cons.1 hp with e | e
        ·rw [e, drop47 l1 j hjl, he]; simp
        ·exact h p e
       ·rw [show (!((Qaa l1 (j : Int)).f0 == (Qaa l9 (i : Int)).f0) || !((Qaa l1 (j : Int)).f1 == (Qaa l9 (i : Int)).f1)) = true by
          cases h1 : Qaa l1 (j : Int); cases h2 : Qaa l9 (i : Int); rw [h1, h2] at he; simp at he ⊢; omega]
        refine j3t fun hm => ?_
        rw [drop47 l1 j hjl] at hm
        rcases List.mem_cons.1 hm with e | e
        ·exact he e.symm
        ·rw [asc_drop A1 hjl e] at hb; cases hb
      obtain ⟨r, hr, hq⟩ := go
      exact ⟨r, Ev.up (g := fun k => _) (fun k => by rw [Qab.j2]) (Ev.neg (c := false = true) (by simp) (Ev.neg (by omega) (Ev.pos (by omega) (Ev.pos (by omega) hr)))), hq⟩
    obtain ⟨r, hr, hq⟩ := this
    exact ⟨r, Ev.up (g := fun k => _) (fun k => by rw [Qab.l1]) (Ev.pos (by omega) (Ev.pos (by omega) (Ev.then ht hr))), hq⟩
   ·obtain ⟨r, hr, hq⟩ := j3t (by rw [List.drop_of_length_le (by omega)]; simp)
    exact ⟨r, Ev.up (g := fun k => _) (fun k => by rw [Qab.l1]) (Ev.neg (by omega) (Ev.up (g := fun k => _) (fun k => by rw [Qab.j2]) (Ev.neg (c := false = true) (by simp) (Ev.pos (by omega) hr)))), hq⟩
  refine ⟨key, ?_⟩
  by_cases hlt : i < l9.length
  ·obtain ⟨r, hr, hq⟩ := key hlt
   exact ⟨r, Ev.up (g := fun k => _) (fun k => by rw [Qab.l0]) (Ev.pos (by omega) (Ev.pos (by omega) (Ev.pos (by omega) hr))), hq⟩
  ·exact ⟨_, Ev.up (g := fun k => _) (fun k => by rw [Qab.l0]) (Ev.neg (by omega) (Ev.val rfl)), by rw [List.drop_of_length_le (by omega)]; simp⟩
theorem imp_sp (a b : List S47) (ha : a.length ≤ 100000000) (hb : b.length ≤ 100000000) (Aa : Asc a) (Ab : Asc b) : ∃ r, Ev (fun k => edge_Implies.f k a b) r ∧ (r.2.2 = 0 ↔ ∀ p ∈ b, p ∈ a) := by
 obtain ⟨r, hr, hq⟩ := (miss_sp a b ha hb Aa Ab _ 0 0 rfl (by omega) (by omega)).2
 rw [List.drop_zero, List.drop_zero] at hq
 unfold edge_Implies.f
 by_cases h : r.2.2 = true
 ·exact ⟨_, Ev.then hr (Ev.pos h (Ev.val rfl)), ⟨fun h0 => by simp at h0, fun h0 => by rw [hq.2 h0] at h; cases h⟩⟩
 ·exact ⟨_, Ev.then hr (Ev.neg h (Ev.val rfl)), ⟨fun _ => hq.1 (by simpa using h), fun _ => rfl⟩⟩
theorem Ev.det {α : Type} {f : Nat → Option α} {a b : α} (h1 : Ev f a) (h2 : Ev f b) : a = b := by
 obtain ⟨K, h1⟩ := h1
 obtain ⟨L, h2⟩ := h2
 have e := (h1 (K + L) (by omega)).symm.trans (h2 (K + L) (by omega))
 exact Option.some.inj e
theorem row_asc {l : List S47} {m r s : Int} (h : okRow l m r s) : Asc l := by
 refine List.pairwise_iff_getElem.2 fun i j hi hj hij => ?_
 have go : ∀ d i j (hi : i < l.length) (hj : j < l.length), j = i + 1 + d → Qb7 l[i] l[j] = true := by
  intro d
  induction d with
  | zero =>
   intro i j hi hj e
   subst e
   have h2 := (h (i + 1) hj).2.2 (by omega)
   have e1 : Qaa l ((i + 1 - 1 : Nat) : Int) = l[i] := rd47 l i hi
   rw [e1, rd47 l (i + 1) hj] at h2
   have h3 := less_eq l[i] l[i + 1]
   rw [show Qa6.f l[i].f0 l[i].f1 l[i + 1].f0 l[i + 1].f1 = some true from h2] at h3
   exact (Option.some.inj h3).symm
  | succ d ih =>
   intro i j hi hj e
   subst e
   have h1 := ih i (i + 1 + d) hi (by omega) rfl
   have h2 := (h (i + 1 + d + 1) (by omega)).2.2 (by omega)
   have e1 : Qaa l ((i + 1 + d + 1 - 1 : Nat) : Int) = l[i + 1 + d] := rd47 l (i + 1 + d) (by omega)
   rw [e1, rd47 l (i + 1 + d + 1) (by omega)] at h2
   have h3 := less_eq l[i + 1 + d] l[i + 1 + d + 1]
   rw [show Qa6.f l[i + 1 + d].f0 l[i + 1 + d].f1 l[i + 1 + d + 1].f0 l[i + 1 + d + 1].f1 = some true from h2] at h3
   exact Qcp h1 (Option.some.inj h3).symm
 exact go (j - i - 1) i j hi hj (by omega)
theorem bz {c : Bool} {x y : Int} (hx : x ≠ 0) (h : (bif c then x else y) = 0) : c = false ∧ y = 0 := by
 cases c
 ·exact ⟨rfl, h⟩
 ·exact absurd h hx
theorem trm_to {a0 a1 a2 a3 m n : Int} (h : trmR a0 a1 a2 a3 m n = 0) : (a0 = 1 → 0 ≤ a2 ∧ a2 < n) ∧ (a0 = 2 → (0 ≤ a2 ∧ a2 < n) ∧ 0 ≤ a3 ∧ a3 < n) := by
 unfold trmR at h
 refine ⟨fun e => ?_, fun e => ?_⟩
 ·subst e
  obtain ⟨h1, _⟩ := bz (by decide) (show (bif !decide (0 ≤ a2 ∧ a2 < n) then (11 : Int) else bif (a1 != 0) || (a3 != 0) then 12 else 0) = 0 from h)
  simpa using h1
 ·subst e
  obtain ⟨_, h⟩ := bz (by decide) (show (bif !decide (0 ≤ a1 ∧ a1 < m) then (9 : Int) else bif !decide (0 ≤ a2 ∧ a2 < n) || !decide (0 ≤ a3 ∧ a3 < n) then 11 else 0) = 0 from h)
  obtain ⟨h2, _⟩ := bz (by decide) h
  obtain ⟨h2, h3⟩ := Bool.or_eq_false_iff.1 h2
  exact ⟨by simpa using h2, by simpa using h3⟩
theorem succ_some {a0 a1 a2 a3 m n : Int} (h : okTerm a0 a1 a2 a3 m n) : ∃ l, source_Successors.f a0 a1 a2 a3 = some l ∧ ∀ t ∈ l, 0 ≤ t ∧ t < n := by
 unfold source_Successors.f
 obtain ⟨h2, h3⟩ := trm_to h
 by_cases h1 : a0 = 1
 ·rw [if_pos h1]
  refine ⟨_, rfl, fun t ht => ?_⟩
  rw [List.mem_singleton] at ht; rw [ht]; exact h2 h1
 ·rw [if_neg h1]
  by_cases h4 : a0 = 2
  ·rw [if_pos h4]
   refine ⟨_, rfl, fun t ht => ?_⟩
   rcases List.mem_cons.1 ht with e | e
   ·rw [e]; exact (h3 h4).1
   ·rw [List.mem_singleton] at e; rw [e]; exact (h3 h4).2
  ·rw [if_neg h4]; exact ⟨_, rfl, by simp⟩
structure Bnd (sr : Int) (SB : List S39) (tr ts : Int) (TB : List S57) (W : List (List S47)) : Prop where
 b1 : sr ≤ 1000
 b2 : tr ≤ 1000
 b3 : ts ≤ 1000
 l1 : SB.length ≤ 1000
 l2 : TB.length ≤ 1000
 l3 : W.length ≤ 1000
 c1 : ∀ i : Nat, i < SB.length → (Qag SB (i : Int)).f0.length ≤ 1000
 c2 : ∀ i : Nat, i < TB.length → (Qaq TB (i : Int)).f0.length ≤ 1000
 c3 : ∀ i : Nat, i < W.length → (Qao W (i : Int)).length ≤ 1000
theorem rd39 (l : List S39) (i : Nat) (h : i < l.length) : Qag l (i : Int) = l[i] := by
 show l.getD i z39 = _
 rw [List.getD_eq_getElem?_getD, List.getElem?_eq_getElem h]; rfl
attribute [local go_sem high] eqA47
mutual
def Qaf.l0 : Nat → List (S59) → Int → Int → Option (Int)
 | 0, _, _, _ => none
 | k + 1, x0, x3, x4 => if x4 < (x0.length : Int) then (Qaf.l1 k x0 x3 x4 0) else (some x3)
def Qaf.l1 : Nat → List (S59) → Int → Int → Int → Option (Int)
 | 0, _, _, _, _ => none
 | k + 1, x0, x3, x4, x5 => if (wrap64 (x4 + x5)) < (x0.length : Int) then (if 0 ≤ (wrap64 (x4 + x5)) then (Qaf.j2 k x0 x3 x4 x5 (((Qaj x0 (wrap64 (x4 + x5))).f0) == 18)) else (none)) else (Qaf.j2 k x0 x3 x4 x5 false)
def Qaf.j2 : Nat → List (S59) → Int → Int → Int → Bool → Option (Int)
 | 0, _, _, _, _, _ => none
 | k + 1, x0, x3, x4, x5, x27 => if x27 = true then (Qaf.l1 k x0 x3 x4 (wrap64 (x5 + 1))) else (if x5 > x3 then (Qaf.l0 k x0 x5 (wrap64 (x4 + 1))) else (Qaf.l0 k x0 x3 (wrap64 (x4 + 1))))
end
def Qaf.f (k : Nat) (l0 : List (S59)) : Option (Int) := Qaf.l0 k l0 0 0
theorem Qaf.calls (k : Nat) (A0 : Option Addr) (c0 : Nat) (l0 : List (S59)) (r : Int) (w : World) (hr0 : Kd.C k59 w A0 l0.length l0) (hc0 : l0.length ≤ c0) (h : Qaf.f k l0 = some r) :
 Calls Tryz.prog 16 #[.slice A0 l0.length c0] w fun e w' => e = .returned (.int .i64 r) ∧ Qbr w w' := by
 have R0 := As0 hr0
 have C0 := As0 hc0
 clear hr0 hc0
 have H : (Qaf.l0 k l0 0 0) = some r := h
 clear h
 have H' := As0 H
 clear H
 go_enter Tryz.func16, Tryz.ntmps16
 go_wp2
 go_loopg [3, 4] k (fun kq v3 v4 w' => ∃ (cI : Int) (aE : Int), v3 = .int .i64 cI ∧ v4 = .int .i64 aE ∧ Qbf (Qaf.l0 kq l0 cI aE = some r) ∧ Qbf (kq ≤ k) ∧ Qbr w w')
 case atStart => exact ⟨(0), (0), eR, eR, H', ⟨Nat.le_refl _⟩, by repeat (first | exact Qbr.refl _ | apply Qbr.step)⟩
 case round =>
  clear H'
  obtain ⟨cI, aE, rfl, rfl, HA, HK1, ⟨m1, rfl⟩⟩ := hrel
  cases gk with
  | zero => exact absurd HA.out (by simp [Qaf.l0])
  | succ k1 =>
   have H := HA.out
   clear HA
   simp only [Qaf.l0] at H
   by_cases c2 : aE < (l0.length : Int)
   rotate_left
   ·rw [if_neg c2] at H
    have c2b0 := decide_eq_false c2
    clear c2
    obtain rfl := Option.some.inj H
    go_wp2
    go_ret
    exact dR
   rw [if_pos c2] at H
   have c2b0 := decide_eq_true c2
   clear c2
   have H' := As0 H
   clear H
   go_wp2
   go_loopg [5] k1 (fun kq v5 w' => ∃ (x5_2 : Int), v5 = .int .i64 x5_2 ∧ Qbf (Qaf.l1 kq l0 cI aE x5_2 = some r) ∧ Qbf (kq ≤ k1) ∧ Qbr w w')
   case atStart => exact ⟨(0), eR, H', ⟨Nat.le_refl _⟩, by repeat (first | exact Qbr.refl _ | apply Qbr.step)⟩
   case round =>
    clear H'
    obtain ⟨x5_2, rfl, HA, HK2, ⟨m2, rfl⟩⟩ := hrel
    cases gk with
    | zero => exact absurd HA.out (by simp [Qaf.l1])
    | succ k2 =>
     have H := HA.out
     clear HA
     simp only [Qaf.l1] at H
     have C3 := As0 H
     clear H
     go_upto_region 6 with (fail)
     go_cut [27] (fun v27 wc => ∃ (kq : Nat) (x27_2 : Bool), v27 = .bool x27_2 ∧ Qbf (Qaf.j2 kq l0 cI aE x5_2 x27_2 = some r) ∧ Qbf (kq ≤ k2) ∧ Qbr w wc)
     case first =>
      have H := C3.out
      clear C3
      by_cases c4 : (wrap64 (aE + x5_2)) < (l0.length : Int)
      rotate_left
      ·rw [if_neg c4] at H
       have c4b0 := decide_eq_false c4
       clear c4
       (first | rw [c4b0] | (simp only [Qbo, Qbp]; rw [c4b0]) | skip)
       have H' := As0 H
       clear H
       go_wp2
       go_meet
       case rel => exact ⟨_, (false), eR, H', ⟨by have := HK1.out; have := HK2.out; first | omega | exact Nat.le_refl _⟩, by repeat (first | exact Qbr.refl _ | apply Qbr.step)⟩
      rw [if_pos c4] at H
      have c4b0 := decide_eq_true c4
      clear c4
      (first | rw [c4b0] | (simp only [Qbo, Qbp]; rw [c4b0]) | skip)
      obtain ⟨fR, hji5⟩ : ∃ j_ : Int, (wrap64 (aE + x5_2)) = j_ := ⟨_, rfl⟩
      replace H : (if 0 ≤ (fR) then (Qaf.j2 k2 l0 cI aE x5_2 (((Qaj l0 (fR)).f0) == 18)) else (none)) = some r := by first | (rw [hji5] at H; exact H) | (simp only [hji5] at H ⊢; exact H)
      (try rw [hji5] at c4b0)
      have hji5w : (IntKind.i64.wrap (aE + x5_2)) = fR := (Qbo _).trans hji5
      by_cases c6 : 0 ≤ (fR)
      rotate_left
      ·rw [if_neg c6] at H
       exact absurd H (by simp)
      rw [if_pos c6] at H
      have c6b0 := decide_eq_true c6
      clear c6
      have H' := As0 H
      clear H
      have p548 : 0 ≤ ((fR) : Int) := qR
      have q548 : (fR) < (l0.length : Int) := qR
      obtain ⟨ad548, e548, hx548_0, hx548_1, hx548_2, hx548_3, hx548_4, hx548_5, hx548_6⟩ := at_T59 R0.out (fR) p548 q548
      cases e548
      replace p548 := eq_true p548
      replace q548 := eq_true q548
      go_wp2
      go_meet
      case rel => exact ⟨_, ((((Qaj l0 (fR)).f0) == 18)), (by first | rfl | (simp; done) | (simp only [← hji5] <;> (first | rfl | simp)) | (simp [*]; done)), H', ⟨by have := HK1.out; have := HK2.out; first | omega | exact Nat.le_refl _⟩, by repeat (first | exact Qbr.refl _ | apply Qbr.step)⟩
     case rest =>
      clear C3
      obtain ⟨kq, x27_2, rfl, HA, HJ2, ⟨mc2, rfl⟩⟩ := hcut
      cases kq with
      | zero => exact absurd HA.out (by simp [Qaf.j2])
      | succ kj2 =>
       have H := HA.out
       clear HA
       simp only [Qaf.j2] at H
       by_cases c7 : x27_2 = true
       ·subst c7
        rw [if_pos rfl] at H
        have H' := As0 H
        clear H
        go_wp2
        go_roundg kj2
        case measure => have := HK1.out; have := HK2.out; have := HJ2.out; omega
        case rel => exact ⟨(wrap64 (x5_2 + 1)), eR, H', ⟨by have := HK1.out; have := HK2.out; have := HJ2.out; omega⟩, by repeat (first | exact Qbr.refl _ | apply Qbr.step)⟩
       replace c7 := Bool.eq_false_iff.mpr c7
       subst c7
       rw [if_neg bF] at H
       by_cases c8 : x5_2 > cI
       rotate_left
       ·rw [if_neg c8] at H
        have c8b0 := decide_eq_false c8
        clear c8
        have H' := As0 H
        clear H
        go_wp2
        go_roundg kj2
        case measure => have := HK1.out; have := HK2.out; have := HJ2.out; omega
        case rel => exact ⟨(cI), (wrap64 (aE + 1)), eR, eR, H', ⟨by have := HK1.out; have := HK2.out; have := HJ2.out; omega⟩, by repeat (first | exact Qbr.refl _ | apply Qbr.step)⟩
       rw [if_pos c8] at H
       have c8b0 := decide_eq_true c8
       clear c8
       have H' := As0 H
       clear H
       go_wp2
       go_roundg kj2
       case measure => have := HK1.out; have := HK2.out; have := HJ2.out; omega
       case rel => exact ⟨(x5_2), (wrap64 (aE + 1)), eR, eR, H', ⟨by have := HK1.out; have := HK2.out; have := HJ2.out; omega⟩, by repeat (first | exact Qbr.refl _ | apply Qbr.step)⟩
def regcerttop_inserted.T2 : Bool × List (List Nat × List Nat) := (true, [([], []), ([], []), ([], []), ([1, 2], [1, 2]), ([0, 3], [0, 3]), ([], []), ([5], [5]), ([4, 6, 4], [4, 6]), ([7, 7, 0, 1, 2, 3, 4, 5, 6, 7], [7])])
def Qcd : List S59 → Nat
 | [] => 0
 | m :: t => if m.f0 = 18 then Qcd t + 1 else 0
theorem Qek : ∀ (l : List S59) (c : Nat), c ≤ 64 → (Qc0 l c ↔ c + Qcd l ≤ 64 ∧ ∀ i : Nat, Qcd (l.drop i) ≤ 64)
 | [], c, hc => by simp [Qc0, Qcd, hc]
 | m :: t, c, hc => by
  by_cases h : m.f0 = 18
  ·simp only [Qc0, Qcd, if_pos h]
   constructor
   ·rintro ⟨h1, h2⟩
    obtain ⟨h3, h4⟩ := (Qek t (c + 1) h1).1 h2
    refine ⟨by omega, fun i => ?_⟩
    cases i with
    | zero => simp only [List.drop_zero, Qcd, if_pos h]; omega
    | succ i => exact h4 i
   ·rintro ⟨h1, h2⟩
    have hc1 : c + 1 ≤ 64 := by omega
    exact ⟨hc1, (Qek t (c + 1) hc1).2 ⟨by omega, fun i => h2 (i + 1)⟩⟩
  ·simp only [Qc0, Qcd, if_neg h]
   rw [Qek t 0 (by omega)]
   constructor
   ·rintro ⟨h1, h2⟩
    refine ⟨by omega, fun i => ?_⟩
    cases i with
    | zero => simp only [List.drop_zero, Qcd, if_neg h]; omega
    | succ i => exact h2 i
   ·rintro ⟨h1, h2⟩
    exact ⟨by have := h2 1; simpa using this, fun i => h2 (i + 1)⟩
theorem Qet (l : List S59) : Qc0 l 0 ↔ ∀ i : Nat, Qcd (l.drop i) ≤ 64 := by
 rw [Qek l 0 (by omega)]
 exact ⟨fun h => h.2, fun h => ⟨by have := h 0; simpa using this, h⟩⟩
theorem runHead_le : ∀ l : List S59, Qcd l ≤ l.length
 | [] => Nat.le_refl _
 | m :: t => by
  have := runHead_le t
  simp only [Qcd, List.length_cons]
  split <;> omega
theorem moves_l1 (k : Nat) (l : List S59) (b i n q : Int) (h : wrap64 (i + n) = q) : Qaf.l1 (k + 1) l b i n = (if q < (l.length : Int) then (if 0 ≤ q then (Qaf.j2 k l b i n (((Qaj l q).f0) == 18)) else (none)) else (Qaf.j2 k l b i n false)) := by
 rw [Qaf.l1, h]
theorem moves_ev (l : List S59) (hl : l.length ≤ 1000) (R : Nat → Nat) (R0 : ∀ j, l.length ≤ j → R j = 0) (R1 : ∀ j, j < l.length → (Qaj l (j : Int)).f0 = 18 → R j = R (j + 1) + 1) (R2 : ∀ j, j < l.length → (Qaj l (j : Int)).f0 ≠ 18 → R j = 0) (R3 : ∀ j, R j ≤ 1000) :
    ∀ m (i b : Nat), l.length - i = m → i ≤ l.length → b ≤ 1000 → ∃ v : Nat, Ev (fun k => Qaf.l0 k l (b : Int) (i : Int)) (v : Int) ∧ (v ≤ 64 ↔ b ≤ 64 ∧ ∀ j : Nat, i ≤ j → R j ≤ 64) := by
 intro m
 induction m with
 | zero =>
  intro i b hm hi hb
  exact ⟨b, Ev.up (g := fun k => _) (fun k => rfl) (Ev.neg (by omega) (Ev.val rfl)), ⟨fun h => ⟨h, fun j hj => by rw [R0 j (by omega)]; omega⟩, fun h => h.1⟩⟩
 | succ m ih =>
  intro i b hm hi hb
  have hle := R3 i
  obtain ⟨v, hv, hq⟩ := ih (i + 1) (max b (R i)) (by omega) (by omega) (by omega)
  have j2f : ∀ n : Nat, R i = n → Ev (fun k => Qaf.j2 k l (b : Int) (i : Int) (n : Int) false) (v : Int) := by
   intro n hn
   refine Ev.up (g := fun k => _) (fun k => by rw [Qaf.j2]) (Ev.neg (c := false = true) (by simp) ?_)
   rw [w64s (n := l.length) (i := i) (by omega) (by omega)]
   by_cases hnb : b < n
   ·refine Ev.pos (by omega) ?_
    rw [show max b (R i) = n by omega] at hv; exact hv
   ·refine Ev.neg (by omega) ?_
    rw [show max b (R i) = b by omega] at hv; exact hv
  have inner : ∀ p (n : Nat), l.length - (i + n) = p → i + n ≤ l.length → R i = n + R (i + n) → Ev (fun k => Qaf.l1 k l (b : Int) (i : Int) (n : Int)) (v : Int) := by
   intro p
   induction p with
   | zero =>
    intro n hp hn he
    rw [R0 (i + n) (by omega)] at he
    exact Ev.up (fun k => moves_l1 k l b i n ((i + n : Nat) : Int) (by rw [w64i (by omega) (by omega)]; omega)) (Ev.neg (by omega) (j2f n he))
   | succ p ihp =>
    intro n hp hn he
    refine Ev.up (fun k => moves_l1 k l b i n ((i + n : Nat) : Int) (by rw [w64i (by omega) (by omega)]; omega)) (Ev.pos (by omega) (Ev.pos (by omega) ?_))
    by_cases h18 : (Qaj l ((i + n : Nat) : Int)).f0 = 18
    ·rw [show ((Qaj l ((i + n : Nat) : Int)).f0 == 18) = true from beq_iff_eq.2 h18]
     rw [R1 (i + n) (by omega) h18] at he
     have := ihp (n + 1) (by omega) (by omega) (by rw [he, show i + (n + 1) = i + n + 1 by omega]; omega)
     refine Ev.up (g := fun k => _) (fun k => by rw [Qaf.j2]) (Ev.pos (c := true = true) rfl ?_)
     rw [w64s (n := 1000) (i := n) (by omega) (by omega)]; exact this
    ·rw [show ((Qaj l ((i + n : Nat) : Int)).f0 == 18) = false from beq_eq_false_iff_ne.2 h18]
     rw [R2 (i + n) (by omega) h18] at he
     exact j2f n he
  have h0 := inner _ 0 rfl (by omega) (by rw [Nat.add_zero]; omega)
  refine ⟨v, Ev.up (g := fun k => _) (fun k => rfl) (Ev.pos (by omega) h0), hq.trans ⟨fun h => ⟨by omega, fun j hj => ?_⟩, fun h => ⟨by have := h.2 i (by omega); omega, fun j hj => h.2 j (by omega)⟩⟩⟩
  rcases Nat.eq_or_lt_of_le hj with rfl | h3
  ·omega
  ·exact h.2 j h3
theorem moves_spec (l : List S59) (hl : l.length ≤ 1000) : ∃ v : Nat, Ev (fun k => Qaf.f k l) (v : Int) ∧ (v ≤ 64 ↔ Qc0 l 0) := by
 obtain ⟨v, hv, hq⟩ := moves_ev l hl (fun j => Qcd (l.drop j)) (fun j hj => by show Qcd (l.drop j) = 0; rw [List.drop_of_length_le hj]; rfl)
  (fun j hj h18 => by show Qcd (l.drop j) = Qcd (l.drop (j + 1)) + 1; rw [Qcg l z59 j hj]; exact if_pos h18)
  (fun j hj h18 => by show Qcd (l.drop j) = 0; rw [Qcg l z59 j hj]; exact if_neg h18)
  (fun j => Nat.le_trans (runHead_le _) (by rw [List.length_drop]; omega)) _ 0 0 rfl (by omega) (by omega)
 refine ⟨v, hv, hq.trans ?_⟩
 rw [Qet]
 exact ⟨fun h i => h.2 i (by omega), fun h => ⟨by omega, fun j _ => h j⟩⟩
end Go.Proofs.YtchpkjgibloleaaGreat.Z
