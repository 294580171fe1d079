/- TD -/
import Derived.Shelf.Abstract
import Derived.WalkMore
import Derived.Deep.LoopGhost
import Derived.Orders
import Derived.Laws.CopyOwn
import Derived.Test.YtchpkjgibloleaaGreatTC
import Derived.Calls
import Derived.LoopN
import Derived.Scope
import Derived.Recover
import Derived.Below
import Derived.Laws.AppendOwn
import Derived.Maps.AppendAt
import Derived.Laws.MakeOwn
import Derived.Laws.Cells
import Derived.Laws.Tables
import Derived.Handy
import Derived.WalkKit
import Derived.KernelRfl
import Derived.Test.YtchpkjgibloleaaGreatProg
import Derived.Test.YtchpkjgibloleaaGreatTA
set_option linter.unusedVariables false
set_option linter.unusedSimpArgs false
namespace Go.Proofs.YtchpkjgibloleaaGreat.Z
set_option maxRecDepth 100000
set_option maxHeartbeats 8000000
open Go.RowKit Go.Proofs.YtchpkjgibloleaaGreatW.PrintWords Go.Proofs.YtchpkjgibloleaaGreatW.PrintLast Go.Proofs.YtchpkjgibloleaaGreatW.PrintMore
attribute [local go_sem] Qb3 Qb8
def Qev (d : Code) : List Bool → Code → Code
 | [], _ => d
 | false :: l, .seq a b => .seq (Qev d l a) b
 | true :: l, .seq a b => .seq a (Qev d l b)
 | _ :: l, .block i c => .block i (Qev d l c)
 | _ :: l, .loop c => .loop (Qev d l c)
 | _ :: l, .scope c => .scope (Qev d l c)
 | _ :: _, c => c
def On (g : Nat) (w W : World) : Prop := (∀ i, i ≠ g → W.heap[i]? = w.heap[i]?) ∧ ∀ B w0, B ≤ g → Below B w0 w → Below B w0 W
theorem On.refl (g : Nat) (w : World) : On g w w := ⟨fun _ _ => rfl, fun _ _ _ h => h⟩
theorem On.set {g : Nat} {w W : World} (h : On g w W) (j : Nat) (u : Value) : On g w (W.setCell ⟨g, j, none⟩ u) := ⟨fun i hi => (Below.heap_setCell W _ u i hi).trans (h.1 i hi), fun B w0 hB hb => have q := h.2 B w0 hB hb; ⟨q.os, q.tape, q.output, by simpa using q.size, fun k hk => (Below.heap_setCell W _ u k (by show k ≠ g; omega)).trans (q.block k hk)⟩⟩
theorem On.drew {g : Nat} {w W : World} (h : On g w W) : On g w W.drew := ⟨h.1, fun B w0 hB hb => bd1 (h.2 B w0 hB hb)⟩
theorem Ci_on {g : Nat} {w w' : World} {A : Option Addr} {l : List Int} (hC : Kd.C (Kd.int .i64) w A l.length l) (ho : On g w w') (hne : ∀ ad, A = some ad → ad.block ≠ g) : Kd.C (Kd.int .i64) w' A l.length l := by
 obtain ⟨h1, h2, h3⟩ := hC
 refine ⟨h1, h2, fun hn => ?_⟩
 obtain ⟨ad, rfl, hc⟩ := h3 hn
 have hbl : ∀ n, (ad.add n).block = ad.block := fun n => by unfold Addr.add; split <;> rfl
 refine ⟨ad, rfl, fun j p hj => ?_⟩
 obtain ⟨c, hs, hK, hcell⟩ := hc j p hj
 refine ⟨c, hs, hK, fun i u hu => ?_⟩
 exact (World.cell?_of_block (by rw [hbl]; exact ho.1 _ (hne ad rfl))).trans (hcell i u hu)
def OutR (w : World) (A : Option Addr) (l : List S47) : Prop := Kd.C k47 w A l.length l ∧ Ty w A
theorem OutR.below {w w' : World} {A : Option Addr} {l : List S47} (h : OutR w A l) (hb : Below w.heap.size w w') : OutR w' A l := ⟨Kd.C_below h.1 hb, h.2.below hb⟩
theorem OutR.on {g t : Nat} {cs : Array Value} {w w' : World} {A : Option Addr} {l : List S47} (h : OutR w A l) (ho : On g w w') (hg : w.heap[g]? = some (.cells cs t (0, 0))) (ht : t ≠ 47) : OutR w' A l := by
 have hs : ∀ ad, A = some ad → w'.heap[ad.block]? = w.heap[ad.block]? := by
  intro ad e
  obtain ⟨cs2, h2⟩ := h.2 ad e
  refine ho.1 _ ?_
  rintro rfl
  rw [hg] at h2
  injection h2 with h2; injection h2 with h3 h4
  exact ht h4
 exact ⟨C47_on h.1 hs, fun ad e => let ⟨cs2, h2⟩ := h.2 ad e; ⟨cs2, (hs ad e).trans h2⟩⟩
theorem OutR.c {w : World} {A : Option Addr} {l : List S47} (h : OutR w A l) : Kd.C k47 w A l.length l := h.1
theorem addB (ad : Addr) (n : Nat) : (ad.add n).block = ad.block := by unfold Addr.add; split <;> rfl
theorem OutR.on' {g : Nat} {w w' : World} {A : Option Addr} {l : List S47} (h : OutR w A l) (ho : On g w w') (hne : ∀ ad, A = some ad → ad.block ≠ g) : OutR w' A l :=
 ⟨C47_on h.1 fun ad e => ho.1 _ (hne ad e), fun ad e => let ⟨cs2, h2⟩ := h.2 ad e; ⟨cs2, (ho.1 _ (hne ad e)).trans h2⟩⟩
theorem put5 {w : World} {g t : Nat} {a0 a1 a2 a3 a4 : Value} (h : w.heap[g]? = some (.cells #[a0, a1, a2, a3, a4] t (0, 0))) (b0 b1 b2 b3 b4 : Value) : (((((w.setCell ⟨g, 0, none⟩ b0).setCell ⟨g, 1, none⟩ b1).setCell ⟨g, 2, none⟩ b2).setCell ⟨g, 3, none⟩ b3).setCell ⟨g, 4, none⟩ b4).heap[g]? = some (.cells #[b0, b1, b2, b3, b4] t (0, 0)) :=
 Qbt (cs := #[b0, b1, b2, b3, a4]) (Qbt (cs := #[b0, b1, b2, a3, a4]) (Qbt (cs := #[b0, b1, a2, a3, a4]) (Qbt (cs := #[b0, a1, a2, a3, a4]) (Qbt (cs := #[a0, a1, a2, a3, a4]) h 0 _ rfl) 1 _ rfl) 2 _ rfl) 3 _ rfl) 4 _ rfl
theorem put7a {w : World} {g t : Nat} {a0 a1 a2 a3 a4 a5 a6 : Value} (h : w.heap[g]? = some (.cells #[a0, a1, a2, a3, a4, a5, a6] t (0, 0))) (b3 b5 b6 : Value) : (((w.setCell ⟨g, 3, none⟩ b3).setCell ⟨g, 5, none⟩ b5).setCell ⟨g, 6, none⟩ b6).heap[g]? = some (.cells #[a0, a1, a2, b3, a4, b5, b6] t (0, 0)) :=
 Qbt (cs := #[a0, a1, a2, b3, a4, b5, a6]) (Qbt (cs := #[a0, a1, a2, b3, a4, a5, a6]) (Qbt (cs := #[a0, a1, a2, a3, a4, a5, a6]) h 3 _ rfl) 5 _ rfl) 6 _ rfl
theorem put7b {w : World} {g t : Nat} {a0 a1 a2 a3 a4 a5 a6 : Value} (h : w.heap[g]? = some (.cells #[a0, a1, a2, a3, a4, a5, a6] t (0, 0))) (b0 b1 b2 : Value) : (((w.setCell ⟨g, 0, none⟩ b0).setCell ⟨g, 1, none⟩ b1).setCell ⟨g, 2, none⟩ b2).heap[g]? = some (.cells #[b0, b1, b2, a3, a4, a5, a6] t (0, 0)) :=
 Qbt (cs := #[b0, b1, a2, a3, a4, a5, a6]) (Qbt (cs := #[b0, a1, a2, a3, a4, a5, a6]) (Qbt (cs := #[a0, a1, a2, a3, a4, a5, a6]) h 0 _ rfl) 1 _ rfl) 2 _ rfl
theorem put7c {w : World} {g t : Nat} {a0 a1 a2 a3 a4 a5 a6 : Value} (h : w.heap[g]? = some (.cells #[a0, a1, a2, a3, a4, a5, a6] t (0, 0))) (b4 b5 : Value) : ((w.setCell ⟨g, 4, none⟩ b4).setCell ⟨g, 5, none⟩ b5).heap[g]? = some (.cells #[a0, a1, a2, a3, b4, b5, a6] t (0, 0)) :=
 Qbt (cs := #[a0, a1, a2, a3, b4, a5, a6]) (Qbt (cs := #[a0, a1, a2, a3, a4, a5, a6]) h 4 _ rfl) 5 _ rfl
def nextR (r : S51) (x : S87) : S51 := ⟨r.f0, r.f1, r.f2, wrap64 (r.f3 + 1), r.f4, wrap64 (r.f5 + x.f3), if r.f6 < x.f4 then x.f4 else r.f6⟩
def failR (r : S51) (y i j : Int) : S51 := ⟨y, i, j, r.f3, r.f4, r.f5, r.f6⟩
def edgeR (r : S51) (n m : Nat) : S51 := ⟨r.f0, r.f1, r.f2, r.f3, wrap64 (r.f4 + 1), wrap64 (wrap64 (wrap64 (r.f5 + 1) + (n : Int)) + (m : Int)), r.f6⟩
def Qd7 (k i : Nat) (Wl : List (List S47)) (out : List S47) : List Int → Nat → S51 → (S51 → Option S51) → Option S51
 | [], _, r, K => K r
 | tg :: t, j, r, K =>
  if 0 ≤ tg ∧ tg < (Wl.length : Int) then (edge_Implies.f k out (Qax Wl tg)).bind fun p =>
   if p.2.2 = 0 then Qd7 k i Wl out t (j + 1) (edgeR r out.length (Qax Wl tg).length) K
   else some (failR (edgeR r out.length (Qax Wl tg).length) p.2.2 (i : Int) (j : Int))
  else none
def Qcp (k : Nat) (TB : List S57) (Wl : List (List S47)) : List S39 → Nat → S51 → Option S51
 | [], _, r => some r
 | b :: t, i, r =>
  if (i : Int) < (TB.length : Int) ∧ (i : Int) < (Wl.length : Int) then
   (Qda k b.f0 (Qad TB i).f0 b.f1 (Qad TB i).f1 (Qax Wl i) 1048576).bind fun x =>
    if x.f1 = 0 then (source_Successors.f b.f1.f0 b.f1.f1 b.f1.f2 b.f1.f3).bind fun tg =>
     Qd7 k i Wl x.f0 tg 0 (nextR r x) fun r2 => Qcp k TB Wl t (i + 1) r2
    else some (failR (nextR r x) x.f1 (i : Int) x.f2)
  else none
def Qdk (k : Nat) (sa sr : Int) (SB : List S39) (ta tr ts : Int) (TB : List S57) (Wl : List (List S47)) : Option S51 :=
 (Qbc.f k sa sr SB ta tr ts TB Wl).bind fun y => if y = 0 then
  (Qa3.f k sa sr SB ta tr ts TB Wl).bind fun p => if p.1 = 0 then Qcp k TB Wl SB 0 ⟨p.1, p.2.1, p.2.2.1, p.2.2.2.1, p.2.2.2.2.1, p.2.2.2.2.2.1, p.2.2.2.2.2.2⟩
   else some ⟨p.1, p.2.1, p.2.2.1, p.2.2.2.1, p.2.2.2.2.1, p.2.2.2.2.2.1, p.2.2.2.2.2.2⟩
 else some ⟨y, 0, 0, 0, 0, 0, 0⟩
theorem fin23 {ops : Array Oper} {id : Nat} {o0 o1 : Oper} {R : Ending → World → Prop} {K : Act → World → Prop} {Q : Exit → Act → World → Prop} (a : Act) (W : World) (gO gR : Nat) (cs : Array Value)
    (hs : ops.size = 2) (h0 : ops[0]? = some o0) (h1 : ops[1]? = some o1) (e0 : o0.op = .load 51 (.tmp 4)) (e1 : o1.op = .store 51 (.tmp 2) (.tmp 122)) (d0 : o0.dst = some 122) (d1 : o1.dst = none) (q0 : o0.guard = none) (q1 : o1.guard = none)
    (hd : a.defers = []) (hsz : 122 < a.tmps.size) (h4 : a.eval (.tmp 4) = .pointer (some ⟨gR, 0, none⟩)) (h2 : a.eval (.tmp 2) = .pointer (some ⟨gO, 0, none⟩)) (hcs : cs.size = 7) (hone : cs.all (·.oneCell') = true)
    (hR : W.heap[gR]? = some (.cells cs 51 (0, 0))) {old : Array Value} (hold : old.size = 7) (hO : W.heap[gO]? = some (.cells old 51 (0, 0)))
    (hQ : ∀ W', (∀ B w0, B ≤ gO → Below B w0 W → Below B w0 W') → R (.returned (.agg cs)) W')
    (hK : ∀ a w, Code.ret.wp Tryz.prog (Exit.noGoto (bodyPost Tryz.prog Tryz.f14 R)) a w → K a w) : (Code.region id ops false).wp Tryz.prog (Exit.then K Q) a W := by
 have hi : (Tryz.prog.info? 51).map (·.size) = some cs.size := by rw [hcs]; kernel_rfl
 refine wp_region ?_
 have hr : List.range ops.size = [0, 1] := by rw [hs]; rfl
 rw [hr, wpOps_cons]
 unfold wpOp
 simp only [h0, Region.wanted, q0, if_true]
 left
 refine wp_load_row 51 (.tmp 4) e0 gR h4 51 cs (0, 0) _ hR Tryz.underlying51 rfl hi ?_
 rw [wpOps_cons]
 unfold wpOp
 simp only [h1, Region.wanted, q1, if_true]
 left
 have h2' : (a.put o0.dst (.agg cs)).eval (.tmp 2) = .pointer (some ⟨gO, 0, none⟩) := by rw [Act.eval_put (fun d e => by rw [d0] at e; injection e with e; subst e; simp)]; exact h2
 have hy : (a.put o0.dst (.agg cs)).eval (.tmp 122) = .agg cs := by rw [d0]; simp [Act.eval, Act.put, hsz]
 refine wp_store_row 51 (.tmp 2) (.tmp 122) e1 gO cs h2' hy 51 old hO hi (by rw [hold, hcs]) hone ?_
 rw [d1]
 refine hK _ _ (wp_ret ?_)
 show bodyPost Tryz.prog Tryz.f14 R .ret _ _
 refine ⟨by rw [d0]; exact hd, .agg cs, results_cell_row rfl _ _ gO 51 cs (0, 0) _ ?_ (setRow_heap W gO old cs 51 (0, 0) hO) Tryz.underlying51 rfl hi, hQ _ fun B w0 hB hb => below_setRow hb hB cs⟩
 have : (a.put o0.dst (.agg cs)).tmps.getD 2 undef = _ := h2'
 exact this
theorem check_calls (k : Nat) (sa sr : Int) (A0 : Option Addr) (c0 : Nat) (SB : List S39) (ta tr ts : Int) (A1 : Option Addr) (c1 : Nat) (TB : List S57) (A2 : Option Addr) (c2 : Nat) (Wl : List (List S47)) (x : S51) (w : World)
    (h0 : Kd.C k39 w A0 SB.length SB) (hc0 : SB.length ≤ c0) (h1 : Kd.C k57 w A1 TB.length TB) (hc1 : TB.length ≤ c1) (h2 : Kd.C (Kd.slice 47 k47) w A2 Wl.length Wl) (hc2 : Wl.length ≤ c2) (hf : Qdk k sa sr SB ta tr ts TB Wl = some x) :
    Calls Tryz.prog 14 #[.agg #[.int .i64 sa, .int .i64 sr, .slice A0 SB.length c0, .int .i64 ta, .int .i64 tr, .int .i64 ts, .slice A1 TB.length c1, .slice A2 Wl.length c2]] w fun e w' => e = .returned (.agg #[.int .i64 x.f0, .int .i64 x.f1, .int .i64 x.f2, .int .i64 x.f3, .int .i64 x.f4, .int .i64 x.f5, .int .i64 x.f6]) ∧ Below w.heap.size w w' := by
 have hu22 := Tryz.underlying22
 have hu24 := Tryz.underlying24
 have hu25 := Tryz.underlying25
 have hu27 := Tryz.underlying27
 have hu28 := Tryz.underlying28
 have hu30 := Tryz.underlying30
 have hu37 := Tryz.underlying37
 have hu39 := Tryz.underlying39
 have hu44 := Tryz.underlying44
 have hu47 := Tryz.underlying47
 have hu49 := Tryz.underlying49
 have hu51 := Tryz.underlying51
 have hu57 := Tryz.underlying57
 have hu87 := Tryz.underlying87
 have hu89 := Tryz.underlying89
 have hu91 := Tryz.underlying91
 have H0 := As0 h0
 have H1 := As0 h1
 have H2 := As0 h2
 have HM0 := As0 h0.2.1
 have HB := As0 (Below.refl w.heap.size w)
 clear h0 h1 h2
 obtain ⟨y, hv, hx⟩ := Option.bind_eq_some_iff.mp hf
 clear hf
 by_cases hy : y = 0
 ·rw [if_pos hy] at hx
  subst hy
  obtain ⟨⟨e0, e1, e2, e3, e4, e5, e6⟩, hbg, hx⟩ := Option.bind_eq_some_iff.mp hx
  by_cases he : e0 = 0
  ·rw [if_pos he] at hx
   subst he
   have H := As0 hx
   clear hx
   go_enter Tryz.func14, Tryz.ntmps14
   go_wp2_with (first
    | ((with_reducible refine gD 1 ?_); refine bX ?_; intro gC hg w1 hbox hb; have C := As0 hbox; have GC := As0 (by rw [hg]; exact Qbm (BU HB.out) : w.heap.size ≤ gC); replace HB := sB HB hb; clear hb hbox hg)
    | ((with_reducible refine gD 2 ?_); refine bX ?_; intro gO hg w2 hbox hb; have O := As0 hbox; have GO := As0 (by rw [hg]; exact Qbm (BU HB.out) : w.heap.size ≤ gO); have NCO := As0 (by have := Qby C.out; omega : gC ≠ gO); replace C := As0 (Qbl C.out hb); replace HB := sB HB hb; (obtain ⟨c_0, c_1, c_2, c_3, c_4, c_5, c_6, c_7, c_f0, c_f1, c_f2, c_f3, c_f4, c_f5, c_f6, c_f7⟩ := cN8 C.out); clear hb hbox hg))
   go_step3
   go_wp2_with (first
    | (go_at_call 31; refine (Qbc.calls k sa sr A0 c0 SB ta tr ts A1 c1 TB A2 c2 Wl _ _ (Kd.C_below H0.out (BU HB.out)) hc0 (Kd.C_below H1.out (BU HB.out)) hc1 (Kd.C_below H2.out (BU HB.out)) hc2 hv).mono ?_; rintro e w3 ⟨rfl, hb⟩; clear c_0 c_1 c_2 c_3 c_4 c_5 c_6 c_7 c_f0 c_f1 c_f2 c_f3 c_f4 c_f5 c_f6 c_f7; replace C := As0 (Qbl C.out hb); replace O := As0 (Qbl O.out hb); replace HB := sB HB hb; (obtain ⟨c_0, c_1, c_2, c_3, c_4, c_5, c_6, c_7, c_f0, c_f1, c_f2, c_f3, c_f4, c_f5, c_f6, c_f7⟩ := cN8 C.out); clear hb)
    | (go_at_call 32; refine (Qa3.calls k sa sr A0 c0 SB ta tr ts A1 c1 TB A2 c2 Wl _ _ _ _ _ _ _ _ (Kd.C_below H0.out (BU HB.out)) hc0 (Kd.C_below H1.out (BU HB.out)) hc1 (Kd.C_below H2.out (BU HB.out)) hc2 hbg).mono ?_; rintro e w4 ⟨rfl, hb⟩; clear c_0 c_1 c_2 c_3 c_4 c_5 c_6 c_7 c_f0 c_f1 c_f2 c_f3 c_f4 c_f5 c_f6 c_f7; replace C := As0 (Qbl C.out hb); replace O := As0 (Qbl O.out hb); replace HB := sB HB hb; (obtain ⟨c_0, c_1, c_2, c_3, c_4, c_5, c_6, c_7, c_f0, c_f1, c_f2, c_f3, c_f4, c_f5, c_f6, c_f7⟩ := cN8 C.out); clear hb)
    | ((with_reducible refine gD 4 ?_); refine bX ?_; intro gR hg w5 hbox hb; have R := As0 hbox; have GR := As0 (by rw [hg]; exact Qbm (BU HB.out) : w.heap.size ≤ gR); have NCR := As0 (by have := Qby C.out; omega : gC ≠ gR); have NOR := As0 (by have := Qby O.out; omega : gO ≠ gR); replace C := As0 (Qbl C.out hb); replace O := As0 (Qbl O.out hb); replace HB := sB HB hb; clear c_0 c_1 c_2 c_3 c_4 c_5 c_6 c_7 c_f0 c_f1 c_f2 c_f3 c_f4 c_f5 c_f6 c_f7; (obtain ⟨c_0, c_1, c_2, c_3, c_4, c_5, c_6, c_7, c_f0, c_f1, c_f2, c_f3, c_f4, c_f5, c_f6, c_f7⟩ := cN8 C.out); clear hb hbox hg)
    | ((with_reducible refine Qdb (.store 51 (.tmp 4) (.tmp 19)) rfl ?_); go_loud (refine Qau rfl rfl 51 _ _ rfl gR #[.int .i64 0, .int .i64 e1, .int .i64 e2, .int .i64 e3, .int .i64 e4, .int .i64 e5, .int .i64 e6] rfl rfl 51 #[.int .i64 0, .int .i64 0, .int .i64 0, .int .i64 0, .int .i64 0, .int .i64 0, .int .i64 0] R.out (by kernel_rfl) rfl (by kernel_rfl) ?_); intro w6 hg ho hB; replace HB := As0 (hB _ _ GR.out (BU HB.out)); replace R := As0 hg; replace C := As0 ((ho _ NCR.out).trans C.out); replace O := As0 ((ho _ NOR.out).trans O.out); clear c_0 c_1 c_2 c_3 c_4 c_5 c_6 c_7 c_f0 c_f1 c_f2 c_f3 c_f4 c_f5 c_f6 c_f7; (obtain ⟨c_0, c_1, c_2, c_3, c_4, c_5, c_6, c_7, c_f0, c_f1, c_f2, c_f3, c_f4, c_f5, c_f6, c_f7⟩ := cN8 C.out); (obtain ⟨r_0, r_1, r_2, r_3, r_4, r_5, r_6, r_f0, r_f1, r_f2, r_f3, r_f4, r_f5, r_f6⟩ := cN7 R.out); clear hg ho hB))
   go_step3
   go_wp2
   go_loopg [28] (SB.length + 1) (fun n v28 w' => ∃ (i : Nat) (e : S51), v28 = .int .i64 (i : Int) ∧ Qbk (i ≤ SB.length ∧ SB.length - i < n) ∧ Qbk (Qcp k TB Wl (SB.drop i) i e = some x) ∧ Qbk (Below w.heap.size w w') ∧ Qbk (w'.heap[gC]? = some (.cells #[.int .i64 sa, .int .i64 sr, .slice A0 SB.length c0, .int .i64 ta, .int .i64 tr, .int .i64 ts, .slice A1 TB.length c1, .slice A2 Wl.length c2] 30 (0, 0))) ∧ Qbk (w'.heap[gO]? = some (.cells #[.int .i64 0, .int .i64 0, .int .i64 0, .int .i64 0, .int .i64 0, .int .i64 0, .int .i64 0] 51 (0, 0))) ∧ Qbk (w'.heap[gR]? = some (.cells #[.int .i64 e.f0, .int .i64 e.f1, .int .i64 e.f2, .int .i64 e.f3, .int .i64 e.f4, .int .i64 e.f5, .int .i64 e.f6] 51 (0, 0))))
   case atStart => exact ⟨0, ⟨0, e1, e2, e3, e4, e5, e6⟩, rfl, ⟨by omega, by omega⟩, ⟨by rw [List.drop_zero]; exact H.out⟩, HB, C, O, R⟩
   case round =>
    clear c_0 c_1 c_2 c_3 c_4 c_5 c_6 c_7 c_f0 c_f1 c_f2 c_f3 c_f4 c_f5 c_f6 c_f7 r_0 r_1 r_2 r_3 r_4 r_5 r_6 r_f0 r_f1 r_f2 r_f3 r_f4 r_f5 r_f6 HB C O R H
    obtain ⟨i, e, rfl, HI, H, HB, C, O, R⟩ := hrel
    by_cases hi : i < SB.length
    ·have hlt : (i : Int) < (SB.length : Int) := by omega
     have h0' : (0 : Int) ≤ (i : Int) := by omega
     obtain ⟨adS, A0b, c0b, eS, hS0, hS1, hS2, hS3, hS4, hcb, hB0⟩ := at_T39 H0.out i h0' hlt
     cases eS
     have hw : wrap64 ((i : Int) + 1) = ((i + 1 : Nat) : Int) := by have := HM0.out; unfold wrap64; omega
     have hp : Qam SB (i : Int) = SB[i] := by simp [Qam, List.getD_eq_getElem?_getD, hi]
     have hdr : SB.drop i = SB[i] :: SB.drop (i + 1) := by rw [List.drop_eq_getElem_cons hi]
     have H' := H.out
     rw [hdr] at H'
     rw [hp] at hS0 hS1 hS2 hS3 hS4 hcb hB0
     simp only [Int.toNat_natCast] at hS0 hS1 hS2 hS3 hS4
     generalize SB[i] = p at hS0 hS1 hS2 hS3 hS4 hcb hB0 H'
     clear hp hdr
     simp only [Qcp] at H'
     by_cases hb2 : (i : Int) < (TB.length : Int) ∧ (i : Int) < (Wl.length : Int)
     ·rw [if_pos hb2] at H'
      obtain ⟨y1, y2⟩ := hb2
      obtain ⟨adT, A1m, c1m, eT, hT0, hT1, hT2, hT3, hT4, hcm, hM0⟩ := Qej H1.out i h0' y1
      cases eT
      obtain ⟨adW, A2w, c2w, eW, hW0, hcw, hP0⟩ := Qek H2.out i h0' y2
      cases eW
      simp only [Int.toNat_natCast] at hT0 hT1 hT2 hT3 hT4 hW0
      have y0d : decide ((0 : Int) ≤ (i : Int)) = true := decide_eq_true h0'
      have y1d := decide_eq_true y1
      have y2d := decide_eq_true y2
      generalize Qad TB (i : Int) = pm at hT0 hT1 hT2 hT3 hT4 hcm hM0 H'
      generalize Qax Wl (i : Int) = pw at hW0 hcw hP0 H'
      obtain ⟨xb, hxb, H'⟩ := Option.bind_eq_some_iff.mp H'
      have HX := As0 hxb
      have HH := As0 H'
      replace hB0 := As0 hB0
      replace hM0 := As0 hM0
      replace hP0 := As0 hP0
      clear hxb H'
      have hz0 := cl HB hS0
      have hz1 := cl HB hS1
      have hz2 := cl HB hS2
      have hz3 := cl HB hS3
      have hz4 := cl HB hS4
      (obtain ⟨c_0, c_1, c_2, c_3, c_4, c_5, c_6, c_7, c_f0, c_f1, c_f2, c_f3, c_f4, c_f5, c_f6, c_f7⟩ := cN8 C.out); (obtain ⟨r_0, r_1, r_2, r_3, r_4, r_5, r_6, r_f0, r_f1, r_f2, r_f3, r_f4, r_f5, r_f6⟩ := cN7 R.out)
      go_wp2_with (first
       | ((with_reducible refine gD 6 ?_); refine bX ?_; intro gB hg w7 hbox hb; have B := As0 hbox; have GB := As0 (by rw [hg]; exact Qbm (BU HB.out) : w.heap.size ≤ gB); have NCB := As0 (by have := Qby C.out; omega : gC ≠ gB); have NOB := As0 (by have := Qby O.out; omega : gO ≠ gB); have NRB := As0 (by have := Qby R.out; omega : gR ≠ gB); replace C := As0 (Qbl C.out hb); replace O := As0 (Qbl O.out hb); replace R := As0 (Qbl R.out hb); replace HB := sB HB hb; clear hb hbox hg)
       | ((with_reducible refine Qdb (.store 39 (.tmp 6) (.tmp 32)) rfl ?_); go_loud (refine Qau rfl rfl 39 _ _ rfl gB #[.slice A0b p.f0.length c0b, .int .i64 p.f1.f0, .int .i64 p.f1.f1, .int .i64 p.f1.f2, .int .i64 p.f1.f3] rfl rfl 39 #[.slice none 0 0, .int .i64 0, .int .i64 0, .int .i64 0, .int .i64 0] B.out (by kernel_rfl) rfl (by kernel_rfl) ?_); intro w8 hg ho hB; replace HB := As0 (hB _ _ GB.out (BU HB.out)); replace B := As0 hg; replace C := As0 ((ho _ NCB.out).trans C.out); replace O := As0 ((ho _ NOB.out).trans O.out); replace R := As0 ((ho _ NRB.out).trans R.out); clear hg ho hB))
      replace B := As0 (Qbr B.out)
      replace C := As0 (Qbr C.out)
      replace O := As0 (Qbr O.out)
      replace R := As0 (Qbr R.out)
      replace HB := As0 (bd1 HB.out)
      refine Qcb (n := 15) (S := fun w' => w'.cell? ⟨gB, 0, none⟩ = some (.slice A0b p.f0.length c0b) ∧ w'.cell? ⟨gB, 1, none⟩ = some (.int .i64 p.f1.f0) ∧ w'.cell? ⟨gB, 2, none⟩ = some (.int .i64 p.f1.f1) ∧ w'.cell? ⟨gB, 3, none⟩ = some (.int .i64 p.f1.f2) ∧ w'.cell? ⟨gB, 4, none⟩ = some (.int .i64 p.f1.f3) ∧ w'.cell? ⟨gC, 6, none⟩ = some (.slice (some adT) TB.length c1) ∧ w'.cell? (adT.add (i * 5)) = some (.slice A1m pm.f0.length c1m) ∧ w'.cell? ⟨(adT.add (i * 5)).block, (adT.add (i * 5)).off + 1, none⟩ = some (.int .i64 pm.f1.f0) ∧ w'.cell? ⟨(adT.add (i * 5)).block, (adT.add (i * 5)).off + 2, none⟩ = some (.int .i64 pm.f1.f1) ∧ w'.cell? ⟨(adT.add (i * 5)).block, (adT.add (i * 5)).off + 3, none⟩ = some (.int .i64 pm.f1.f2) ∧ w'.cell? ⟨(adT.add (i * 5)).block, (adT.add (i * 5)).off + 4, none⟩ = some (.int .i64 pm.f1.f3) ∧ w'.cell? ⟨gC, 7, none⟩ = some (.slice (some adW) Wl.length c2) ∧ w'.cell? (adW.add i) = some (.slice A2w pw.length c2w)) (ds := [14]) (bb 15 0) (by kernel_rfl) rfl rfl ⟨(bc B 0), (bc B 1), (bc B 2), (bc B 3), (bc B 4), (bc C 6), (cl HB hT0), (cl HB hT1), (cl HB hT2), (cl HB hT3), (cl HB hT4), (bc C 7), (cl HB hW0)⟩ (fun hHeld => ?_)
      generalize w8.drew = wd at B C O R HB hHeld ⊢
      refine pu 1 34 (bb 15 2) ?_
      refine pu 2 35 (bb 15 6) ?_
      refine pu 4 37 (bb 15 22) ?_
      refine pu 7 40 (bb 15 150) ?_
      refine pu 9 42 (bb 15 662) ?_
      refine tu hHeld 0 33 (bb 15 663) ?_
      refine tu hHeld 3 36 (bb 15 671) ?_
      refine pu 5 38 (bb 15 703) ?_
      refine tu hHeld 6 39 (bb 15 767) ?_
      refine tu hHeld 8 41 (bb 15 1023) ?_
      refine pu 10 43 (bb 15 2047) ?_
      refine tu hHeld 11 44 (bb 15 4095) ?_
      refine join_ (σ := Option Addr × Nat × Nat) 1 (bb 15 16383) (fun s_ => [(45, .agg #[.slice s_.1 xb.f0.length s_.2.1, .int .i64 xb.f1, .int .i64 xb.f2, .int .i64 xb.f3, .int .i64 xb.f4]), (7, .pointer (some ⟨s_.2.2, 0, none⟩))]) (fun s_ w' => (w'.cell? ⟨gB, 0, none⟩ = some (.slice A0b p.f0.length c0b) ∧ w'.cell? ⟨gB, 1, none⟩ = some (.int .i64 p.f1.f0) ∧ w'.cell? ⟨gB, 2, none⟩ = some (.int .i64 p.f1.f1) ∧ w'.cell? ⟨gB, 3, none⟩ = some (.int .i64 p.f1.f2) ∧ w'.cell? ⟨gB, 4, none⟩ = some (.int .i64 p.f1.f3) ∧ w'.cell? ⟨gC, 6, none⟩ = some (.slice (some adT) TB.length c1) ∧ w'.cell? (adT.add (i * 5)) = some (.slice A1m pm.f0.length c1m) ∧ w'.cell? ⟨(adT.add (i * 5)).block, (adT.add (i * 5)).off + 1, none⟩ = some (.int .i64 pm.f1.f0) ∧ w'.cell? ⟨(adT.add (i * 5)).block, (adT.add (i * 5)).off + 2, none⟩ = some (.int .i64 pm.f1.f1) ∧ w'.cell? ⟨(adT.add (i * 5)).block, (adT.add (i * 5)).off + 3, none⟩ = some (.int .i64 pm.f1.f2) ∧ w'.cell? ⟨(adT.add (i * 5)).block, (adT.add (i * 5)).off + 4, none⟩ = some (.int .i64 pm.f1.f3) ∧ w'.cell? ⟨gC, 7, none⟩ = some (.slice (some adW) Wl.length c2) ∧ w'.cell? (adW.add i) = some (.slice A2w pw.length c2w)) ∧ xb.f0.length ≤ s_.2.1 ∧ Qbk (OutR w' s_.1 xb.f0) ∧ Qbk (w'.heap[s_.2.2]? = some (.cells #[.slice none 0 0, .int .i64 0, .int .i64 0, .int .i64 0, .int .i64 0] 87 (0, 0))) ∧ Qbk (w.heap.size ≤ s_.2.2) ∧ Qbk (Below w.heap.size w w') ∧ Qbk (w'.heap[gB]? = some (.cells #[.slice A0b p.f0.length c0b, .int .i64 p.f1.f0, .int .i64 p.f1.f1, .int .i64 p.f1.f2, .int .i64 p.f1.f3] 39 (0, 0))) ∧ Qbk (w'.heap[gC]? = some (.cells #[.int .i64 sa, .int .i64 sr, .slice (some adS) SB.length c0, .int .i64 ta, .int .i64 tr, .int .i64 ts, .slice (some adT) TB.length c1, .slice (some adW) Wl.length c2] 30 (0, 0))) ∧ Qbk (w'.heap[gO]? = some (.cells #[.int .i64 0, .int .i64 0, .int .i64 0, .int .i64 0, .int .i64 0, .int .i64 0, .int .i64 0] 51 (0, 0))) ∧ Qbk (w'.heap[gR]? = some (.cells #[.int .i64 e.f0, .int .i64 e.f1, .int .i64 e.f2, .int .i64 e.f3, .int .i64 e.f4, .int .i64 e.f5, .int .i64 e.f6] 51 (0, 0))) ∧ Qbk (gB ≠ s_.2.2) ∧ Qbk (gC ≠ s_.2.2) ∧ Qbk (gO ≠ s_.2.2) ∧ Qbk (gR ≠ s_.2.2)) ?_ ?_
      rotate_left
      ·intro hCont
       refine two_ (i := 12) (j := 13) (Ni := some 45) (Nj := some 7) (bb 15 8191) (bb 15 12287) rfl rfl rfl rfl (by kernel_rfl) (by decide) (by decide) (fun K hK => ?_) (fun K hK => ?_)
       ·skip
        refine gG Tryz.func33 #[.agg #[.slice A0b p.f0.length c0b, .int .i64 p.f1.f0, .int .i64 p.f1.f1, .int .i64 p.f1.f2, .int .i64 p.f1.f3], .agg #[.slice A1m pm.f0.length c1m, .int .i64 pm.f1.f0, .int .i64 pm.f1.f1, .int .i64 pm.f1.f2, .int .i64 pm.f1.f3], .slice A2w pw.length c2w, .int .i64 1048576] ?_
        with_reducible refine (block_calls k A0b c0b p.f0 p.f1 A1m c1m pm.f0 pm.f1 A2w c2w pw 1048576 xb _ (Kd.C_below hB0.out (BU HB.out)) hcb (Kd.C_below hM0.out (BU HB.out)) hcm (Kd.C_below hP0.out (BU HB.out)) HX.out).mono ?_
        rintro e w9 ⟨Ao, co, rfl, hco, hCo, hTy, hb⟩
        refine ⟨_, rfl, ?_⟩
        have HCo := As0 (show OutR w9 Ao xb.f0 from ⟨hCo, hTy⟩)
        clear hTy
        replace B := As0 (Qbl B.out hb)
        replace C := As0 (Qbl C.out hb)
        replace O := As0 (Qbl O.out hb)
        replace R := As0 (Qbl R.out hb)
        replace HB := sB HB hb
        clear hb hCo
        refine hK.out _ _ ⟨(bc B 0), (bc B 1), (bc B 2), (bc B 3), (bc B 4), (bc C 6), (cl HB hT0), (cl HB hT1), (cl HB hT2), (cl HB hT3), (cl HB hT4), (bc C 7), (cl HB hW0)⟩ (fun hHeld => ?_)
        clear hK K
        refine Qb1 (a' := ?_) ?_ ?_
        rotate_left
        ·show Act.put _ (some 45) _ = _
         simp only [Act.put, List.setIfInBounds_toArray, List.set_cons_zero, List.set_cons_succ, Qbu, Qbv]
         rfl
        refine one_ (i := 13) (N := some 7) (bb 15 16383) rfl rfl (by kernel_rfl) (by decide) (fun K hK => ?_)
        refine value_ (w1 := ?_) (v := ?_) (by rfl) rfl ?_ ?_
        rotate_left 2
        ·go_simp
         constructor
         ·rfl
         ·rfl
        have X := As0 (Qdm (w9) (.cells #[.slice none 0 0, .int .i64 0, .int .i64 0, .int .i64 0, .int .i64 0] 87 (0, 0)))
        have hb := Qb2 (Below.refl (w9).heap.size (w9)) (.cells #[.slice none 0 0, .int .i64 0, .int .i64 0, .int .i64 0, .int .i64 0] 87 (0, 0))
        have GX := As0 (Qbm (BU HB.out) : w.heap.size ≤ (w9).heap.size)
        have NBX := As0 (Nat.ne_of_lt (Qby (w := w9) B.out) : gB ≠ (w9).heap.size)
        have NCX := As0 (Nat.ne_of_lt (Qby (w := w9) C.out) : gC ≠ (w9).heap.size)
        have NOX := As0 (Nat.ne_of_lt (Qby (w := w9) O.out) : gO ≠ (w9).heap.size)
        have NRX := As0 (Nat.ne_of_lt (Qby (w := w9) R.out) : gR ≠ (w9).heap.size)
        replace B := As0 (Qbl B.out hb)
        replace C := As0 (Qbl C.out hb)
        replace O := As0 (Qbl O.out hb)
        replace R := As0 (Qbl R.out hb)
        replace HB := sB HB hb
        replace HCo := As0 (HCo.out.below hb)
        clear hb
        generalize (w9).alloc (.cells #[.slice none 0 0, .int .i64 0, .int .i64 0, .int .i64 0, .int .i64 0] 87 (0, 0)) = w10 at *
        generalize (w9).heap.size = gX at *
        refine hK.out _ _ ⟨(bc B 0), (bc B 1), (bc B 2), (bc B 3), (bc B 4), (bc C 6), (cl HB hT0), (cl HB hT1), (cl HB hT2), (cl HB hT3), (cl HB hT4), (bc C 7), (cl HB hW0)⟩ (fun hHeld => ?_)
        clear hK K
        refine Qb1 (a' := ?_) ?_ ?_
        rotate_left
        ·show Act.put _ (some 7) _ = _
         simp only [Act.put, List.setIfInBounds_toArray, List.set_cons_zero, List.set_cons_succ, Qbu, Qbv]
         rfl
        exact Qb1 (by simp only [Qc4, Act.put, List.setIfInBounds_toArray, List.set_cons_zero, List.set_cons_succ]) (hCont (Ao, co, gX) _ ⟨hHeld, hco, HCo, X, GX, HB, B, C, O, R, NBX, NCX, NOX, NRX⟩)
       ·skip
        refine value_ (w1 := ?_) (v := ?_) (by rfl) rfl ?_ ?_
        rotate_left 2
        ·go_simp
         constructor
         ·rfl
         ·rfl
        have X := As0 (Qdm (wd) (.cells #[.slice none 0 0, .int .i64 0, .int .i64 0, .int .i64 0, .int .i64 0] 87 (0, 0)))
        have hb := Qb2 (Below.refl (wd).heap.size (wd)) (.cells #[.slice none 0 0, .int .i64 0, .int .i64 0, .int .i64 0, .int .i64 0] 87 (0, 0))
        have GX := As0 (Qbm (BU HB.out) : w.heap.size ≤ (wd).heap.size)
        have NBX := As0 (Nat.ne_of_lt (Qby (w := wd) B.out) : gB ≠ (wd).heap.size)
        have NCX := As0 (Nat.ne_of_lt (Qby (w := wd) C.out) : gC ≠ (wd).heap.size)
        have NOX := As0 (Nat.ne_of_lt (Qby (w := wd) O.out) : gO ≠ (wd).heap.size)
        have NRX := As0 (Nat.ne_of_lt (Qby (w := wd) R.out) : gR ≠ (wd).heap.size)
        replace B := As0 (Qbl B.out hb)
        replace C := As0 (Qbl C.out hb)
        replace O := As0 (Qbl O.out hb)
        replace R := As0 (Qbl R.out hb)
        replace HB := sB HB hb
        clear hb
        generalize (wd).alloc (.cells #[.slice none 0 0, .int .i64 0, .int .i64 0, .int .i64 0, .int .i64 0] 87 (0, 0)) = w10 at *
        generalize (wd).heap.size = gX at *
        refine hK.out _ _ ⟨(bc B 0), (bc B 1), (bc B 2), (bc B 3), (bc B 4), (bc C 6), (cl HB hT0), (cl HB hT1), (cl HB hT2), (cl HB hT3), (cl HB hT4), (bc C 7), (cl HB hW0)⟩ (fun hHeld => ?_)
        clear hK K
        refine Qb1 (a' := ?_) ?_ ?_
        rotate_left
        ·show Act.put _ (some 7) _ = _
         simp only [Act.put, List.setIfInBounds_toArray, List.set_cons_zero, List.set_cons_succ, Qbu, Qbv]
         rfl
        refine one_ (i := 12) (N := some 45) (bb 15 16383) rfl rfl (by kernel_rfl) (by decide) (fun K hK => ?_)
        refine gG Tryz.func33 #[.agg #[.slice A0b p.f0.length c0b, .int .i64 p.f1.f0, .int .i64 p.f1.f1, .int .i64 p.f1.f2, .int .i64 p.f1.f3], .agg #[.slice A1m pm.f0.length c1m, .int .i64 pm.f1.f0, .int .i64 pm.f1.f1, .int .i64 pm.f1.f2, .int .i64 pm.f1.f3], .slice A2w pw.length c2w, .int .i64 1048576] ?_
        with_reducible refine (block_calls k A0b c0b p.f0 p.f1 A1m c1m pm.f0 pm.f1 A2w c2w pw 1048576 xb _ (Kd.C_below hB0.out (BU HB.out)) hcb (Kd.C_below hM0.out (BU HB.out)) hcm (Kd.C_below hP0.out (BU HB.out)) HX.out).mono ?_
        rintro e w9 ⟨Ao, co, rfl, hco, hCo, hTy, hb⟩
        refine ⟨_, rfl, ?_⟩
        have HCo := As0 (show OutR w9 Ao xb.f0 from ⟨hCo, hTy⟩)
        clear hTy
        replace X := As0 (Qbl X.out hb)
        replace B := As0 (Qbl B.out hb)
        replace C := As0 (Qbl C.out hb)
        replace O := As0 (Qbl O.out hb)
        replace R := As0 (Qbl R.out hb)
        replace HB := sB HB hb
        clear hb hCo
        refine hK.out _ _ ⟨(bc B 0), (bc B 1), (bc B 2), (bc B 3), (bc B 4), (bc C 6), (cl HB hT0), (cl HB hT1), (cl HB hT2), (cl HB hT3), (cl HB hT4), (bc C 7), (cl HB hW0)⟩ (fun hHeld => ?_)
        clear hK K
        refine Qb1 (a' := ?_) ?_ ?_
        rotate_left
        ·show Act.put _ (some 45) _ = _
         simp only [Act.put, List.setIfInBounds_toArray, List.set_cons_zero, List.set_cons_succ, Qbu, Qbv]
         rfl
        exact Qb1 (by simp only [Qc4, Act.put, List.setIfInBounds_toArray, List.set_cons_zero, List.set_cons_succ]) (hCont (Ao, co, gX) _ ⟨hHeld, hco, HCo, X, GX, HB, B, C, O, R, NBX, NCX, NOX, NRX⟩)
      clear HB B C O R
      rintro ⟨Ao, co, gX⟩ w10 ⟨hHeld, hco, HCo, X, GX, HB, B, C, O, R, NBX, NCX, NOX, NRX⟩
      dsimp only at hco HCo X GX NBX NCX NOX NRX ⊢
      (obtain ⟨x_0, x_1, x_2, x_3, x_4, x_f0, x_f1, x_f2, x_f3, x_f4⟩ := cN5 X.out)
      refine Qb1 (a' := ?_) ?_ ?_
      rotate_left
      ·simp only [Qc4, Act.put, List.setIfInBounds_toArray, List.set_cons_zero, List.set_cons_succ]
       rfl
      refine Qdu (i := 14) (N := none) (bb 15 32767) rfl rfl (by kernel_rfl) (by decide) (fun K hK => ?_)
      refine skip_ (w1 := ?_) (by rfl) rfl ?_ ?_
      rotate_left
      ·go_simp
       rfl
      refine hK.out _ _ ?_
      clear hK K
      refine Qcy (by kernel_rfl) ?_
      have hOx := ((((On.refl gX w10).set 0 (.slice Ao xb.f0.length co)).set 1 (.int .i64 xb.f1)).set 2 (.int .i64 xb.f2)).set 3 (.int .i64 xb.f3) |>.set 4 (.int .i64 xb.f4)
      have hx5 := put5 X.out (.slice Ao xb.f0.length co) (.int .i64 xb.f1) (.int .i64 xb.f2) (.int .i64 xb.f3) (.int .i64 xb.f4)
      generalize ((((w10.setCell ⟨gX, 0, none⟩ (.slice Ao xb.f0.length co)).setCell ⟨gX, 1, none⟩ (.int .i64 xb.f1)).setCell ⟨gX, 2, none⟩ (.int .i64 xb.f2)).setCell ⟨gX, 3, none⟩ (.int .i64 xb.f3)).setCell ⟨gX, 4, none⟩ (.int .i64 xb.f4) = w11 at hOx hx5 ⊢
      replace HCo := As0 (HCo.out.on hOx X.out (by decide))
      replace HB := As0 (hOx.2 _ _ GX.out HB.out)
      replace B := As0 ((hOx.1 _ NBX.out).trans B.out)
      replace C := As0 ((hOx.1 _ NCX.out).trans C.out)
      replace O := As0 ((hOx.1 _ NOX.out).trans O.out)
      replace R := As0 ((hOx.1 _ NRX.out).trans R.out)
      replace X := As0 hx5
      clear hx5 hOx x_0 x_1 x_2 x_3 x_4 x_f0 x_f1 x_f2 x_f3 x_f4 hS0 hS1 hS2 hS3 hS4 hz0 hz1 hz2 hz3 hz4 hT0 hT1 hT2 hT3 hT4 hW0 y0d y1d y2d hcb hcm hcw hB0 hM0 hP0 HX hHeld h0' hlt y1 y2
      (obtain ⟨x_0, x_1, x_2, x_3, x_4, x_f0, x_f1, x_f2, x_f3, x_f4⟩ := cN5 X.out)
      (obtain ⟨r_0, r_1, r_2, r_3, r_4, r_5, r_6, r_f0, r_f1, r_f2, r_f3, r_f4, r_f5, r_f6⟩ := cN7 R.out)
      as_aux_lemma =>
       have nrx := NRX.out
       have nrx' := nrx.symm
       obtain ⟨mx, hmx⟩ : ∃ mx, (if e.f6 < xb.f4 then xb.f4 else e.f6) = mx := ⟨_, rfl⟩
       have ncr := NCR.out
       have ncr' := ncr.symm
       have nbr := NRB.out
       have nbr' := nbr.symm
       go_wp2
       go_region
       go_upto_if 64 with (fail)
       obtain ⟨eN, heN⟩ : ∃ eN : S51, eN = nextR e xb := ⟨_, rfl⟩
       have hO_ := ((((On.refl gR w11).set 3 (.int .i64 (wrap64 (e.f3 + 1)))).set 5 (.int .i64 (wrap64 (e.f5 + xb.f3)))).set 6 (.int .i64 mx)).drew
       have hr_ := Qbr (put7a R.out (.int .i64 (wrap64 (e.f3 + 1))) (.int .i64 (wrap64 (e.f5 + xb.f3))) (.int .i64 mx))
       generalize ((((w11).setCell ⟨gR, 3, none⟩ (.int .i64 (wrap64 (e.f3 + 1)))).setCell ⟨gR, 5, none⟩ (.int .i64 (wrap64 (e.f5 + xb.f3)))).setCell ⟨gR, 6, none⟩ (.int .i64 mx)).drew = w12 at hO_ hr_ ⊢
       replace C := As0 ((hO_.1 _ NCR.out).trans C.out)
       replace O := As0 ((hO_.1 _ NOR.out).trans O.out)
       replace HCo := As0 (HCo.out.on hO_ R.out (by decide))
       replace B := As0 ((hO_.1 _ nbr').trans B.out)
       replace X := As0 ((hO_.1 _ nrx').trans X.out)
       replace R := As0 (show w12.heap[gR]? = some (.cells #[.int .i64 eN.f0, .int .i64 eN.f1, .int .i64 eN.f2, .int .i64 eN.f3, .int .i64 eN.f4, .int .i64 eN.f5, .int .i64 eN.f6] 51 (0, 0)) from by (have h6 : (nextR e xb).f6 = mx := hmx); rw [heN, h6]; exact hr_)
       replace HB := As0 (hO_.2 _ _ GR.out HB.out)
       replace HH := HH.out
       rw [← heN] at HH
       clear hmx hr_ hO_ heN x_0 x_1 x_2 x_3 x_4 x_f0 x_f1 x_f2 x_f3 x_f4 r_0 r_1 r_2 r_3 r_4 r_5 r_6 r_f0 r_f1 r_f2 r_f3 r_f4 r_f5 r_f6
       (obtain ⟨b_0, b_1, b_2, b_3, b_4, b_f0, b_f1, b_f2, b_f3, b_f4⟩ := cN5 B.out)
       as_aux_lemma =>
        by_cases hf1 : xb.f1 = 0
        ·rw [if_pos hf1] at HH
         have hf1b : (xb.f1 != 0) = false := bne_eq_false_iff_eq.mpr hf1
         clear hf1
         obtain ⟨tg, htg, HH⟩ := Option.bind_eq_some_iff.mp HH
         replace HH := As0 HH
         go_wp2_with (go_at_call 34; refine (source_Successors.calls p.f1.f0 p.f1.f1 p.f1.f2 p.f1.f3 tg _ htg).mono ?_; rintro e w13 ⟨vt, rfl, ho, hb⟩; (obtain ⟨At, ct, et, hct, hCt⟩ := Kd.R_reads ho); subst et; have HNt := As0 (show ∀ ad, At = some ad → ad.block ≠ gR from fun ad e => (by subst e; have q := ((Kd.R_bound ho).1 ad.block rfl).2.1; have q2 := Qby R.out; omega)); have HCt := As0 hCt; clear ho hCt b_0 b_1 b_2 b_3 b_4 b_f0 b_f1 b_f2 b_f3 b_f4; replace HCo := As0 (HCo.out.below hb); replace C := As0 (Qbl C.out hb); replace O := As0 (Qbl O.out hb); replace R := As0 (Qbl R.out hb); replace X := As0 (Qbl X.out hb); replace HB := sB HB hb; clear hb)
         have HMt := As0 HCt.out.2.1
         go_loopg [77] (tg.length + 1) (fun n v77 w' => ∃ (j : Nat) (ei : S51), v77 = .int .i64 (j : Int) ∧ Qbk (j ≤ tg.length ∧ tg.length - j < n) ∧ Qbk (Qd7 k i Wl xb.f0 (tg.drop j) j ei (fun r2 => Qcp k TB Wl (SB.drop (i + 1)) (i + 1) r2) = some x) ∧ Qbk (Below w.heap.size w w') ∧ Qbk (w'.heap[gC]? = some (.cells #[.int .i64 sa, .int .i64 sr, .slice (some adS) SB.length c0, .int .i64 ta, .int .i64 tr, .int .i64 ts, .slice (some adT) TB.length c1, .slice (some adW) Wl.length c2] 30 (0, 0))) ∧ Qbk (w'.heap[gO]? = some (.cells #[.int .i64 0, .int .i64 0, .int .i64 0, .int .i64 0, .int .i64 0, .int .i64 0, .int .i64 0] 51 (0, 0))) ∧ Qbk (w'.heap[gR]? = some (.cells #[.int .i64 ei.f0, .int .i64 ei.f1, .int .i64 ei.f2, .int .i64 ei.f3, .int .i64 ei.f4, .int .i64 ei.f5, .int .i64 ei.f6] 51 (0, 0))) ∧ Qbk (w'.heap[gX]? = some (.cells #[.slice Ao xb.f0.length co, .int .i64 xb.f1, .int .i64 xb.f2, .int .i64 xb.f3, .int .i64 xb.f4] 87 (0, 0))) ∧ Qbk (OutR w' Ao xb.f0) ∧ Qbk (Kd.C (Kd.int .i64) w' At tg.length tg))
         case atStart => exact ⟨0, eN, rfl, ⟨by omega, by omega⟩, ⟨by rw [List.drop_zero]; exact HH.out⟩, ⟨BU HB.out⟩, C, O, R, X, HCo, HCt⟩
         case round =>
          clear HB C O R X HCo HCt HH
          obtain ⟨j, ei, rfl, HJ, HH, HB, C, O, R, X, HCo, HCt⟩ := hrel
          as_aux_lemma =>
           by_cases hj : j < tg.length
           ·have hjlt : (j : Int) < (tg.length : Int) := by omega
            have hj0 : (0 : Int) ≤ (j : Int) := by omega
            obtain ⟨adt, et, ht0⟩ := Kd.at_int HCt.out j hj0 hjlt
            cases et
            simp only [Int.toNat_natCast] at ht0
            have hwj : wrap64 ((j : Int) + 1) = ((j + 1 : Nat) : Int) := by have := HMt.out; unfold wrap64; omega
            have hpt : rd tg (j : Int) = tg[j] := by simp [rd, List.getD_eq_getElem?_getD, hj]
            have hdt : tg.drop j = tg[j] :: tg.drop (j + 1) := by rw [List.drop_eq_getElem_cons hj]
            have H' := HH.out
            rw [hdt] at H'
            rw [hpt] at ht0
            generalize tg[j] = tv at ht0 H'
            clear hpt hdt
            simp only [Qd7] at H'
            by_cases hb3 : 0 ≤ tv ∧ tv < (Wl.length : Int)
            ·rw [if_pos hb3] at H'
             obtain ⟨z1, z2⟩ := hb3
             obtain ⟨adW2, A2q, c2q, eW2, hq0, hcq, hQ0⟩ := Qek H2.out tv z1 z2
             cases eW2
             have z1d := decide_eq_true z1
             have z2d := decide_eq_true z2
             have hn4 : (adW.add tv.toNat).block ≠ gR := by have q1 := wblt w hq0; have q2 := GR.out; omega
             have hqw := cl HB hq0
             generalize Qax Wl tv = wq at hq0 hcq hQ0 hqw H'
             obtain ⟨⟨p0, p1, y⟩, hed, H'⟩ := Option.bind_eq_some_iff.mp H'
             replace hQ0 := As0 hQ0
             (obtain ⟨x_0, x_1, x_2, x_3, x_4, x_f0, x_f1, x_f2, x_f3, x_f4⟩ := cN5 X.out)
             (obtain ⟨r_0, r_1, r_2, r_3, r_4, r_5, r_6, r_f0, r_f1, r_f2, r_f3, r_f4, r_f5, r_f6⟩ := cN7 R.out)
             (obtain ⟨c_0, c_1, c_2, c_3, c_4, c_5, c_6, c_7, c_f0, c_f1, c_f2, c_f3, c_f4, c_f5, c_f6, c_f7⟩ := cN8 C.out)
             have hqs : ∀ u : Value, (wr.setCell ⟨gR, 4, none⟩ u).cell? (adW.add tv.toNat) = some (.slice A2q wq.length c2q) := fun u => (World.cell?_setCell_other _ _ _ _ (fun e => hn4 (congrArg Addr.block e).symm)).trans hqw
             go_wp2
             go_region
             go_upto_region 18 with (fail)
             obtain ⟨eN, heN⟩ : ∃ eN : S51, eN = edgeR ei xb.f0.length wq.length := ⟨_, rfl⟩
             have hO_ := (((On.refl gR wr).set 4 (.int .i64 (wrap64 (ei.f4 + 1)))).set 5 (.int .i64 (wrap64 (wrap64 (wrap64 (ei.f5 + 1) + (xb.f0.length : Int)) + (wq.length : Int))))).drew
             have hr_ := Qbr (put7c R.out (.int .i64 (wrap64 (ei.f4 + 1))) (.int .i64 (wrap64 (wrap64 (wrap64 (ei.f5 + 1) + (xb.f0.length : Int)) + (wq.length : Int)))))
             generalize ((wr.setCell ⟨gR, 4, none⟩ (.int .i64 (wrap64 (ei.f4 + 1)))).setCell ⟨gR, 5, none⟩ (.int .i64 (wrap64 (wrap64 (wrap64 (ei.f5 + 1) + (xb.f0.length : Int)) + (wq.length : Int))))).drew = wd at hO_ hr_ ⊢
             replace HCo := As0 (HCo.out.on hO_ R.out (by decide))
             replace HCt := As0 (Ci_on HCt.out hO_ HNt.out)
             replace C := As0 ((hO_.1 _ NCR.out).trans C.out)
             replace O := As0 ((hO_.1 _ NOR.out).trans O.out)
             replace X := As0 ((hO_.1 _ nrx').trans X.out)
             replace R := As0 (show wd.heap[gR]? = some (.cells #[.int .i64 eN.f0, .int .i64 eN.f1, .int .i64 eN.f2, .int .i64 eN.f3, .int .i64 eN.f4, .int .i64 eN.f5, .int .i64 eN.f6] 51 (0, 0)) from by rw [heN]; exact hr_)
             replace HB := As0 (hO_.2 _ _ GR.out HB.out)
             rw [← heN] at H'
             clear hr_ hO_ heN hqs hqw x_0 x_1 x_2 x_3 x_4 x_f0 x_f1 x_f2 x_f3 x_f4 r_0 r_1 r_2 r_3 r_4 r_5 r_6 r_f0 r_f1 r_f2 r_f3 r_f4 r_f5 r_f6 c_0 c_1 c_2 c_3 c_4 c_5 c_6 c_7 c_f0 c_f1 c_f2 c_f3 c_f4 c_f5 c_f6 c_f7
             replace HCo := As0 (HCo.out.on ((On.refl gR wd).drew) R.out (by decide))
             replace HCt := As0 (Ci_on HCt.out ((On.refl gR wd).drew) HNt.out)
             replace C := As0 (Qbr C.out)
             replace O := As0 (Qbr O.out)
             replace R := As0 (Qbr R.out)
             replace X := As0 (Qbr X.out)
             replace HB := As0 (bd1 HB.out)
             clear z1d z2d
             have z1d := decide_eq_true z1
             have z2d := decide_eq_true z2
             refine Qcb (n := 14) (S := fun w' => w'.cell? ⟨gX, 0, none⟩ = some (.slice Ao xb.f0.length co) ∧ w'.cell? ⟨gC, 7, none⟩ = some (.slice (some adW) Wl.length c2) ∧ w'.cell? (adW.add tv.toNat) = some (.slice A2q wq.length c2q)) (ds := [12]) (bb 14 0) (by kernel_rfl) rfl rfl ⟨(bc X 0), (bc C 7), (cl HB hq0)⟩ (fun hHeld => ?_)
             generalize wd.drew = we at X C O R HB HCo HCt hHeld ⊢
             refine pu 0 102 (bb 14 1) ?_
             refine pu 2 104 (bb 14 5) ?_
             refine pu 4 106 (bb 14 21) ?_
             refine tu hHeld 1 103 (bb 14 23) ?_
             refine tu hHeld 3 105 (bb 14 31) ?_
             refine pu 5 107 (bb 14 63) ?_
             refine tu hHeld 6 108 (bb 14 127) ?_
             refine join_ (σ := Nat) 2 (bb 14 4095) (fun s_ => [(109, .tuple #[.agg #[.int .i64 p0, .int .i64 p1], .int .i64 y]), (10, .pointer (some ⟨s_, 0, none⟩)), (101, .tuple #[.agg #[.int .i64 p0, .int .i64 p1], .int .i64 y]), (110, .agg #[.int .i64 p0, .int .i64 p1]), (111, .int .i64 y)]) (fun s_ w' => (w'.cell? ⟨gX, 0, none⟩ = some (.slice Ao xb.f0.length co) ∧ w'.cell? ⟨gC, 7, none⟩ = some (.slice (some adW) Wl.length c2) ∧ w'.cell? (adW.add tv.toNat) = some (.slice A2q wq.length c2q)) ∧ Qbk (w'.heap[s_]? = some (.cells #[.int .i64 0, .int .i64 0] 47 (0, 0))) ∧ Qbk (w.heap.size ≤ s_) ∧ Qbk (Below w.heap.size w w') ∧ Qbk (w'.heap[gC]? = some (.cells #[.int .i64 sa, .int .i64 sr, .slice (some adS) SB.length c0, .int .i64 ta, .int .i64 tr, .int .i64 ts, .slice (some adT) TB.length c1, .slice (some adW) Wl.length c2] 30 (0, 0))) ∧ Qbk (w'.heap[gO]? = some (.cells #[.int .i64 0, .int .i64 0, .int .i64 0, .int .i64 0, .int .i64 0, .int .i64 0, .int .i64 0] 51 (0, 0))) ∧ Qbk (w'.heap[gR]? = some (.cells #[.int .i64 eN.f0, .int .i64 eN.f1, .int .i64 eN.f2, .int .i64 eN.f3, .int .i64 eN.f4, .int .i64 eN.f5, .int .i64 eN.f6] 51 (0, 0))) ∧ Qbk (w'.heap[gX]? = some (.cells #[.slice Ao xb.f0.length co, .int .i64 xb.f1, .int .i64 xb.f2, .int .i64 xb.f3, .int .i64 xb.f4] 87 (0, 0))) ∧ Qbk (OutR w' Ao xb.f0) ∧ Qbk (Kd.C (Kd.int .i64) w' (some adt) tg.length tg) ∧ Qbk (gC ≠ s_) ∧ Qbk (gO ≠ s_) ∧ Qbk (gR ≠ s_) ∧ Qbk (gX ≠ s_) ∧ Qbk (∀ ad, Ao = some ad → ad.block ≠ s_) ∧ Qbk (adt.block ≠ s_)) ?_ ?_
             rotate_left
             ·intro hCont
              refine two_ (i := 7) (j := 11) (Ni := some 109) (Nj := some 10) (bb 14 255) (bb 14 2175) rfl rfl rfl rfl (by kernel_rfl) (by decide) (by decide) (fun K hK => ?_) (fun K hK => ?_)
              ·skip
               refine gG Tryz.func35 #[.slice Ao xb.f0.length co, .slice A2q wq.length c2q] ?_
               with_reducible refine (edge_Implies.calls k Ao co xb.f0 A2q c2q wq p0 p1 y _ (OutR.c HCo.out) hco (Kd.C_below hQ0.out (BU HB.out)) hcq hed).mono ?_
               rintro e w9 ⟨rfl, hb⟩
               refine ⟨_, rfl, ?_⟩
               replace C := As0 (Qbl C.out hb)
               replace O := As0 (Qbl O.out hb)
               replace R := As0 (Qbl R.out hb)
               replace X := As0 (Qbl X.out hb)
               replace HB := sB HB hb
               replace HCo := As0 (HCo.out.below hb)
               replace HCt := As0 (Kd.C_below HCt.out hb)
               clear hb
               refine hK.out _ _ ⟨(bc X 0), (bc C 7), (cl HB hq0)⟩ (fun hHeld => ?_)
               clear hK K
               refine Qb1 (a' := ?_) ?_ ?_
               rotate_left
               ·show Act.put _ (some 109) _ = _
                simp only [Act.put, List.setIfInBounds_toArray, List.set_cons_zero, List.set_cons_succ, Qbu, Qbv]
                rfl
               refine pu 8 101 (bb 14 511) ?_
               refine pu 9 110 (bb 14 1023) ?_
               refine pu 10 111 (bb 14 2047) ?_
               refine one_ (i := 11) (N := some 10) (bb 14 4095) rfl rfl (by kernel_rfl) (by decide) (fun K hK => ?_)
               refine value_ (w1 := ?_) (v := ?_) (by rfl) rfl ?_ ?_
               rotate_left 2
               ·go_simp
                constructor
                ·rfl
                ·rfl
               have Y := As0 (Qdm (w9) (.cells #[.int .i64 0, .int .i64 0] 47 (0, 0)))
               have hb := Qb2 (Below.refl (w9).heap.size (w9)) (.cells #[.int .i64 0, .int .i64 0] 47 (0, 0))
               have GY := As0 (Qbm (BU HB.out) : w.heap.size ≤ (w9).heap.size)
               have HAY := As0 (show ∀ ad, Ao = some ad → ad.block ≠ (w9).heap.size from fun ad e => let ⟨cs2, h2⟩ := HCo.out.2 ad e; Nat.ne_of_lt (Qby h2))
               have HTY := As0 (show adt.block ≠ (w9).heap.size from by (obtain ⟨ad9, e9, h9⟩ := Kd.at_int HCt.out j hj0 hjlt; cases e9; have q9 := wblt _ h9; rw [addB] at q9; exact Nat.ne_of_lt q9))
               have NCY := As0 (Nat.ne_of_lt (Qby (w := w9) C.out) : gC ≠ (w9).heap.size)
               have NOY := As0 (Nat.ne_of_lt (Qby (w := w9) O.out) : gO ≠ (w9).heap.size)
               have NRY := As0 (Nat.ne_of_lt (Qby (w := w9) R.out) : gR ≠ (w9).heap.size)
               have NXY := As0 (Nat.ne_of_lt (Qby (w := w9) X.out) : gX ≠ (w9).heap.size)
               replace C := As0 (Qbl C.out hb)
               replace O := As0 (Qbl O.out hb)
               replace R := As0 (Qbl R.out hb)
               replace X := As0 (Qbl X.out hb)
               replace HB := sB HB hb
               replace HCo := As0 (HCo.out.below hb)
               replace HCt := As0 (Kd.C_below HCt.out hb)
               clear hb
               generalize (w9).alloc (.cells #[.int .i64 0, .int .i64 0] 47 (0, 0)) = w10 at *
               generalize (w9).heap.size = gY at *
               refine hK.out _ _ ⟨(bc X 0), (bc C 7), (cl HB hq0)⟩ (fun hHeld => ?_)
               clear hK K
               refine Qb1 (a' := ?_) ?_ ?_
               rotate_left
               ·show Act.put _ (some 10) _ = _
                simp only [Act.put, List.setIfInBounds_toArray, List.set_cons_zero, List.set_cons_succ, Qbu, Qbv]
                rfl
               exact Qb1 (by simp only [Qc4, Act.put, List.setIfInBounds_toArray, List.set_cons_zero, List.set_cons_succ]) (hCont gY _ ⟨hHeld, Y, GY, HB, C, O, R, X, HCo, HCt, NCY, NOY, NRY, NXY, HAY, HTY⟩)
              ·skip
               refine value_ (w1 := ?_) (v := ?_) (by rfl) rfl ?_ ?_
               rotate_left 2
               ·go_simp
                constructor
                ·rfl
                ·rfl
               have Y := As0 (Qdm (we) (.cells #[.int .i64 0, .int .i64 0] 47 (0, 0)))
               have hb := Qb2 (Below.refl (we).heap.size (we)) (.cells #[.int .i64 0, .int .i64 0] 47 (0, 0))
               have GY := As0 (Qbm (BU HB.out) : w.heap.size ≤ (we).heap.size)
               have HAY := As0 (show ∀ ad, Ao = some ad → ad.block ≠ (we).heap.size from fun ad e => let ⟨cs2, h2⟩ := HCo.out.2 ad e; Nat.ne_of_lt (Qby h2))
               have HTY := As0 (show adt.block ≠ (we).heap.size from by (obtain ⟨ad9, e9, h9⟩ := Kd.at_int HCt.out j hj0 hjlt; cases e9; have q9 := wblt _ h9; rw [addB] at q9; exact Nat.ne_of_lt q9))
               have NCY := As0 (Nat.ne_of_lt (Qby (w := we) C.out) : gC ≠ (we).heap.size)
               have NOY := As0 (Nat.ne_of_lt (Qby (w := we) O.out) : gO ≠ (we).heap.size)
               have NRY := As0 (Nat.ne_of_lt (Qby (w := we) R.out) : gR ≠ (we).heap.size)
               have NXY := As0 (Nat.ne_of_lt (Qby (w := we) X.out) : gX ≠ (we).heap.size)
               replace C := As0 (Qbl C.out hb)
               replace O := As0 (Qbl O.out hb)
               replace R := As0 (Qbl R.out hb)
               replace X := As0 (Qbl X.out hb)
               replace HB := sB HB hb
               replace HCo := As0 (HCo.out.below hb)
               replace HCt := As0 (Kd.C_below HCt.out hb)
               clear hb
               generalize (we).alloc (.cells #[.int .i64 0, .int .i64 0] 47 (0, 0)) = w10 at *
               generalize (we).heap.size = gY at *
               refine hK.out _ _ ⟨(bc X 0), (bc C 7), (cl HB hq0)⟩ (fun hHeld => ?_)
               clear hK K
               refine Qb1 (a' := ?_) ?_ ?_
               rotate_left
               ·show Act.put _ (some 10) _ = _
                simp only [Act.put, List.setIfInBounds_toArray, List.set_cons_zero, List.set_cons_succ, Qbu, Qbv]
                rfl
               refine one_ (i := 7) (N := some 109) (bb 14 2303) rfl rfl (by kernel_rfl) (by decide) (fun K hK => ?_)
               refine gG Tryz.func35 #[.slice Ao xb.f0.length co, .slice A2q wq.length c2q] ?_
               with_reducible refine (edge_Implies.calls k Ao co xb.f0 A2q c2q wq p0 p1 y _ (OutR.c HCo.out) hco (Kd.C_below hQ0.out (BU HB.out)) hcq hed).mono ?_
               rintro e w9 ⟨rfl, hb⟩
               refine ⟨_, rfl, ?_⟩
               replace Y := As0 (Qbl Y.out hb)
               replace C := As0 (Qbl C.out hb)
               replace O := As0 (Qbl O.out hb)
               replace R := As0 (Qbl R.out hb)
               replace X := As0 (Qbl X.out hb)
               replace HB := sB HB hb
               replace HCo := As0 (HCo.out.below hb)
               replace HCt := As0 (Kd.C_below HCt.out hb)
               clear hb
               refine hK.out _ _ ⟨(bc X 0), (bc C 7), (cl HB hq0)⟩ (fun hHeld => ?_)
               clear hK K
               refine Qb1 (a' := ?_) ?_ ?_
               rotate_left
               ·show Act.put _ (some 109) _ = _
                simp only [Act.put, List.setIfInBounds_toArray, List.set_cons_zero, List.set_cons_succ, Qbu, Qbv]
                rfl
               refine pu 8 101 (bb 14 2559) ?_
               refine pu 9 110 (bb 14 3071) ?_
               refine pu 10 111 (bb 14 4095) ?_
               exact Qb1 (by simp only [Qc4, Act.put, List.setIfInBounds_toArray, List.set_cons_zero, List.set_cons_succ]) (hCont gY _ ⟨hHeld, Y, GY, HB, C, O, R, X, HCo, HCt, NCY, NOY, NRY, NXY, HAY, HTY⟩)
             clear HB C O R X HCo HCt
             rintro gY w10 ⟨hHeld, Y, GY, HB, C, O, R, X, HCo, HCt, NCY, NOY, NRY, NXY, HAY, HTY⟩
             try dsimp only at Y GY NCY NOY NRY NXY HAY HTY ⊢
             (obtain ⟨y_0, y_1, y_f0, y_f1⟩ := cN2 Y.out)
             refine Qb1 (a' := ?_) ?_ ?_
             rotate_left
             ·simp only [Qc4, Act.put, List.setIfInBounds_toArray, List.set_cons_zero, List.set_cons_succ]
              rfl
             refine Qdu (i := 12) (N := none) (bb 14 8191) rfl rfl (by kernel_rfl) (by decide) (fun K hK => ?_)
             refine skip_ (w1 := ?_) (by rfl) rfl ?_ ?_
             rotate_left
             ·go_simp
              rfl
             refine hK.out _ _ ?_
             clear hK K
             refine pu 13 11 (bb 14 16383) ?_
             refine Qcy (by kernel_rfl) ?_
             have hOy := ((On.refl gY w10).set 0 (.int .i64 p0)).set 1 (.int .i64 p1)
             generalize ((w10.setCell ⟨gY, 0, none⟩ (.int .i64 p0)).setCell ⟨gY, 1, none⟩ (.int .i64 p1)) = w11 at hOy ⊢
             replace HB := As0 (hOy.2 _ _ GY.out HB.out)
             replace C := As0 ((hOy.1 _ NCY.out).trans C.out)
             replace O := As0 ((hOy.1 _ NOY.out).trans O.out)
             replace R := As0 ((hOy.1 _ NRY.out).trans R.out)
             replace X := As0 ((hOy.1 _ NXY.out).trans X.out)
             replace HCo := As0 (HCo.out.on' hOy HAY.out)
             replace HCt := As0 (Ci_on HCt.out hOy (fun ad e => by cases e; exact HTY.out))
             clear hOy y_0 y_1 y_f0 y_f1 hHeld hed hQ0 hq0 hcq
             by_cases hy : y = 0
             ·rw [if_pos hy] at H'
              have hyb : (y != 0) = false := bne_eq_false_iff_eq.mpr hy
              clear hy
              replace H' := As0 H'
              go_wp2
              go_roundg (tg.length - j)
              case measure => exact HJ.out.2
              case rel => exact ⟨j + 1, eN, by first | rw [hwj] | rfl, ⟨hj, Nat.sub_lt_sub_left hj (Nat.lt_succ_self j)⟩, H', HB, C, O, R, X, HCo, HCt⟩
             ·rw [if_neg hy] at H'
              have hyb : (y != 0) = true := bne_iff_ne.mpr hy
              clear hy
              obtain rfl := Option.some.inj H'
              (obtain ⟨r_0, r_1, r_2, r_3, r_4, r_5, r_6, r_f0, r_f1, r_f2, r_f3, r_f4, r_f5, r_f6⟩ := cN7 R.out)
              have nrx := NRX.out
              go_upto_region 23 with (fail)
              have hO_ := (((On.refl gR w11).set 0 (.int .i64 y)).set 1 (.int .i64 (i : Int))).set 2 (.int .i64 (j : Int))
              have hr_ := put7b R.out (.int .i64 y) (.int .i64 (i : Int)) (.int .i64 (j : Int))
              generalize (((w11.setCell ⟨gR, 0, none⟩ (.int .i64 y)).setCell ⟨gR, 1, none⟩ (.int .i64 (i : Int))).setCell ⟨gR, 2, none⟩ (.int .i64 (j : Int))) = w13 at hO_ hr_ ⊢
              replace O := As0 ((hO_.1 _ NOR.out).trans O.out)
              replace HB := As0 (hO_.2 _ _ GR.out HB.out)
              replace R := As0 hr_
              clear hr_ hO_
              apply fin23 _ _ gO gR #[.int .i64 y, .int .i64 (i : Int), .int .i64 (j : Int), .int .i64 eN.f3, .int .i64 eN.f4, .int .i64 eN.f5, .int .i64 eN.f6]
              case hK => assumption
              case hO => exact O.out
              case hR => exact R.out
              case h0 => rfl
              case h1 => rfl
              case hQ => exact fun W' hW => ⟨rfl, hW _ _ GO.out HB.out⟩
              case hsz => show 122 < 123; decide
              case hone => kernel_rfl
              all_goals rfl
            ·rw [if_neg hb3] at H'; cases H'
           ·have hj' : j = tg.length := by have := HJ.out; omega
            subst hj'
            have H' := HH.out
            simp only [List.drop_length, Qd7] at H'
            replace H' := As0 H'
            clear HH
            go_wp2
            go_roundg (SB.length - i)
            case measure => have := HI.out; omega
            case rel => exact ⟨i + 1, ei, by first | rw [hw] | rfl, ⟨by omega, by omega⟩, H', HB, C, O, R⟩
        ·rw [if_neg hf1] at HH
         (obtain ⟨x_0, x_1, x_2, x_3, x_4, x_f0, x_f1, x_f2, x_f3, x_f4⟩ := cN5 X.out)
         (obtain ⟨r_0, r_1, r_2, r_3, r_4, r_5, r_6, r_f0, r_f1, r_f2, r_f3, r_f4, r_f5, r_f6⟩ := cN7 R.out)
         have hf1b : (xb.f1 != 0) = true := bne_iff_ne.mpr hf1
         obtain rfl := Option.some.inj HH
         clear hf1
         go_wp2
         go_region
         go_upto_region 23 with (fail)
         have hO_ := ((((On.refl gR w12).set 0 (.int .i64 xb.f1)).set 1 (.int .i64 (i : Int))).set 2 (.int .i64 xb.f2)).drew
         have hr_ := Qbr (put7b R.out (.int .i64 xb.f1) (.int .i64 (i : Int)) (.int .i64 xb.f2))
         generalize ((((w12).setCell ⟨gR, 0, none⟩ (.int .i64 xb.f1)).setCell ⟨gR, 1, none⟩ (.int .i64 (i : Int))).setCell ⟨gR, 2, none⟩ (.int .i64 xb.f2)).drew = w13 at hO_ hr_ ⊢
         replace O := As0 ((hO_.1 _ NOR.out).trans O.out)
         replace HB := As0 (hO_.2 _ _ GR.out HB.out)
         replace R := As0 hr_
         clear hr_ hO_
         (try clear r_0 r_1 r_2 r_3 r_4 r_5 r_6 r_f0 r_f1 r_f2 r_f3 r_f4 r_f5 r_f6)
         (have rr0 := (Qbn R.out 0).trans rfl; have rrf0 := Qbp R.out 0; have rr1 := (Qbn R.out 1).trans rfl; have rrf1 := Qbp R.out 1; have rr2 := (Qbn R.out 2).trans rfl; have rrf2 := Qbp R.out 2; have rr3 := (Qbn R.out 3).trans rfl; have rrf3 := Qbp R.out 3; have rr4 := (Qbn R.out 4).trans rfl; have rrf4 := Qbp R.out 4; have rr5 := (Qbn R.out 5).trans rfl; have rrf5 := Qbp R.out 5; have rr6 := (Qbn R.out 6).trans rfl; have rrf6 := Qbp R.out 6)
         go_wp2_with ((with_reducible refine Qdb (.store 51 (.tmp 2) (.tmp 122)) rfl ?_); go_loud (refine Qau rfl rfl 51 _ _ rfl gO #[.int .i64 xb.f1, .int .i64 (i : Int), .int .i64 xb.f2, .int .i64 eN.f3, .int .i64 eN.f4, .int .i64 eN.f5, .int .i64 eN.f6] rfl rfl 51 #[.int .i64 0, .int .i64 0, .int .i64 0, .int .i64 0, .int .i64 0, .int .i64 0, .int .i64 0] O.out (by kernel_rfl) rfl (by kernel_rfl) ?_); intro wz hg ho hB; replace HB := As0 (hB _ _ GO.out (BU HB.out)); replace O := As0 hg; skip; clear hg ho hB)
         (try rw [Exit.noGoto_ret])
         exact bodyPost_ret (results_cell_row rfl _ _ gO 51 #[.int .i64 xb.f1, .int .i64 (i : Int), .int .i64 xb.f2, .int .i64 eN.f3, .int .i64 eN.f4, .int .i64 eN.f5, .int .i64 eN.f6] (0, 0) _ rfl O.out hu51 rfl (by kernel_rfl)) rfl ⟨rfl, BU HB.out⟩
     ·rw [if_neg hb2] at H'; cases H'
    ·have hi' : i = SB.length := by have := HI.out; omega
     subst hi'
     have H' := H.out
     simp only [List.drop_length, Qcp] at H'
     obtain rfl := Option.some.inj H'
     clear H H'
     (have rr0 := (Qbn R.out 0).trans rfl; have rrf0 := Qbp R.out 0; have rr1 := (Qbn R.out 1).trans rfl; have rrf1 := Qbp R.out 1; have rr2 := (Qbn R.out 2).trans rfl; have rrf2 := Qbp R.out 2; have rr3 := (Qbn R.out 3).trans rfl; have rrf3 := Qbp R.out 3; have rr4 := (Qbn R.out 4).trans rfl; have rrf4 := Qbp R.out 4; have rr5 := (Qbn R.out 5).trans rfl; have rrf5 := Qbp R.out 5; have rr6 := (Qbn R.out 6).trans rfl; have rrf6 := Qbp R.out 6)
     go_wp2_with ((with_reducible refine Qdb (.store 51 (.tmp 2) (.tmp 122)) rfl ?_); go_loud (refine Qau rfl rfl 51 _ _ rfl gO #[.int .i64 e.f0, .int .i64 e.f1, .int .i64 e.f2, .int .i64 e.f3, .int .i64 e.f4, .int .i64 e.f5, .int .i64 e.f6] rfl rfl 51 #[.int .i64 0, .int .i64 0, .int .i64 0, .int .i64 0, .int .i64 0, .int .i64 0, .int .i64 0] O.out (by kernel_rfl) rfl (by kernel_rfl) ?_); intro wz hg ho hB; replace HB := As0 (hB _ _ GO.out (BU HB.out)); replace O := As0 hg; skip; clear hg ho hB)
     (try rw [Exit.noGoto_ret])
     exact bodyPost_ret (results_cell_row rfl _ _ gO 51 #[.int .i64 e.f0, .int .i64 e.f1, .int .i64 e.f2, .int .i64 e.f3, .int .i64 e.f4, .int .i64 e.f5, .int .i64 e.f6] (0, 0) _ rfl O.out hu51 rfl (by kernel_rfl)) rfl ⟨rfl, BU HB.out⟩
  ·rw [if_neg he] at hx
   obtain rfl := Option.some.inj hx
   have heb : (e0 != 0) = true := bne_iff_ne.mpr he
   go_enter Tryz.func14, Tryz.ntmps14
   go_wp2_with (first
    | ((with_reducible refine gD 1 ?_); refine bX ?_; intro gC hg w1 hbox hb; have C := As0 hbox; have GC := As0 (by rw [hg]; exact Qbm (BU HB.out) : w.heap.size ≤ gC); replace HB := sB HB hb; clear hb hbox hg)
    | ((with_reducible refine gD 2 ?_); refine bX ?_; intro gO hg w2 hbox hb; have O := As0 hbox; have GO := As0 (by rw [hg]; exact Qbm (BU HB.out) : w.heap.size ≤ gO); have NCO := As0 (by have := Qby C.out; omega : gC ≠ gO); replace C := As0 (Qbl C.out hb); replace HB := sB HB hb; (obtain ⟨c_0, c_1, c_2, c_3, c_4, c_5, c_6, c_7, c_f0, c_f1, c_f2, c_f3, c_f4, c_f5, c_f6, c_f7⟩ := cN8 C.out); clear hb hbox hg))
   go_step3
   go_wp2_with (first
    | (go_at_call 31; refine (Qbc.calls k sa sr A0 c0 SB ta tr ts A1 c1 TB A2 c2 Wl _ _ (Kd.C_below H0.out (BU HB.out)) hc0 (Kd.C_below H1.out (BU HB.out)) hc1 (Kd.C_below H2.out (BU HB.out)) hc2 hv).mono ?_; rintro e w3 ⟨rfl, hb⟩; clear c_0 c_1 c_2 c_3 c_4 c_5 c_6 c_7 c_f0 c_f1 c_f2 c_f3 c_f4 c_f5 c_f6 c_f7; replace C := As0 (Qbl C.out hb); replace O := As0 (Qbl O.out hb); replace HB := sB HB hb; (obtain ⟨c_0, c_1, c_2, c_3, c_4, c_5, c_6, c_7, c_f0, c_f1, c_f2, c_f3, c_f4, c_f5, c_f6, c_f7⟩ := cN8 C.out); clear hb)
    | (go_at_call 32; refine (Qa3.calls k sa sr A0 c0 SB ta tr ts A1 c1 TB A2 c2 Wl _ _ _ _ _ _ _ _ (Kd.C_below H0.out (BU HB.out)) hc0 (Kd.C_below H1.out (BU HB.out)) hc1 (Kd.C_below H2.out (BU HB.out)) hc2 hbg).mono ?_; rintro e w4 ⟨rfl, hb⟩; clear c_0 c_1 c_2 c_3 c_4 c_5 c_6 c_7 c_f0 c_f1 c_f2 c_f3 c_f4 c_f5 c_f6 c_f7; replace C := As0 (Qbl C.out hb); replace O := As0 (Qbl O.out hb); replace HB := sB HB hb; (obtain ⟨c_0, c_1, c_2, c_3, c_4, c_5, c_6, c_7, c_f0, c_f1, c_f2, c_f3, c_f4, c_f5, c_f6, c_f7⟩ := cN8 C.out); clear hb)
    | ((with_reducible refine gD 4 ?_); refine bX ?_; intro gR hg w5 hbox hb; have R := As0 hbox; have GR := As0 (by rw [hg]; exact Qbm (BU HB.out) : w.heap.size ≤ gR); have NCR := As0 (by have := Qby C.out; omega : gC ≠ gR); have NOR := As0 (by have := Qby O.out; omega : gO ≠ gR); replace C := As0 (Qbl C.out hb); replace O := As0 (Qbl O.out hb); replace HB := sB HB hb; clear c_0 c_1 c_2 c_3 c_4 c_5 c_6 c_7 c_f0 c_f1 c_f2 c_f3 c_f4 c_f5 c_f6 c_f7; (obtain ⟨c_0, c_1, c_2, c_3, c_4, c_5, c_6, c_7, c_f0, c_f1, c_f2, c_f3, c_f4, c_f5, c_f6, c_f7⟩ := cN8 C.out); clear hb hbox hg)
    | ((with_reducible refine Qdb (.store 51 (.tmp 4) (.tmp 19)) rfl ?_); go_loud (refine Qau rfl rfl 51 _ _ rfl gR #[.int .i64 e0, .int .i64 e1, .int .i64 e2, .int .i64 e3, .int .i64 e4, .int .i64 e5, .int .i64 e6] rfl rfl 51 #[.int .i64 0, .int .i64 0, .int .i64 0, .int .i64 0, .int .i64 0, .int .i64 0, .int .i64 0] R.out (by kernel_rfl) rfl (by kernel_rfl) ?_); intro w6 hg ho hB; replace HB := As0 (hB _ _ GR.out (BU HB.out)); replace R := As0 hg; replace C := As0 ((ho _ NCR.out).trans C.out); replace O := As0 ((ho _ NOR.out).trans O.out); clear c_0 c_1 c_2 c_3 c_4 c_5 c_6 c_7 c_f0 c_f1 c_f2 c_f3 c_f4 c_f5 c_f6 c_f7; (obtain ⟨c_0, c_1, c_2, c_3, c_4, c_5, c_6, c_7, c_f0, c_f1, c_f2, c_f3, c_f4, c_f5, c_f6, c_f7⟩ := cN8 C.out); (obtain ⟨r_0, r_1, r_2, r_3, r_4, r_5, r_6, r_f0, r_f1, r_f2, r_f3, r_f4, r_f5, r_f6⟩ := cN7 R.out); clear hg ho hB)
    | ((with_reducible refine Qdb (.store 51 (.tmp 2) (.tmp 23)) rfl ?_); go_loud (refine Qau rfl rfl 51 _ _ rfl gO #[.int .i64 e0, .int .i64 e1, .int .i64 e2, .int .i64 e3, .int .i64 e4, .int .i64 e5, .int .i64 e6] rfl rfl 51 #[.int .i64 0, .int .i64 0, .int .i64 0, .int .i64 0, .int .i64 0, .int .i64 0, .int .i64 0] O.out (by kernel_rfl) rfl (by kernel_rfl) ?_); intro w7 hg ho hB; replace HB := As0 (hB _ _ GO.out (BU HB.out)); replace O := As0 hg; skip; clear hg ho hB))
   rw [Exit.noGoto_ret]
   exact bodyPost_ret (results_cell_row rfl _ _ gO 51 #[.int .i64 e0, .int .i64 e1, .int .i64 e2, .int .i64 e3, .int .i64 e4, .int .i64 e5, .int .i64 e6] (0, 0) _ rfl O.out hu51 rfl (by kernel_rfl)) rfl ⟨rfl, BU HB.out⟩
 ·rw [if_neg hy] at hx
  obtain rfl := Option.some.inj hx
  have hyb : (y != 0) = true := bne_iff_ne.mpr hy
  go_enter Tryz.func14, Tryz.ntmps14
  go_wp2_with (first
   | ((with_reducible refine gD 1 ?_); refine bX ?_; intro gC hg w1 hbox hb; have C := As0 hbox; have GC := As0 (by rw [hg]; exact Qbm (BU HB.out) : w.heap.size ≤ gC); replace HB := sB HB hb; clear hb hbox hg)
   | ((with_reducible refine gD 2 ?_); refine bX ?_; intro gO hg w2 hbox hb; have O := As0 hbox; have GO := As0 (by rw [hg]; exact Qbm (BU HB.out) : w.heap.size ≤ gO); have NCO := As0 (by have := Qby C.out; omega : gC ≠ gO); replace C := As0 (Qbl C.out hb); replace HB := sB HB hb; (obtain ⟨c_0, c_1, c_2, c_3, c_4, c_5, c_6, c_7, c_f0, c_f1, c_f2, c_f3, c_f4, c_f5, c_f6, c_f7⟩ := cN8 C.out); clear hb hbox hg))
  go_step3
  go_wp2_with (first
   | (go_at_call 31; refine (Qbc.calls k sa sr A0 c0 SB ta tr ts A1 c1 TB A2 c2 Wl _ _ (Kd.C_below H0.out (BU HB.out)) hc0 (Kd.C_below H1.out (BU HB.out)) hc1 (Kd.C_below H2.out (BU HB.out)) hc2 hv).mono ?_; rintro e w3 ⟨rfl, hb⟩; clear c_0 c_1 c_2 c_3 c_4 c_5 c_6 c_7 c_f0 c_f1 c_f2 c_f3 c_f4 c_f5 c_f6 c_f7; replace C := As0 (Qbl C.out hb); replace O := As0 (Qbl O.out hb); replace HB := sB HB hb; (obtain ⟨c_0, c_1, c_2, c_3, c_4, c_5, c_6, c_7, c_f0, c_f1, c_f2, c_f3, c_f4, c_f5, c_f6, c_f7⟩ := cN8 C.out); clear hb)
   | ((with_reducible refine Qdb (.store 51 (.tmp 2) (.tmp 17)) rfl ?_); go_loud (refine Qau rfl rfl 51 _ _ rfl gO #[.int .i64 y, .int .i64 0, .int .i64 0, .int .i64 0, .int .i64 0, .int .i64 0, .int .i64 0] rfl rfl 51 #[.int .i64 0, .int .i64 0, .int .i64 0, .int .i64 0, .int .i64 0, .int .i64 0, .int .i64 0] O.out (by kernel_rfl) rfl (by kernel_rfl) ?_); intro w7 hg ho hB; replace HB := As0 (hB _ _ GO.out (BU HB.out)); replace O := As0 hg; skip; clear hg ho hB))
  rw [Exit.noGoto_ret]
  exact bodyPost_ret (results_cell_row rfl _ _ gO 51 #[.int .i64 y, .int .i64 0, .int .i64 0, .int .i64 0, .int .i64 0, .int .i64 0, .int .i64 0] (0, 0) _ rfl O.out hu51 rfl (by kernel_rfl)) rfl ⟨rfl, BU HB.out⟩
theorem LeO.then {o o' : OBs} {f f' : Bs → OBs} (h : LeO o o') (hf : ∀ s, LeO (f s) (f' s)) : LeO (o.then f) (o'.then f') := by
 refine LeO.bind h fun p => ?_
 obtain ⟨s, q⟩ := p
 cases q with
 | none => exact hf s
 | some q => exact LeO.refl _
def checker_Check.f (k : Nat) (sa sr : Int) (SB : List S39) (ta tr ts : Int) (TB : List S57) (Wl : List (List S47)) : Option (Int × Int × Int × Int × Int × Int × Int) := (Qdk k sa sr SB ta tr ts TB Wl).map fun r => (r.f0, r.f1, r.f2, r.f3, r.f4, r.f5, r.f6)
theorem checker_Check.calls (k : Nat) (a0_0 a0_1 : Int) (A0_2 : Option Addr) (c0_2 : Nat) (l0_2 : List (S39)) (a0_3 a0_4 a0_5 : Int) (A0_6 : Option Addr) (c0_6 : Nat) (l0_6 : List (S57)) (A0_7 : Option Addr) (c0_7 : Nat) (l0_7 : List (List (S47))) (r1 r2 r3 r4 r5 r6 r7 : Int) (w : World) (hr0_2 : Kd.C k39 w A0_2 l0_2.length l0_2) (hc0_2 : l0_2.length ≤ c0_2) (hr0_6 : Kd.C k57 w A0_6 l0_6.length l0_6) (hc0_6 : l0_6.length ≤ c0_6) (hr0_7 : Kd.C (Kd.slice 47 k47) w A0_7 l0_7.length l0_7) (hc0_7 : l0_7.length ≤ c0_7) (h : checker_Check.f k a0_0 a0_1 l0_2 a0_3 a0_4 a0_5 l0_6 l0_7 = some (r1, r2, r3, r4, r5, r6, r7)) :
 Calls Tryz.prog 14 #[.agg #[.int .i64 a0_0, .int .i64 a0_1, .slice A0_2 l0_2.length c0_2, .int .i64 a0_3, .int .i64 a0_4, .int .i64 a0_5, .slice A0_6 l0_6.length c0_6, .slice A0_7 l0_7.length c0_7]] w fun e w' => e = .returned (.agg #[.int .i64 r1, .int .i64 r2, .int .i64 r3, .int .i64 r4, .int .i64 r5, .int .i64 r6, .int .i64 r7]) ∧ Below w.heap.size w w' := by
 obtain ⟨x, hx, hr⟩ := Option.map_eq_some_iff.1 h
 simp only [Prod.mk.injEq] at hr
 obtain ⟨rfl, rfl, rfl, rfl, rfl, rfl, rfl⟩ := hr
 exact check_calls k a0_0 a0_1 A0_2 c0_2 l0_2 a0_3 a0_4 a0_5 A0_6 c0_6 l0_6 A0_7 c0_7 l0_7 x w hr0_2 hc0_2 hr0_6 hc0_6 hr0_7 hc0_7 hx
end Go.Proofs.YtchpkjgibloleaaGreat.Z
namespace Go.Proofs.YtchpkjgibloleaaGreat.V
set_option maxRecDepth 100000
set_option maxHeartbeats 8000000
open Go
inductive C0 where
 | b (x : Bool)
 | i (k : IntKind) (n : Int)
 | p (a : Option (Nat × Nat))
 | s (a : Option (Nat × Nat)) (len : Nat) (cap : Option Nat) (sz : Nat) (full : Bool)
 | nilI
 | nilF
 deriving DecidableEq
inductive C1 where
 | c (x : C0)
 | f (fn : FuncId) (first cap : List C0)
 deriving DecidableEq
inductive T1 where
 | c (x : C1)
 | g (l : List C1)
 deriving DecidableEq
inductive AV where
 | c (x : C1)
 | g (l : List C1)
 | t (l : List T1)
 deriving DecidableEq
abbrev Ren := Nat → Option (Nat × Nat)
def Ren.le (ρ ρ' : Ren) : Prop := ∀ n x, ρ n = some x → ρ' n = some x
theorem Ren.le_refl (ρ : Ren) : ρ.le ρ := fun _ _ h => h
theorem Ren.le.trans {ρ ρ' ρ'' : Ren} (h : ρ.le ρ') (h' : ρ'.le ρ'') : ρ.le ρ'' := fun n x e => h' n x (h n x e)
def All2 {α β : Type} (R : α → β → Prop) : List α → List β → Prop
 | [], [] => True
 | a :: l, b :: m => R a b ∧ All2 R l m
 | _, _ => False
theorem All2.imp {α β : Type} {R R' : α → β → Prop} (h : ∀ a b, R a b → R' a b) : ∀ {l : List α} {m : List β}, All2 R l m → All2 R' l m
 | [], [], _ => trivial
 | _ :: _, _ :: _, ⟨h1, h2⟩ => ⟨h _ _ h1, All2.imp h h2⟩
 | [], _ :: _, hh => hh.elim
 | _ :: _, [], hh => hh.elim
theorem All2.len {α β : Type} {R : α → β → Prop} : ∀ {l : List α} {m : List β}, All2 R l m → l.length = m.length
 | [], [], _ => rfl
 | _ :: _, _ :: _, ⟨_, h2⟩ => by simp [All2.len h2]
 | [], _ :: _, hh => hh.elim
 | _ :: _, [], hh => hh.elim
theorem All2.get {α β : Type} {R : α → β → Prop} : ∀ {l : List α} {m : List β}, All2 R l m → ∀ (i : Nat) {x : α}, l[i]? = some x → ∃ y, m[i]? = some y ∧ R x y
 | a :: l, b :: m, ⟨h1, h2⟩, 0, x, h => by
  simp at h; subst h; exact ⟨b, by simp, h1⟩
 | a :: l, b :: m, ⟨_, h2⟩, i + 1, x, h => by
  simp at h
  obtain ⟨y, hy, hr⟩ := All2.get h2 i h
  exact ⟨y, by simpa using hy, hr⟩
 | [], [], _, i, x, h => by simp at h
 | [], _ :: _, hh, _, _, _ => hh.elim
 | _ :: _, [], hh, _, _, _ => hh.elim
theorem All2.app {α β : Type} {R : α → β → Prop} : ∀ {l l' : List α} {m m' : List β}, All2 R l m → All2 R l' m' → All2 R (l ++ l') (m ++ m')
 | [], _, [], _, _, h => h
 | _ :: _, _, _ :: _, _, ⟨h1, h2⟩, h => ⟨h1, All2.app h2 h⟩
 | [], _, _ :: _, _, hh, _ => hh.elim
 | _ :: _, _, [], _, hh, _ => hh.elim
theorem All2.set {α β : Type} {R : α → β → Prop} {x : α} {y : β} (hr : R x y) : ∀ {l : List α} {m : List β}, All2 R l m → ∀ i, All2 R (l.set i x) (m.set i y)
 | [], [], _, _ => trivial
 | _ :: _, _ :: _, ⟨h1, h2⟩, 0 => ⟨hr, h2⟩
 | _ :: _, _ :: _, ⟨h1, h2⟩, i + 1 => ⟨h1, All2.set hr h2 i⟩
 | [], _ :: _, hh, _ => hh.elim
 | _ :: _, [], hh, _ => hh.elim
theorem All2.of {α β : Type} {R : α → β → Prop} : ∀ {l : List α} {m : List β}, l.length = m.length → (∀ (i : Nat) x, l[i]? = some x → ∃ y, m[i]? = some y ∧ R x y) → All2 R l m
 | [], [], _, _ => trivial
 | a :: l, b :: m, hl, h => by
  obtain ⟨y, hy, hr⟩ := h 0 a (by simp)
  simp at hy; subst hy
  exact ⟨hr, All2.of (by simpa using hl) fun i x hx => by simpa using h (i + 1) x (by simpa using hx)⟩
 | [], _ :: _, hl, _ => by simp at hl
 | _ :: _, [], hl, _ => by simp at hl
theorem All2.rep {α β : Type} {R : α → β → Prop} {x : α} {y : β} (h : R x y) : ∀ n, All2 R (List.replicate n x) (List.replicate n y)
 | 0 => trivial
 | n + 1 => ⟨h, All2.rep h n⟩
theorem All2.left {α β : Type} {R : α → β → Prop} : ∀ {l : List α} {m : List β}, All2 R l m → ∀ {P : β → Prop}, (∀ a b, R a b → P b) → ∀ b ∈ m, P b
 | [], [], _, _, _, _, hb => by cases hb
 | _ :: _, _ :: _, ⟨h1, h2⟩, P, h, b, hb => by
  rcases List.mem_cons.1 hb with rfl | hb
  ·exact h _ _ h1
  ·exact All2.left h2 h b hb
 | [], _ :: _, hh, _, _, _, _ => hh.elim
 | _ :: _, [], hh, _, _, _, _ => hh.elim
def C0.R (ρ : Ren) : C0 → Value → Prop
 | .b x, v => v = .bool x
 | .i k n, v => v = .int k n
 | .p none, v => v = .pointer none
 | .p (some (n, o)), v => ∃ g z, ρ n = some (g, z) ∧ v = .pointer (some ⟨g, o, none⟩)
 | .s none _ _ _ _, v => v = .slice none 0 0
 | .s (some (n, o)) len cap sz full, v => ∃ g z c, ρ n = some (g, z) ∧ v = .slice (some ⟨g, o, none⟩) len c ∧ (∀ c', cap = some c' → c = c') ∧ len ≤ c ∧ c ≤ maxLen ∧ o + c * sz ≤ z ∧ (full = true → o + c * sz = z)
 | .nilI, v => v = .nilIface
 | .nilF, v => v = .nilFunc
def C1.R (ρ : Ren) : C1 → Value → Prop
 | .c x, v => x.R ρ v
 | .f fn first cap, v => ∃ F C, All2 (C0.R ρ) first F ∧ All2 (C0.R ρ) cap C ∧ v = .func (.func fn) F.toArray C.toArray
def T1.R (ρ : Ren) : T1 → Value → Prop
 | .c x, v => x.R ρ v
 | .g l, v => ∃ L, All2 (C1.R ρ) l L ∧ v = .agg L.toArray
def AV.R (ρ : Ren) : AV → Value → Prop
 | .c x, v => x.R ρ v
 | .g l, v => ∃ L, All2 (C1.R ρ) l L ∧ v = .agg L.toArray
 | .t l, v => ∃ L, All2 (T1.R ρ) l L ∧ v = .tuple L.toArray
theorem C0.mono {ρ ρ' : Ren} (h : ρ.le ρ') : ∀ (x : C0) (v : Value), x.R ρ v → x.R ρ' v := by
 intro x v hx
 cases x with
 | p a =>
  cases a with
  | none => exact hx
  | some a => obtain ⟨g, z, h1, h2⟩ := hx; exact ⟨g, z, h _ _ h1, h2⟩
 | s a len cap sz full =>
  cases a with
  | none => exact hx
  | some a => obtain ⟨g, z, c, h1, h2⟩ := hx; exact ⟨g, z, c, h _ _ h1, h2⟩
 | _ => exact hx
theorem C1.mono {ρ ρ' : Ren} (h : ρ.le ρ') : ∀ (x : C1) (v : Value), x.R ρ v → x.R ρ' v := by
 intro x v hx
 cases x with
 | c x => exact C0.mono h x v hx
 | f fn first cap => obtain ⟨F, C, h1, h2, h3⟩ := hx; exact ⟨F, C, h1.imp (C0.mono h), h2.imp (C0.mono h), h3⟩
theorem T1.mono {ρ ρ' : Ren} (h : ρ.le ρ') : ∀ (x : T1) (v : Value), x.R ρ v → x.R ρ' v := by
 intro x v hx
 cases x with
 | c x => exact C1.mono h x v hx
 | g l => obtain ⟨L, h1, h2⟩ := hx; exact ⟨L, h1.imp (C1.mono h), h2⟩
theorem AV.mono {ρ ρ' : Ren} (h : ρ.le ρ') : ∀ (x : AV) (v : Value), x.R ρ v → x.R ρ' v := by
 intro x v hx
 cases x with
 | c x => exact C1.mono h x v hx
 | g l => obtain ⟨L, h1, h2⟩ := hx; exact ⟨L, h1.imp (C1.mono h), h2⟩
 | t l => obtain ⟨L, h1, h2⟩ := hx; exact ⟨L, h1.imp (T1.mono h), h2⟩
theorem C0.one {ρ : Ren} {x : C0} {v : Value} (h : x.R ρ v) : v.oneCell' = true := by
 cases x with
 | p a => cases a with
  | none => cases h; rfl
  | some a => obtain ⟨g, z, h1, rfl⟩ := h; rfl
 | s a len cap sz full => cases a with
  | none => cases h; rfl
  | some a => obtain ⟨g, z, c, h1, rfl, _⟩ := h; rfl
 | _ => cases h; rfl
theorem C1.one {ρ : Ren} {x : C1} {v : Value} (h : x.R ρ v) : v.oneCell' = true := by
 cases x with
 | c x => exact C0.one h
 | f fn first cap => obtain ⟨F, C, h1, h2, rfl⟩ := h; rfl
def C0.lit : C0 → Option Value
 | .b x => some (.bool x)
 | .i k n => some (.int k n)
 | .p none => some (.pointer none)
 | .s none _ _ _ _ => some (.slice none 0 0)
 | .nilI => some .nilIface
 | .nilF => some .nilFunc
 | _ => none
def C1.lit : C1 → Option Value
 | .c x => x.lit
 | _ => none
def litCs : List C1 → Option (List Value)
 | [] => some []
 | x :: l => match x.lit, litCs l with
  | some v, some vs => some (v :: vs)
  | _, _ => none
def AV.lit : AV → Option Value
 | .c x => x.lit
 | .g l => (litCs l).map fun vs => .agg vs.toArray
 | _ => none
theorem C1.lit_eq {ρ : Ren} {x : C1} {V v : Value} (h : x.lit = some V) (hr : x.R ρ v) : v = V := by
 cases x with
 | c x => cases x with
  | p a => cases a <;> simp [C1.lit, C0.lit] at h; subst h; exact hr
  | s a len cap sz full => cases a <;> simp [C1.lit, C0.lit] at h; subst h; exact hr
  | _ => simp [C1.lit, C0.lit] at h; subst h; exact hr
 | f fn first cap => simp [C1.lit] at h
theorem litCs_eq {ρ : Ren} : ∀ {l : List C1} {vs L : List Value}, litCs l = some vs → All2 (C1.R ρ) l L → L = vs
 | [], vs, [], h, _ => by simp [litCs] at h; exact h.symm
 | x :: l, vs, V :: L, h, ⟨h1, h2⟩ => by
  unfold litCs at h
  split at h
  ·rename_i v vs' hv hvs
   simp at h; subst h
   rw [C1.lit_eq hv h1, litCs_eq hvs h2]
  ·cases h
 | [], _, _ :: _, _, hh => hh.elim
 | _ :: _, _, [], _, hh => hh.elim
theorem AV.lit_eq {ρ : Ren} {x : AV} {V v : Value} (h : x.lit = some V) (hr : x.R ρ v) : v = V := by
 cases x with
 | c x => exact C1.lit_eq h hr
 | g l =>
  obtain ⟨vs, hvs, rfl⟩ := Option.map_eq_some_iff.1 h
  obtain ⟨L, h1, rfl⟩ := hr
  rw [litCs_eq hvs h1]
 | t l => simp [AV.lit] at h
def absC : Value → Option C0
 | .bool x => some (.b x)
 | .int k n => some (.i k n)
 | .pointer none => some (.p none)
 | .slice none 0 0 => some (.s none 0 none 0 false)
 | .nilIface => some .nilI
 | .nilFunc => some .nilF
 | _ => none
theorem absC_R {ρ : Ren} {v : Value} {x : C0} (h : absC v = some x) : x.R ρ v := by
 unfold absC at h
 split at h <;> simp at h <;> subst h <;> rfl
def absCs : List Value → Option (List C1)
 | [] => some []
 | v :: l => match absC v, absCs l with
  | some x, some xs => some (.c x :: xs)
  | _, _ => none
theorem absCs_R {ρ : Ren} : ∀ {l : List Value} {m : List C1}, absCs l = some m → All2 (C1.R ρ) m l
 | [], m, h => by simp [absCs] at h; subst h; trivial
 | v :: l, m, h => by
  unfold absCs at h
  split at h
  ·rename_i x xs hx hxs
   simp at h; subst h
   exact ⟨absC_R hx, absCs_R hxs⟩
  ·cases h
def absV : Value → Option AV
 | .agg cs => (absCs cs.toList).map .g
 | .tuple cs => if cs.size = 0 then some (.t []) else none
 | v => (absC v).map fun x => .c (.c x)
theorem absV_R {ρ : Ren} {v : Value} {x : AV} (h : absV v = some x) : x.R ρ v := by
 unfold absV at h
 split at h
 ·rename_i cs
  obtain ⟨m, hm, rfl⟩ := Option.map_eq_some_iff.1 h
  exact ⟨cs.toList, absCs_R hm, by simp⟩
 ·rename_i cs
  split at h
  ·rename_i h0
   simp at h; subst h
   exact ⟨[], trivial, by simp [Array.size_eq_zero_iff.1 h0]⟩
  ·cases h
 ·obtain ⟨m, hm, rfl⟩ := Option.map_eq_some_iff.1 h
  exact absC_R hm
structure Ent where
 cs : List C1
 ty : TypeId
 ex : Bool
 deriving DecidableEq
abbrev Hp := List (Nat × Ent)
noncomputable def get (H : Hp) : Nat → Option Ent :=
 @List.rec (Nat × Ent) (fun _ => Nat → Option Ent) (fun _ => none) (fun x _ ih n => cond (Nat.beq x.1 n) (some x.2) (ih n)) H
noncomputable def ins (n : Nat) (e : Ent) (H : Hp) : Hp :=
 @List.rec (Nat × Ent) (fun _ => Hp) [(n, e)] (fun x l ih => cond (Nat.blt x.1 n) ((n, e) :: x :: l) (x :: ih)) H
noncomputable def upd (n : Nat) (e : Ent) (H : Hp) : Hp :=
 @List.rec (Nat × Ent) (fun _ => Hp) [] (fun x l ih => cond (Nat.beq x.1 n) ((x.1, e) :: l) (x :: ih)) H
noncomputable def del (n : Nat) (H : Hp) : Hp :=
 @List.rec (Nat × Ent) (fun _ => Hp) [] (fun x l ih => cond (Nat.beq x.1 n) ih (x :: ih)) H
theorem Qd4 (n : Nat) : get [] n = none := rfl
theorem beq_if {α : Type} (m n : Nat) (a b : α) : (bif Nat.beq m n then a else b) = if m = n then a else b := by
 by_cases h : m = n
 ·subst h; simp
 ·have : Nat.beq m n = false := by
    cases hh : Nat.beq m n with
    | false => rfl
    | true => exact absurd (Nat.eq_of_beq_eq_true hh) h
  simp [this, h]
theorem Qb7 (m : Nat) (e : Ent) (H : Hp) (n : Nat) : get ((m, e) :: H) n = if m = n then some e else get H n := beq_if _ _ _ _
theorem ins_cons (n : Nat) (e : Ent) (m : Nat) (e' : Ent) (H : Hp) : ins n e ((m, e') :: H) = (n, e) :: (m, e') :: H ∨ ins n e ((m, e') :: H) = (m, e') :: ins n e H := by
 show (bif Nat.blt m n then _ else _) = _ ∨ (bif Nat.blt m n then _ else _) = _
 cases Nat.blt m n
 ·exact .inr rfl
 ·exact .inl rfl
theorem upd_cons (n : Nat) (e : Ent) (m : Nat) (e' : Ent) (H : Hp) : upd n e ((m, e') :: H) = if m = n then (m, e) :: H else (m, e') :: upd n e H := beq_if _ _ _ _
theorem del_cons (n m : Nat) (e' : Ent) (H : Hp) : del n ((m, e') :: H) = if m = n then del n H else (m, e') :: del n H := beq_if _ _ _ _
theorem Qeg (n : Nat) (e : Ent) : ∀ (H : Hp), get H n = none → ∀ m, get (ins n e H) m = if m = n then some e else get H m
 | [], _, m => by
  show get [(n, e)] m = if m = n then some e else none
  rw [Qb7]
  by_cases h1 : m = n
  ·simp [h1]
  ·have h2 : ¬ n = m := fun h => h1 h.symm
   simp [h1, h2, Qd4]
 | (k, e') :: H, h, m => by
  rw [Qb7] at h
  split at h
  ·cases h
  ·rename_i hk
   rcases ins_cons n e k e' H with h3 | h3 <;> rw [h3]
   ·rw [Qb7]
    by_cases h1 : m = n
    ·simp [h1]
    ·have h2 : ¬ n = m := fun h => h1 h.symm
     simp [h1, h2]
   ·rw [Qb7, Qb7, Qeg n e H h m]
    by_cases h1 : k = m
    ·subst h1; simp [hk]
    ·simp [h1]
theorem get_upd (n : Nat) (e : Ent) : ∀ (H : Hp) {e0 : Ent}, get H n = some e0 → ∀ m, get (upd n e H) m = if m = n then some e else get H m
 | [], _, h, _ => by simp [Qd4] at h
 | (k, e') :: H, e0, h, m => by
  rw [upd_cons]
  split
  ·rename_i hk
   subst hk
   rw [Qb7, Qb7]
   by_cases h1 : m = k
   ·simp [h1]
   ·have h2 : ¬ k = m := fun h => h1 h.symm
    simp [h1, h2]
  ·rename_i hk
   rw [Qb7, if_neg hk] at h
   rw [Qb7, Qb7, get_upd n e H h m]
   by_cases h1 : k = m
   ·subst h1; simp [hk]
   ·simp [h1]
theorem get_del (n : Nat) : ∀ (H : Hp) (m : Nat), get (del n H) m = if m = n then none else get H m
 | [], m => by show get [] m = _; simp [Qd4]
 | (k, e') :: H, m => by
  rw [del_cons]
  split
  ·rename_i hk
   subst hk
   rw [get_del k H m, Qb7]
   by_cases h1 : m = k
   ·simp [h1]
   ·have h2 : ¬ k = m := fun h => h1 h.symm
    simp [h1, h2]
  ·rename_i hk
   rw [Qb7, Qb7, get_del n H m]
   by_cases h1 : k = m
   ·subst h1; simp [hk]
   ·simp [h1]
structure Out (D : Nat → Prop) (w0 w : World) : Prop where
 os : w.os = w0.os
 tape : w.tape = w0.tape
 output : w.output = w0.output
 size : w0.heap.size ≤ w.heap.size
 block : ∀ k, k < w0.heap.size → ¬ D k → w.heap[k]? = w0.heap[k]?
def Holds (D : Nat → Prop) (w0 : World) (ρ : Ren) (w : World) (n : Nat) (e : Ent) : Prop :=
 ∃ g z c, ρ n = some (g, z) ∧ w.heap[g]? = some (.cells c e.ty (0, 0)) ∧ c.size = z ∧ (∀ (i : Nat) x, e.cs[i]? = some x → ∃ y, c.toList[i]? = some y ∧ C1.R ρ x y) ∧
  (e.ex = true → z = e.cs.length) ∧ (D g ∨ w0.heap.size ≤ g)
structure RH (D : Nat → Prop) (w0 : World) (ρ : Ren) (H : Hp) (dead : List Nat) (w : World) : Prop where
 hp : ∀ n e, get H n = some e → Holds D w0 ρ w n e
 inj : ∀ n m e e' g z z', get H n = some e → get H m = some e' → ρ n = some (g, z) → ρ m = some (g, z') → n = m
 fr : ∀ n x, ρ n = some x → (get H n).isSome = true ∨ n ∈ dead
 out : Out D w0 w
section
variable {D : Nat → Prop} {w0 : World} {ρ : Ren} {H : Hp} {dead : List Nat} {w : World}
theorem alloc_old {w : World} {k : Nat} (h : k < w.heap.size) (o : Obj) : (w.alloc o).heap[k]? = w.heap[k]? := by
 show (w.heap.push o)[k]? = _
 rw [Array.getElem?_push, if_neg (by omega)]
theorem alloc_new (w : World) (o : Obj) : (w.alloc o).heap[w.heap.size]? = some o := by
 show (w.heap.push o)[w.heap.size]? = _
 rw [Array.getElem?_push, if_pos rfl]
theorem Out.alloc (h : Out D w0 w) (o : Obj) : Out D w0 (w.alloc o) :=
 ⟨h.os, h.tape, h.output, by simp; have := h.size; omega, fun k hk hd => by
  have := h.size
  rw [alloc_old (by omega)]; exact h.block k hk hd⟩
theorem Out.drew (h : Out D w0 w) : Out D w0 w.drew := ⟨h.os, h.tape, h.output, h.size, h.block⟩
theorem Holds.block_lt {n : Nat} {e : Ent} (h : Holds D w0 ρ w n e) : ∀ g z, ρ n = some (g, z) → g < w.heap.size := by
 intro g z hg
 obtain ⟨g', z', c, h1, h2, _⟩ := h
 rw [hg] at h1; injection h1 with h1; injection h1 with h1 h3; subst h1
 rcases Nat.lt_or_ge g w.heap.size with h | h
 ·exact h
 ·rw [Array.getElem?_eq_none h] at h2; cases h2
def Ren.add (ρ : Ren) (n : Nat) (x : Nat × Nat) : Ren := fun m => if m = n then some x else ρ m
theorem Ren.le_add {ρ : Ren} {n : Nat} {x : Nat × Nat} (h : ρ n = none) : ρ.le (ρ.add n x) := by
 intro m y hm
 unfold Ren.add
 split
 ·rename_i e; subst e; rw [h] at hm; cases hm
 ·exact hm
theorem Holds.mono {ρ' : Ren} {w' : World} {n : Nat} {e : Ent} (h : Holds D w0 ρ w n e) (hr : ρ.le ρ') (hw : ∀ g z, ρ n = some (g, z) → w'.heap[g]? = w.heap[g]?) : Holds D w0 ρ' w' n e := by
 obtain ⟨g, z, c, h1, h2, h3, h4, h5⟩ := h
 exact ⟨g, z, c, hr _ _ h1, (hw g z h1).trans h2, h3, fun i x hx => let ⟨y, hy, hR⟩ := h4 i x hx; ⟨y, hy, C1.mono hr _ _ hR⟩, h5⟩
theorem RH.unused {n : Nat} (h : RH D w0 ρ H dead w) (hn : get H n = Option.none) (hd : n ∉ dead) : ρ n = Option.none := by
 cases hr : ρ n with
 | none => rfl
 | some x => rcases h.fr n x hr with h1 | h1
             ·rw [hn] at h1; cases h1
             ·exact absurd h1 hd
theorem RH.new (h : RH D w0 ρ H dead w) {n : Nat} (hn : get H n = Option.none) (hd : n ∉ dead) {cs : List C1} {L : List Value} (hc : All2 (C1.R ρ) cs L) (ty : TypeId) :
    RH D w0 (ρ.add n (w.heap.size, L.length)) (ins n ⟨cs, ty, true⟩ H) dead (w.alloc (.cells L.toArray ty)) ∧ ρ.le (ρ.add n (w.heap.size, L.length)) := by
 have h0 := h.unused hn hd
 have hle := Ren.le_add (x := (w.heap.size, L.length)) h0
 refine ⟨⟨?_, ?_, ?_, h.out.alloc _⟩, hle⟩
 ·intro m e he
  rw [Qeg n _ H hn] at he
  split at he
  ·rename_i hm
   subst hm
   injection he with he; subst he
   refine ⟨w.heap.size, L.length, L.toArray, by simp [Ren.add], alloc_new _ _, by simp, fun i x hx => ?_, fun _ => hc.len.symm, .inr h.out.size⟩
   obtain ⟨y, hy, hr⟩ := hc.get i hx
   exact ⟨y, by simpa using hy, C1.mono hle _ _ hr⟩
  ·exact (h.hp m e he).mono hle fun g z hg => by
     exact alloc_old ((h.hp m e he).block_lt g z hg) _
 ·intro m m' e e' g z z' he he' hg hg'
  rw [Qeg n _ H hn] at he he'
  unfold Ren.add at hg hg'
  split at he <;> split at he' <;> rename_i h1 h2
  ·rw [h1, h2]
  ·simp only [h1, if_true, h2, if_false] at hg hg'
   injection hg with hg; injection hg with hg _
   have := (h.hp m' e' he').block_lt g z' hg'
   omega
  ·simp only [h1, if_false, h2, if_true] at hg hg'
   injection hg' with hg'; injection hg' with hg' _
   have := (h.hp m e he).block_lt g z hg
   omega
  ·simp only [h1, if_false, h2] at hg hg'
   exact h.inj m m' e e' g z z' he he' hg hg'
 ·intro m x hm
  rw [Qeg n _ H hn]
  unfold Ren.add at hm
  split at hm
  ·rename_i e; left; simp [e]
  ·rename_i e; simp only [e, if_false]; exact h.fr m x hm
theorem RH.drew (h : RH D w0 ρ H dead w) : RH D w0 ρ H dead w.drew :=
 ⟨fun n e he => (h.hp n e he).mono (Ren.le_refl _) fun _ _ _ => rfl, h.inj, h.fr, h.out.drew⟩
end
end Go.Proofs.YtchpkjgibloleaaGreat.V
namespace Go.Proofs.YtchpkjgibloleaaGreat.V
set_option maxRecDepth 100000
set_option maxHeartbeats 8000000
open Go
def spl {α : Type} (l : List α) (o : Nat) (cs : List α) : List α := l.take o ++ cs ++ l.drop (o + cs.length)
theorem spl_len {α : Type} {l cs : List α} {o : Nat} (h : o + cs.length ≤ l.length) : (spl l o cs).length = l.length := by
 simp [spl]; omega
theorem spl_get {α : Type} {l cs : List α} {o : Nat} (h : o + cs.length ≤ l.length) (i : Nat) :
    (spl l o cs)[i]? = if i < o then l[i]? else if i < o + cs.length then cs[i - o]? else l[i]? := by
 unfold spl
 have h1 : (l.take o).length = o := by simp; omega
 split
 ·rename_i hi
  rw [List.append_assoc, List.getElem?_append_left (by omega), List.getElem?_take]
  simp [hi]
 ·rename_i hi
  rw [List.append_assoc, List.getElem?_append_right (by omega), h1]
  split
  ·rw [List.getElem?_append_left (by omega)]
  ·rw [List.getElem?_append_right (by omega), List.getElem?_drop]
   congr 1
   omega
theorem Out.setRow {D : Nat → Prop} {w0 w : World} (h : Out D w0 w) {g : Nat} (hg : D g ∨ w0.heap.size ≤ g) (cs : Array Value) : Out D w0 (w.setRow g cs) :=
 ⟨h.os, h.tape, h.output, by simpa using h.size, fun k hk hd => by
  rw [setRow_other w g k cs (by rintro rfl; rcases hg with hg | hg; exact hd hg; omega)]; exact h.block k hk hd⟩
section
variable {D : Nat → Prop} {w0 : World} {ρ : Ren} {H : Hp} {dead : List Nat} {w : World}
theorem RH.store (h : RH D w0 ρ H dead w) {n : Nat} {e : Ent} (he : get H n = some e) {g z : Nat} (hg : ρ n = some (g, z)) {cs : List C1} {L : List Value} (hc : All2 (C1.R ρ) cs L) {o : Nat}
    (ho : o + cs.length ≤ e.cs.length) {cur : Array Value} (hcur : w.heap[g]? = some (.cells cur e.ty (0, 0))) :
    RH D w0 ρ (upd n { e with cs := spl e.cs o cs } H) dead (w.setRow g (cur.toList.take o ++ L ++ cur.toList.drop (o + L.length)).toArray) := by
 obtain ⟨g', z', c, h1, h2, h3, h4, h5, h6⟩ := h.hp n e he
 rw [hg] at h1; injection h1 with h1; injection h1 with h1 h1'; subst h1; subst h1'
 rw [hcur] at h2; injection h2 with h2; injection h2 with h2 _ _; subst h2
 have hll := hc.len
 have hcl : e.cs.length ≤ cur.toList.length := by
  rcases Nat.lt_or_ge cur.toList.length e.cs.length with hlt | hge
  ·obtain ⟨y, hy, _⟩ := h4 cur.toList.length _ (List.getElem?_eq_getElem hlt)
   simp at hy
  ·exact hge
 refine ⟨?_, ?_, ?_, h.out.setRow h6 _⟩
 ·intro m e' he'
  rw [get_upd n _ H he] at he'
  split at he'
  ·rename_i hm
   subst hm
   injection he' with he'; subst he'
   refine ⟨g, z, _, hg, setRow_heap w g cur _ e.ty _ hcur, ?_, ?_, ?_, h6⟩
   ·have := spl_len (l := cur.toList) (cs := L) (o := o) (by omega)
    simp only [spl] at this
    simpa [← h3] using this
   ·intro i x hx
    simp only [spl_get (l := e.cs) (cs := cs) (o := o) ho] at hx
    have hs := spl_get (l := cur.toList) (cs := L) (o := o) (by omega) i
    simp only [spl] at hs
    simp only [hs]
    split at hx
    ·rename_i hi; simp only [hi, if_true]; exact h4 i x hx
    ·rename_i hi
     simp only [hi, if_false]
     split at hx
     ·rename_i hi2
      have : i < o + L.length := by omega
      simp only [this, if_true]
      exact hc.get _ hx
     ·rename_i hi2
      have : ¬ i < o + L.length := by omega
      simp only [this, if_false]
      exact h4 i x hx
   ·intro hx
    rw [h5 hx]
    exact (spl_len ho).symm
  ·rename_i hm
   refine (h.hp m e' he').mono (Ren.le_refl _) fun g1 z1 hg1 => setRow_other w g g1 _ ?_
   rintro rfl
   exact hm (h.inj m n e' e _ _ _ he' he hg1 hg)
 ·intro m m' e1 e2 g1 z1 z2 he1 he2 hg1 hg2
  rw [get_upd n _ H he] at he1 he2
  have key : ∀ m e1, (if m = n then some { e with cs := spl e.cs o cs } else get H m) = some e1 → ∃ e3, get H m = some e3 := fun m e1 hh => by
   split at hh
   ·rename_i hm; subst hm; exact ⟨e, he⟩
   ·exact ⟨_, hh⟩
  obtain ⟨e3, he3⟩ := key m e1 he1
  obtain ⟨e4, he4⟩ := key m' e2 he2
  exact h.inj m m' e3 e4 g1 z1 z2 he3 he4 hg1 hg2
 ·intro m x hm
  rw [get_upd n _ H he]
  rcases h.fr m x hm with h1 | h1
  ·left; split <;> simp_all
  ·exact .inr h1
theorem RH.moved (h : RH D w0 ρ H dead w) {n' : Nat} (hn : get H n' = none) (hd : n' ∉ dead) {w' : World} (old : Option Nat)
    (hold : ∀ n, old = some n → ∃ e g z, get H n = some e ∧ ρ n = some (g, z))
    (hgr : w.grownBy w' (old.bind fun n => (ρ n).map (·.1))) {g : Nat} {cur : Array Value} {ty : TypeId} (hcur : w'.heap[g]? = some (.cells cur ty (0, 0)))
    (hg : (old.bind fun n => (ρ n).map (·.1)) = some g ∨ g = w.heap.size) {cs : List C1} (hcs : ∀ (i : Nat) x, cs[i]? = some x → ∃ y, cur.toList[i]? = some y ∧ C1.R ρ x y) :
    let H1 := match old with | some n => del n H | none => H
    let d1 := match old with | some n => n :: dead | none => dead
    RH D w0 (ρ.add n' (g, cur.size)) (ins n' ⟨cs, ty, false⟩ H1) d1 w' ∧ ρ.le (ρ.add n' (g, cur.size)) := by
 intro H1 d1
 have h0 := h.unused hn hd
 have hle := Ren.le_add (x := (g, cur.size)) h0
 have hH1 : ∀ m e, get H1 m = some e → get H m = some e ∧ old ≠ some m := by
  intro m e he
  cases old with
  | none => exact ⟨he, by simp⟩
  | some n =>
   simp only [H1, get_del] at he
   split at he
   ·cases he
   ·rename_i hm; exact ⟨he, fun hh => hm (Option.some.inj hh).symm⟩
 have hn1 : get H1 n' = none := by
  cases hh : get H1 n' with
  | none => rfl
  | some e => rw [(hH1 n' e hh).1] at hn; cases hn
 have hfar : ∀ m e g1 z1, get H1 m = some e → ρ m = some (g1, z1) → g1 ≠ g ∧ some g1 ≠ (old.bind fun n => (ρ n).map (·.1)) := by
  intro m e g1 z1 he hm
  obtain ⟨he', hne⟩ := hH1 m e he
  have hlt := (h.hp m e he').block_lt g1 z1 hm
  have h2 : some g1 ≠ (old.bind fun n => (ρ n).map (·.1)) := by
   intro hh
   cases old with
   | none => cases hh
   | some n =>
    obtain ⟨e2, g2, z2, he2, hg2⟩ := hold n rfl
    simp [hg2] at hh
    subst hh
    exact hne (congrArg some (h.inj m n e e2 _ _ _ he' he2 hm hg2).symm)
  refine ⟨?_, h2⟩
  rintro rfl
  rcases hg with hg | hg
  ·exact h2 hg.symm
  ·omega
 have hgD : D g ∨ w0.heap.size ≤ g := by
  rcases hg with hg | hg
  ·cases old with
   | none => cases hg
   | some n =>
    obtain ⟨e2, g2, z2, he2, hg2⟩ := hold n rfl
    simp [hg2] at hg
    subst hg
    obtain ⟨g3, z3, c3, h1, _, _, _, _, h6⟩ := h.hp n e2 he2
    rw [hg2] at h1; injection h1 with h1; injection h1 with h1 _; subst h1; exact h6
  ·right; have := h.out.size; omega
 refine ⟨⟨?_, ?_, ?_, ?_⟩, hle⟩
 ·intro m e he
  rw [Qeg n' _ H1 hn1] at he
  split at he
  ·rename_i hm
   subst hm
   injection he with he; subst he
   exact ⟨g, cur.size, cur, by simp [Ren.add], hcur, rfl, fun i x hx => let ⟨y, hy, hr⟩ := hcs i x hx; ⟨y, hy, C1.mono hle _ _ hr⟩, (by simp), hgD⟩
  ·refine (h.hp m e (hH1 m e he).1).mono hle fun g1 z1 hg1 => hgr.block g1 ((h.hp m e (hH1 m e he).1).block_lt g1 z1 hg1) (hfar m e g1 z1 he hg1).2
 ·intro m m' e e' g1 z z' he he' hg1 hg1'
  rw [Qeg n' _ H1 hn1] at he he'
  unfold Ren.add at hg1 hg1'
  split at he <;> split at he' <;> rename_i h1 h2
  ·rw [h1, h2]
  ·simp only [h1, if_true, h2, if_false] at hg1 hg1'
   injection hg1 with hg1; injection hg1 with hg1 _
   exact absurd hg1.symm (hfar m' e' g1 z' he' hg1').1
  ·simp only [h1, if_false, h2, if_true] at hg1 hg1'
   injection hg1' with hg1'; injection hg1' with hg1' _
   exact absurd hg1'.symm (hfar m e g1 z he hg1).1
  ·simp only [h1, if_false, h2] at hg1 hg1'
   exact h.inj m m' e e' g1 z z' (hH1 _ _ he).1 (hH1 _ _ he').1 hg1 hg1'
 ·intro m x hm
  rw [Qeg n' _ H1 hn1]
  unfold Ren.add at hm
  split at hm
  ·rename_i e; left; simp [e]
  ·rename_i e
   simp only [e, if_false]
   rcases h.fr m x hm with h1 | h1
   ·cases old with
    | none => exact .inl h1
    | some n =>
     simp only [H1, d1, get_del]
     by_cases hmn : m = n
     ·right; simp [hmn]
     ·left; simpa [hmn] using h1
   ·cases old with
    | none => exact .inr h1
    | some n => exact .inr (List.mem_cons_of_mem _ h1)
 ·refine ⟨hgr.os.trans h.out.os, hgr.tape.trans h.out.tape, hgr.output.trans h.out.output, Nat.le_trans h.out.size hgr.size, fun k hk hdk => ?_⟩
  rw [hgr.block k (Nat.lt_of_lt_of_le hk h.out.size), h.out.block k hk hdk]
  intro hh
  cases old with
  | none => cases hh
  | some n =>
   obtain ⟨e2, g2, z2, he2, hg2⟩ := hold n rfl
   simp [hg2] at hh
   subst hh
   obtain ⟨g3, z3, c3, h1, _, _, _, _, h6⟩ := h.hp n e2 he2
   rw [hg2] at h1; injection h1 with h1; injection h1 with h1 _; subst h1
   rcases h6 with h6 | h6
   ·exact hdk h6
   ·omega
end
end Go.Proofs.YtchpkjgibloleaaGreat.V
namespace Go.Proofs.YtchpkjgibloleaaGreat.V
set_option maxRecDepth 100000
set_option maxHeartbeats 8000000
open Go
def Qd6 : AV := .t []
theorem undef_R (ρ : Ren) : Qd6.R ρ undef := ⟨[], trivial, rfl⟩
noncomputable def nthA (l : List AV) : Nat → AV :=
 @List.rec AV (fun _ => Nat → AV) (fun _ => Qd6) (fun x _ ih i => @Nat.rec (fun _ => AV) x (fun j _ => ih j) i) l
noncomputable def setA (l : List AV) : Nat → AV → List AV :=
 @List.rec AV (fun _ => Nat → AV → List AV) (fun _ _ => []) (fun x l ih i v => @Nat.rec (fun _ => List AV) (v :: l) (fun j _ => x :: ih j v) i) l
theorem nthA_eq : ∀ (l : List AV) (i : Nat), nthA l i = (l[i]?).getD Qd6
 | [], i => rfl
 | x :: l, 0 => rfl
 | x :: l, i + 1 => (nthA_eq l i).trans (by simp)
theorem setA_eq : ∀ (l : List AV) (i : Nat) (v : AV), setA l i v = l.set i v
 | [], i, v => rfl
 | x :: l, 0, v => rfl
 | x :: l, i + 1, v => congrArg (x :: ·) (setA_eq l i v)
noncomputable def opV (tm : List AV) : Operand → Option AV
 | .tmp t => some (nthA tm t)
 | .const v => absV v
 | .func f => some (.c (.f f [] []))
 | .global _ => none
noncomputable def litV (tm : List AV) : Operand → Option Value
 | .const v => some v
 | .tmp t => (nthA tm t).lit
 | _ => none
noncomputable def opsV (tm : List AV) : List Operand → Option (List AV)
 | [] => some []
 | x :: l => match opV tm x, opsV tm l with
  | some v, some vs => some (v :: vs)
  | _, _ => none
abbrev RT (ρ : Ren) (tm : List AV) (a : Act) : Prop := All2 (AV.R ρ) tm a.tmps.toList
section
variable {ρ : Ren} {tm : List AV} {a : Act}
theorem Qds (h : RT ρ tm a) (t : Nat) : (nthA tm t).R ρ (a.tmps.getD t undef) := by
 rw [nthA_eq]
 cases ht : tm[t]? with
 | none =>
  have h1 : tm.length ≤ t := List.getElem?_eq_none_iff.1 ht
  have h2 := h.len
  have h3 : a.tmps.size ≤ t := by rw [h2] at h1; simpa using h1
  simp only [Option.getD_none, Array.getD_eq_getD_getElem?, Array.getElem?_eq_none h3]
  exact undef_R ρ
 | some v =>
  obtain ⟨y, hy, hr⟩ := h.get t ht
  have : a.tmps[t]? = some y := by simpa using hy
  simp only [Option.getD_some, Array.getD_eq_getD_getElem?, this]
  exact hr
theorem Qay (h : RT ρ tm a) {x : Operand} {v : AV} (hv : opV tm x = some v) : v.R ρ (a.eval x) := by
 cases x with
 | tmp t => simp only [opV, Option.some.injEq] at hv; subst hv; exact Qds h t
 | const c => exact absV_R hv
 | func f => simp only [opV, Option.some.injEq] at hv; subst hv; exact ⟨[], [], trivial, trivial, rfl⟩
 | global g => simp [opV] at hv
theorem litV_sound (h : RT ρ tm a) {x : Operand} {V : Value} (hv : litV tm x = some V) : a.eval x = V := by
 cases x with
 | tmp t => exact AV.lit_eq hv (Qds h t)
 | const c => simpa [litV, Act.eval] using hv
 | func f => simp [litV] at hv
 | global g => simp [litV] at hv
theorem Qep (h : RT ρ tm a) : ∀ {l : List Operand} {vs : List AV}, opsV tm l = some vs → All2 (AV.R ρ) vs (l.map a.eval)
 | [], vs, hv => by simp [opsV] at hv; subst hv; trivial
 | x :: l, vs, hv => by
  unfold opsV at hv
  split at hv
  ·rename_i v vs' h1 h2
   simp at hv; subst hv
   exact ⟨Qay h h1, Qep h h2⟩
  ·cases hv
end
def Qea (P : Program) : Sem Next → Option Value
 | .pure (.value v) => some v
 | .program k => Qea P (k P)
 | _ => none
theorem pureN_run {P : Program} : ∀ {s : Sem Next} {v : Value}, Qea P s = some v → ∀ w, s.run P w = .ok (.value v) w
 | .pure n, v, h, w => by
  cases n <;> simp [Qea] at h
  subst h; rfl
 | .program k, v, h, w => by
  simp only [Qea] at h
  exact pureN_run h w
 | .load .., v, h, w => by simp [Qea] at h
 | .store .., v, h, w => by simp [Qea] at h
 | .new .., v, h, w => by simp [Qea] at h
 | .shape .., v, h, w => by simp [Qea] at h
 | .freeze .., v, h, w => by simp [Qea] at h
 | .frozen .., v, h, w => by simp [Qea] at h
 | .getObj .., v, h, w => by simp [Qea] at h
 | .setObj .., v, h, w => by simp [Qea] at h
 | .choose .., v, h, w => by simp [Qea] at h
 | .sys .., v, h, w => by simp [Qea] at h
 | .mark .., v, h, w => by simp [Qea] at h
 | .halt .., v, h, w => by simp [Qea] at h
def isSel : Op → Bool
 | .select .. => true
 | _ => false
noncomputable def allLit (tm : List AV) : List Operand → Bool
 | [] => true
 | x :: l => (litV tm x).isSome && allLit tm l
noncomputable def runLit (P : Program) (tm : List AV) (o : Oper) : Option AV :=
 if allLit tm o.op.operands.toList && !isSel o.op then
  match Qea P (execOp (fun x => (litV tm x).getD undef) o) with
  | some v => absV v
  | none => none
 else none
theorem allLit_mem {tm : List AV} : ∀ {l : List Operand}, allLit tm l = true → ∀ x ∈ l, (litV tm x).isSome = true
 | x :: l, h, y, hy => by
  simp only [allLit, Bool.and_eq_true] at h
  rcases List.mem_cons.1 hy with rfl | hy
  ·exact h.1
  ·exact allLit_mem h.2 y hy
theorem Qc3 {P : Program} {ρ : Ren} {tm : List AV} {a : Act} (h : RT ρ tm a) {o : Oper} {v : AV} (hv : runLit P tm o = some v) :
    ∃ V, v.R ρ V ∧ ∀ w, (execOp a.eval o).run P w = .ok (.value V) w := by
 unfold runLit at hv
 split at hv
 ·rename_i hc
  simp only [Bool.and_eq_true, Bool.not_eq_true'] at hc
  split at hv
  ·rename_i V hV
   refine ⟨V, absV_R hv, fun w => ?_⟩
   rw [execOp_congr (ρ := a.eval) (ρ' := fun x => (litV tm x).getD undef) o (fun cs b hh => by simp [hh, isSel] at hc) fun x hx => ?_]
   ·exact pureN_run hV w
   ·have := allLit_mem hc.1 x (by simpa using hx)
    obtain ⟨V', hV'⟩ := Option.isSome_iff_exists.1 this
    rw [litV_sound h hV', hV']; rfl
  ·cases hv
 ·cases hv
section
variable {P : Program} {ρ : Ren}
theorem Qcn {t : TypeId} {i : TypeInfo} (h : P.info? t = some i) (w : World) : (sizeOf t).run P w = .ok i.size w := by
 simp [sizeOf, typeInfo, h]
theorem addr_add (g o n : Nat) : (⟨g, o, none⟩ : Addr).add n = ⟨g, o + n, none⟩ := by
 unfold Addr.add; split <;> simp_all
def Qe2 (P : Program) (s : TypeId) (v : AV) (f : Nat) : Option AV :=
 match v, P.underlying s with
 | .c (.c (.p (some (n, o)))), some (.struct fields) =>
  match fields[f]? with
  | some fd => match P.info? fd.type with
   | some i => if i.size = 0 then none else some (.c (.c (.p (some (n, o + fd.offset)))))
   | none => none
  | none => none
 | _, _ => none
theorem evFieldAddr_sound {s : TypeId} {v r : AV} {V : Value} {f : Nat} (hv : v.R ρ V) (h : Qe2 P s v f = some r) :
    ∃ V', r.R ρ V' ∧ ∀ w, (Instr.fieldAt s V f).run P w = .ok V' w := by
 unfold Qe2 at h
 split at h
 ·rename_i n o fields hu
  split at h
  ·rename_i fd hf
   split at h
   ·rename_i i hi
    split at h
    ·cases h
    ·rename_i hz
     simp at h; subst h
     obtain ⟨g, z, h1, rfl⟩ := hv
     refine ⟨.pointer (some ⟨g, o + fd.offset, none⟩), ⟨g, z, h1, rfl⟩, fun w => ?_⟩
     simp [Instr.fieldAt, run_underlying hu, hf, Instr.sureAddr, fieldPlace, Qcn hi, hz, addr_add]
   ·cases h
  ·cases h
 ·cases h
def Qe1 (P : Program) (t : TypeId) (v ix : AV) : Option AV :=
 match P.underlying t, v, ix with
 | some (.slice el), .c (.c (.s (some (n, o)) len _ _ _)), .c (.c (.i _ j)) =>
  match P.info? el with
  | some i => if 0 ≤ j ∧ j < (len : Int) then some (.c (.c (.p (some (n, o + j.toNat * i.size))))) else none
  | none => none
 | _, _, _ => none
theorem evIndexAddr_sound {t : TypeId} {v ix r : AV} {V X : Value} (hv : v.R ρ V) (hx : ix.R ρ X) (h : Qe1 P t v ix = some r) :
    ∃ V', r.R ρ V' ∧ ∀ w, (Instr.indexAt t V X).run P w = .ok V' w := by
 unfold Qe1 at h
 split at h
 ·rename_i el n o len cap sz full k j hu
  split at h
  ·rename_i i hi
   split at h
   ·rename_i hj
    simp at h; subst h
    obtain ⟨g, z, c, h1, rfl, _⟩ := hv
    cases hx
    refine ⟨.pointer (some ⟨g, o + j.toNat * i.size, none⟩), ⟨g, z, h1, rfl⟩, fun w => ?_⟩
    simp [Instr.indexAt, asIntOf, run_underlying hu, Qcn hi, hj, addr_add]
   ·cases h
  ·cases h
 ·cases h
def intA : AV → Option Int
 | .c (.c (.i _ j)) => some j
 | _ => none
def lowA (lo : Option AV) : Option Nat :=
 match lo with
 | none => some 0
 | some v => match intA v with
  | some j => if 0 ≤ j then some j.toNat else none
  | none => none
def highA (len : Nat) (hi : Option AV) : Option Nat :=
 match hi with
 | none => some len
 | some v => match intA v with
  | some j => if 0 ≤ j then some j.toNat else none
  | none => none
def offA (o len sz l : Nat) (cap : Option Nat) : Option Nat :=
 if l = 0 then some o else if l < len then some (o + l * sz) else match cap with
  | some c => some (if c = l then o else o + l * sz)
  | none => none
def evSlice (P : Program) (t : TypeId) (v : AV) (lo hi : Option AV) : Option AV :=
 match P.underlying t, v with
 | some (.slice el), .c (.c (.s (some (n, o)) len cap sz full)) =>
  match P.info? el, lowA lo, highA len hi with
  | some i, some l, some h => if l ≤ h ∧ h ≤ len ∧ i.size = sz then
      match offA o len sz l cap with
      | some o' => some (.c (.c (.s (some (n, o')) (h - l) (cap.map (· - l)) sz (full && (o' = o + l * sz)))))
      | none => none
   else none
  | _, _, _ => none
 | some (.slice el), .c (.c (.s none len cap sz full)) =>
  match P.info? el, lowA lo, highA 0 hi with
  | some i, some l, some h => if l = 0 ∧ h = 0 then some (.c (.c (.s none len cap sz full))) else none
  | _, _, _ => none
 | _, _ => none
def OptR (ρ : Ren) : Option AV → Option Value → Prop
 | none, none => True
 | some v, some V => v.R ρ V
 | _, _ => False
theorem bound_run {v : AV} {V : Value} {j : Int} {y : Nat} (hv : v.R ρ V) (hi : intA v = some j) (h0 : 0 ≤ j) (hy : j.toNat ≤ y) (code : BoundsCode) (w : World) : (Instr.sliceBound V y code).run P w = .ok j.toNat w := by
 unfold intA at hi
 split at hi
 ·rename_i k j'
  simp at hi; subst hi
  cases hv
  have h1 : j' ≤ (y : Int) := by omega
  simp [Instr.sliceBound, asIntOf, h0, h1]
 ·cases hi
theorem bounds_run {lo hi : Option AV} {LO HI : Option Value} {l h len c : Nat} (hlo : OptR ρ lo LO) (hhi : OptR ρ hi HI) (h1 : lowA lo = some l) (h2 : highA len hi = some h) (hlh : l ≤ h) (hc : h ≤ c) (w : World) :
    (Instr.sliceBounds true len c LO HI none).run P w = .ok (l, h, c) w := by
 have e2 : ∀ w, (match HI with | some v => Instr.sliceBound v c .sliceAcap | none => pure len : Sem Nat).run P w = .ok h w := by
  intro w
  cases hi with
  | none => cases HI with
   | none => simp [highA] at h2; subst h2; simp
   | some V => exact hhi.elim
  | some v => cases HI with
   | none => exact hhi.elim
   | some V =>
    simp only [highA] at h2
    split at h2
    ·rename_i j hj
     split at h2
     ·rename_i h0; simp at h2; subst h2; exact bound_run hhi hj h0 hc _ w
     ·cases h2
    ·cases h2
 have e1 : ∀ w, (match LO with | some v => Instr.sliceBound v h .sliceB | none => pure 0 : Sem Nat).run P w = .ok l w := by
  intro w
  cases lo with
  | none => cases LO with
   | none => simp [lowA] at h1; subst h1; simp
   | some V => exact hlo.elim
  | some v => cases LO with
   | none => exact hlo.elim
   | some V =>
    simp only [lowA] at h1
    split at h1
    ·rename_i j hj
     split at h1
     ·rename_i h0; simp at h1; subst h1; exact bound_run hlo hj h0 hlh _ w
     ·cases h1
    ·cases h1
 cases HI <;> cases LO <;> simp_all [Instr.sliceBounds]
theorem Qdn {t : TypeId} {v r : AV} {lo hi : Option AV} {V : Value} {LO HI : Option Value} (hv : v.R ρ V) (hlo : OptR ρ lo LO) (hhi : OptR ρ hi HI) (h : evSlice P t v lo hi = some r) :
    ∃ V', r.R ρ V' ∧ ∀ w, (Instr.sliceAt t V LO HI none).run P w = .ok V' w := by
 unfold evSlice at h
 split at h
 ·rename_i el n o len cap sz full hu
  split at h
  ·rename_i i l hh hi' hl hhg
   split at h
   ·rename_i hc
    obtain ⟨hlh, hhl, hsz⟩ := hc
    split at h
    ·rename_i o' ho'
     simp at h; subst h
     obtain ⟨g, z, c, h1, rfl, h2, h3, h4, h5, h6⟩ := hv
     have hb := bounds_run (P := P) hlo hhi hl hhg hlh (Nat.le_trans hhl h3)
     have hadd : (if c = l then some (⟨g, o, none⟩ : Addr) else some (⟨g, o + l * sz, none⟩ : Addr)) = some ⟨g, o', none⟩ := by
      unfold offA at ho'
      split at ho'
      ·rename_i hl0; simp at ho'; subst ho'; subst hl0; split <;> simp
      ·split at ho'
       ·rename_i hl0 hl1; simp at ho'; subst ho'; rw [if_neg (by omega)]
       ·split at ho'
        ·rename_i c' ; simp at ho'; subst ho'; have := h2 _ rfl; subst this; split <;> rfl
        ·cases ho'
     have ho2 : o' = o ∨ o' = o + l * sz := by
      split at hadd
      ·injection hadd with hadd; injection hadd with _ hadd; exact .inl hadd.symm
      ·injection hadd with hadd; injection hadd with _ hadd; exact .inr hadd.symm
     have hcl : (c - l) * sz + l * sz = c * sz := by rw [← Nat.add_mul]; congr 1; omega
     refine ⟨.slice (some ⟨g, o', none⟩) (hh - l) (c - l), ⟨g, z, c - l, h1, rfl, ?_, by omega, by omega, by omega, ?_⟩, fun w => ?_⟩
     ·intro c' hc'
      cases cap with
      | none => simp at hc'
      | some c0 => simp at hc'; have := h2 c0 rfl; omega
     ·intro hf
      simp at hf
      have := h6 hf.1
      have := hf.2
      omega
     ·simp only [Instr.sliceAt, Sem.run_bind, run_underlying hu, Result.andThen_ok, Instr.slice, hb, Qcn hi', hsz, Sem.run_pure, Option.map_some, addr_add, hadd]
    ·cases h
   ·cases h
  ·cases h
 ·rename_i el len cap sz full hu
  split at h
  ·rename_i i l hh hi' hl hhg
   split at h
   ·rename_i hc
    obtain ⟨rfl, rfl⟩ := hc
    simp at h; subst h
    cases hv
    have hb := bounds_run (P := P) (c := 0) hlo hhi hl hhg (Nat.le_refl _) (Nat.le_refl _)
    refine ⟨.slice none 0 0, rfl, fun w => ?_⟩
    simp only [Instr.sliceAt, Sem.run_bind, run_underlying hu, Result.andThen_ok, Instr.slice, hb, Qcn hi', Sem.run_pure]
    simp
   ·cases h
  ·cases h
 ·cases h
end
end Go.Proofs.YtchpkjgibloleaaGreat.V
namespace Go.Proofs.YtchpkjgibloleaaGreat.V
set_option maxRecDepth 100000
set_option maxHeartbeats 8000000
open Go
def cellsA : AV → Option (List C1)
 | .c x => some [x]
 | .g l => some l
 | .t _ => none
theorem cellsA_R {ρ : Ren} {v : AV} {V : Value} {cs : List C1} (h : cellsA v = some cs) (hr : v.R ρ V) : ∃ L, All2 (C1.R ρ) cs L ∧ V.cells = L.toArray := by
 cases v with
 | c x =>
  simp [cellsA] at h; subst h
  refine ⟨[V], ⟨hr, trivial⟩, ?_⟩
  have h1 := C1.one hr
  cases V <;> first | rfl | simp [Value.oneCell'] at h1
 | g l => simp [cellsA] at h; subst h; obtain ⟨L, h1, rfl⟩ := hr; exact ⟨L, h1, rfl⟩
 | t l => simp [cellsA] at h
def fillA (place : Nat → Option (Nat × Nat)) (l : List C1) : List (Nat × AV) → Option (List C1)
 | [] => some l
 | (i, v) :: rest => match place i, cellsA v with
  | some (off, size), some cs => if cs.length = size ∧ off + cs.length ≤ l.length then fillA place (spl l off cs) rest else none
  | _, _ => none
theorem fold_spl (L : List Value) (off : Nat) : ∀ (vs : List Value) (k : Nat), off + k + vs.length ≤ L.length →
    ((vs.zipIdx k).foldl (fun (cs : Array Value) (x : Value × Nat) => cs.setIfInBounds (off + x.2) x.1) L.toArray) = (spl L (off + k) vs).toArray := by
 intro vs
 induction vs generalizing L with
 | nil => intro k h; simp [spl]
 | cons v vs ih =>
  intro k h
  simp only [List.length_cons] at h
  simp only [List.zipIdx_cons, List.foldl_cons]
  have h1 : (L.toArray.setIfInBounds (off + k) v) = (L.set (off + k) v).toArray := by simp
  rw [h1, ih _ _ (by simp; omega)]
  congr 1
  apply List.ext_getElem?
  intro j
  rw [spl_get (by simp; omega), spl_get (by simp; omega)]
  simp only [List.length_cons, List.getElem?_set]
  by_cases hj : j < off + k
  ·simp [hj, show j < off + (k + 1) by omega, show ¬ off + k = j by omega]
  ·by_cases hj2 : j = off + k
   ·subst hj2; simp [show off + k < L.length by omega]
   ·have e1 : ¬ j < off + (k + 1) := by omega
    simp only [hj, e1, if_false]
    by_cases hj3 : j < off + k + (vs.length + 1)
    ·have : j - (off + k) = (j - (off + (k + 1))) + 1 := by omega
     simp [show j < off + (k + 1) + vs.length by omega, hj3, this]
    ·simp [show ¬ j < off + (k + 1) + vs.length by omega, hj3, show ¬ off + k = j by omega]
theorem All2.spl {α β : Type} {R : α → β → Prop} {l cs : List α} {m L : List β} (h : All2 R l m) (hc : All2 R cs L) {o : Nat} (ho : o + cs.length ≤ l.length) : All2 R (spl l o cs) (spl m o L) := by
 have e1 := h.len
 have e2 := hc.len
 refine All2.of (by rw [spl_len ho, spl_len (by omega), e1]) fun i x hx => ?_
 rw [spl_get ho] at hx
 rw [spl_get (by omega), ← e2]
 split at hx
 ·rename_i hi; simp only [hi, if_true]; exact h.get i hx
 ·rename_i hi
  simp only [hi, if_false]
  split at hx
  ·rename_i hi2; simp only [hi2, if_true]; exact hc.get _ hx
  ·rename_i hi2; simp only [hi2, if_false]; exact h.get i hx
abbrev PartsR (ρ : Ren) : List (Nat × AV) → List (Nat × Value) → Prop := All2 (fun x y => x.1 = y.1 ∧ x.2.R ρ y.2)
theorem Qe0 {ρ : Ren} (place : Nat → Option (Nat × Nat)) : ∀ {parts : List (Nat × AV)} {PS : List (Nat × Value)} {l l' : List C1} {L : List Value}, All2 (C1.R ρ) l L → PartsR ρ parts PS → fillA place l parts = some l' →
    ∃ L', Instr.fill place L.toArray PS = some L'.toArray ∧ All2 (C1.R ρ) l' L'
 | [], [], l, l', L, hl, _, h => by
  simp [fillA] at h; subst h; exact ⟨L, rfl, hl⟩
 | (i, v) :: parts, (j, V) :: PS, l, l', L, hl, ⟨⟨h1, h2⟩, h3⟩, h => by
  simp only at h1 h2
  subst h1
  unfold fillA at h
  split at h
  ·rename_i off size cs hp hcs
   split at h
   ·rename_i hb
    obtain ⟨CL, hC, hV⟩ := cellsA_R hcs h2
    have e1 := hC.len
    have e2 := hl.len
    obtain ⟨L', hL', hr⟩ := Qe0 place (hl.spl hC hb.2) h3 h
    refine ⟨L', ?_, hr⟩
    unfold Instr.fill
    simp only [hp, hV]
    have hsz : CL.toArray.size = size := by simp; omega
    rw [if_neg (by simp; omega)]
    have := fold_spl L off CL 0 (by omega)
    simp only [Nat.add_zero] at this
    rw [← Array.foldl_toList, Array.toList_zipIdx]
    have e3 : (List.foldl (fun (cs : Array Value) (x : Value × Nat) => cs.setIfInBounds (off + x.2) x.1) L.toArray CL.toArray.toList.zipIdx) = (Go.Proofs.YtchpkjgibloleaaGreat.V.spl L off CL).toArray := this
    exact (congrArg (fun z => Instr.fill place z PS) e3).trans hL'
   ·cases h
  ·cases h
 | [], _ :: _, _, _, _, _, hp, _ => hp.elim
 | _ :: _, [], _, _, _, _, hp, _ => hp.elim
noncomputable def partsV (tm : List AV) : List (Nat × Operand) → Option (List (Nat × AV))
 | [] => some []
 | (i, x) :: l => match opV tm x, partsV tm l with
  | some v, some vs => some ((i, v) :: vs)
  | _, _ => none
theorem Qeb {ρ : Ren} {tm : List AV} {a : Act} (h : RT ρ tm a) : ∀ {l : List (Nat × Operand)} {vs : List (Nat × AV)}, partsV tm l = some vs → PartsR ρ vs (l.map fun (i, x) => (i, a.eval x))
 | [], vs, hv => by simp [partsV] at hv; subst hv; trivial
 | (i, x) :: l, vs, hv => by
  unfold partsV at hv
  split at hv
  ·rename_i v vs' h1 h2
   simp at hv; subst hv
   exact ⟨⟨rfl, Qay h h1⟩, Qeb h h2⟩
  ·cases hv
section
variable {P : Program} {ρ : Ren}
def zeroA (P : Program) (t : TypeId) : Option (List C1) :=
 match P.info? t with
 | some i => match i.zero with
  | some z => absCs z.cells.toList
  | none => none
 | none => none
def placesA (P : Program) : List Field → Option (List (Nat × Nat))
 | [] => some []
 | f :: fs => match P.info? f.type, placesA P fs with
  | some i, some l => some ((f.offset, i.size) :: l)
  | _, _ => none
theorem placesA_eq : ∀ {fs : List Field} {l : List (Nat × Nat)}, placesA P fs = some l → fs.mapM (fun f => (P.info? f.type).map fun i => (f.offset, i.size)) = some l
 | [], l, h => by simp [placesA] at h; subst h; rfl
 | f :: fs, l, h => by
  unfold placesA at h
  split at h
  ·rename_i i l' hi hl
   simp at h; subst h
   simp [List.mapM_cons, hi, placesA_eq hl]
  ·cases h
def evBuild (P : Program) (t : TypeId) (parts : List (Nat × AV)) : Option AV :=
 match zeroA P t, P.underlying t with
 | some z, some (.struct fields) => match placesA P fields.toList with
  | some pl => (fillA (fun i => pl[i]?) z parts).map .g
  | none => none
 | _, _ => none
theorem evBuild_sound {t : TypeId} {parts : List (Nat × AV)} {PS : Array (Nat × Value)} {r : AV} (hp : PartsR ρ parts PS.toList) (h : evBuild P t parts = some r) :
    ∃ V', r.R ρ V' ∧ ∀ w, (Instr.build t PS).run P w = .ok V' w := by
 unfold evBuild at h
 split at h
 ·rename_i z fields hz hu
  split at h
  ·rename_i pl hpl
   obtain ⟨l', hl', rfl⟩ := Option.map_eq_some_iff.1 h
   unfold zeroA at hz
   split at hz
   ·rename_i i hi
    split at hz
    ·rename_i zv hzv
     obtain ⟨L', hL', hr⟩ := Qe0 (fun i => pl[i]?) (absCs_R (ρ := ρ) hz) hp hl'
     refine ⟨.agg L'.toArray, ⟨L', hr, rfl⟩, fun w => run_build w t PS _ ?_⟩
     unfold Program.built
     simp only [hi, hu, hzv, placesA_eq hpl]
     simpa using hL'
    ·cases hz
   ·cases hz
  ·cases h
 ·cases h
def aggB (P : Program) (t : TypeId) : Option Bool :=
 match P.underlying t with
 | some (.struct _) | some (.array _ _) => some true
 | some _ => some false
 | none => none
theorem aggB_run {t : TypeId} {b : Bool} (h : aggB P t = some b) (w : World) : (isAgg t).run P w = .ok b w := by
 unfold aggB at h
 split at h
 ·rename_i hu; simp at h; subst h; simp [isAgg, run_underlying hu]
 ·rename_i hu; simp at h; subst h; simp [isAgg, run_underlying hu]
 ·rename_i d h1 h2 hu
  simp at h; subst h
  simp only [isAgg, Sem.run_bind, run_underlying hu, Result.andThen_ok]
  cases d <;> first | rfl | (exact absurd rfl (h1 _)) | (exact absurd rfl (h2 _ _))
 ·cases h
theorem All2.ext {α β : Type} {R : α → β → Prop} {l : List α} {m : List β} (h : All2 R l m) (o n : Nat) : All2 R ((l.drop o).take n) ((m.drop o).take n) := by
 have e := h.len
 refine All2.of (by simp [e]) fun i x hx => ?_
 rw [List.getElem?_take] at hx ⊢
 split at hx
 ·rename_i hi
  simp only [hi, if_true]
  rw [List.getElem?_drop] at hx ⊢
  exact h.get _ hx
 ·cases hx
def evField (P : Program) (t : TypeId) (v : AV) (f : Nat) : Option AV :=
 match v, P.underlying t with
 | .g l, some (.struct fields) => match fields[f]? with
  | some fd => match aggB P fd.type, P.info? fd.type with
   | some true, some i => some (.g ((l.drop fd.offset).take i.size))
   | some false, _ => (l[fd.offset]?).map .c
   | _, _ => none
  | none => none
 | _, _ => none
theorem evField_sound {t : TypeId} {v r : AV} {V : Value} {f : Nat} (hv : v.R ρ V) (h : evField P t v f = some r) :
    ∃ V', r.R ρ V' ∧ ∀ w, (Instr.field t V f).run P w = .ok V' w := by
 unfold evField at h
 split at h
 ·rename_i l fields hu
  obtain ⟨L, hL, rfl⟩ := hv
  split at h
  ·rename_i fd hf
   split at h
   ·rename_i i hag hi
    simp at h; subst h
    refine ⟨.agg ((L.drop fd.offset).take i.size).toArray, ⟨_, hL.ext _ _, rfl⟩, fun w => ?_⟩
    simp [Instr.field, run_underlying hu, hf, asAgg, part, aggB_run hag, Qcn hi]
   ·rename_i hag
    obtain ⟨x, hx, rfl⟩ := Option.map_eq_some_iff.1 h
    obtain ⟨y, hy, hr⟩ := hL.get _ hx
    refine ⟨y, hr, fun w => ?_⟩
    simp [Instr.field, run_underlying hu, hf, asAgg, part, aggB_run hag, hy]
   ·cases h
  ·cases h
 ·cases h
def evExtract (v : AV) (k : Nat) : Option AV :=
 match v with
 | .t l => match l[k]? with
  | some (.c x) => some (.c x)
  | some (.g m) => some (.g m)
  | none => none
 | _ => none
theorem evExtract_sound {v r : AV} {V : Value} {k : Nat} (hv : v.R ρ V) (h : evExtract v k = some r) :
    ∃ V', r.R ρ V' ∧ ∀ w, (Instr.extract V k).run P w = .ok V' w := by
 unfold evExtract at h
 split at h
 ·rename_i l
  obtain ⟨L, hL, rfl⟩ := hv
  split at h
  ·rename_i x hx
   simp at h; subst h
   obtain ⟨y, hy, hr⟩ := hL.get _ hx
   exact ⟨y, hr, fun w => by simp [Instr.extract, hy]⟩
  ·rename_i x hx
   simp at h; subst h
   obtain ⟨y, hy, hr⟩ := hL.get _ hx
   exact ⟨y, hr, fun w => by simp [Instr.extract, hy]⟩
  ·cases h
 ·cases h
def nilA : AV → Option Bool
 | .c (.c (.p none)) => some true
 | .c (.c (.p (some _))) => some false
 | .c (.c (.s none _ _ _ _)) => some true
 | .c (.c (.s (some _) _ _ _ _)) => some false
 | .c (.c .nilF) => some true
 | .c (.f _ _ _) => some false
 | _ => none
def kindOk (P : Program) (t : TypeId) (x y : AV) : Bool :=
 match P.underlying t, x, y with
 | some (.pointer _), .c (.c (.p _)), .c (.c (.p _)) => true
 | some (.slice _), .c (.c (.s ..)), .c (.c (.s ..)) => true
 | _, _, _ => false
def evNil (P : Program) (t : TypeId) (x y : AV) : Option Bool :=
 match nilA x, nilA y with
 | some a, some b => if (a || b) && kindOk P t x y then some (a && b) else none
 | _, _ => none
theorem eq_p1 {t e : TypeId} (hu : P.underlying t = some (.pointer e)) (d : Nat) (b : Option Addr) (w : World) : (Op.equalIn (d + 1) t (.pointer none) (.pointer b)).run P w = .ok b.isNone w := by
 simp only [Op.equalIn, Sem.run_bind, run_underlying hu, Result.andThen_ok]; rfl
theorem eq_p2 {t e : TypeId} (hu : P.underlying t = some (.pointer e)) (d : Nat) (b : Addr) (w : World) : (Op.equalIn (d + 1) t (.pointer (some b)) (.pointer none)).run P w = .ok false w := by
 simp only [Op.equalIn, Sem.run_bind, run_underlying hu, Result.andThen_ok]; rfl
theorem eq_s1 {t e : TypeId} (hu : P.underlying t = some (.slice e)) (d : Nat) (b : Option Addr) (l c l' c' : Nat) (w : World) : (Op.equalIn (d + 1) t (.slice none l c) (.slice b l' c')).run P w = .ok b.isNone w := by
 simp only [Op.equalIn, Sem.run_bind, run_underlying hu, Result.andThen_ok]; rfl
theorem eq_s2 {t e : TypeId} (hu : P.underlying t = some (.slice e)) (d : Nat) (b : Addr) (l c l' c' : Nat) (w : World) : (Op.equalIn (d + 1) t (.slice (some b) l c) (.slice none l' c')).run P w = .ok false w := by
 simp only [Op.equalIn, Sem.run_bind, run_underlying hu, Result.andThen_ok]; rfl
theorem evNil_sound {t : TypeId} {x y : AV} {X Y : Value} {b : Bool} (hx : x.R ρ X) (hy : y.R ρ Y) (h : evNil P t x y = some b) :
    ∀ w, (Op.equal t X Y).run P w = .ok b w := by
 intro w
 show (Op.equalIn (9999 + 1) t X Y).run P w = .ok b w
 unfold evNil at h
 split at h
 ·rename_i p q hp hq
  split at h
  ·rename_i hc
   simp at h; subst h
   simp only [Bool.and_eq_true] at hc
   obtain ⟨hc, hk⟩ := hc
   unfold kindOk at hk
   split at hk
   ·rename_i e a1 a2 hu
    cases a1 <;> cases a2 <;> simp [nilA] at hp hq <;> subst hp <;> subst hq
    ·cases hx; cases hy; exact eq_p1 hu _ _ _
    ·cases hx; obtain ⟨g, z, _, rfl⟩ := hy; exact eq_p1 hu _ _ _
    ·cases hy; obtain ⟨g, z, _, rfl⟩ := hx; exact eq_p2 hu _ _ _
    ·simp at hc
   ·rename_i e a1 _ _ _ _ a2 _ _ _ _ hu
    cases a1 <;> cases a2 <;> simp [nilA] at hp hq <;> subst hp <;> subst hq
    ·cases hx; cases hy; exact eq_s1 hu _ _ _ _ _ _ _
    ·cases hx; obtain ⟨g, z, c, _, rfl, _⟩ := hy; exact eq_s1 hu _ _ _ _ _ _ _
    ·cases hy; obtain ⟨g, z, c, _, rfl, _⟩ := hx; exact eq_s2 hu _ _ _ _ _ _ _
    ·simp at hc
   ·cases hk
  ·cases h
 ·cases h
def c0A : AV → Option C0
 | .c (.c x) => some x
 | _ => none
def c0s : List AV → Option (List C0)
 | [] => some []
 | v :: l => match c0A v, c0s l with
  | some x, some xs => some (x :: xs)
  | _, _ => none
theorem c0s_R : ∀ {l : List AV} {xs : List C0} {L : List Value}, c0s l = some xs → All2 (AV.R ρ) l L → All2 (C0.R ρ) xs L
 | [], xs, [], h, _ => by simp [c0s] at h; subst h; trivial
 | v :: l, xs, V :: L, h, ⟨h1, h2⟩ => by
  unfold c0s at h
  split at h
  ·rename_i x xs' hx hxs
   simp at h; subst h
   refine ⟨?_, c0s_R hxs h2⟩
   unfold c0A at hx
   split at hx
   ·simp at hx; subst hx; exact h1
   ·cases hx
  ·cases h
 | [], _, _ :: _, _, hh => hh.elim
 | _ :: _, _, [], _, hh => hh.elim
noncomputable def evFunc (tm : List AV) (fn : Fn) (first cap : List Operand) : Option AV :=
 match fn, opsV tm first, opsV tm cap with
 | .func f, some a, some b => match c0s a, c0s b with
  | some x, some y => some (.c (.f f x y))
  | _, _ => none
 | _, _, _ => none
def lim : IntKind → Nat
 | .i64 => 9223372036854775808
 | .u64 => 18446744073709551616
 | .u8 => 256
 | _ => 0
noncomputable def forceN {α : Type} (n : Nat) (f : Nat → α) : α := @Nat.rec (fun _ => α) (f 0) (fun p _ => f (p + 1)) n
theorem Qdj {α : Type} (n : Nat) (f : Nat → α) : forceN n f = f n := by cases n <;> rfl
def sameK : IntKind → IntKind → Bool
 | .i64, .i64 => true
 | .u64, .u64 => true
 | .u8, .u8 => true
 | _, _ => false
theorem sameK_eq {k k' : IntKind} (h : sameK k k' = true) : k = k' := by cases k <;> cases k' <;> simp [sameK] at h <;> rfl
noncomputable def fastBin (op : BinOp) (k k' : IntKind) (m n : Nat) : Option C0 :=
 cond (sameK k k') (match op with
  | .add => forceN (m + n) fun r => cond (Nat.blt r (lim k)) (some (.i k (.ofNat r))) none
  | .mul => forceN (m * n) fun r => cond (Nat.blt r (lim k)) (some (.i k (.ofNat r))) none
  | .sub => cond (Nat.ble n m && Nat.blt m (lim k)) (forceN (m - n) fun r => some (.i k (.ofNat r))) none
  | .eql => some (.b (Nat.beq m n))
  | .neq => some (.b (!Nat.beq m n))
  | .lss => some (.b (Nat.blt m n))
  | .leq => some (.b (Nat.ble m n))
  | .gtr => some (.b (Nat.blt n m))
  | .geq => some (.b (Nat.ble n m))
  | _ => none) none
theorem Qem {k : IntKind} {n : Nat} (h : n < lim k) : k.wrap (n : Int) = n := by
 cases k <;> simp [lim] at h <;> simp [IntKind.wrap, IntKind.bits, IntKind.signed] <;> omega
theorem eqGuard_int (op : BinOp) (t : TypeId) (x y : Operand) (k k' : IntKind) (m n : Int) (w : World) : (eqGuard op t x y (.int k m) (.int k' n)).run P w = .ok () w := by
 unfold eqGuard; split <;> rfl
theorem fastBin_sound {op : BinOp} {k k' : IntKind} {m n : Nat} {r : C0} (h : fastBin op k k' m n = some r) (t : TypeId) :
    ∃ V, r.R ρ V ∧ ∀ w, (binOp op t (.int k (.ofNat m)) (.int k' (.ofNat n))).run P w = .ok V w := by
 unfold fastBin at h
 cases hk : sameK k k' with
 | false => simp [hk] at h
 | true =>
  have := sameK_eq hk
  subst this
  rw [hk] at h
  simp only [cond_true, Qdj] at h
  cases op <;> simp only at h
  case add =>
   cases hb : Nat.blt (m + n) (lim k) with
   | false => simp [hb] at h
   | true =>
    simp [hb] at h; subst h
    refine ⟨_, rfl, fun w => ?_⟩
    have h1 : m + n < lim k := by simpa [Nat.blt_eq] using hb
    have h2 : k.wrap ((m : Int) + (n : Int)) = (m : Int) + (n : Int) := by have := Qem h1; simpa using this
    simp [binOp, Op.intArith, h2]
  case mul =>
   cases hb : Nat.blt (m * n) (lim k) with
   | false => simp [hb] at h
   | true =>
    simp [hb] at h; subst h
    refine ⟨_, rfl, fun w => ?_⟩
    have h1 : m * n < lim k := by simpa [Nat.blt_eq] using hb
    have h2 : k.wrap ((m : Int) * (n : Int)) = (m : Int) * (n : Int) := by have := Qem h1; simpa using this
    simp [binOp, Op.intArith, h2]
  case sub =>
   cases hb : (Nat.ble n m && Nat.blt m (lim k)) with
   | false => simp [hb] at h
   | true =>
    rw [hb] at h
    simp at h; subst h
    simp only [Bool.and_eq_true] at hb
    have h0 : n ≤ m := Nat.le_of_ble_eq_true hb.1
    have h1 : m < lim k := by simpa [Nat.blt_eq] using hb.2
    refine ⟨_, rfl, fun w => ?_⟩
    have h2 := Qem (show m - n < lim k by omega)
    have h3 : (m : Int) - (n : Int) = ((m - n : Nat) : Int) := by omega
    simp [binOp, Op.intArith, h3, h2]
  case eql =>
   simp at h; subst h
   refine ⟨_, rfl, fun w => ?_⟩
   have : ((m : Int) == (n : Int)) = Nat.beq m n := by rw [Bool.eq_iff_iff]; simp only [beq_iff_eq, Nat.beq_eq]; omega
   simp [binOp, Op.intCmp, this]
  case neq =>
   simp at h; subst h
   refine ⟨_, rfl, fun w => ?_⟩
   have : ((m : Int) != (n : Int)) = !Nat.beq m n := by
    have h1 : ((m : Int) == (n : Int)) = Nat.beq m n := by rw [Bool.eq_iff_iff]; simp only [beq_iff_eq, Nat.beq_eq]; omega
    simp only [bne, h1]
   simp [binOp, Op.intCmp, this]
  case lss =>
   simp at h; subst h
   refine ⟨_, rfl, fun w => ?_⟩
   have : decide ((m : Int) < (n : Int)) = Nat.blt m n := by rw [Bool.eq_iff_iff]; simp [Nat.blt_eq]
   simp [binOp, Op.intCmp, ← this]
  case leq =>
   simp at h; subst h
   refine ⟨_, rfl, fun w => ?_⟩
   have : decide ((m : Int) ≤ (n : Int)) = Nat.ble m n := by rw [Bool.eq_iff_iff]; simp [Nat.ble_eq]
   simp [binOp, Op.intCmp, ← this]
  case gtr =>
   simp at h; subst h
   refine ⟨_, rfl, fun w => ?_⟩
   have : decide ((n : Int) < (m : Int)) = Nat.blt n m := by rw [Bool.eq_iff_iff]; simp [Nat.blt_eq]
   simp [binOp, Op.intCmp, ← this]
  case geq =>
   simp at h; subst h
   refine ⟨_, rfl, fun w => ?_⟩
   have : decide ((n : Int) ≤ (m : Int)) = Nat.ble n m := by rw [Bool.eq_iff_iff]; simp [Nat.ble_eq]
   simp [binOp, Op.intCmp, ← this]
  all_goals cases h
noncomputable def fastConv (P : Program) (src dst : TypeId) (m : Nat) : Option C0 :=
 match P.underlying src, P.underlying dst with
 | some _, some (.int k) => cond (Nat.blt m (lim k)) (some (.i k (.ofNat m))) none
 | _, _ => none
theorem fastConv_sound {src dst : TypeId} {m : Nat} {r : C0} {k : IntKind} (h : fastConv P src dst m = some r) : ∃ V, r.R ρ V ∧ ∀ w, (convert src dst (.int k (.ofNat m))).run P w = .ok V w := by
 unfold fastConv at h
 split at h
 ·rename_i d k' h1 h2
  cases hb : Nat.blt m (lim k') with
  | false => simp [hb] at h
  | true =>
   simp [hb] at h; subst h
   have h3 : m < lim k' := by simpa [Nat.blt_eq] using hb
   refine ⟨_, rfl, fun w => ?_⟩
   have h4 := Qem h3
   simp [convert, run_underlying h1, run_underlying h2, Conv.intToInt, h4]
 ·cases h
def nilBin (P : Program) (op : BinOp) (t : TypeId) (u v : AV) : Option Bool :=
 match op with
 | .eql => evNil P t u v
 | .neq => (evNil P t u v).map (!·)
 | _ => none
noncomputable def evPure (P : Program) (tm : List AV) (o : Oper) : Option AV :=
 match o.op with
 | .move x | .assign x => opV tm x
 | .pick c x y => match opV tm c with
  | some (.c (.c (.b t))) => if t then opV tm x else opV tm y
  | _ => none
 | .extract x k => (opV tm x).bind fun v => evExtract v k
 | .nilCheck x => match opV tm x with
  | some (.c (.c (.p (some y)))) => some (.c (.c (.p (some y))))
  | some (.c (.f f x y)) => some (.c (.f f x y))
  | _ => none
 | .fieldAddr s x f => (opV tm x).bind fun v => Qe2 P s v f
 | .field s x f => (opV tm x).bind fun v => evField P s v f
 | .indexAddr t x ix => match opV tm x, opV tm ix with
  | some v, some j => Qe1 P t v j
  | _, _ => none
 | .slice t x none none none => (opV tm x).bind fun v => evSlice P t v none none
 | .slice t x (some l) none none => match opV tm x, opV tm l with
  | some v, some l => evSlice P t v (some l) none
  | _, _ => none
 | .slice t x none (some h) none => match opV tm x, opV tm h with
  | some v, some h => evSlice P t v none (some h)
  | _, _ => none
 | .slice t x (some l) (some h) none => match opV tm x, opV tm l, opV tm h with
  | some v, some l, some h => evSlice P t v (some l) (some h)
  | _, _, _ => none
 | .makeFunc fn first cap => evFunc tm fn first.toList cap.toList
 | .build t parts => (partsV tm parts.toList).bind fun ps => evBuild P t ps
 | .binOp op t x y _ => match opV tm x, opV tm y with
  | some (.c (.c (.i k (.ofNat m)))), some (.c (.c (.i k' (.ofNat n)))) => match fastBin op k k' m n with
   | some r => some (.c (.c r))
   | none => runLit P tm o
  | some u, some v => match nilBin P op t u v with
   | some r => some (.c (.c (.b r)))
   | none => runLit P tm o
  | _, _ => runLit P tm o
 | .convert src dst x => match opV tm x with
  | some (.c (.c (.i _ (.ofNat m)))) => match fastConv P src dst m with
   | some r => some (.c (.c r))
   | none => runLit P tm o
  | _ => runLit P tm o
 | .unOp .. | .index .. => runLit P tm o
 | .call { callee := .builtin .max, .. } | .call { callee := .builtin .min, .. } => runLit P tm o
 | .call { callee := .builtin .len, args, argTypes } => match args.toList, argTypes.toList with
  | [x], [t] => match opV tm x, P.underlying t with
   | some (.c (.c (.s (some _) len _ _ _))), some (.slice _) => some (.c (.c (.i .i64 len)))
   | some (.c (.c (.s none _ _ _ _))), some (.slice _) => some (.c (.c (.i .i64 0)))
   | _, _ => none
  | _, _ => none
 | _ => none
theorem Qde {o : Oper} {a : Act} {s : Sem Value} {V : Value} (ho : execOp a.eval o = (do pure (.value (← s)))) (hs : ∀ w, s.run P w = .ok V w) : ∀ w, (execOp a.eval o).run P w = .ok (.value V) w := by
 intro w; rw [ho]; simp [hs w]
theorem evFunc_sound {tm : List AV} {a : Act} (h : RT ρ tm a) {fn : Fn} {first cap : Array Operand} {r : AV} (he : evFunc tm fn first.toList cap.toList = some r) :
    r.R ρ (.func fn (first.map a.eval) (cap.map a.eval)) := by
 unfold evFunc at he
 split at he
 ·rename_i f x y hx hy
  split at he
  ·rename_i x' y' hx' hy'
   simp at he; subst he
   refine ⟨first.toList.map a.eval, cap.toList.map a.eval, c0s_R hx' (Qep h hx), c0s_R hy' (Qep h hy), ?_⟩
   congr 1 <;> (apply Array.ext'; simp)
  ·cases he
 ·cases he
theorem evNil_shape {t : TypeId} {A B : Value} {av bv : AV} {r : Bool} (h1 : av.R ρ A) (h2 : bv.R ρ B) (h : evNil P t av bv = some r) :
    (∃ x y, A = .pointer x ∧ B = .pointer y) ∨ ∃ x l c x' l' c', A = .slice x l c ∧ B = .slice x' l' c' := by
 unfold evNil at h
 split at h
 ·split at h
  ·rename_i hc
   simp only [Bool.and_eq_true] at hc
   have hk := hc.2
   unfold kindOk at hk
   split at hk
   ·rename_i a1 a2 hu
    left
    have key : ∀ (a : Option (Nat × Nat)) (V : Value), C0.R ρ (.p a) V → ∃ x, V = .pointer x := by
     intro a V hV
     cases a with
     | none => exact ⟨_, hV⟩
     | some a => obtain ⟨g, z, _, hV⟩ := hV; exact ⟨_, hV⟩
    obtain ⟨x, hx⟩ := key _ _ h1
    obtain ⟨y, hy⟩ := key _ _ h2
    exact ⟨x, y, hx, hy⟩
   ·rename_i hu
    right
    have key : ∀ (a : Option (Nat × Nat)) (l : Nat) (c : Option Nat) (s : Nat) (f : Bool) (V : Value), C0.R ρ (.s a l c s f) V → ∃ x l c, V = .slice x l c := by
     intro a l c s f V hV
     cases a with
     | none => exact ⟨_, _, _, hV⟩
     | some a => obtain ⟨g, z, c, _, hV, _⟩ := hV; exact ⟨_, _, _, hV⟩
    obtain ⟨x, l, c, hx⟩ := key _ _ _ _ _ _ h1
    obtain ⟨x', l', c', hy⟩ := key _ _ _ _ _ _ h2
    exact ⟨x, l, c, x', l', c', hx, hy⟩
   ·cases hk
  ·cases h
 ·cases h
theorem eqGuard_nil {op : BinOp} {t : TypeId} {x y : Operand} {A B : Value} {av bv : AV} {r : Bool} (h1 : av.R ρ A) (h2 : bv.R ρ B) (h : evNil P t av bv = some r) (w : World) : (eqGuard op t x y A B).run P w = .ok () w := by
 rcases evNil_shape h1 h2 h with ⟨x, y, rfl, rfl⟩ | ⟨x, l, c, x', l', c', rfl, rfl⟩ <;> unfold eqGuard <;> split <;> rfl
theorem binOp_nil {t : TypeId} {A B : Value} {av bv : AV} {r : Bool} (h1 : av.R ρ A) (h2 : bv.R ρ B) (h : evNil P t av bv = some r) :
    binOp .eql t A B = (do pure (.bool (← Op.equal t A B))) ∧ binOp .neq t A B = (do pure (.bool (!(← Op.equal t A B)))) := by
 rcases evNil_shape h1 h2 h with ⟨x, y, rfl, rfl⟩ | ⟨x, l, c, x', l', c', rfl, rfl⟩ <;> exact ⟨rfl, rfl⟩
theorem evPure_sound {tm : List AV} {a : Act} {o : Oper} {v : AV} (h : RT ρ tm a) (he : evPure P tm o = some v) :
    ∃ V, v.R ρ V ∧ ∀ w, (execOp a.eval o).run P w = .ok (.value V) w := by
 obtain ⟨dst, op, ty, pos, after, guard⟩ := o
 unfold evPure at he
 simp only at he
 split at he
 ·exact ⟨_, Qay h he, fun w => rfl⟩
 ·exact ⟨_, Qay h he, fun w => rfl⟩
 ·rename_i c x y
  split at he
  ·rename_i t hc
   have h1 : a.eval c = .bool t := Qay h hc
   refine ⟨if t then a.eval x else a.eval y, ?_, fun w => ?_⟩
   ·split at he <;> rename_i ht <;> simp only [ht, if_true, if_false] <;> exact Qay h he
   ·simp [execOp, h1, asBool]
  ·cases he
 ·obtain ⟨u, hu, he⟩ := Option.bind_eq_some_iff.1 he
  obtain ⟨V, hV, hr⟩ := evExtract_sound (P := P) (Qay h hu) he
  exact ⟨V, hV, Qde rfl hr⟩
 ·rename_i x
  split at he
  ·rename_i y hy
   simp at he; subst he
   obtain ⟨n, o⟩ := y
   obtain ⟨g, z, h1, h2⟩ := Qay h hy
   refine ⟨_, ⟨g, z, h1, rfl⟩, fun w => ?_⟩
   simp only [execOp, h2]; rfl
  ·rename_i f fx fy hy
   simp at he; subst he
   obtain ⟨F, C, h1, h2, h3⟩ := Qay h hy
   refine ⟨_, ⟨F, C, h1, h2, rfl⟩, fun w => ?_⟩
   simp only [execOp, h3]; rfl
  ·cases he
 ·obtain ⟨u, hu, he⟩ := Option.bind_eq_some_iff.1 he
  obtain ⟨V, hV, hr⟩ := evFieldAddr_sound (Qay h hu) he
  exact ⟨V, hV, Qde rfl hr⟩
 ·obtain ⟨u, hu, he⟩ := Option.bind_eq_some_iff.1 he
  obtain ⟨V, hV, hr⟩ := evField_sound (Qay h hu) he
  exact ⟨V, hV, Qde rfl hr⟩
 ·split at he
  ·rename_i u j hu hj
   obtain ⟨V, hV, hr⟩ := evIndexAddr_sound (Qay h hu) (Qay h hj) he
   exact ⟨V, hV, Qde rfl hr⟩
  ·cases he
 ·obtain ⟨u, hu, he⟩ := Option.bind_eq_some_iff.1 he
  obtain ⟨V, hV, hr⟩ := Qdn (lo := none) (hi := none) (LO := none) (HI := none) (Qay h hu) trivial trivial he
  exact ⟨V, hV, Qde rfl hr⟩
 ·split at he
  ·rename_i u j hu hj
   obtain ⟨V, hV, hr⟩ := Qdn (lo := some _) (hi := none) (LO := some _) (HI := none) (Qay h hu) (Qay h hj) trivial he
   exact ⟨V, hV, Qde rfl hr⟩
  ·cases he
 ·split at he
  ·rename_i u j hu hj
   obtain ⟨V, hV, hr⟩ := Qdn (lo := none) (hi := some _) (LO := none) (HI := some _) (Qay h hu) trivial (Qay h hj) he
   exact ⟨V, hV, Qde rfl hr⟩
  ·cases he
 ·split at he
  ·rename_i u j k hu hj hk
   obtain ⟨V, hV, hr⟩ := Qdn (lo := some _) (hi := some _) (LO := some _) (HI := some _) (Qay h hu) (Qay h hj) (Qay h hk) he
   exact ⟨V, hV, Qde rfl hr⟩
  ·cases he
 ·rename_i fn first cap
  exact ⟨_, evFunc_sound h he, fun w => rfl⟩
 ·rename_i t parts
  obtain ⟨ps, hps, he⟩ := Option.bind_eq_some_iff.1 he
  obtain ⟨V, hV, hr⟩ := evBuild_sound (PS := parts.map fun (i, x) => (i, a.eval x)) (by simpa using Qeb h hps) he
  exact ⟨V, hV, Qde rfl hr⟩
 ·rename_i op t x y yt
  split at he
  ·rename_i k m k' n hx hy
   split at he
   ·rename_i r hr
    simp at he; subst he
    have e1 : a.eval x = .int k (.ofNat m) := Qay h hx
    have e2 : a.eval y = .int k' (.ofNat n) := Qay h hy
    obtain ⟨V, hV, hrun⟩ := fastBin_sound (P := P) (ρ := ρ) hr t
    refine ⟨V, hV, Qde (s := do eqGuard op t x y (a.eval x) (a.eval y); binOp op t (a.eval x) (a.eval y)) rfl fun w => ?_⟩
    rw [e1, e2]
    simp only [Sem.run_bind, eqGuard_int, Result.andThen_ok, hrun]
   ·exact Qc3 h he
  ·rename_i u1 u2 hne h1 h2
   split at he
   ·rename_i r hr
    simp at he; subst he
    unfold nilBin at hr
    split at hr
    ·have e1 := evNil_sound (Qay h h1) (Qay h h2) hr
     have e2 := eqGuard_nil (op := .eql) (x := x) (y := y) (Qay h h1) (Qay h h2) hr
     refine ⟨.bool r, rfl, Qde (s := do eqGuard .eql t x y (a.eval x) (a.eval y); binOp .eql t (a.eval x) (a.eval y)) rfl fun w => ?_⟩
     rw [(binOp_nil (Qay h h1) (Qay h h2) hr).1]
     simp [e1, e2]
    ·obtain ⟨r', hr', rfl⟩ := Option.map_eq_some_iff.1 hr
     have e1 := evNil_sound (Qay h h1) (Qay h h2) hr'
     have e2 := eqGuard_nil (op := .neq) (x := x) (y := y) (Qay h h1) (Qay h h2) hr'
     refine ⟨.bool (!r'), rfl, Qde (s := do eqGuard .neq t x y (a.eval x) (a.eval y); binOp .neq t (a.eval x) (a.eval y)) rfl fun w => ?_⟩
     rw [(binOp_nil (Qay h h1) (Qay h h2) hr').2]
     simp [e1, e2]
    ·cases hr
   ·exact Qc3 h he
  ·exact Qc3 h he
 ·rename_i src dst x
  split at he
  ·rename_i k m hx
   split at he
   ·rename_i r hr
    simp at he; subst he
    have e1 : a.eval x = .int k (.ofNat m) := Qay h hx
    obtain ⟨V, hV, hrun⟩ := fastConv_sound (P := P) (ρ := ρ) (k := k) hr
    refine ⟨V, hV, Qde (s := convert src dst (a.eval x)) rfl fun w => ?_⟩
    rw [e1]; exact hrun w
   ·exact Qc3 h he
  ·exact Qc3 h he
 all_goals first | exact Qc3 h he | skip
 ·rename_i args argTypes
  split at he
  ·rename_i x t hx ht
   split at he
   ·rename_i n len cap sz full el hop hu
    simp at he; subst he
    obtain ⟨g, z, c, _, hlen, _⟩ := Qay h hop
    have ha : args = #[x] := by cases args; simp at hx; subst hx; rfl
    have ht' : argTypes = #[t] := by cases argTypes; simp at ht; subst ht; rfl
    subst ha; subst ht'
    refine ⟨.int .i64 len, rfl, fun w => ?_⟩
    simp [execOp, resolve, invoke, builtin, Builtin.len_, run_underlying hu, hlen, goInt]
   ·rename_i len cap sz full el hop hu
    simp at he; subst he
    have hlen : a.eval x = .slice none 0 0 := Qay h hop
    have ha : args = #[x] := by cases args; simp at hx; subst hx; rfl
    have ht' : argTypes = #[t] := by cases argTypes; simp at ht; subst ht; rfl
    subst ha; subst ht'
    refine ⟨.int .i64 0, rfl, fun w => ?_⟩
    simp [execOp, resolve, invoke, builtin, Builtin.len_, run_underlying hu, hlen, goInt]
   ·cases he
  ·cases he
 ·cases he
end
end Go.Proofs.YtchpkjgibloleaaGreat.V
namespace Go.Proofs.YtchpkjgibloleaaGreat.V
set_option maxRecDepth 100000
set_option maxHeartbeats 8000000
open Go
abbrev Mem := AV × Hp × List Nat
def ptrA : AV → Option (Nat × Nat)
 | .c (.c (.p (some a))) => some a
 | _ => none
noncomputable def fresh (H : Hp) (dead : List Nat) (n : Nat) : Bool := (get H n).isNone && !dead.contains n
noncomputable def loadA (P : Program) (H : Hp) (t : TypeId) (n o : Nat) : Option AV :=
 match get H n with
 | none => none
 | some e => match aggB P t with
  | some true => match P.info? t with
   | some i => if ((e.cs.drop o).take i.size).length = i.size then some (.g ((e.cs.drop o).take i.size)) else none
   | none => none
  | some false => (e.cs[o]?).map .c
  | none => none
noncomputable def storeA (P : Program) (H : Hp) (t : TypeId) (n o : Nat) (v : AV) : Option Hp :=
 match get H n, cellsA v, P.info? t with
 | some e, some cs, some i => if cs.length = i.size ∧ o + cs.length ≤ e.cs.length then some (upd n { e with cs := spl e.cs o cs } H) else none
 | _, _, _ => none
def madeA (z : List C1) (n : Nat) : List C1 := (List.range n).map fun k => (z[k % z.length]?).getD (.c .nilI)
def intOf (v : AV) : Option Int :=
 match v with
 | .c (.c (.i _ j)) => some j
 | _ => none
noncomputable def rowA (H : Hp) (sz : Nat) : AV → Option (Nat × List C1)
 | .c (.c (.s (some (n, o)) len _ _ _)) => match get H n with
  | some e => if ((e.cs.drop o).take (len * sz)).length = len * sz then some (len, (e.cs.drop o).take (len * sz)) else none
  | none => none
 | .c (.c (.s none _ _ _ _)) => some (0, [])
 | _ => none
noncomputable def appA (P : Program) (nm : Nat) (H : Hp) (dead : List Nat) (t : TypeId) (d s : AV) : Option Mem :=
 match P.underlying t with
 | some (.slice el) => match P.info? el with
  | some i => match i.zero, rowA H i.size s with
   | some z, some (m, news) =>
    if m = 0 then match d with
     | .c (.c (.s a len cap sz full)) => some (.c (.c (.s a len cap sz full)), H, dead)
     | _ => none
    else if z.cells.size = i.size ∧ 0 < i.size ∧ fresh H dead nm = true then match d with
     | .c (.c (.s none _ _ _ _)) => if m ≤ 1000000 ∧ i.bytes ≤ 1000000 then some (.c (.c (.s (some (nm, 0)) m none i.size true)), ins nm ⟨news, el, false⟩ H, dead) else none
     | .c (.c (.s (some (n, 0)) len cap sz true)) => match get H n with
      | some e => if sz = i.size ∧ e.ty = el ∧ e.cs.length = len * sz ∧ len + m ≤ 1000000 ∧ i.bytes ≤ 1000000 then
          some (.c (.c (.s (some (nm, 0)) (len + m) none i.size true)), ins nm ⟨e.cs ++ news, el, false⟩ (del n H), n :: dead) else none
      | none => none
     | _ => none
    else none
   | _, _ => none
  | none => none
 | _ => none
noncomputable def copyA (P : Program) (H : Hp) (dead : List Nat) (t : TypeId) (d s : AV) : Option Mem :=
 match P.underlying t with
 | some (.slice el) => match P.info? el with
  | some i => match rowA H i.size s, d with
   | some (m, news), .c (.c (.s none _ _ _ _)) => some (.c (.c (.i .i64 0)), H, dead)
   | some (m, news), .c (.c (.s (some (n, o)) len _ _ _)) => match get H n with
    | some e => if m ≤ len ∧ o + news.length ≤ e.cs.length then some (.c (.c (.i .i64 m)), upd n { e with cs := spl e.cs o news } H, dead) else none
    | none => none
   | _, _ => none
  | none => none
 | _ => none
noncomputable def evMem (P : Program) (tm : List AV) (nm : Nat) (H : Hp) (dead : List Nat) (o : Oper) : Option Mem :=
 match o.op with
 | .load t x => match (opV tm x).bind ptrA with
  | some (n, o) => (loadA P H t n o).map fun v => (v, H, dead)
  | none => none
 | .store t x y => match (opV tm x).bind ptrA, opV tm y with
  | some (n, o), some v => (storeA P H t n o v).map fun H' => (Qd6, H', dead)
  | _, _ => none
 | .alloc t => match zeroA P t with
  | some z => if fresh H dead nm then some (.c (.c (.p (some (nm, 0)))), ins nm ⟨z, t, true⟩ H, dead) else none
  | none => none
 | .box t x => match (opV tm x).bind cellsA with
  | some z => if fresh H dead nm then some (.c (.c (.p (some (nm, 0)))), ins nm ⟨z, t, true⟩ H, dead) else none
  | none => none
 | .buildSlice t len parts => match P.underlying t, partsV tm parts.toList with
  | some (.slice el), some ps => match P.info? el, zeroA P el with
   | some i, some z => if z.length = i.size ∧ len * i.size ≤ 16777216 ∧ len ≤ 16777216 ∧ fresh H dead nm = true then
       match fillA (fun k => some (k * i.size, i.size)) (madeA z (len * i.size)) ps with
       | some cs => some (.c (.c (.s (some (nm, 0)) len (some len) i.size true)), ins nm ⟨cs, el, true⟩ H, dead)
       | none => none
    else none
   | _, _ => none
  | _, _ => none
 | .makeSlice t l c => match P.underlying t, (opV tm l).bind intOf, (opV tm c).bind intOf with
  | some (.slice el), some l, some c => match P.info? el, zeroA P el with
   | some i, some z => if z.length = i.size ∧ 0 ≤ l ∧ l ≤ c ∧ c ≤ 1000000 ∧ i.bytes ≤ 1000000 ∧ fresh H dead nm = true then
       some (.c (.c (.s (some (nm, 0)) l.toNat (some c.toNat) i.size true)), ins nm ⟨madeA z (c.toNat * i.size), el, true⟩ H, dead)
    else none
   | _, _ => none
  | _, _, _ => none
 | .call { callee := .builtin .append, args, argTypes } => match args.toList, argTypes.toList with
  | [x, y], [t, t'] => match opV tm x, opV tm y with
   | some d, some s => if t = t' then appA P nm H dead t d s else none
   | _, _ => none
  | _, _ => none
 | .call { callee := .builtin .copy, args, argTypes } => match args.toList, argTypes.toList with
  | [x, y], [t, t'] => match opV tm x, opV tm y with
   | some d, some s => copyA P H dead t d s
   | _, _ => none
  | _, _ => none
 | _ => none
section
variable {P : Program} {D : Nat → Prop} {w0 : World} {ρ : Ren} {H : Hp} {dead : List Nat} {w : World}
theorem ptrA_R {v : AV} {V : Value} {a : Nat × Nat} (h : ptrA v = some a) (hr : v.R ρ V) : ∃ g z, ρ a.1 = some (g, z) ∧ V = .pointer (some ⟨g, a.2, none⟩) := by
 unfold ptrA at h
 split at h
 ·rename_i b
  simp at h; subst h; obtain ⟨n, o⟩ := b; exact hr
 ·cases h
theorem Qdw {n : Nat} (h : fresh H dead n = true) : get H n = none ∧ n ∉ dead := by
 simp [fresh] at h; exact ⟨h.1, h.2⟩
theorem RH.cell (h : RH D w0 ρ H dead w) {n : Nat} {e : Ent} (he : get H n = some e) {g z : Nat} (hg : ρ n = some (g, z)) {j : Nat} {x : C1} (hx : e.cs[j]? = some x) :
    ∃ y, w.cell? ⟨g, j, none⟩ = some y ∧ x.R ρ y := by
 obtain ⟨g', z', c, h1, h2, h3, h4, h5, h6⟩ := h.hp n e he
 rw [hg] at h1; injection h1 with h1; injection h1 with h1 h1'; subst h1; subst h1'
 obtain ⟨y, hy, hr⟩ := h4 j x hx
 refine ⟨y, ?_, hr⟩
 simp only [World.cell?, h2]
 simpa using hy
theorem cells_run (h : RH D w0 ρ H dead w) {n : Nat} {e : Ent} (he : get H n = some e) {g z : Nat} (hg : ρ n = some (g, z)) {cs : List C1} {o : Nat} (hx : ∀ (j : Nat) x, cs[j]? = some x → e.cs[o + j]? = some x) :
    ∃ L, All2 (C1.R ρ) cs L ∧ ∀ j v, L[j]? = some v → w.cell? ((⟨g, o, none⟩ : Addr).add j) = some v := by
 refine ⟨(List.range cs.length).map fun j => (w.cell? ⟨g, o + j, none⟩).getD undef, All2.of (by simp) fun j x hj => ?_, fun j v hv => ?_⟩
 ·obtain ⟨y, hy, hr⟩ := h.cell he hg (hx j x hj)
  have hlt : j < cs.length := by
   rcases Nat.lt_or_ge j cs.length with h | h
   ·exact h
   ·rw [List.getElem?_eq_none h] at hj; cases hj
  exact ⟨y, by simp [hlt, hy], hr⟩
 ·have hlt : j < cs.length := by
    rcases Nat.lt_or_ge j cs.length with h | h
    ·exact h
    ·rw [List.getElem?_eq_none (by simpa using h)] at hv; cases hv
  obtain ⟨y, hy, hr⟩ := h.cell he hg (hx j _ (List.getElem?_eq_getElem hlt))
  rw [addr_add, hy]
  simpa [hlt, hy] using hv
theorem ext_get {α : Type} {l : List α} {o n : Nat} : ∀ (j : Nat) x, ((l.drop o).take n)[j]? = some x → l[o + j]? = some x := by
 intro j x hx
 rw [List.getElem?_take] at hx
 split at hx
 ·rwa [List.getElem?_drop] at hx
 ·cases hx
theorem loadA_sound (h : RH D w0 ρ H dead w) {t : TypeId} {n o g z : Nat} {v : AV} (hg : ρ n = some (g, z)) (he : loadA P H t n o = some v) :
    ∃ V, v.R ρ V ∧ (Instr.loadAt t (.pointer (some ⟨g, o, none⟩))).run P w = .ok V w := by
 unfold loadA at he
 split at he
 ·cases he
 ·rename_i e hge
  split at he
  ·rename_i hag
   split at he
   ·rename_i i hi
    split at he
    ·rename_i hl
     simp at he; subst he
     obtain ⟨L, hL, hc⟩ := cells_run h hge hg (cs := (e.cs.drop o).take i.size) (o := o) ext_get
     have hLl := hL.len
     have := run_loadCells_list (P := P) (w := w) ⟨g, o, none⟩ L hc
     refine ⟨.agg L.toArray, ⟨L, hL, rfl⟩, ?_⟩
     have e2 : L.length = i.size := by omega
     rw [e2] at this
     simp [Instr.loadAt, Instr.sureAddr, loadVar, aggB_run hag, Qcn hi, this]
    ·cases he
   ·cases he
  ·rename_i hag
   obtain ⟨x, hx, rfl⟩ := Option.map_eq_some_iff.1 he
   obtain ⟨y, hy, hr⟩ := h.cell hge hg hx
   refine ⟨y, hr, ?_⟩
   simp [Instr.loadAt, Instr.sureAddr, loadVar, aggB_run hag, hy]
  ·cases he
theorem storeA_sound (h : RH D w0 ρ H dead w) {t : TypeId} {n o g z : Nat} {v : AV} {V : Value} {H' : Hp} (hg : ρ n = some (g, z)) (hv : v.R ρ V) (he : storeA P H t n o v = some H') :
    ∃ w', (Instr.storeAt t (.pointer (some ⟨g, o, none⟩)) V).run P w = .ok () w' ∧ RH D w0 ρ H' dead w' := by
 unfold storeA at he
 split at he
 ·rename_i e cs i hge hcs hi
  split at he
  ·rename_i hl
   simp at he; subst he
   obtain ⟨L, hL, hVc⟩ := cellsA_R hcs hv
   have hLl := hL.len
   obtain ⟨g', z', c, h1, h2, h3, h4, h5, h6⟩ := h.hp n e hge
   rw [hg] at h1; injection h1 with h1; injection h1 with h1 h1'; subst h1; subst h1'
   have hcl : e.cs.length ≤ c.toList.length := by
    rcases Nat.lt_or_ge c.toList.length e.cs.length with hlt | hge'
    ·obtain ⟨y, hy, _⟩ := h4 c.toList.length _ (List.getElem?_eq_getElem hlt)
     simp at hy
    ·exact hge'
   have hone : ∀ u ∈ L, u.oneCell' = true := hL.left fun a b hr => C1.one hr
   have hst := run_storeCells_at P g o e.ty L 0 c w h2 (by simp at hcl; omega) hone
   simp only [Nat.add_zero] at hst
   refine ⟨_, ?_, h.store hge hg hL hl.2 h2⟩
   have hsz : V.cells.size = i.size := by rw [hVc]; simp; omega
   simp [Instr.storeAt, Instr.sureAddr, storeVar, Qcn hi, hsz, hVc, hst, show L.length = i.size by omega]
  ·cases he
 ·cases he
theorem rowA_sound (h : RH D w0 ρ H dead w) {sz : Nat} {v : AV} {V : Value} {m : Nat} {cs : List C1} (hv : v.R ρ V) (he : rowA H sz v = some (m, cs)) :
    ∃ L, All2 (C1.R ρ) cs L ∧ L.length = m * sz ∧ ((V = .slice none 0 0 ∧ m = 0) ∨ ∃ ad c, V = .slice (some ad) m c ∧ ∀ j v, L[j]? = some v → w.cell? (ad.add j) = some v) := by
 unfold rowA at he
 split at he
 ·rename_i n o len cap sz' full
  split at he
  ·rename_i e hge
   split at he
   ·rename_i hl
    simp at he; obtain ⟨rfl, rfl⟩ := he
    obtain ⟨g, z, c, hg, rfl, _⟩ := hv
    obtain ⟨L, hL, hc⟩ := cells_run h hge hg (cs := (e.cs.drop o).take (len * sz)) (o := o) ext_get
    exact ⟨L, hL, by rw [← hL.len]; exact hl, .inr ⟨_, _, rfl, hc⟩⟩
   ·cases he
  ·cases he
 ·simp at he; obtain ⟨rfl, rfl⟩ := he
  cases hv
  exact ⟨[], trivial, by simp, .inl ⟨rfl, rfl⟩⟩
 ·cases he
theorem madeA_R {z : List C1} {Z : List Value} (hz : All2 (C1.R ρ) z Z) (hp : 0 < z.length) (n : Nat) : All2 (C1.R ρ) (madeA z n) (madeCells Z.toArray n).toList := by
 have e := hz.len
 refine All2.of (by simp [madeA, madeCells]) fun i x hx => ?_
 simp only [madeA, List.getElem?_map] at hx
 cases hr : (List.range n)[i]? with
 | none => rw [hr] at hx; cases hx
 | some k =>
  rw [hr] at hx
  simp only [Option.map_some, Option.some.injEq] at hx
  have hk : i < n ∧ k = i := by
   have := List.getElem?_eq_some_iff.1 hr
   obtain ⟨h1, h2⟩ := this
   simp at h1 h2; exact ⟨h1, h2.symm⟩
  obtain ⟨hi, rfl⟩ := hk
  have hlt : k % z.length < z.length := Nat.mod_lt _ hp
  obtain ⟨y, hy, hR⟩ := hz.get (k % z.length) (List.getElem?_eq_getElem hlt)
  refine ⟨y, ?_, ?_⟩
  ·simp only [madeCells, Array.toList_map, Array.toList_range, List.getElem?_map, hr, Option.map_some]
   congr 1
   have e3 : Z.toArray.size = z.length := by simp [e]
   rw [e3]
   have hl : k % z.length < Z.toArray.size := by rw [e3]; exact hlt
   rw [getElem!_pos Z.toArray _ hl]
   simp only [List.getElem_toArray]
   exact Option.some.inj ((List.getElem?_eq_getElem _).symm.trans hy)
  ·rw [← hx, List.getElem?_eq_getElem hlt]; exact hR
theorem appA_sound (h : RH D w0 ρ H dead w) {nm : Nat} {t ty : TypeId} {d s r : AV} {X Y : Value} {H' : Hp} {dead' : List Nat} (hd : d.R ρ X) (hs : s.R ρ Y) (he : appA P nm H dead t d s = some (r, H', dead')) :
    ∃ ρ' V w', ρ.le ρ' ∧ r.R ρ' V ∧ (Builtin.append_ #[t, t] ty #[X, Y]).run P w = .ok V w' ∧ RH D w0 ρ' H' dead' w' := by
 unfold appA at he
 split at he
 ·rename_i el hu
  split at he
  ·rename_i i hi
   split at he
   ·rename_i z m news hz hrow
    obtain ⟨L, hL, hLl, hY⟩ := rowA_sound h hs hrow
    split at he
    ·rename_i hm
     subst hm
     split at he
     ·rename_i a len cap sz full
      simp at he; obtain ⟨rfl, rfl, rfl⟩ := he
      refine ⟨ρ, X, w, Ren.le_refl ρ, hd, ?_, h⟩
      have hX : ∃ b len' c, X = .slice b len' c ∧ len' ≤ c := by
       cases a with
       | none => exact ⟨none, 0, 0, hd, Nat.le_refl _⟩
       | some a => obtain ⟨g, z, c, _, h1, _, h2, _⟩ := hd; exact ⟨_, _, _, h1, h2⟩
      obtain ⟨b, len', c, rfl, hlc⟩ := hX
      have hl0 : L = [] := List.eq_nil_of_length_eq_zero (by omega)
      rcases hY with ⟨rfl, _⟩ | ⟨ad, c', rfl, _⟩
      ·cases b <;> simp [Builtin.append_, run_underlying hu, Qcn hi, Builtin.lenOf, Builtin.firstCells, hlc, storeCells]
      ·have hf := run_firstCells_some (P := P) w i.size 0 ad 0 c' [] (by simp) (by simp)
       cases b <;> simp [Builtin.append_, run_underlying hu, Qcn hi, Builtin.lenOf, hf, hlc, storeCells]
     ·cases he
    ·rename_i hm
     split at he
     ·rename_i hc
      obtain ⟨hzs, hpos, hfr⟩ := hc
      obtain ⟨hf1, hf2⟩ := Qdw hfr
      have hone : ∀ u ∈ L, u.oneCell' = true := hL.left fun a b hr => C1.one hr
      rcases hY with ⟨_, hm0⟩ | ⟨ad, c', rfl, hcells⟩
      ·exact absurd hm0 hm
      split at he
      ·rename_i len cap sz full
       split at he
       ·rename_i hb
        simp at he; obtain ⟨rfl, rfl, rfl⟩ := he
        cases hd
        have hbb : m * i.bytes ≤ 1000000 * 1000000 := Nat.mul_le_mul hb.1 hb.2
        obtain ⟨V', w', hr, hown, hgr, _, hob⟩ := run_append_own_at (P := P) w 0 t ty el i z i.size i.bytes hu hi hz rfl rfl hzs hpos (.slice none 0 0) 0 [] (World.ownsRow_nil w 0 el i.size) ad m c' L hLl hcells hone (by simp [maxLen]; omega) (by simp; omega) (Nat.zero_le _)
        obtain ⟨hx, hh⟩ := hown
        rcases hh with ⟨_, h0⟩ | ⟨g, cap', cur, rfl, _, hg, hn, hmx, hsz, htk⟩
        ·omega
        ·have hgw : g = w.heap.size := by
           rcases hob with hob | hob
           ·simp [Value.ownBlock] at hob
           ·simpa [Value.ownBlock] using hob
         obtain ⟨hRH, hle⟩ := h.moved (n' := nm) hf1 hf2 (w' := w') none (by simp) (by simpa [Value.ownBlock] using hgr) (g := g) (cur := cur) (ty := el) hg (.inr hgw) (cs := news) (fun k x hx => by
          obtain ⟨y, hy, hr⟩ := hL.get k hx
          refine ⟨y, ?_, hr⟩
          have e1 : (cur.toList.take ((0 + m) * i.size))[k]? = some y := by rw [htk]; simpa using hy
          rw [List.getElem?_take] at e1
          split at e1
          ·exact e1
          ·cases e1)
         refine ⟨_, _, w', hle, ⟨g, cur.size, cap', by simp [Ren.add], rfl, by simp, by omega, hmx, by omega, fun _ => by omega⟩, by simpa using hr, hRH⟩
       ·cases he
      ·rename_i n len cap sz
       split at he
       ·rename_i e hge
        split at he
        ·rename_i hb
         obtain ⟨rfl, hty, hel, hb1, hb2⟩ := hb
         simp at he; obtain ⟨rfl, rfl, rfl⟩ := he
         obtain ⟨g0, z0, c0, hρ, rfl, hcap, hlc, hmx0, hz0, hfull⟩ := hd
         obtain ⟨g', z', cur0, q1, q2, q3, q4, q5, q6⟩ := h.hp n e hge
         rw [hρ] at q1; injection q1 with q1; injection q1 with q1 q1'; subst q1; subst q1'
         have hbb : (len + m) * i.bytes ≤ 1000000 * 1000000 := Nat.mul_le_mul hb1 hb2
         have hfl := hfull rfl
         obtain ⟨XS, hXS, hXl⟩ : ∃ XS, All2 (C1.R ρ) e.cs XS ∧ cur0.toList.take (len * i.size) = XS := by
          refine ⟨_, All2.of ?_ fun k x hx => ?_, rfl⟩
          ·rw [List.length_take, hel]
           have : len * i.size ≤ c0 * i.size := Nat.mul_le_mul_right _ hlc
           simp; omega
          ·obtain ⟨y, hy, hr⟩ := q4 k x hx
           refine ⟨y, ?_, hr⟩
           have : k < e.cs.length := by
            rcases Nat.lt_or_ge k e.cs.length with h | h
            ·exact h
            ·rw [List.getElem?_eq_none h] at hx; cases hx
           rw [List.getElem?_take, if_pos (by omega)]; exact hy
         have hXSl := hXS.len
         have hown0 : w.ownsRow 0 el i.size (.slice (some ⟨g0, 0, none⟩) len c0) len XS :=
          ⟨by omega, .inr ⟨g0, c0, cur0, rfl, Nat.zero_le _, by rw [← hty]; exact q2, hlc, hmx0, by omega, hXl⟩⟩
         obtain ⟨V', w', hr, hown, hgr, _, hob⟩ := run_append_own_at (P := P) w 0 t ty el i z i.size i.bytes hu hi hz rfl rfl hzs hpos _ len XS hown0 ad m c' L hLl hcells hone (by simp [maxLen]; omega) (by omega) (Nat.zero_le _)
         obtain ⟨hx, hh⟩ := hown
         rcases hh with ⟨_, h0⟩ | ⟨g, cap', cur, rfl, _, hg, hn, hmx, hsz, htk⟩
         ·omega
         ·have hgw : g0 = g ∨ g = w.heap.size := by
            rcases hob with hob | hob
            ·left; simp [Value.ownBlock] at hob; exact hob.symm
            ·right; simpa [Value.ownBlock] using hob
          obtain ⟨hRH, hle⟩ := h.moved (n' := nm) hf1 hf2 (w' := w') (some n) (fun k hk => by injection hk with hk; subst hk; exact ⟨e, g0, z0, hge, hρ⟩) (by simpa [Value.ownBlock, hρ] using hgr) (g := g) (cur := cur) (ty := el) hg (by simpa [hρ] using hgw) (cs := e.cs ++ news) (fun k x hx => by
           obtain ⟨y, hy, hr⟩ := (hXS.app hL).get k hx
           refine ⟨y, ?_, hr⟩
           have e1 : (cur.toList.take ((len + m) * i.size))[k]? = some y := by rw [htk]; exact hy
           rw [List.getElem?_take] at e1
           split at e1
           ·exact e1
           ·cases e1)
          refine ⟨_, _, w', hle, ⟨g, cur.size, cap', by simp [Ren.add], rfl, by simp, by omega, hmx, by omega, fun _ => by omega⟩, hr, hRH⟩
        ·cases he
       ·cases he
      ·cases he
     ·cases he
   ·cases he
  ·cases he
 ·cases he
theorem copyA_sound (h : RH D w0 ρ H dead w) {t t' ty : TypeId} {d s r : AV} {X Y : Value} {H' : Hp} {dead' : List Nat} (hd : d.R ρ X) (hs : s.R ρ Y) (he : copyA P H dead t d s = some (r, H', dead')) :
    ∃ V w', r.R ρ V ∧ (Builtin.copy_ #[t, t'] ty #[X, Y]).run P w = .ok V w' ∧ RH D w0 ρ H' dead' w' := by
 unfold copyA at he
 split at he
 ·rename_i el hu
  split at he
  ·rename_i i hi
   split at he
   ·rename_i m news _ _ _ _ hrow
    obtain ⟨L, hL, hLl, hY⟩ := rowA_sound h hs hrow
    simp at he; obtain ⟨rfl, rfl, rfl⟩ := he
    cases hd
    refine ⟨goInt 0, w, rfl, ?_, h⟩
    rcases hY with ⟨rfl, _⟩ | ⟨ad, c', rfl, _⟩
    ·simp [Builtin.copy_, run_underlying hu, Qcn hi, Builtin.lenOf, Builtin.firstCells]
    ·have hf := run_firstCells_some (P := P) w i.size 0 ad m c' [] (by simp) (by simp)
     simp [Builtin.copy_, run_underlying hu, Qcn hi, Builtin.lenOf, hf, Nat.min]
   ·rename_i m news n o len _ _ _ hrow
    obtain ⟨L, hL, hLl, hY⟩ := rowA_sound h hs hrow
    split at he
    ·rename_i e hge
     split at he
     ·rename_i hb
      simp at he; obtain ⟨rfl, rfl, rfl⟩ := he
      obtain ⟨g, z, c, hg, rfl, _⟩ := hd
      obtain ⟨g', z', cur, h1, h2, h3, h4, h5, h6⟩ := h.hp n e hge
      rw [hg] at h1; injection h1 with h1; injection h1 with h1 h1'; subst h1; subst h1'
      have hLl2 := hL.len
      have hcl : e.cs.length ≤ cur.toList.length := by
       rcases Nat.lt_or_ge cur.toList.length e.cs.length with hlt | hge'
       ·obtain ⟨y, hy, _⟩ := h4 cur.toList.length _ (List.getElem?_eq_getElem hlt)
        simp at hy
       ·exact hge'
      have hone : ∀ u ∈ L, u.oneCell' = true := hL.left fun a b hr => C1.one hr
      have hst := run_storeCells_at P g o e.ty L 0 cur w h2 (by simp at hcl; omega) hone
      simp only [Nat.add_zero] at hst
      refine ⟨goInt m, _, rfl, ?_, h.store hge hg hL hb.2 h2⟩
      have hmin : Nat.min m len = m := Nat.min_eq_left hb.1
      rcases hY with ⟨rfl, hm0⟩ | ⟨ad, c', rfl, hcells⟩
      ·subst hm0
       have : L = [] := List.eq_nil_of_length_eq_zero (by omega)
       subst this
       simp only [Builtin.copy_, List.getElem?_toArray, List.getElem?_cons_zero, List.getElem?_cons_succ, Sem.run_bind, run_underlying hu, Result.andThen_ok, Qcn hi, Builtin.lenOf, Builtin.firstCells, Sem.run_pure, hst, Nat.min, goInt]
       simp [storeCells] at hst ⊢
      ·have hf := run_firstCells_some (P := P) w i.size m ad m c' L hLl hcells
       simp [Builtin.copy_, run_underlying hu, Qcn hi, Builtin.lenOf, hf, hmin, hst]
     ·cases he
    ·cases he
   ·cases he
  ·cases he
 ·cases he
end
end Go.Proofs.YtchpkjgibloleaaGreat.V
namespace Go.Proofs.YtchpkjgibloleaaGreat.V
set_option maxRecDepth 100000
set_option maxHeartbeats 8000000
open Go
section
variable {P : Program} {D : Nat → Prop} {w0 : World} {ρ : Ren} {H : Hp} {dead : List Nat} {w : World}
theorem run_buildSlice (t : TypeId) (len : Nat) (PS : Array (Nat × Value)) (el : TypeId) (i : TypeInfo) (z : Value) (hu : P.underlying t = some (.slice el)) (hi : P.info? el = some i) (hz : i.zero = some z) (hmax : len * i.size ≤ 16777216)
    (cs : Array Value) (hf : Instr.fill (fun k => some (k * i.size, i.size)) (madeCells z.cells (len * i.size)) PS.toList = some cs) :
    (Instr.buildSlice t len PS).run P w = .ok (.slice (some ⟨w.heap.size, 0, none⟩) len len) (w.alloc (.cells cs el)) := by
 have h1 : ¬ 16777216 < len * i.size := by omega
 by_cases h0 : len * i.size = 0
 ·have hm : madeCells z.cells (len * i.size) = #[] := by rw [h0]; simp [madeCells]
  rw [hm] at hf
  simp [Instr.buildSlice, run_underlying hu, Qcn hi, h0, newRow, hf, Array.range_zero']
 ·simp only [madeCells] at hf
  simp [Instr.buildSlice, run_underlying hu, Qcn hi, h0, h1, zeroValue, typeInfo, hi, hz, newRow, hf]
theorem evMem_sound (h : RH D w0 ρ H dead w) {tm : List AV} {a : Act} (hT : RT ρ tm a) {nm : Nat} {o : Oper} {v : AV} {H' : Hp} {dead' : List Nat} (he : evMem P tm nm H dead o = some (v, H', dead')) :
    ∃ ρ' n V w', ρ.le ρ' ∧ (execOp a.eval o).run P w = .ok n w' ∧ (n = .value V ∨ n = .skip ∧ V = undef) ∧ v.R ρ' V ∧ RH D w0 ρ' H' dead' w' := by
 obtain ⟨dst, op, ty, pos, after, guard⟩ := o
 unfold evMem at he
 simp only at he
 split at he
 ·rename_i t x
  split at he
  ·rename_i n o hx
   obtain ⟨u, hu, hp⟩ := Option.bind_eq_some_iff.1 hx
   obtain ⟨g, z, hg, hV⟩ := ptrA_R hp (Qay hT hu)
   obtain ⟨v', hv', he⟩ := Option.map_eq_some_iff.1 he
   simp at he; obtain ⟨rfl, rfl, rfl⟩ := he
   obtain ⟨V, hr, hrun⟩ := loadA_sound (P := P) h hg hv'
   refine ⟨ρ, .value V, V, w, Ren.le_refl _, ?_, .inl rfl, hr, h⟩
   simp [execOp, hV, hrun]
  ·cases he
 ·rename_i t x y
  split at he
  ·rename_i n o v' hx hy
   obtain ⟨u, hu, hp⟩ := Option.bind_eq_some_iff.1 hx
   obtain ⟨g, z, hg, hV⟩ := ptrA_R hp (Qay hT hu)
   obtain ⟨H1, hH1, he⟩ := Option.map_eq_some_iff.1 he
   simp at he; obtain ⟨rfl, rfl, rfl⟩ := he
   obtain ⟨w', hrun, hR⟩ := storeA_sound (P := P) h hg (Qay hT hy) hH1
   refine ⟨ρ, .skip, undef, w', Ren.le_refl _, ?_, .inr ⟨rfl, rfl⟩, undef_R ρ, hR⟩
   simp [execOp, hV, hrun]
  ·cases he
 ·rename_i t
  split at he
  ·rename_i z hz
   split at he
   ·rename_i hf
    simp at he; obtain ⟨rfl, rfl, rfl⟩ := he
    obtain ⟨hf1, hf2⟩ := Qdw hf
    unfold zeroA at hz
    split at hz
    ·rename_i i hi
     split at hz
     ·rename_i zv hzv
      have hR := absCs_R (ρ := ρ) hz
      obtain ⟨hn, hle⟩ := h.new hf1 hf2 hR t
      refine ⟨_, .value (.pointer (some ⟨w.heap.size, 0, none⟩)), _, _, hle, ?_, .inl rfl, ⟨w.heap.size, _, by simp [Ren.add]; rfl, rfl⟩, hn⟩
      simp [execOp, Instr.alloc, zeroValue, typeInfo, hi, hzv, newVar, newRow]
     ·cases hz
    ·cases hz
   ·cases he
  ·cases he
 ·rename_i t x
  split at he
  ·rename_i z hz
   obtain ⟨u, hu, hc⟩ := Option.bind_eq_some_iff.1 hz
   obtain ⟨L, hL, hV⟩ := cellsA_R hc (Qay hT hu)
   split at he
   ·rename_i hf
    simp at he; obtain ⟨rfl, rfl, rfl⟩ := he
    obtain ⟨hf1, hf2⟩ := Qdw hf
    obtain ⟨hn, hle⟩ := h.new hf1 hf2 hL t
    refine ⟨_, .value (.pointer (some ⟨w.heap.size, 0, none⟩)), _, _, hle, ?_, .inl rfl, ⟨w.heap.size, _, by simp [Ren.add]; rfl, rfl⟩, hn⟩
    simp [execOp, Instr.box, newVar, newRow, hV]
   ·cases he
  ·cases he
 ·rename_i t len parts
  split at he
  ·rename_i el ps hu hps
   split at he
   ·rename_i i z hi hz
    split at he
    ·rename_i hc
     obtain ⟨hzl, hmax, hlm, hf⟩ := hc
     obtain ⟨hf1, hf2⟩ := Qdw hf
     split at he
     ·rename_i cs hcs
      simp at he; obtain ⟨rfl, rfl, rfl⟩ := he
      unfold zeroA at hz
      rw [hi] at hz
      simp only at hz
      split at hz
      ·rename_i zv hzv
       have hZ := absCs_R (ρ := ρ) hz
       have hPS := Qeb hT hps
       have hM : All2 (C1.R ρ) (madeA z (len * i.size)) (madeCells zv.cells (len * i.size)).toList := by
        by_cases h0 : len * i.size = 0
        ·rw [h0]; exact All2.of (by simp [madeA, madeCells]) (fun k x hx => by simp [madeA] at hx)
        ·have hpos : 0 < z.length := by
           rw [hzl]; rcases Nat.eq_zero_or_pos i.size with h1 | h1
           ·rw [h1] at h0; simp at h0
           ·exact h1
         simpa using madeA_R hZ hpos (len * i.size)
       obtain ⟨L', hL', hR'⟩ := Qe0 _ hM hPS hcs
       obtain ⟨hn, hle⟩ := h.new hf1 hf2 hR' el
       have hLl : L'.length = len * i.size := by
        have e1 := hR'.len
        have : ∀ (pl : Nat → Option (Nat × Nat)) (ps : List (Nat × AV)) (l l' : List C1), fillA pl l ps = some l' → l'.length = l.length := by
         intro pl ps
         induction ps with
         | nil => intro l l' hh; simp [fillA] at hh; rw [hh]
         | cons p ps ih =>
          obtain ⟨k, v⟩ := p
          intro l l' hh
          unfold fillA at hh
          split at hh
          ·split at hh
           ·rename_i hb; rw [ih _ _ hh, spl_len hb.2]
           ·cases hh
          ·cases hh
        have e2 := this _ _ _ _ hcs
        rw [← e1, e2]; simp [madeA]
       refine ⟨_, .value (.slice (some ⟨w.heap.size, 0, none⟩) len len), _, _, hle, ?_, .inl rfl, ⟨w.heap.size, L'.length, len, by simp [Ren.add], rfl, by simp, Nat.le_refl _, ?_, by omega, fun _ => by omega⟩, hn⟩
       ·have := run_buildSlice (P := P) (w := w) t len (parts.map fun (i, x) => (i, a.eval x)) el i zv hu hi hzv hmax L'.toArray (by simpa using hL')
        simp [execOp, this]
       ·simp only [maxLen]
        omega
      ·cases hz
     ·cases he
    ·cases he
   ·cases he
  ·cases he
 ·rename_i t l c
  split at he
  ·rename_i el l' c' hu hl hcc
   obtain ⟨u, hu1, hl⟩ := Option.bind_eq_some_iff.1 hl
   obtain ⟨u2, hu2, hcc⟩ := Option.bind_eq_some_iff.1 hcc
   have key : ∀ (v : AV) (V : Value) (j : Int), intOf v = some j → v.R ρ V → ∃ k, V = .int k j := by
    intro v V j hv hr
    unfold intOf at hv
    split at hv
    ·simp at hv; subst hv; exact ⟨_, hr⟩
    ·cases hv
   obtain ⟨kl, hL⟩ := key _ _ _ hl (Qay hT hu1)
   obtain ⟨kc, hC⟩ := key _ _ _ hcc (Qay hT hu2)
   split at he
   ·rename_i i z hi hz
    split at he
    ·rename_i hc
     obtain ⟨hzl, h0, hlc, hcm, hbm, hf⟩ := hc
     obtain ⟨hf1, hf2⟩ := Qdw hf
     simp at he; obtain ⟨rfl, rfl, rfl⟩ := he
     unfold zeroA at hz
     rw [hi] at hz
     simp only at hz
     split at hz
     ·rename_i zv hzv
      have hZ := absCs_R (ρ := ρ) hz
      have hM : All2 (C1.R ρ) (madeA z (c'.toNat * i.size)) (madeCells zv.cells (c'.toNat * i.size)).toList := by
       by_cases h0 : c'.toNat * i.size = 0
       ·rw [h0]; exact All2.of (by simp [madeA, madeCells]) (fun k x hx => by simp [madeA] at hx)
       ·have hpos : 0 < z.length := by
          rw [hzl]; rcases Nat.eq_zero_or_pos i.size with h1 | h1
          ·rw [h1] at h0; simp at h0
          ·exact h1
        simpa using madeA_R hZ hpos (c'.toNat * i.size)
      obtain ⟨hn, hle⟩ := h.new hf1 hf2 hM el
      have hLl : (madeCells zv.cells (c'.toNat * i.size)).toList.length = c'.toNat * i.size := by simp [madeCells]
      have hbb : (i.bytes : Int) * c' ≤ 281474976710656 := by
       obtain ⟨n, rfl⟩ := Int.eq_ofNat_of_zero_le (show 0 ≤ c' by omega)
       have : i.bytes * n ≤ 1000000 * 1000000 := Nat.mul_le_mul hbm (by omega)
       rw [← Int.natCast_mul]; omega
      have hrun := run_make (P := P) w t el i zv hu hi hzv kl kc l' c' h0 hlc hbb (by omega)
      rw [hLl] at hn hle
      refine ⟨_, .value (.slice (some ⟨w.heap.size, 0, none⟩) l'.toNat c'.toNat), _, _, hle, ?_, .inl rfl, ⟨w.heap.size, c'.toNat * i.size, c'.toNat, by simp [Ren.add], rfl, by simp, by omega, by simp only [maxLen]; omega, by omega, fun _ => by omega⟩, by simpa using hn⟩
      simp [execOp, hL, hC, hrun]
     ·cases hz
    ·cases he
   ·cases he
  ·cases he
 ·rename_i args argTypes
  split at he
  ·rename_i x y t t' hx ht
   split at he
   ·rename_i d s hd hs
    split at he
    ·rename_i htt
     subst htt
     obtain ⟨ρ', V, w', hle, hr, hrun, hR⟩ := appA_sound (P := P) h (ty := ty) (Qay hT hd) (Qay hT hs) he
     have ha : args = #[x, y] := by cases args; simp at hx; subst hx; rfl
     have ht' : argTypes = #[t, t] := by cases argTypes; simp at ht; subst ht; rfl
     subst ha; subst ht'
     refine ⟨ρ', .value V, V, w', hle, ?_, .inl rfl, hr, hR⟩
     simp [execOp, resolve, invoke, builtin, hrun]
    ·cases he
   ·cases he
  ·cases he
 ·rename_i args argTypes
  split at he
  ·rename_i x y t t' hx ht
   split at he
   ·rename_i d s hd hs
    obtain ⟨V, w', hr, hrun, hR⟩ := copyA_sound (P := P) (t' := t') h (ty := ty) (Qay hT hd) (Qay hT hs) he
    have ha : args = #[x, y] := by cases args; simp at hx; subst hx; rfl
    have ht' : argTypes = #[t, t'] := by cases argTypes; simp at ht; subst ht; rfl
    subst ha; subst ht'
    refine ⟨ρ, .value V, V, w', Ren.le_refl _, ?_, .inl rfl, hr, hR⟩
    simp [execOp, resolve, invoke, builtin, hrun]
   ·cases he
  ·cases he
 ·cases he
end
end Go.Proofs.YtchpkjgibloleaaGreat.V
namespace Go.Proofs.YtchpkjgibloleaaGreat.V
set_option maxRecDepth 100000
set_option maxHeartbeats 8000000
open Go
structure St where
 tm : List AV
 H : Hp
 dead : List Nat
 df : List (FuncId × List C0)
 r : Nat
 deriving DecidableEq
noncomputable def St.put (s : St) (dst : Option Tmp) (v : AV) : St :=
 match dst with
 | some d => { s with tm := setA s.tm d v }
 | none => s
structure Rel (D : Nat → Prop) (w0 : World) (ρ : Ren) (s : St) (a : Act) (w : World) : Prop where
 tm : RT ρ s.tm a
 df : All2 (fun (x : FuncId × List C0) (d : Deferred) => ∃ C, All2 (C0.R ρ) x.2 C ∧ d = { target := .fn (.func x.1) C.toArray, args := #[] }) s.df a.defers
 rh : RH D w0 ρ s.H s.dead w
abbrev Qdq := FuncId → List AV → Nat → Hp → List Nat → Option Mem
def Qel (P : Program) (D : Nat → Prop) (w0 : World) (call : Qdq) : Prop :=
 ∀ k xs nm H dead r H' dead' ρ vs w, call k xs nm H dead = some (r, H', dead') → RH D w0 ρ H dead w → All2 (AV.R ρ) xs vs →
  (∃ fn, P.funcs[k]? = some fn ∧ (fn.name == "runtime.NumGoroutine") = false ∧ fn.body.isNone = false) ∧
  Calls P k vs.toArray w fun e w' => ∃ ρ' V, ρ.le ρ' ∧ e = .returned V ∧ r.R ρ' V ∧ RH D w0 ρ' H' dead' w'
noncomputable def gA (ops : List Oper) (tm : List AV) (o : Oper) : Option Bool :=
 match o.guard with
 | none => some true
 | some (j, want) => match ops[j]? with
  | some oj => match oj.dst with
   | some d => match nthA tm d with
    | .c (.c (.b x)) => some (x == want)
    | .t _ => some false
    | _ => none
   | none => none
  | none => none
def liftC (l : List C0) : List AV := l.map fun x => .c (.c x)
noncomputable def evCallOp (call : Qdq) (tm : List AV) (nm : Nat) (H : Hp) (dead : List Nat) (o : Oper) : Option Mem :=
 match o.op with
 | .call { callee := .value f, args, .. } => match opV tm f, opsV tm args.toList with
  | some (.c (.f k first cap)), some xs => call k (liftC first ++ xs ++ liftC cap) nm H dead
  | _, _ => none
 | _ => none
noncomputable def evDefer (tm : List AV) (o : Oper) : Option (FuncId × List C0) :=
 match o.op with
 | .defer { callee := .value f, args, .. } => match opV tm f, args.toList with
  | some (.c (.f k [] cap)), [] => some (k, cap)
  | _, _ => none
 | _ => none
noncomputable def quietS (P : Program) (ops : List Oper) (o : Oper) (s : St) : Option St :=
 match gA ops s.tm o with
 | none => none
 | some false => some (s.put o.dst Qd6)
 | some true => match evPure P s.tm o with
  | some v => some (s.put o.dst v)
  | none => none
noncomputable def stepS (P : Program) (call : Qdq) (ops : List Oper) (pre i : Nat) (o : Oper) (s : St) : Option St :=
 match quietS P ops o s with
 | some s' => some s'
 | none => match gA ops s.tm o with
  | some true => match evMem P s.tm (pre * 65536 + s.r * 64 + i) s.H s.dead o with
   | some (v, H, dead) => some { s.put o.dst v with H := H, dead := dead }
   | none => match evCallOp call s.tm (pre * 65536 + s.r * 64 + i) s.H s.dead o with
    | some (v, H, dead) => some { s.put o.dst v with H := H, dead := dead }
    | none => match evDefer s.tm o with
     | some d => some { s.put o.dst Qd6 with df := d :: s.df }
     | none => none
  | _ => none
section
variable {P : Program} {D : Nat → Prop} {w0 : World} {ρ : Ren} {s s' : St} {a : Act} {w : World} {call : Qdq} {ops : Array Oper} {Q : Exit → Act → World → Prop}
theorem RT.put {tm : List AV} (h : RT ρ tm a) {v : AV} {V : Value} (hv : v.R ρ V) (dst : Option Tmp) : RT ρ (match dst with | some d => tm.set d v | none => tm) (a.put dst V) := by
 cases dst with
 | none => exact h
 | some d =>
  show All2 _ (tm.set d v) (a.tmps.setIfInBounds d V).toList
  rw [Array.toList_setIfInBounds]
  exact All2.set hv h d
theorem St.put_tm (s : St) (dst : Option Tmp) (v : AV) : (s.put dst v).tm = (match dst with | some d => s.tm.set d v | none => s.tm) := by
 cases dst with
 | none => rfl
 | some d => exact setA_eq _ _ _
theorem St.put_H (s : St) (dst : Option Tmp) (v : AV) : (s.put dst v).H = s.H ∧ (s.put dst v).dead = s.dead ∧ (s.put dst v).df = s.df ∧ (s.put dst v).r = s.r := by cases dst <;> exact ⟨rfl, rfl, rfl, rfl⟩
theorem put_defers (a : Act) (dst : Option Tmp) (V : Value) : (a.put dst V).defers = a.defers := by cases dst <;> rfl
theorem Rel.put (h : Rel D w0 ρ s a w) {v : AV} {V : Value} (hv : v.R ρ V) (dst : Option Tmp) : Rel D w0 ρ (s.put dst v) (a.put dst V) w := by
 obtain ⟨h1, h2, h3, h4⟩ := St.put_H s dst v
 exact ⟨by rw [St.put_tm]; exact h.tm.put hv dst, by rw [h3, put_defers]; exact h.df, by rw [h1, h2]; exact h.rh⟩
theorem gA_sound (h : RT ρ s.tm a) {o : Oper} {b : Bool} (hg : gA ops.toList s.tm o = some b) : Region.wanted o (yielded ops a.tmps) = b := by
 unfold gA at hg
 unfold Region.wanted
 split at hg
 ·rename_i hn; simp at hg; subst hg; rw [hn]
 ·rename_i j want hn
  rw [hn]
  split at hg
  ·rename_i oj hj
   split at hg
   ·rename_i d hd
    split at hg
    ·rename_i x hx
     simp at hg; subst hg
     have hr := Qds h d
     rw [hx] at hr
     have hr : a.tmps.getD d undef = .bool x := hr
     have hj' : ops[j]? = some oj := by simpa using hj
     have hy' : a.tmps[d]? = some (.bool x) := by
      rw [Array.getD_eq_getD_getElem?] at hr
      cases hh : a.tmps[d]? with
      | none => rw [hh] at hr; simp [undef] at hr
      | some y => rw [hh] at hr; simpa using hr
     simp only [yielded, hj', Option.bind_some, hd, hy']
     cases x <;> cases want <;> rfl
    ·rename_i l hx
     simp at hg; subst hg
     have hr := Qds h d
     rw [hx] at hr
     obtain ⟨L, _, hr⟩ := hr
     have hj' : ops[j]? = some oj := by simpa using hj
     rw [Array.getD_eq_getD_getElem?] at hr
     simp only [yielded, hj', Option.bind_some, hd]
     cases hh : a.tmps[d]? with
     | none => rfl
     | some y => rw [hh] at hr; simp at hr; subst hr; rfl
    ·cases hg
   ·cases hg
  ·cases hg
theorem quietS_sound (h : Rel D w0 ρ s a w) {o : Oper} (he : quietS P ops.toList o s = some s') : ∃ V, Yields P ops o V a ∧ Rel D w0 ρ s' (a.put o.dst V) w := by
 unfold quietS at he
 split at he
 ·cases he
 ·rename_i hg
  simp at he; subst he
  exact ⟨undef, .inr ⟨gA_sound h.tm hg, rfl⟩, h.put (undef_R ρ) _⟩
 ·rename_i hg
  split at he
  ·rename_i v hv
   simp at he; subst he
   obtain ⟨V, hr, hrun⟩ := evPure_sound h.tm hv
   exact ⟨V, .inl ⟨gA_sound h.tm hg, hrun⟩, h.put hr _⟩
  ·cases he
theorem liftC_R {l : List C0} {L : List Value} (h : All2 (C0.R ρ) l L) : All2 (AV.R ρ) (liftC l) L := by
 refine All2.of (by simp [liftC, h.len]) fun i x hx => ?_
 simp only [liftC, List.getElem?_map] at hx
 obtain ⟨y, hy, rfl⟩ := Option.map_eq_some_iff.1 hx
 exact h.get i hy
theorem df_mono {ρ' : Ren} (hle : ρ.le ρ') {l : List (FuncId × List C0)} {m : List Deferred}
    (h : All2 (fun (x : FuncId × List C0) (d : Deferred) => ∃ C, All2 (C0.R ρ) x.2 C ∧ d = { target := .fn (.func x.1) C.toArray, args := #[] }) l m) :
    All2 (fun (x : FuncId × List C0) (d : Deferred) => ∃ C, All2 (C0.R ρ') x.2 C ∧ d = { target := .fn (.func x.1) C.toArray, args := #[] }) l m :=
 h.imp fun x d ⟨C, h1, h2⟩ => ⟨C, h1.imp (C0.mono hle), h2⟩
theorem Rel.put' {ρ' : Ren} (h : Rel D w0 ρ s a w) (hle : ρ.le ρ') {H : Hp} {dead : List Nat} {w' : World} (hR : RH D w0 ρ' H dead w') {v : AV} {V : Value} (hv : v.R ρ' V) (dst : Option Tmp) :
    Rel D w0 ρ' { s.put dst v with H := H, dead := dead } (a.put dst V) w' := by
 obtain ⟨h1, h2, h3, h4⟩ := St.put_H s dst v
 refine ⟨?_, ?_, hR⟩
 ·show RT ρ' (s.put dst v).tm _
  rw [St.put_tm]; exact RT.put (All2.imp (AV.mono hle) h.tm) hv dst
 ·show All2 _ (s.put dst v).df _
  rw [h3, put_defers]; exact df_mono hle h.df
theorem stepS_sound (hc : Qel P D w0 call) (h : Rel D w0 ρ s a w) {pre i : Nat} {o : Oper} (hi : ops[i]? = some o) (he : stepS P call ops.toList pre i o s = some s') {K : Act → World → Prop}
    (hK : ∀ ρ' a' w', ρ.le ρ' → Rel D w0 ρ' s' a' w' → K a' w') : wpOp P ops Q i K a w := by
 unfold stepS at he
 split at he
 ·rename_i s1 hq
  simp at he; subst he
  obtain ⟨V, hy, hR⟩ := quietS_sound (P := P) h hq
  exact hy.wpOp hi (hK ρ _ _ (Ren.le_refl _) hR)
 ·split at he
  ·rename_i hg
   have hw := gA_sound (ops := ops) h.tm hg
   unfold wpOp
   simp only [hi, hw, if_true]
   left
   split at he
   ·rename_i v H dead hm
    simp at he; subst he
    obtain ⟨ρ', n, V, w', hle, hrun, hn, hv, hR⟩ := evMem_sound (P := P) h.rh h.tm hm
    unfold Oper.wp
    rw [hrun]
    rcases hn with rfl | ⟨rfl, rfl⟩
    ·exact hK ρ' _ _ hle (h.put' hle hR hv _)
    ·exact hK ρ' _ _ hle (h.put' hle hR hv _)
   ·split at he
    ·rename_i v H dead hm
     simp at he; subst he
     unfold evCallOp at hm
     split at hm
     ·rename_i f args _ hop
      split at hm
      ·rename_i k first cap xs hf has
       obtain ⟨F, C, hF, hC, hfe⟩ := Qay h.tm hf
       have hall := ((liftC_R hF).app (Qep h.tm has)).app (liftC_R hC)
       obtain ⟨⟨fn, hfn, hnm, hbd⟩, hcall⟩ := hc _ _ _ _ _ _ _ _ _ _ _ hm h.rh hall
       have hrun : (execOp a.eval o).run P w = .ok (.enter k (F ++ args.toList.map a.eval ++ C).toArray) w := by
        simp only [execOp, hop, resolve, hfe, Deferred.ofValue, Sem.run_bind, Sem.run_pure, Result.andThen_ok, invoke, callFunc]
        have hp : (program : Sem Program).run P w = .ok P w := rfl
        rw [hp]
        simp only [Result.andThen_ok, hfn, hnm, hbd, if_false, Bool.false_eq_true, Sem.run_pure]
        simp
       unfold Oper.wp
       rw [hrun]
       refine Calls.mono hcall fun e w' hh => ?_
       obtain ⟨ρ', V, hle, rfl, hv, hR⟩ := hh
       exact hK ρ' _ _ hle (h.put' hle hR hv _)
      ·cases hm
     ·cases hm
    ·split at he
     ·rename_i d hd
      simp at he; subst he
      unfold evDefer at hd
      split at hd
      ·rename_i f args _ hop
       split at hd
       ·rename_i k cap hf ha
        simp at hd; subst hd
        obtain ⟨F, C, hF, hC, hfe⟩ := Qay h.tm hf
        have hF0 : F = [] := List.eq_nil_of_length_eq_zero (hF.len ▸ rfl)
        subst hF0
        have ha' : args = #[] := by cases args; simp at ha; subst ha; rfl
        subst ha'
        have hrun : (execOp a.eval o).run P w = .ok (.defer { target := .fn (.func k) C.toArray, args := #[] }) w := by
         simp [execOp, hop, resolve, hfe, Deferred.ofValue]
        unfold Oper.wp
        rw [hrun]
        refine hK ρ _ _ (Ren.le_refl _) ?_
        obtain ⟨h1, h2, h3, h4⟩ := St.put_H s o.dst Qd6
        refine ⟨?_, ?_, ?_⟩
        ·show RT ρ (s.put o.dst Qd6).tm _
         rw [St.put_tm]
         exact RT.put (a := { a with defers := _ :: a.defers }) h.tm (undef_R ρ) _
        ·show All2 _ ((k, cap) :: s.df) _
         rw [put_defers]
         exact ⟨⟨C, hC, rfl⟩, h.df⟩
        ·show RH D w0 ρ (s.put o.dst Qd6).H (s.put o.dst Qd6).dead w
         rw [h1, h2]; exact h.rh
       ·cases hd
      ·cases hd
     ·cases he
  ·cases he
def evSeq (f : Nat → Oper → St → Option St) : Nat → List Oper → St → Option St
 | _, [], s => some s
 | i, o :: rest, s => match f i o s with
  | some s' => evSeq f (i + 1) rest s'
  | none => none
theorem evSeq_sound (hc : Qel P D w0 call) {pre : Nat} {sF : St} (hQ : ∀ ρ' a' w', ρ.le ρ' → Rel D w0 ρ' sF a' w' → Q .normal a' w') :
    ∀ (l : List Oper) (i : Nat) (ρ1 : Ren) (s : St) (a : Act) (w : World), ρ.le ρ1 → Rel D w0 ρ1 s a w → (∀ j, l[j]? = ops[i + j]?) → evSeq (stepS P call ops.toList pre) i l s = some sF →
     wpOps P ops Q (List.range' i l.length) a w
 | [], i, ρ1, s, a, w, hle, h, hl, he => by
  simp [evSeq] at he; subst he
  exact hQ ρ1 a w hle h
 | o :: rest, i, ρ1, s, a, w, hle, h, hl, he => by
  unfold evSeq at he
  split at he
  ·rename_i s' hs
   have hi : ops[i]? = some o := by have := hl 0; simpa using this.symm
   simp only [List.length_cons, List.range'_succ]
   rw [wpOps_cons]
   refine stepS_sound hc h hi hs fun ρ' a' w' hle' h' => ?_
   exact evSeq_sound hc hQ rest (i + 1) ρ' s' a' w' (hle.trans hle') h' (fun j => by have := hl (j + 1); simpa [Nat.add_assoc, Nat.add_comm 1 j] using this) he
  ·cases he
end
end Go.Proofs.YtchpkjgibloleaaGreat.V
namespace Go.Proofs.YtchpkjgibloleaaGreat.V
set_option maxRecDepth 100000
set_option maxHeartbeats 8000000
open Go
def Qdz (o : Oper) : List Nat := (o.after.toList.filter fun e => Region.binds .any e).map (·.on)
def rdyL : Nat → List (List Nat) → List Bool → List Bool → List Nat
 | i, d :: ds, b :: bs, l => if !b && d.all (fun j => (l[j]?).getD false) then i :: rdyL (i + 1) ds bs l else rdyL (i + 1) ds bs l
 | _, _, _, _ => []
theorem mem_rdyL {l : List Bool} {i : Nat} : ∀ {k : Nat} {ds : List (List Nat)} {bs : List Bool}, i ∈ rdyL k ds bs l ↔
    ∃ j d, i = k + j ∧ ds[j]? = some d ∧ bs[j]? = some false ∧ d.all (fun j => (l[j]?).getD false) = true
 | k, [], bs => by simp [rdyL]
 | k, d :: ds, [] => by simp [rdyL]
 | k, d :: ds, b :: bs => by
  unfold rdyL
  have ih := mem_rdyL (l := l) (i := i) (k := k + 1) (ds := ds) (bs := bs)
  have shift : (∃ j d', i = k + j ∧ (d :: ds)[j]? = some d' ∧ (b :: bs)[j]? = some false ∧ d'.all (fun j => (l[j]?).getD false) = true) ↔
      (i = k ∧ b = false ∧ d.all (fun j => (l[j]?).getD false) = true) ∨ ∃ j d', i = k + 1 + j ∧ ds[j]? = some d' ∧ bs[j]? = some false ∧ d'.all (fun j => (l[j]?).getD false) = true := by
   constructor
   ·rintro ⟨j, d', h1, h2, h3, h4⟩
    cases j with
    | zero => simp at h2 h3; subst h2; exact .inl ⟨h1, h3, h4⟩
    | succ j => exact .inr ⟨j, d', by omega, by simpa using h2, by simpa using h3, h4⟩
   ·rintro (⟨h1, h2, h3⟩ | ⟨j, d', h1, h2, h3, h4⟩)
    ·exact ⟨0, d, by omega, by simp, by simp [h2], h3⟩
    ·exact ⟨j + 1, d', by omega, by simpa using h2, by simpa using h3, h4⟩
  rw [shift]
  split
  ·rename_i hb
   simp only [Bool.and_eq_true, Bool.not_eq_true'] at hb
   rw [List.mem_cons, ih]
   constructor
   ·rintro (h | h)
    ·exact .inl ⟨h, hb.1, hb.2⟩
    ·exact .inr h
   ·rintro (⟨h, _⟩ | h)
    ·exact .inl h
    ·exact .inr h
  ·rename_i hb
   rw [ih]
   constructor
   ·exact .inr
   ·rintro (⟨h1, h2, h3⟩ | h)
    ·simp [h2, h3] at hb
    ·exact h
theorem mem_rdy {ops : Array Oper} {l : List Bool} (hl : l.length = ops.size) {i : Nat} :
    i ∈ Region.ready .any ops l.toArray ↔ i ∈ rdyL 0 (ops.toList.map Qdz) l l := by
 rw [mem_ready, mem_rdyL]
 constructor
 ·rintro ⟨h1, o, h2, h3⟩
  refine ⟨i, Qdz o, by omega, by simp [h2], ?_, ?_⟩
  ·have hlt : i < l.length := by rw [hl]; exact (Array.getElem?_eq_some_iff.1 h2).1
   simp [hlt] at h1
   simp [List.getElem?_eq_getElem hlt, h1]
  ·rw [List.all_eq_true]
   intro j hj
   simp only [Qdz, List.mem_map, List.mem_filter] at hj
   obtain ⟨e, ⟨he, hb⟩, rfl⟩ := hj
   have := h3 e (by simpa using he) hb
   simpa [Array.getD_eq_getD_getElem?] using this
 ·rintro ⟨j, d, h1, h2, h3, h4⟩
  have hij : i = j := by omega
  subst hij
  simp only [List.getElem?_map, Array.getElem?_toList] at h2
  obtain ⟨o, ho, rfl⟩ := Option.map_eq_some_iff.1 h2
  refine ⟨by simp [Array.getD_eq_getD_getElem?, h3], o, ho, fun e he hb => ?_⟩
  rw [List.all_eq_true] at h4
  have := h4 e.on (List.mem_map.2 ⟨e, List.mem_filter.2 ⟨by simpa using he, hb⟩, rfl⟩)
  simpa [Array.getD_eq_getD_getElem?] using this
def freeL (opsA : Array Oper) (i : Nat) (oi : Oper) : Nat → List Oper → List (List Nat) → List Bool → Bool
 | j, oj :: os, d :: ds, b :: bs => (j == i || b || d.contains i || oi.apart opsA oj) && freeL opsA i oi (j + 1) os ds bs
 | _, _, _, _ => true
theorem freeL_spec {opsA : Array Oper} {i : Nat} {oi : Oper} : ∀ {k : Nat} {os : List Oper} {ds : List (List Nat)} {bs : List Bool}, freeL opsA i oi k os ds bs = true →
    ∀ j oj d, os[j]? = some oj → ds[j]? = some d → bs[j]? = some false → k + j ≠ i → ¬ i ∈ d → oi.apart opsA oj = true
 | k, o :: os, d :: ds, b :: bs, h, j, oj, d', h1, h2, h3, hne, hd => by
  simp only [freeL, Bool.and_eq_true, Bool.or_eq_true] at h
  cases j with
  | zero =>
   simp at h1 h2 h3
   subst h1; subst h2; subst h3
   rcases h.1 with ((hh | hh) | hh) | hh
   ·simp at hh; omega
   ·cases hh
   ·simp at hh; exact absurd hh hd
   ·exact hh
  | succ j =>
   exact freeL_spec h.2 j oj d' (by simpa using h1) (by simpa using h2) (by simpa using h3) (by omega) hd
 | k, [], _, _, _, j, oj, d', h1, _, _, _, _ => by simp at h1
 | k, _ :: _, [], _, _, j, oj, d', _, h2, _, _, _ => by simp at h2
 | k, _ :: _, _ :: _, [], _, j, oj, d', _, _, h3, _, _ => by simp at h3
inductive Nd where
 | tk (i t : Nat)
 | br (l : List (Nat × Nat))
abbrev Lv := List (List Bool × Nd)
def idxOf (m : List Bool) : Nat → List (List Bool) → Nat × List (List Bool)
 | k, [] => (k, [m])
 | k, x :: xs => if x = m then (k, x :: xs) else let r := idxOf m (k + 1) xs; (r.1, x :: r.2)
def quietOp : Op → Bool
 | .move _ | .assign _ | .pick .. | .extract .. | .nilCheck _ | .fieldAddr .. | .field .. | .indexAddr .. | .slice .. | .makeFunc .. | .build .. | .binOp .. | .unOp .. | .convert .. | .index .. => true
 | .call { callee := .builtin .len, .. } | .call { callee := .builtin .max, .. } | .call { callee := .builtin .min, .. } => true
 | _ => false
def firstQ (opsA : Array Oper) (ops : List Oper) (ds : List (List Nat)) (m : List Bool) : List Nat → Option Nat
 | [] => none
 | i :: l => match ops[i]? with
  | some o => if quietOp o.op && freeL opsA i o 0 ops ds m then some i else firstQ opsA ops ds m l
  | none => none
def mkBr (m : List Bool) : List Nat → List (List Bool) → List (Nat × Nat) × List (List Bool)
 | [], acc => ([], acc)
 | i :: l, acc => let r := idxOf (m.set i true) 0 acc; let q := mkBr m l r.2; ((i, r.1) :: q.1, q.2)
def mkLv (opsA : Array Oper) (ops : List Oper) (ds : List (List Nat)) : List (List Bool) → List (List Bool) → Lv × List (List Bool)
 | [], acc => ([], acc)
 | m :: ms, acc => match firstQ opsA ops ds m (rdyL 0 ds m m) with
  | some i => let r := idxOf (m.set i true) 0 acc; let q := mkLv opsA ops ds ms r.2; ((m, .tk i r.1) :: q.1, q.2)
  | none => let r := mkBr m (rdyL 0 ds m m) acc; let q := mkLv opsA ops ds ms r.2; ((m, .br r.1) :: q.1, q.2)
def mkLvs (opsA : Array Oper) (ops : List Oper) (ds : List (List Nat)) : Nat → List (List Bool) → List Lv
 | 0, _ => []
 | n + 1, ms => let r := mkLv opsA ops ds ms []; r.1 :: mkLvs opsA ops ds n r.2
def masksOf (n : Nat) : List Lv → List (List Bool)
 | [] => [List.replicate n true]
 | L :: _ => L.map (·.1)
def chkNd (opsA : Array Oper) (ops : List Oper) (ds : List (List Nat)) (nm : List (List Bool)) (x : List Bool × Nd) : Bool :=
 match x.2 with
 | .tk i t => match ops[i]? with
  | some o => (rdyL 0 ds x.1 x.1).contains i && freeL opsA i o 0 ops ds x.1 && nm[t]? = some (x.1.set i true)
  | none => false
 | .br l => rdyL 0 ds x.1 x.1 = l.map (·.1) && !l.isEmpty && l.all fun p => nm[p.2]? = some (x.1.set p.1 true)
def chkLvs (opsA : Array Oper) (ops : List Oper) (ds : List (List Nat)) (n : Nat) : List Lv → Bool
 | [] => true
 | L :: rest => L.all (chkNd opsA ops ds (masksOf n rest)) && chkLvs opsA ops ds n rest
def Qev : Nat → St → List (Option St) → Option (List (Option St))
 | 0, s, none :: l => some (some s :: l)
 | 0, s, some t :: l => if t = s then some (some t :: l) else none
 | n + 1, s, x :: l => match Qev n s l with
  | some l' => some (x :: l')
  | none => none
 | _, _, [] => none
theorem Qen : ∀ {n : Nat} {s : St} {l l' : List (Option St)}, Qev n s l = some l' → l'[n]? = some (some s) ∧ ∀ (j : Nat) (t : St), l[j]? = some (some t) → l'[j]? = some (some t)
 | 0, s, none :: l, l', h => by
  simp [Qev] at h; subst h
  refine ⟨by simp, fun j t ht => ?_⟩
  cases j with
  | zero => simp at ht
  | succ j => simpa using ht
 | 0, s, some t :: l, l', h => by
  simp only [Qev] at h
  split at h
  ·rename_i he
   simp at h; subst h; subst he
   exact ⟨by simp, fun j t ht => ht⟩
  ·cases h
 | n + 1, s, x :: l, l', h => by
  simp only [Qev] at h
  split at h
  ·rename_i l1 h1
   simp at h; subst h
   obtain ⟨h2, h3⟩ := Qen h1
   refine ⟨by simpa using h2, fun j t ht => ?_⟩
   cases j with
   | zero => simpa using ht
   | succ j => simpa using h3 j t (by simpa using ht)
  ·cases h
 | 0, s, [], l', h => by simp [Qev] at h
 | n + 1, s, [], l', h => by simp [Qev] at h
noncomputable def runBr (P : Program) (call : Qdq) (ops : List Oper) (pre : Nat) (s : St) : List (Nat × Nat) → List (Option St) → Option (List (Option St))
 | [], acc => some acc
 | (i, t) :: l, acc => match ops[i]? with
  | some o => match stepS P call ops pre i o s with
   | some s' => match Qev t s' acc with
    | some acc' => runBr P call ops pre s l acc'
    | none => none
   | none => none
  | none => none
noncomputable def runNd (P : Program) (call : Qdq) (ops : List Oper) (pre : Nat) (s : St) (nd : Nd) (acc : List (Option St)) : Option (List (Option St)) :=
 match nd with
 | .tk i t => match ops[i]? with
  | some o => match quietS P ops o s with
   | some s' => Qev t s' acc
   | none => none
  | none => none
 | .br l => runBr P call ops pre s l acc
noncomputable def runLv (P : Program) (call : Qdq) (ops : List Oper) (pre : Nat) : Lv → List (Option St) → List (Option St) → Option (List (Option St))
 | [], _, acc => some acc
 | x :: L, some s :: ss, acc => match runNd P call ops pre s x.2 acc with
  | some acc' => runLv P call ops pre L ss acc'
  | none => none
 | _ :: _, _, _ => none
noncomputable def runLvs (P : Program) (call : Qdq) (ops : List Oper) (pre n : Nat) : List Lv → List (Option St) → Option (List (Option St))
 | [], ss => some ss
 | L :: rest, ss => match runLv P call ops pre L ss (List.replicate (masksOf n rest).length none) with
  | some ss' => runLvs P call ops pre n rest ss'
  | none => none
theorem runBr_spec {P : Program} {call : Qdq} {ops : List Oper} {pre : Nat} {s : St} : ∀ {l : List (Nat × Nat)} {acc acc' : List (Option St)}, runBr P call ops pre s l acc = some acc' →
    (∀ p ∈ l, ∃ o s', ops[p.1]? = some o ∧ stepS P call ops pre p.1 o s = some s' ∧ acc'[p.2]? = some (some s')) ∧ ∀ (j : Nat) (t : St), acc[j]? = some (some t) → acc'[j]? = some (some t)
 | [], acc, acc', h => by simp [runBr] at h; subst h; exact ⟨by simp, fun j t h => h⟩
 | (i, t) :: l, acc, acc', h => by
  simp only [runBr] at h
  split at h
  ·rename_i o ho
   split at h
   ·rename_i s' hs
    split at h
    ·rename_i acc1 ha
     obtain ⟨h1, h2⟩ := Qen ha
     obtain ⟨h3, h4⟩ := runBr_spec h
     refine ⟨fun p hp => ?_, fun j t ht => h4 j t (h2 j t ht)⟩
     rcases List.mem_cons.1 hp with rfl | hp
     ·exact ⟨o, s', ho, hs, h4 _ _ h1⟩
     ·exact h3 p hp
    ·cases h
   ·cases h
  ·cases h
theorem runNd_keep {P : Program} {call : Qdq} {ops : List Oper} {pre : Nat} {s : St} {nd : Nd} {acc acc' : List (Option St)} (h : runNd P call ops pre s nd acc = some acc') :
    ∀ (j : Nat) (t : St), acc[j]? = some (some t) → acc'[j]? = some (some t) := by
 unfold runNd at h
 split at h
 ·split at h
  ·split at h
   ·exact (Qen h).2
   ·cases h
  ·cases h
 ·exact (runBr_spec h).2
theorem runLv_spec {P : Program} {call : Qdq} {ops : List Oper} {pre : Nat} : ∀ {L : Lv} {ss acc acc' : List (Option St)}, runLv P call ops pre L ss acc = some acc' →
    (∀ (k : Nat) (x : List Bool × Nd) (s : St), L[k]? = some x → ss[k]? = some (some s) → ∃ a1 a2, runNd P call ops pre s x.2 a1 = some a2 ∧ ∀ (j : Nat) (t : St), a2[j]? = some (some t) → acc'[j]? = some (some t)) ∧
     ∀ (j : Nat) (t : St), acc[j]? = some (some t) → acc'[j]? = some (some t)
 | [], ss, acc, acc', h => by simp [runLv] at h; subst h; exact ⟨fun k x s hk => by simp at hk, fun j t h => h⟩
 | x :: L, some s :: ss, acc, acc', h => by
  simp only [runLv] at h
  split at h
  ·rename_i a1 ha
   obtain ⟨h1, h2⟩ := runLv_spec h
   refine ⟨fun k y s' hk hs => ?_, fun j t ht => h2 j t (runNd_keep ha j t ht)⟩
   cases k with
   | zero => simp at hk hs; subst hk; subst hs; exact ⟨acc, a1, ha, h2⟩
   | succ k => exact h1 k y s' (by simpa using hk) (by simpa using hs)
  ·cases h
 | _ :: _, [], _, _, h => by simp [runLv] at h
 | _ :: _, none :: _, _, _, h => by simp [runLv] at h
section
variable {P : Program} {D : Nat → Prop} {w0 : World} {ρ : Ren} {s s' : St} {a : Act} {w : World} {call : Qdq} {ops : Array Oper} {Q : Exit → Act → World → Prop}
def Good (P : Program) (D : Nat → Prop) (w0 : World) (ops : Array Oper) (ρ : Ren) (Q : Exit → Act → World → Prop) (fuel : Nat) (m : List Bool) (s : St) : Prop :=
 m.length = ops.size → ∀ ρ1 a w, ρ.le ρ1 → Rel D w0 ρ1 s a w → wpAny P .any ops Q fuel m.toArray a w
theorem set_toArray (l : List Bool) (i : Nat) : l.toArray.setIfInBounds i true = (l.set i true).toArray := by simp
theorem tk_good (hsel : Region.noSelect ops = true) {fuel i : Nat} {o : Oper} {m : List Bool} (hQ : ∀ c a w, ¬ Q (.panic c) a w) (hi : i ∈ rdyL 0 (ops.toList.map Qdz) m m) (ho : ops[i]? = some o)
    (hq : quietS P ops.toList o s = some s') (hf : freeL ops i o 0 ops.toList (ops.toList.map Qdz) m = true) (hg : Good P D w0 ops ρ Q fuel (m.set i true) s') : Good P D w0 ops ρ Q (fuel + 1) m s := by
 intro hl ρ1 a w hle hR
 obtain ⟨V, hyi, hR'⟩ := quietS_sound (P := P) hR hq
 have hmem : i ∈ Region.ready .any ops m.toArray := (mem_rdy hl).2 hi
 refine wpAny_first ho (Region.noSelect_spec hsel) (fun c a w hh => absurd hh (hQ _ _ _)) fuel _ a w ?_ hmem hyi ?_
 ·intro j oj hj hne hun hno
  have hjl : j < m.length := by rw [hl]; exact (Array.getElem?_eq_some_iff.1 hj).1
  refine freeL_spec hf j oj (Qdz oj) (by simpa using hj) (by simp [hj]) ?_ (by omega) ?_
  ·simp [hjl] at hun
   simp [List.getElem?_eq_getElem hjl, hun]
  ·intro hh
   simp only [Qdz, List.mem_map, List.mem_filter] at hh
   obtain ⟨e, ⟨he, hb⟩, he2⟩ := hh
   exact hno e (by simpa using he) hb he2
 ·rw [set_toArray]
  exact hg (by simpa using hl) ρ1 _ _ hle hR'
theorem br_good (hc : Qel P D w0 call) {pre fuel : Nat} {m : List Bool} (hne : rdyL 0 (ops.toList.map Qdz) m m ≠ [])
    (h : ∀ i ∈ rdyL 0 (ops.toList.map Qdz) m m, ∃ o s', ops[i]? = some o ∧ stepS P call ops.toList pre i o s = some s' ∧ Good P D w0 ops ρ Q fuel (m.set i true) s') : Good P D w0 ops ρ Q (fuel + 1) m s := by
 intro hl ρ1 a w hle hR
 refine ⟨fun h0 => ?_, fun i hi => ?_⟩
 ·obtain ⟨i0, hi0⟩ := List.exists_mem_of_ne_nil _ hne
  have : i0 ∈ Region.ready .any ops m.toArray := (mem_rdy hl).2 hi0
  rw [h0] at this; cases this
 ·obtain ⟨o, s', ho, hs, hg⟩ := h i ((mem_rdy hl).1 hi)
  refine stepS_sound hc hR ho hs fun ρ' a' w' hle' hR' => ?_
  rw [set_toArray]
  exact hg (by simpa using hl) ρ' _ _ (hle.trans hle') hR'
theorem runLvs_good (hc : Qel P D w0 call) (hsel : Region.noSelect ops = true) {pre : Nat} (hQ : ∀ c a w, ¬ Q (.panic c) a w) {sF : St} (hF : Good P D w0 ops ρ Q 0 (List.replicate ops.toList.length true) sF) : ∀ (Ls : List Lv) {ss : List (Option St)},
    chkLvs ops ops.toList (ops.toList.map Qdz) ops.toList.length Ls = true → runLvs P call ops.toList pre ops.toList.length Ls ss = some [some sF] →
    ∀ (k : Nat) (m : List Bool) (s : St), (masksOf ops.toList.length Ls)[k]? = some m → ss[k]? = some (some s) → Good P D w0 ops ρ Q Ls.length m s
 | [], ss, _, h, k, m, s, hm, hs => by
  simp [runLvs] at h; subst h
  cases k with
  | zero => simp [masksOf] at hm hs; subst hm; subst hs; simpa using hF
  | succ k => simp at hs
 | L :: rest, ss, hchk, h, k, m, s, hm, hs => by
  simp only [runLvs] at h
  split at h
  ·rename_i ss' hss
   simp only [chkLvs, Bool.and_eq_true, List.all_eq_true] at hchk
   obtain ⟨hL, hrest⟩ := hchk
   have ih := runLvs_good hc hsel hQ hF rest hrest h
   obtain ⟨h1, _⟩ := runLv_spec hss
   simp only [masksOf, List.getElem?_map] at hm
   obtain ⟨x, hx, rfl⟩ := Option.map_eq_some_iff.1 hm
   obtain ⟨a1, a2, hrun, hkeep⟩ := h1 k x s hx hs
   have hck := hL x (List.mem_of_getElem? hx)
   unfold chkNd at hck
   unfold runNd at hrun
   split at hck
   ·rename_i i t hnd
    rw [hnd] at hrun
    simp only at hrun
    split at hck
    ·rename_i o ho
     rw [ho] at hrun
     simp only at hrun
     simp only [Bool.and_eq_true, decide_eq_true_eq] at hck
     obtain ⟨⟨hr, hf⟩, hnm⟩ := hck
     split at hrun
     ·rename_i s' hq
      have hp := hkeep t s' (Qen hrun).1
      exact tk_good hsel hQ (by simpa using hr) (by simpa using ho) hq hf (ih t _ s' hnm hp)
     ·cases hrun
    ·cases hck
   ·rename_i l hnd
    rw [hnd] at hrun
    simp only [Bool.and_eq_true, decide_eq_true_eq, List.all_eq_true, Bool.not_eq_true'] at hck
    obtain ⟨⟨hr, hne⟩, hall⟩ := hck
    obtain ⟨hb, _⟩ := runBr_spec hrun
    refine br_good (pre := pre) hc ?_ fun i hi => ?_
    ·rw [hr]; intro h0; cases l with
     | nil => simp at hne
     | cons p l => simp at h0
    ·rw [hr] at hi
     obtain ⟨p, hp, rfl⟩ := List.mem_map.1 hi
     obtain ⟨o, s', ho, hs', hacc⟩ := hb p hp
     exact ⟨o, s', by simpa using ho, hs', ih p.2 _ s' (hall p hp) (hkeep _ _ hacc)⟩
  ·cases h
noncomputable def evRegion (P : Program) (call : Qdq) (pre : Nat) (ops : Array Oper) (draw : Bool) (s : St) : Option St :=
 if draw then
  let Ls := mkLvs ops ops.toList (ops.toList.map Qdz) ops.toList.length [List.replicate ops.toList.length false]
  if Region.noSelect ops && chkLvs ops ops.toList (ops.toList.map Qdz) ops.toList.length Ls && decide (masksOf ops.toList.length Ls = [List.replicate ops.toList.length false]) && decide (Ls.length = ops.toList.length) then
   match runLvs P call ops.toList pre ops.toList.length Ls [some s] with
   | some [some s'] => some { s' with r := s'.r + 1 }
   | _ => none
  else none
 else match evSeq (stepS P call ops.toList pre) 0 ops.toList s with
  | some s' => some { s' with r := s'.r + 1 }
  | none => none
theorem Rel.r (h : Rel D w0 ρ s a w) (n : Nat) : Rel D w0 ρ { s with r := n } a w := ⟨h.tm, h.df, h.rh⟩
theorem evRegion_sound (hm : P.follows .mixedOrders = true) (hc : Qel P D w0 call) {pre id : Nat} {draw : Bool} (h : Rel D w0 ρ s a w) (he : evRegion P call pre ops draw s = some s')
    (hQ : ∀ ρ' a' w', ρ.le ρ' → Rel D w0 ρ' s' a' w' → Q .normal a' w') : (Code.region id ops draw).wp P Q a w := by
 unfold evRegion at he
 dsimp only at he
 split at he
 ·rename_i hd
  subst hd
  generalize mkLvs ops ops.toList (ops.toList.map Qdz) ops.toList.length [List.replicate ops.toList.length false] = Ls at he
  split at he
  ·rename_i hsel
   simp only [Bool.and_eq_true, decide_eq_true_eq] at hsel
   obtain ⟨⟨⟨hsel, hchk⟩, hmask⟩, hlen⟩ := hsel
   split at he
   ·rename_i sF hlv
    simp at he; subst he
    let Q1 : Exit → Act → World → Prop := fun e a' w' => e = .normal ∧ ∃ ρ', ρ.le ρ' ∧ Rel D w0 ρ' sF a' w'
    have key : (Code.region id ops true).wp P Q1 a w := by
     refine wp_region_any hm ?_
     have hF : Good P D w0 ops ρ Q1 0 (List.replicate ops.toList.length true) sF := by
      intro hl ρ1 a1 w1 hle hR
      refine ⟨?_, rfl, ρ1, hle, hR⟩
      apply List.eq_nil_iff_forall_not_mem.2
      intro i hi
      obtain ⟨j, d, h1, h2, h3, h4⟩ := mem_rdyL.1 ((mem_rdy hl).1 hi)
      rw [List.getElem?_replicate] at h3
      split at h3 <;> simp at h3
     have h2 := runLvs_good (Q := Q1) (ρ := ρ) hc hsel (fun c a w hh => by cases hh.1) hF Ls hchk hlv 0 (List.replicate ops.toList.length false) s (by rw [hmask]; rfl) (by simp) (by simp) ρ a w.drew (Ren.le_refl _) ⟨h.tm, h.df, h.rh.drew⟩
     have e1 : (List.replicate ops.toList.length false).toArray = Array.replicate ops.size false := by simp
     have e2 : ops.toList.length = ops.size := Array.length_toList
     rw [hlen, e1, e2] at h2
     exact h2
    refine wp_mono key fun e a' w' hh => ?_
    obtain ⟨rfl, ρ', hle, hR⟩ := hh
    exact hQ ρ' a' w' hle (hR.r _)
   ·cases he
  ·cases he
 ·rename_i hd
  simp only [Bool.not_eq_true] at hd
  subst hd
  split at he
  ·rename_i sF hs
   simp at he; subst he
   refine wp_region ?_
   have := evSeq_sound (P := P) (ops := ops) (Q := Q) hc (pre := pre) (sF := sF) (fun ρ' a' w' hle hR => hQ ρ' a' w' hle (hR.r _)) ops.toList 0 ρ s a w (Ren.le_refl _) h (fun j => by simp) hs
   rw [List.range_eq_range']
   simpa using this
  ·cases he
inductive Ex where
 | n
 | x (id : Nat)
 | r
 deriving DecidableEq
def Ex.out : Ex → Exit
 | .n => .normal
 | .x id => .exit id
 | .r => .ret
def loopN (f : St → Option (Ex × St)) : Nat → St → Option (Ex × St)
 | 0, _ => none
 | n + 1, s => match f s with
  | some (.n, s') => loopN f n s'
  | r => r
noncomputable def evCode (P : Program) (call : Qdq) (pre N : Nat) : Code → St → Option (Ex × St)
 | .skip, s => some (.n, s)
 | .label _, s => some (.n, s)
 | .ret, s => some (.r, s)
 | .exit id, s => some (.x id, s)
 | .seq a b, s => match evCode P call pre N a s with
  | some (.n, s') => evCode P call pre N b s'
  | r => r
 | .cond c a b, s => match opV s.tm c with
  | some (.c (.c (.b t))) => if t then evCode P call pre N a s else evCode P call pre N b s
  | _ => none
 | .block id c, s => match evCode P call pre N c s with
  | some (.x j, s') => if j = id then some (.n, s') else some (.x j, s')
  | r => r
 | .loop c, s => loopN (evCode P call pre N c) N s
 | .scope c, s => evCode P call pre N c s
 | .region _ ops draw, s => (evRegion P call pre ops draw s).map fun s' => (.n, s')
 | _, _ => none
theorem evCode_sound (hm : P.follows .mixedOrders = true) (hc : Qel P D w0 call) {pre N : Nat} (c : Code) : ∀ {s s' : St} {e : Ex} {ρ : Ren} {a : Act} {w : World} {Q : Exit → Act → World → Prop},
    evCode P call pre N c s = some (e, s') → Rel D w0 ρ s a w → (∀ ρ' a' w', ρ.le ρ' → Rel D w0 ρ' s' a' w' → Q e.out a' w') → c.wp P Q a w := by
 induction c with
 | skip => intro s s' e ρ a w Q he h hQ; simp [evCode] at he; obtain ⟨rfl, rfl⟩ := he; exact wp_skip (hQ ρ a w (Ren.le_refl _) h)
 | label l => intro s s' e ρ a w Q he h hQ; simp [evCode] at he; obtain ⟨rfl, rfl⟩ := he; exact wp_label (hQ ρ a w (Ren.le_refl _) h)
 | ret => intro s s' e ρ a w Q he h hQ; simp [evCode] at he; obtain ⟨rfl, rfl⟩ := he; exact wp_ret (hQ ρ a w (Ren.le_refl _) h)
 | exit id => intro s s' e ρ a w Q he h hQ; simp [evCode] at he; obtain ⟨rfl, rfl⟩ := he; exact wp_exit (hQ ρ a w (Ren.le_refl _) h)
 | goto l => intro s s' e ρ a w Q he h hQ; simp [evCode] at he
 | refuse l => intro s s' e ρ a w Q he h hQ; simp [evCode] at he
 | rangeFunc f ps x y ih1 ih2 => intro s s' e ρ a w Q he h hQ; simp [evCode] at he
 | region id ops draw =>
  intro s s' e ρ a w Q he h hQ
  simp only [evCode] at he
  obtain ⟨s1, hs1, he⟩ := Option.map_eq_some_iff.1 he
  simp at he; obtain ⟨rfl, rfl⟩ := he
  exact evRegion_sound hm hc h hs1 hQ
 | seq x y ih1 ih2 =>
  intro s s' e ρ a w Q he h hQ
  simp only [evCode] at he
  refine wp_seq ?_
  split at he
  ·rename_i s1 hs1
   exact ih1 hs1 h fun ρ' a' w' hle h' => ih2 he h' fun ρ'' a'' w'' hle' h'' => hQ ρ'' a'' w'' (hle.trans hle') h''
  ·rename_i hn
   refine ih1 he h fun ρ' a' w' hle h' => ?_
   have := hQ ρ' a' w' hle h'
   cases e with
   | n => exact absurd he (hn s')
   | x id => exact this
   | r => exact this
 | cond c x y ih1 ih2 =>
  intro s s' e ρ a w Q he h hQ
  simp only [evCode] at he
  split at he
  ·rename_i t hc'
   have h1 : a.eval c = .bool t := Qay h.tm hc'
   refine wp_cond h1 ?_
   cases t with
   | true => exact ih1 he h hQ
   | false => exact ih2 he h hQ
  ·cases he
 | block id c ih =>
  intro s s' e ρ a w Q he h hQ
  simp only [evCode] at he
  refine wp_block ?_
  split at he
  ·rename_i j s1 hs1
   refine ih hs1 h fun ρ' a' w' hle h' => ?_
   split at he
   ·rename_i hj
    simp at he; obtain ⟨rfl, rfl⟩ := he
    show (if j = id then _ else _)
    rw [if_pos hj]; exact hQ ρ' a' w' hle h'
   ·rename_i hj
    simp at he; obtain ⟨rfl, rfl⟩ := he
    show (if j = id then _ else _)
    rw [if_neg hj]; exact hQ ρ' a' w' hle h'
  ·rename_i hn
   refine ih he h fun ρ' a' w' hle h' => ?_
   have := hQ ρ' a' w' hle h'
   cases e with
   | n => exact this
   | x id => exact absurd he (hn _ _)
   | r => exact this
 | loop c ih =>
  intro s s' e ρ a w Q he h hQ
  simp only [evCode] at he
  refine wp_loop_rounds N ?_
  have key : ∀ (n : Nat) {s : St} {ρ1 : Ren} {a : Act} {w : World}, loopN (evCode P call pre N c) n s = some (e, s') → ρ.le ρ1 → Rel D w0 ρ1 s a w → Code.rounds P c Q n a w := by
   intro n
   induction n with
   | zero => intro s ρ1 a w he _ _; simp [loopN] at he
   | succ n ihn =>
    intro s ρ1 a w he hle h
    unfold loopN at he
    rw [rounds_succ]
    split at he
    ·rename_i s1 hs1
     exact ih hs1 h fun ρ' a' w' hle' h' => ihn he (hle.trans hle') h'
    ·rename_i hn
     refine ih he h fun ρ' a' w' hle' h' => ?_
     have := hQ ρ' a' w' (hle.trans hle') h'
     cases e with
     | n => exact absurd he (hn s')
     | x id => exact this
     | r => exact this
  exact key N he (Ren.le_refl _) h
 | scope c ih =>
  intro s s' e ρ a w Q he h hQ
  simp only [evCode] at he
  refine wp_scope_straight (ih he h fun ρ' a' w' hle h' => ?_)
  have := hQ ρ' a' w' hle h'
  cases e <;> exact this
end
end Go.Proofs.YtchpkjgibloleaaGreat.V
namespace Go.Proofs.YtchpkjgibloleaaGreat.V
set_option maxRecDepth 100000
set_option maxHeartbeats 8000000
open Go
def C0.names : C0 → List Nat
 | .p (some (n, _)) => [n]
 | .s (some (n, _)) _ _ _ _ => [n]
 | _ => []
def C1.names : C1 → List Nat
 | .c x => x.names
 | .f _ a b => a.flatMap C0.names ++ b.flatMap C0.names
def T1.names : T1 → List Nat
 | .c x => x.names
 | .g l => l.flatMap C1.names
def AV.names : AV → List Nat
 | .c x => x.names
 | .g l => l.flatMap C1.names
 | .t l => l.flatMap T1.names
noncomputable def dfs (H : Hp) : Nat → List Nat → List Nat → List Nat
 | 0, _, seen => seen
 | _ + 1, [], seen => seen
 | k + 1, n :: rest, seen => if seen.contains n then dfs H k rest seen else match get H n with
  | some e => dfs H k (e.cs.flatMap C1.names ++ rest) (n :: seen)
  | none => dfs H k rest (n :: seen)
def gcK (keep : Nat → Bool) (H0 : Hp) (r : AV) (H : Hp) (dead : List Nat) : Hp × List Nat :=
 if r.names.all keep && ((H.filter fun e => keep e.1).all fun e => (e.2.cs.flatMap C1.names).all keep) && (H0.map (·.1)).all keep then (H.filter fun e => keep e.1, dead.filter keep) else (H, dead)
noncomputable def gc (H0 : Hp) (dead0 : List Nat) (r : AV) (H : Hp) (dead : List Nat) : Hp × List Nat :=
 gcK (fun n => (dfs H 4000 (r.names ++ H0.map (·.1)) []).contains n || dead0.contains n) H0 r H dead
def Ren.only (ρ : Ren) (keep : Nat → Bool) : Ren := fun n => if keep n then ρ n else none
section
variable {ρ : Ren} {keep : Nat → Bool}
theorem C0.only {x : C0} {v : Value} (h : x.R ρ v) (hk : ∀ n ∈ x.names, keep n = true) : x.R (ρ.only keep) v := by
 cases x with
 | p a =>
  cases a with
  | none => exact h
  | some a => obtain ⟨g, z, h1, h2⟩ := h; exact ⟨g, z, by simp [Ren.only, hk a.1 (by simp [C0.names]), h1], h2⟩
 | s a len cap sz full =>
  cases a with
  | none => exact h
  | some a => obtain ⟨g, z, c, h1, h2⟩ := h; exact ⟨g, z, c, by simp [Ren.only, hk a.1 (by simp [C0.names]), h1], h2⟩
 | _ => exact h
theorem All2.only {α : Type} {R R' : α → Value → Prop} {names : α → List Nat} (hR : ∀ x v, R x v → (∀ n ∈ names x, keep n = true) → R' x v) :
    ∀ {l : List α} {m : List Value}, All2 R l m → (∀ n ∈ l.flatMap names, keep n = true) → All2 R' l m
 | [], [], _, _ => trivial
 | a :: l, b :: m, ⟨h1, h2⟩, h => ⟨hR a b h1 fun n hn => h n (by simp [hn]), All2.only hR h2 fun n hn => h n (by simp only [List.flatMap_cons, List.mem_append]; exact .inr hn)⟩
 | [], _ :: _, hh, _ => hh.elim
 | _ :: _, [], hh, _ => hh.elim
theorem C1.only {x : C1} {v : Value} (h : x.R ρ v) (hk : ∀ n ∈ x.names, keep n = true) : x.R (ρ.only keep) v := by
 cases x with
 | c x => exact C0.only h hk
 | f fn a b =>
  obtain ⟨F, C, h1, h2, h3⟩ := h
  exact ⟨F, C, All2.only (names := C0.names) (fun x v => C0.only) h1 fun n hn => hk n (by simp only [C1.names, List.mem_append]; exact .inl hn),
   All2.only (names := C0.names) (fun x v => C0.only) h2 fun n hn => hk n (by simp only [C1.names, List.mem_append]; exact .inr hn), h3⟩
theorem T1.only {x : T1} {v : Value} (h : x.R ρ v) (hk : ∀ n ∈ x.names, keep n = true) : x.R (ρ.only keep) v := by
 cases x with
 | c x => exact C1.only h hk
 | g l => obtain ⟨L, h1, h2⟩ := h; exact ⟨L, All2.only (names := C1.names) (fun x v => C1.only) h1 hk, h2⟩
theorem AV.only {x : AV} {v : Value} (h : x.R ρ v) (hk : ∀ n ∈ x.names, keep n = true) : x.R (ρ.only keep) v := by
 cases x with
 | c x => exact C1.only h hk
 | g l => obtain ⟨L, h1, h2⟩ := h; exact ⟨L, All2.only (names := C1.names) (fun x v => C1.only) h1 hk, h2⟩
 | t l => obtain ⟨L, h1, h2⟩ := h; exact ⟨L, All2.only (names := T1.names) (fun x v => T1.only) h1 hk, h2⟩
theorem Qdv : ∀ (H : Hp) (n : Nat), get (H.filter fun e => keep e.1) n = if keep n then get H n else none
 | [], n => by simp [Qd4]
 | (m, e) :: H, n => by
  have ih := Qdv H n
  rw [List.filter_cons]
  split
  ·rename_i hm
   rw [Qb7, Qb7]
   by_cases h1 : m = n
   ·subst h1; simp only at hm; simp [hm]
   ·simp only [h1, if_false]; exact ih
  ·rename_i hm
   rw [ih, Qb7]
   by_cases h1 : m = n
   ·subst h1; simp only at hm; simp [hm]
   ·simp only [h1, if_false]
theorem Qey : ∀ {H : Hp} {n : Nat} {e : Ent}, get H n = some e → (n, e) ∈ H
 | (m, e') :: H, n, e, h => by
  rw [Qb7] at h
  split at h
  ·rename_i hm; injection h with h; subst h; subst hm; simp
  ·exact List.mem_cons_of_mem _ (Qey h)
theorem get_key : ∀ {H : Hp} {n : Nat}, (get H n).isSome = true → n ∈ H.map (·.1) := by
 intro H n h
 obtain ⟨e, he⟩ := Option.isSome_iff_exists.1 h
 exact List.mem_map.2 ⟨(n, e), Qey he, rfl⟩
end
section
variable {P : Program} {D : Nat → Prop} {w0 : World}
theorem gcK_sound {ρ0 ρ : Ren} {H0 H : Hp} {dead0 dead : List Nat} {wb w : World} {r : AV} {V : Value} {keep : Nat → Bool} (hd0 : ∀ n ∈ dead0, keep n = true) (h0 : RH D w0 ρ0 H0 dead0 wb) (hle : ρ0.le ρ) (h : RH D w0 ρ H dead w) (hr : r.R ρ V) :
    ∃ ρ', ρ0.le ρ' ∧ RH D w0 ρ' (gcK keep H0 r H dead).1 (gcK keep H0 r H dead).2 w ∧ r.R ρ' V := by
 unfold gcK
 split
 ·rename_i hc
  simp only [Bool.and_eq_true, List.all_eq_true] at hc
  obtain ⟨⟨hc1, hc2⟩, hc3⟩ := hc
  have hdom : ∀ n x, ρ0 n = some x → keep n = true := fun n x hx => by
   rcases h0.fr n x hx with h1 | h1
   ·exact hc3 n (get_key h1)
   ·exact hd0 n h1
  refine ⟨ρ.only keep, fun n x hx => by simp [Ren.only, hdom n x hx, hle n x hx], ⟨?_, ?_, ?_, h.out⟩, AV.only hr hc1⟩
  ·intro n e he
   rw [Qdv] at he
   split at he
   ·rename_i hk
    obtain ⟨g, z, c, h1, h2, h3, h4, h5⟩ := h.hp n e he
    refine ⟨g, z, c, by simp [Ren.only, hk, h1], h2, h3, fun i x hx => ?_, h5⟩
    obtain ⟨y, hy, hR⟩ := h4 i x hx
    refine ⟨y, hy, C1.only hR fun m hm => ?_⟩
    refine hc2 (n, e) (List.mem_filter.2 ⟨Qey he, hk⟩) m ?_
    exact List.mem_flatMap.2 ⟨x, List.mem_of_getElem? hx, hm⟩
   ·cases he
  ·intro n m e e' g z z' he he' hg hg'
   rw [Qdv] at he he'
   split at he
   ·split at he'
    ·rename_i k1 k2
     simp only [Ren.only, k1, k2, if_true] at hg hg'
     exact h.inj n m e e' g z z' he he' hg hg'
    ·cases he'
   ·cases he
  ·intro n x hx
   unfold Ren.only at hx
   split at hx
   ·rename_i hk
    rw [Qdv, if_pos hk]
    rcases h.fr n x hx with h1 | h1
    ·exact .inl h1
    ·exact .inr (List.mem_filter.2 ⟨h1, hk⟩)
   ·cases hx
 ·exact ⟨ρ, hle, h, hr⟩
theorem gc_sound {ρ0 ρ : Ren} {H0 H : Hp} {dead0 dead : List Nat} {wb w : World} {r : AV} {V : Value} (h0 : RH D w0 ρ0 H0 dead0 wb) (hle : ρ0.le ρ) (h : RH D w0 ρ H dead w) (hr : r.R ρ V) :
    ∃ ρ', ρ0.le ρ' ∧ RH D w0 ρ' (gc H0 dead0 r H dead).1 (gc H0 dead0 r H dead).2 w ∧ r.R ρ' V :=
 gcK_sound (fun n hn => by simp [hn]) h0 hle h hr
section force
variable {α β : Type}
noncomputable def forceB (b : Bool) (f : Bool → α) : α := @Bool.rec (fun _ => α) (f false) (f true) b
theorem forceB_eq (b : Bool) (f : Bool → α) : forceB b f = f b := by cases b <;> rfl
noncomputable def forceI (n : Int) (f : Int → α) : α := @Int.rec (fun _ => α) (fun m => forceN m fun m => f (.ofNat m)) (fun m => forceN m fun m => f (.negSucc m)) n
theorem forceI_eq (n : Int) (f : Int → α) : forceI n f = f n := by cases n <;> simp [forceI, Qdj]
noncomputable def forceK (k : IntKind) (f : IntKind → α) : α := @IntKind.rec (fun _ => α) (f .i8) (f .i16) (f .i32) (f .i64) (f .u8) (f .u16) (f .u32) (f .u64) k
theorem forceK_eq (k : IntKind) (f : IntKind → α) : forceK k f = f k := by cases k <;> rfl
noncomputable def forceO (g : β → (β → α) → α) (x : Option β) (f : Option β → α) : α := @Option.rec β (fun _ => α) (f none) (fun y => g y fun y => f (some y)) x
theorem forceO_eq {g : β → (β → α) → α} (hg : ∀ y f, g y f = f y) (x : Option β) (f : Option β → α) : forceO g x f = f x := by cases x <;> simp [forceO, hg]
noncomputable def forceL (g : β → (β → α) → α) (l : List β) : (List β → α) → α := @List.rec β (fun _ => (List β → α) → α) (fun f => f []) (fun x _ ih f => g x fun x => ih fun l => f (x :: l)) l
theorem Qcu {g : β → (β → α) → α} (hg : ∀ y f, g y f = f y) : ∀ (l : List β) (f : List β → α), forceL g l f = f l
 | [], f => rfl
 | x :: l, f => by show g x (fun x => forceL g l fun l => f (x :: l)) = _; rw [hg, Qcu hg l]
noncomputable def forceA (a : Nat × Nat) (f : Nat × Nat → α) : α := forceN a.1 fun n => forceN a.2 fun o => f (n, o)
theorem forceA_eq (a : Nat × Nat) (f : Nat × Nat → α) : forceA a f = f a := by simp [forceA, Qdj]
noncomputable def forceC0 (x : C0) (f : C0 → α) : α :=
 match x with
 | .b b => forceB b fun b => f (.b b)
 | .i k n => forceK k fun k => forceI n fun n => f (.i k n)
 | .p a => forceO forceA a fun a => f (.p a)
 | .s a len cap sz full => forceO forceA a fun a => forceN len fun len => forceO forceN cap fun cap => forceN sz fun sz => forceB full fun full => f (.s a len cap sz full)
 | .nilI => f .nilI
 | .nilF => f .nilF
theorem forceC0_eq (x : C0) (f : C0 → α) : forceC0 x f = f x := by
 cases x <;> simp only [forceC0, forceB_eq, forceK_eq, forceI_eq, Qdj, forceO_eq forceA_eq, forceO_eq Qdj]
noncomputable def forceC1 (x : C1) (f : C1 → α) : α :=
 match x with
 | .c x => forceC0 x fun x => f (.c x)
 | .f fn a b => forceN fn fun fn => forceL forceC0 a fun a => forceL forceC0 b fun b => f (.f fn a b)
theorem Qdx (x : C1) (f : C1 → α) : forceC1 x f = f x := by
 cases x <;> simp only [forceC1, forceC0_eq, Qdj, Qcu forceC0_eq]
noncomputable def forceT1 (x : T1) (f : T1 → α) : α :=
 match x with
 | .c x => forceC1 x fun x => f (.c x)
 | .g l => forceL forceC1 l fun l => f (.g l)
theorem forceT1_eq (x : T1) (f : T1 → α) : forceT1 x f = f x := by
 cases x <;> simp only [forceT1, Qdx, Qcu Qdx]
noncomputable def forceV (x : AV) (f : AV → α) : α :=
 match x with
 | .c x => forceC1 x fun x => f (.c x)
 | .g l => forceL forceC1 l fun l => f (.g l)
 | .t l => forceL forceT1 l fun l => f (.t l)
theorem forceV_eq (x : AV) (f : AV → α) : forceV x f = f x := by
 cases x <;> simp only [forceV, Qdx, Qcu Qdx, Qcu forceT1_eq]
noncomputable def forceE (x : Nat × Ent) (f : Nat × Ent → α) : α := forceN x.1 fun n => forceL forceC1 x.2.cs fun cs => forceN x.2.ty fun ty => forceB x.2.ex fun ex => f (n, ⟨cs, ty, ex⟩)
theorem forceE_eq (x : Nat × Ent) (f : Nat × Ent → α) : forceE x f = f x := by simp only [forceE, Qdj, Qcu Qdx, forceB_eq]
end force
def Qcc (H : Hp) : List Nat := H.map (·.1)
noncomputable def mergeH : Hp → Hp → Option Hp
 | [], X => some X
 | (n, e) :: l, X => match mergeH l X with
  | some Y => match get Y n with
   | none => some (ins n e Y)
   | some _ => none
  | none => none
theorem mergeH_get : ∀ {H X Y : Hp}, mergeH H X = some Y → ∀ m, get Y m = match get H m with | some e => some e | none => get X m
 | [], X, Y, h, m => by simp [mergeH] at h; subst h; simp [Qd4]
 | (n, e) :: l, X, Y, h, m => by
  unfold mergeH at h
  split at h
  ·rename_i Z hZ
   split at h
   ·rename_i hn
    simp at h; subst h
    rw [Qeg n e Z hn, Qb7]
    by_cases h1 : m = n
    ·subst h1; simp
    ·have h2 : ¬ n = m := fun h => h1 h.symm
     simp only [h1, h2, if_false]
     exact mergeH_get hZ m
   ·cases h
  ·cases h
noncomputable def framed (call : Qdq) : Qdq := fun k xs nm H dead =>
 let seen := dfs H 4000 (xs.flatMap AV.names) []
 forceL forceE (H.filter fun e => seen.contains e.1) fun Hr => forceL forceV xs fun xs => forceN nm fun nm =>
  if (xs.flatMap AV.names).all (fun n => (Qcc Hr).contains n) && Hr.all (fun e => (e.2.cs.flatMap C1.names).all fun n => (Qcc Hr).contains n) then
   match call k xs nm Hr [] with
   | some (r, H1, d1) => forceV r fun r => forceL forceE H1 fun H1 =>
    if r.names.all (fun n => (Qcc H1).contains n || (Qcc Hr).contains n) && H1.all (fun e => (e.2.cs.flatMap C1.names).all fun n => (Qcc H1).contains n || (Qcc Hr).contains n) &&
        H1.all (fun e => (Qcc Hr).contains e.1 || ((get H e.1).isNone && !dead.contains e.1)) then
     match mergeH H1 (H.filter fun e => !(Qcc Hr).contains e.1) with
     | some Y => some (r, Y, (Qcc Hr).filter (fun n => !(Qcc H1).contains n) ++ dead)
     | none => none
    else none
   | none => none
  else none
theorem Qdf {H : Hp} {n : Nat} (h : n ∈ Qcc H) : (get H n).isSome = true := by
 induction H with
 | nil => simp [Qcc] at h
 | cons x H ih =>
  obtain ⟨m, e⟩ := x
  rw [Qb7]
  split
  ·rfl
  ·rename_i hm
   simp only [Qcc, List.map_cons, List.mem_cons] at h
   rcases h with h | h
   ·exact absurd h.symm hm
   ·exact ih h
theorem get_of_key' {H : Hp} {n : Nat} : n ∈ Qcc H ↔ (get H n).isSome = true := ⟨Qdf, get_key⟩
theorem Qez (p : Nat → Bool) (H : Hp) (n : Nat) : get (H.filter fun e => p e.1) n = if p n then get H n else none := Qdv H n
theorem framed_sound {call : Qdq} (hc : ∀ D w0, Qel P D w0 call) : Qel P D w0 (framed call) := by
 intro k xs nm H dead r H' dead' ρ vs w h hR hA
 unfold framed at h
 dsimp only at h
 rw [Qcu forceE_eq, Qcu forceV_eq, Qdj] at h
 generalize hseen : dfs H 4000 (xs.flatMap AV.names) [] = seen at h
 generalize hHr : (H.filter fun e => seen.contains e.1) = Hr at h
 have hgr : ∀ n e, get Hr n = some e → get H n = some e := by
  intro n e he
  rw [← hHr, Qez (fun n => seen.contains n)] at he
  split at he
  ·exact he
  ·cases he
 split at h
 ·rename_i hck
  simp only [Bool.and_eq_true, List.all_eq_true, List.contains_iff_mem] at hck
  obtain ⟨hck1, hck2⟩ := hck
  split at h
  ·rename_i r1 H1 d1 hcall
   rw [forceV_eq, Qcu forceE_eq] at h
   split at h
   ·rename_i hck3
    simp only [Bool.and_eq_true, List.all_eq_true, Bool.or_eq_true, List.contains_iff_mem] at hck3
    obtain ⟨⟨hr1, hH1⟩, hnew⟩ := hck3
    split at h
    ·rename_i Y hY
     simp at h; obtain ⟨rfl, rfl, rfl⟩ := h
     let kp : Nat → Bool := fun n => (Qcc Hr).contains n
     let Dr : Nat → Prop := fun g => ∃ n e z, get Hr n = some e ∧ ρ n = some (g, z)
     have hRr : RH Dr w (ρ.only kp) Hr [] w := by
      refine ⟨fun n e he => ?_, fun n m e e' g z z' he he' hg hg' => ?_, fun n x hx => ?_, ⟨rfl, rfl, rfl, Nat.le_refl _, fun _ _ _ => rfl⟩⟩
      ·obtain ⟨g, z, c, h1, h2, h3, h4, h5, _⟩ := hR.hp n e (hgr n e he)
       have hk : kp n = true := by simp only [kp, List.contains_iff_mem]; exact get_of_key'.2 (by rw [he]; rfl)
       refine ⟨g, z, c, by simp [Ren.only, hk, h1], h2, h3, fun i x hx => ?_, h5, .inl ⟨n, e, z, he, h1⟩⟩
       obtain ⟨y, hy, hr⟩ := h4 i x hx
       refine ⟨y, hy, C1.only hr fun m hm => ?_⟩
       simp only [kp, List.contains_iff_mem]
       exact hck2 (n, e) (Qey he) m (List.mem_flatMap.2 ⟨x, List.mem_of_getElem? hx, hm⟩)
      ·unfold Ren.only at hg hg'
       split at hg
       ·split at hg'
        ·exact hR.inj n m e e' g z z' (hgr _ _ he) (hgr _ _ he') hg hg'
        ·cases hg'
       ·cases hg
      ·unfold Ren.only at hx
       split at hx
       ·rename_i hk
        simp only [kp, List.contains_iff_mem] at hk
        exact .inl (Qdf hk)
       ·cases hx
     have hAr : All2 (AV.R (ρ.only kp)) xs vs := All2.only (names := AV.names) (fun x v hx hk => AV.only hx hk) hA fun n hn => by
      simp only [kp, List.contains_iff_mem]; exact hck1 n hn
     obtain ⟨hfn, hcl⟩ := hc Dr w k xs nm Hr [] r1 H1 d1 (ρ.only kp) vs w hcall hRr hAr
     refine ⟨hfn, Calls.mono hcl fun e w' hh => ?_⟩
     obtain ⟨ρ1, V, hle, rfl, hV, hR1⟩ := hh
     let ρ' : Ren := fun n => match ρ n with | some x => some x | none => if (Qcc H1).contains n then ρ1 n else none
     have hρ1 : ρ.le ρ' := fun n x hx => by simp [ρ', hx]
     have hag1 : ∀ n, n ∈ Qcc Hr → ρ' n = ρ n ∧ ∀ x, ρ n = some x → ρ1 n = some x := by
      intro n hn
      have hs : (ρ n).isSome = true := by
       obtain ⟨e, he⟩ := Option.isSome_iff_exists.1 (Qdf hn)
       obtain ⟨g, z, c, h1, _⟩ := hR.hp n e (hgr n e he)
       rw [h1]; rfl
      obtain ⟨x, hx⟩ := Option.isSome_iff_exists.1 hs
      refine ⟨by simp [ρ', hx], fun y hy => hle n y (by simp [Ren.only, kp, hn, hy])⟩
     have hag : ∀ n, n ∈ Qcc H1 → ρ' n = ρ1 n := by
      intro n hn
      obtain ⟨e, he⟩ := Option.isSome_iff_exists.1 (Qdf hn)
      have hnn := hnew (n, e) (Qey he)
      by_cases hk : n ∈ Qcc Hr
      ·obtain ⟨h1, h2⟩ := hag1 n hk
       rw [h1]
       cases hh : ρ n with
       | none =>
        obtain ⟨e', he'⟩ := Option.isSome_iff_exists.1 (Qdf hk)
        obtain ⟨g, z, c, h3, _⟩ := hR.hp n e' (hgr n e' he')
        rw [h3] at hh; cases hh
       | some x => exact (h2 x hh).symm
      ·have h0 : ρ n = none := by
         rcases hnn with hnn | hnn
         ·exact absurd hnn hk
         ·simp only [Bool.and_eq_true, Bool.not_eq_true', Option.isNone_iff_eq_none] at hnn
          exact hR.unused hnn.1 (by simpa using hnn.2)
       simp [ρ', h0, hn]
     have hle' : (ρ1.only fun n => (Qcc H1).contains n || (Qcc Hr).contains n).le ρ' := by
      intro n x hx
      unfold Ren.only at hx
      split at hx
      ·rename_i hk
       simp only [Bool.or_eq_true, List.contains_iff_mem] at hk
       rcases hk with hk | hk
       ·rw [hag n hk]; exact hx
       ·obtain ⟨h1, h2⟩ := hag1 n hk
        rw [h1]
        cases hh : ρ n with
        | none =>
         obtain ⟨e', he'⟩ := Option.isSome_iff_exists.1 (Qdf hk)
         obtain ⟨g, z, c, h3, _⟩ := hR.hp n e' (hgr n e' he')
         rw [h3] at hh; cases hh
        | some y => rw [h2 y hh] at hx; exact hx
      ·cases hx
     have hmem : ∀ n, ((Qcc H1).contains n || (Qcc Hr).contains n) = true ↔ n ∈ Qcc H1 ∨ n ∈ Qcc Hr := fun n => by
      simp only [Bool.or_eq_true, List.contains_iff_mem]
     have hX : ∀ n e, get (H.filter fun e => !(Qcc Hr).contains e.1) n = some e → get H n = some e ∧ n ∉ Qcc Hr := by
      intro n e he
      rw [Qez (fun n => !(Qcc Hr).contains n)] at he
      split at he
      ·rename_i hk; exact ⟨he, by simpa using hk⟩
      ·cases he
     have hfar : ∀ n e g z, get (H.filter fun e => !(Qcc Hr).contains e.1) n = some e → ρ n = some (g, z) → ¬ Dr g ∧ g < w.heap.size := by
      intro n e g z he hg
      obtain ⟨h1, h2⟩ := hX n e he
      refine ⟨?_, (hR.hp n e h1).block_lt g z hg⟩
      rintro ⟨m, e', z', hm, hg'⟩
      have := hR.inj n m e e' g z z' h1 (hgr m e' hm) hg hg'
      subst this
      exact h2 (get_of_key'.2 (by rw [hm]; rfl))
     have hDr : ∀ g, Dr g → D g ∨ w0.heap.size ≤ g := by
      rintro g ⟨n, e, z, he, hg⟩
      obtain ⟨g', z', c, h1, _, _, _, _, h6⟩ := hR.hp n e (hgr n e he)
      rw [hg] at h1; injection h1 with h1; injection h1 with h1 _; subst h1; exact h6
     have hget := mergeH_get hY
     have hcases : ∀ n e, get Y n = some e → get H1 n = some e ∨ get H1 n = none ∧ get (H.filter fun e => !(Qcc Hr).contains e.1) n = some e := by
      intro n e he
      rw [hget n] at he
      cases hh : get H1 n with
      | some e' => rw [hh] at he; exact .inl he
      | none => rw [hh] at he; exact .inr ⟨rfl, he⟩
     have hkey1 : ∀ n e, get H1 n = some e → n ∈ Qcc H1 := fun n e he => get_of_key'.2 (by rw [he]; rfl)
     refine ⟨ρ', V, hρ1, rfl, AV.mono hle' _ _ (AV.only hV fun n hn => (hmem n).2 (hr1 n hn)), ?_, ?_, ?_, ?_⟩
     ·intro n e he
      rcases hcases n e he with h1 | ⟨_, h1⟩
      ·obtain ⟨g, z, c, q1, q2, q3, q4, q5, q6⟩ := hR1.hp n e h1
       refine ⟨g, z, c, by rw [hag n (hkey1 n e h1)]; exact q1, q2, q3, fun i x hx => ?_, q5, ?_⟩
       ·obtain ⟨y, hy, hr⟩ := q4 i x hx
        exact ⟨y, hy, C1.mono hle' _ _ (C1.only hr fun m hm => (hmem m).2 (hH1 (n, e) (Qey h1) m (List.mem_flatMap.2 ⟨x, List.mem_of_getElem? hx, hm⟩)))⟩
       ·rcases q6 with q6 | q6
        ·exact hDr g q6
        ·right; have := hR.out.size; omega
      ·refine (hR.hp n e (hX n e h1).1).mono hρ1 fun g z hg => ?_
       obtain ⟨p1, p2⟩ := hfar n e g z h1 hg
       exact hR1.out.block g p2 p1
     ·have side : ∀ n e g z, get Y n = some e → ρ' n = some (g, z) → (get H1 n = some e ∧ ρ1 n = some (g, z) ∧ (Dr g ∨ w.heap.size ≤ g)) ∨ (get (H.filter fun e => !(Qcc Hr).contains e.1) n = some e ∧ ρ n = some (g, z) ∧ ¬ Dr g ∧ g < w.heap.size) := by
        intro n e g z he hg
        rcases hcases n e he with h1 | ⟨_, h1⟩
        ·left
         rw [hag n (hkey1 n e h1)] at hg
         refine ⟨h1, hg, ?_⟩
         obtain ⟨g', z', c, q1, _, _, _, _, q6⟩ := hR1.hp n e h1
         rw [hg] at q1; injection q1 with q1; injection q1 with q1 _; subst q1; exact q6
        ·right
         obtain ⟨g', z', c, q1, _⟩ := hR.hp n e (hX n e h1).1
         have : ρ n = some (g, z) := by rw [← hg]; simp [ρ', q1]
         exact ⟨h1, this, hfar n e g z h1 this⟩
      intro n m e e' g z z' he he' hg hg'
      rcases side n e g z he hg with ⟨a1, a2, a3⟩ | ⟨a1, a2, a3, a4⟩ <;> rcases side m e' g z' he' hg' with ⟨b1, b2, b3⟩ | ⟨b1, b2, b3, b4⟩
      ·exact hR1.inj n m e e' g z z' a1 b1 a2 b2
      ·rcases a3 with a3 | a3
       ·exact absurd a3 b3
       ·omega
      ·rcases b3 with b3 | b3
       ·exact absurd b3 a3
       ·omega
      ·exact hR.inj n m e e' g z z' (hX _ _ a1).1 (hX _ _ b1).1 a2 b2
     ·intro n x hx
      rw [hget n]
      by_cases h1 : n ∈ Qcc H1
      ·obtain ⟨e, he⟩ := Option.isSome_iff_exists.1 (Qdf h1)
       left; rw [he]; rfl
      ·have h0 : get H1 n = none := by
         cases hh : get H1 n with
         | none => rfl
         | some e => exact absurd (hkey1 n e hh) h1
       rw [h0]
       simp only
       have hx' : ρ n = some x := by
        cases hh : ρ n with
        | some y => simp only [ρ', hh] at hx; exact hx
        | none => simp [ρ', hh, h1] at hx
       rcases hR.fr n x hx' with h2 | h2
       ·by_cases h3 : n ∈ Qcc Hr
        ·right; simp [h3, h1]
        ·left
         rw [Qez (fun n => !(Qcc Hr).contains n)]
         simp [h3]; exact h2
       ·right; simp [h2]
     ·refine ⟨hR1.out.os.trans hR.out.os, hR1.out.tape.trans hR.out.tape, hR1.out.output.trans hR.out.output, Nat.le_trans hR.out.size hR1.out.size, fun k hk hd => ?_⟩
      have h2 : ¬ Dr k := fun hh => by rcases hDr k hh with h3 | h3; exact hd h3; omega
      rw [hR1.out.block k (Nat.lt_of_lt_of_le hk hR.out.size) h2]
      exact hR.out.block k hk hd
    ·cases h
   ·cases h
  ·cases h
 ·cases h
def C0.map (f : Nat → Nat) : C0 → C0
 | .p (some (n, o)) => .p (some (f n, o))
 | .s (some (n, o)) len cap sz full => .s (some (f n, o)) len cap sz full
 | x => x
def C1.map (f : Nat → Nat) : C1 → C1
 | .c x => .c (x.map f)
 | .f fn a b => .f fn (a.map (C0.map f)) (b.map (C0.map f))
def T1.map (f : Nat → Nat) : T1 → T1
 | .c x => .c (x.map f)
 | .g l => .g (l.map (C1.map f))
def AV.map (f : Nat → Nat) : AV → AV
 | .c x => .c (x.map f)
 | .g l => .g (l.map (C1.map f))
 | .t l => .t (l.map (T1.map f))
section
variable {ρ ρ' : Ren} {f : Nat → Nat}
theorem C0.map_R {x : C0} {v : Value} (h : x.R ρ v) (hf : ∀ n ∈ x.names, ∀ y, ρ n = some y → ρ' (f n) = some y) : (x.map f).R ρ' v := by
 cases x with
 | p a =>
  cases a with
  | none => exact h
  | some a => obtain ⟨g, z, h1, h2⟩ := h; exact ⟨g, z, hf a.1 (by simp [C0.names]) _ h1, h2⟩
 | s a len cap sz full =>
  cases a with
  | none => exact h
  | some a => obtain ⟨g, z, c, h1, h2⟩ := h; exact ⟨g, z, c, hf a.1 (by simp [C0.names]) _ h1, h2⟩
 | _ => exact h
theorem All2.mapR {α : Type} {R R' : α → Value → Prop} {names : α → List Nat} {m : α → α} (hR : ∀ x v, R x v → (∀ n ∈ names x, ∀ y, ρ n = some y → ρ' (f n) = some y) → R' (m x) v) :
    ∀ {l : List α} {L : List Value}, All2 R l L → (∀ n ∈ l.flatMap names, ∀ y, ρ n = some y → ρ' (f n) = some y) → All2 R' (l.map m) L
 | [], [], _, _ => trivial
 | a :: l, b :: L, ⟨h1, h2⟩, h => ⟨hR a b h1 fun n hn => h n (by simp [hn]), All2.mapR hR h2 fun n hn => h n (by simp only [List.flatMap_cons, List.mem_append]; exact .inr hn)⟩
 | [], _ :: _, hh, _ => hh.elim
 | _ :: _, [], hh, _ => hh.elim
theorem C1.map_R {x : C1} {v : Value} (h : x.R ρ v) (hf : ∀ n ∈ x.names, ∀ y, ρ n = some y → ρ' (f n) = some y) : (x.map f).R ρ' v := by
 cases x with
 | c x => exact C0.map_R h hf
 | f fn a b =>
  obtain ⟨F, C, h1, h2, h3⟩ := h
  exact ⟨F, C, All2.mapR (ρ := ρ) (ρ' := ρ') (names := C0.names) (fun x v => C0.map_R) h1 fun n hn => hf n (by simp only [C1.names, List.mem_append]; exact .inl hn),
   All2.mapR (ρ := ρ) (ρ' := ρ') (names := C0.names) (fun x v => C0.map_R) h2 fun n hn => hf n (by simp only [C1.names, List.mem_append]; exact .inr hn), h3⟩
theorem T1.map_R {x : T1} {v : Value} (h : x.R ρ v) (hf : ∀ n ∈ x.names, ∀ y, ρ n = some y → ρ' (f n) = some y) : (x.map f).R ρ' v := by
 cases x with
 | c x => exact C1.map_R h hf
 | g l => obtain ⟨L, h1, h2⟩ := h; exact ⟨L, All2.mapR (ρ := ρ) (ρ' := ρ') (names := C1.names) (fun x v => C1.map_R) h1 hf, h2⟩
theorem AV.map_R {x : AV} {v : Value} (h : x.R ρ v) (hf : ∀ n ∈ x.names, ∀ y, ρ n = some y → ρ' (f n) = some y) : (x.map f).R ρ' v := by
 cases x with
 | c x => exact C1.map_R h hf
 | g l => obtain ⟨L, h1, h2⟩ := h; exact ⟨L, All2.mapR (ρ := ρ) (ρ' := ρ') (names := C1.names) (fun x v => C1.map_R) h1 hf, h2⟩
 | t l => obtain ⟨L, h1, h2⟩ := h; exact ⟨L, All2.mapR (ρ := ρ) (ρ' := ρ') (names := T1.names) (fun x v => T1.map_R) h1 hf, h2⟩
end
def Ent.map (f : Nat → Nat) (e : Ent) : Ent := ⟨e.cs.map (C1.map f), e.ty, e.ex⟩
noncomputable def posOf (l : List Nat) (n : Nat) : Nat := @List.rec Nat (fun _ => Nat) 0 (fun x l ih => cond (Nat.beq x n) (l.length + 1) ih) l
noncomputable def atPos (l : List Nat) (c : Nat) : Nat := @List.rec Nat (fun _ => Nat) 0 (fun x l ih => cond (Nat.beq c (l.length + 1)) x ih) l
theorem posOf_spec : ∀ {l : List Nat} {n : Nat}, n ∈ l → 0 < posOf l n ∧ posOf l n ≤ l.length ∧ atPos l (posOf l n) = n
 | x :: l, n, h => by
  have e1 : posOf (x :: l) n = if x = n then l.length + 1 else posOf l n := beq_if _ _ _ _
  have e2 : ∀ c, atPos (x :: l) c = if c = l.length + 1 then x else atPos l c := fun c => beq_if _ _ _ _
  rw [e1]
  split
  ·rename_i hx; subst hx; exact ⟨by omega, by simp, by rw [e2]; simp⟩
  ·rename_i hx
   have hn : n ∈ l := by
    rcases List.mem_cons.1 h with h | h
    ·exact absurd h.symm hx
    ·exact h
   obtain ⟨h1, h2, h3⟩ := posOf_spec hn
   refine ⟨h1, by simp; omega, ?_⟩
   rw [e2, if_neg (by omega)]; exact h3
theorem atPos_mem : ∀ {l : List Nat} {c : Nat}, 0 < c → c ≤ l.length → atPos l c ∈ l
 | [], c, h0, h => by simp at h; omega
 | x :: l, c, h0, h => by
  have e2 : atPos (x :: l) c = if c = l.length + 1 then x else atPos l c := beq_if _ _ _ _
  rw [e2]
  split
  ·simp
  ·exact List.mem_cons_of_mem _ (atPos_mem h0 (by simp at h; omega))
noncomputable def canonH (f : Nat → Nat) (H : Hp) : List Nat → Hp
 | [] => []
 | n :: l => match get H n with
  | some e => (f n, e.map f) :: canonH f H l
  | none => canonH f H l
noncomputable def backN (stepN : Nat) (seen : List Nat) (nm c : Nat) : Nat := cond (Nat.ble c seen.length) (atPos seen c) (nm + c * stepN)
def nodupB : List Nat → Bool
 | [] => true
 | x :: l => !l.contains x && nodupB l
theorem pos_at : ∀ {l : List Nat} {c : Nat}, nodupB l = true → 0 < c → c ≤ l.length → posOf l (atPos l c) = c
 | [], c, _, h0, h => by simp at h; omega
 | x :: l, c, hd, h0, h => by
  simp only [nodupB, Bool.and_eq_true, Bool.not_eq_true'] at hd
  have e1 : ∀ n, posOf (x :: l) n = if x = n then l.length + 1 else posOf l n := fun n => beq_if _ _ _ _
  have e2 : atPos (x :: l) c = if c = l.length + 1 then x else atPos l c := beq_if _ _ _ _
  rw [e2]
  split
  ·rename_i hc; rw [e1, if_pos rfl, hc]
  ·rename_i hc
   have hm := atPos_mem (l := l) h0 (by simp at h; omega)
   have hne : ¬ x = atPos l c := by rintro rfl; simp [hm] at hd
   rw [e1, if_neg hne]
   exact pos_at hd.2 h0 (by simp at h; omega)
noncomputable def ren (stepN : Nat) (call : Qdq) : Qdq := fun k xs nm H dead =>
 let seen := dfs H 4000 (xs.flatMap AV.names) []
 if dead.isEmpty && nodupB seen && (Qcc H).all (fun n => seen.contains n) && seen.all (fun n => (get H n).isSome) && decide (nm < stepN) &&
     (xs.flatMap AV.names).all (fun n => seen.contains n) && H.all (fun e => (e.2.cs.flatMap C1.names).all fun n => seen.contains n) then
  forceL forceE (canonH (posOf seen) H seen) fun H' => forceL forceV (xs.map (AV.map (posOf seen))) fun xs' =>
   match call k xs' 1 H' [] with
   | some (r, H1, d1) =>
    if H1.all (fun e => e.1 != 0 && (Nat.ble e.1 seen.length || !seen.contains (nm + e.1 * stepN))) && d1.all (fun n => n != 0 && (Nat.ble n seen.length || !seen.contains (nm + n * stepN))) then
     some (r.map (backN stepN seen nm), H1.map (fun e => (backN stepN seen nm e.1, e.2.map (backN stepN seen nm))), d1.map (backN stepN seen nm))
    else none
   | none => none
 else none
theorem Qd1 {f : Nat → Nat} {H : Hp} : ∀ {l : List Nat} {c : Nat} {e' : Ent}, get (canonH f H l) c = some e' → ∃ n e, n ∈ l ∧ f n = c ∧ get H n = some e ∧ e' = e.map f
 | [], c, e', h => by simp [canonH, Qd4] at h
 | n :: l, c, e', h => by
  unfold canonH at h
  split at h
  ·rename_i e he
   rw [Qb7] at h
   split at h
   ·rename_i hc; injection h with h; exact ⟨n, e, by simp, hc, he, h.symm⟩
   ·obtain ⟨m, e2, h1, h2⟩ := Qd1 h; exact ⟨m, e2, List.mem_cons_of_mem _ h1, h2⟩
  ·obtain ⟨m, e2, h1, h2⟩ := Qd1 h; exact ⟨m, e2, List.mem_cons_of_mem _ h1, h2⟩
theorem canonH_some {f : Nat → Nat} {H : Hp} : ∀ {l : List Nat} {n : Nat}, n ∈ l → (get H n).isSome = true → (get (canonH f H l) (f n)).isSome = true
 | m :: l, n, h, hs => by
  unfold canonH
  rcases List.mem_cons.1 h with rfl | h
  ·obtain ⟨e, he⟩ := Option.isSome_iff_exists.1 hs
   rw [he]; simp only; rw [Qb7]; simp
  ·have ih := canonH_some (f := f) h hs
   split
   ·rw [Qb7]; split
    ·rfl
    ·exact ih
   ·exact ih
theorem mapH_get {g : Nat → Nat} : ∀ {H : Hp} {n : Nat} {e' : Ent}, get (H.map fun e => (g e.1, e.2.map g)) n = some e' → ∃ c e, get H c = some e ∧ g c = n ∧ e' = e.map g
 | [], n, e', h => by simp [Qd4] at h
 | (m, e) :: H, n, e', h => by
  rw [List.map_cons, Qb7] at h
  split at h
  ·rename_i hm; injection h with h; exact ⟨m, e, by rw [Qb7]; simp, hm, h.symm⟩
  ·rename_i hm
   obtain ⟨c, e2, h1, h2, h3⟩ := mapH_get h
   refine ⟨c, e2, ?_, h2, h3⟩
   rw [Qb7, if_neg]; exact h1
   rintro rfl; exact hm h2
theorem mapH_some {g : Nat → Nat} : ∀ {H : Hp} {c : Nat}, (get H c).isSome = true → (get (H.map fun e => (g e.1, e.2.map g)) (g c)).isSome = true
 | (m, e) :: H, c, h => by
  rw [List.map_cons, Qb7]
  split
  ·rfl
  ·rename_i hm
   rw [Qb7, if_neg (by rintro rfl; exact hm rfl)] at h
   exact mapH_some h
theorem ren_sound {stepN : Nat} (hsp : 0 < stepN) {call : Qdq} (hc : ∀ D w0, Qel P D w0 call) : Qel P D w0 (ren stepN call) := by
 intro k xs nm H dead r H' dead' ρ vs w h hR hA
 unfold ren at h
 dsimp only at h
 generalize hseen : dfs H 4000 (xs.flatMap AV.names) [] = seen at h
 split at h
 ·rename_i hck
  simp only [Bool.and_eq_true, List.all_eq_true, List.contains_iff_mem, decide_eq_true_eq] at hck
  obtain ⟨⟨⟨⟨⟨⟨hde, hnd⟩, hks⟩, hsk⟩, hnm⟩, hxs⟩, hcs⟩ := hck
  have hdead : dead = [] := by simpa using hde
  subst hdead
  rw [Qcu forceE_eq, Qcu forceV_eq] at h
  split at h
  ·rename_i r0 H1 d1 hcall
   split at h
   ·rename_i hck2
    simp only [Bool.and_eq_true, List.all_eq_true, Bool.or_eq_true, bne_iff_ne, Bool.not_eq_true', Nat.ble_eq] at hck2
    obtain ⟨hn1, hn2⟩ := hck2
    simp at h; obtain ⟨rfl, rfl, rfl⟩ := h
    let ρc : Ren := fun c => if 0 < c ∧ c ≤ seen.length then ρ (atPos seen c) else none
    have hρc : ∀ n ∈ seen, ρc (posOf seen n) = ρ n := by
     intro n hn
     obtain ⟨h1, h2, h3⟩ := posOf_spec hn
     simp [ρc, h1, h2, h3]
    have hdom : ∀ n x, ρ n = some x → n ∈ seen := by
     intro n x hx
     rcases hR.fr n x hx with h1 | h1
     ·exact hks n (get_of_key'.2 h1)
     ·cases h1
    have hRc : RH D w0 ρc (canonH (posOf seen) H seen) [] w := by
     refine ⟨?_, ?_, ?_, hR.out⟩
     ·intro c e' he
      obtain ⟨n, e, hn, rfl, hne, rfl⟩ := Qd1 he
      obtain ⟨g, z, cc, h1, h2, h3, h4, h5, h6⟩ := hR.hp n e hne
      refine ⟨g, z, cc, by rw [hρc n hn]; exact h1, h2, h3, fun i x hx => ?_, fun hx => by simpa [Ent.map] using h5 hx, h6⟩
      simp only [Ent.map, List.getElem?_map] at hx
      obtain ⟨x0, hx0, rfl⟩ := Option.map_eq_some_iff.1 hx
      obtain ⟨y, hy, hr⟩ := h4 i x0 hx0
      refine ⟨y, hy, C1.map_R hr fun m hm y hmy => ?_⟩
      rw [hρc m (hdom m y hmy)]; exact hmy
     ·intro c c' e1 e2 g z z' he1 he2 hg1 hg2
      obtain ⟨n, e, hn, rfl, hne, rfl⟩ := Qd1 he1
      obtain ⟨n', e', hn', rfl, hne', rfl⟩ := Qd1 he2
      rw [hρc n hn] at hg1
      rw [hρc n' hn'] at hg2
      rw [hR.inj n n' e e' g z z' hne hne' hg1 hg2]
     ·intro c x hx
      left
      simp only [ρc] at hx
      split at hx
      ·rename_i hc0
       have hm := atPos_mem hc0.1 hc0.2
       have := canonH_some (f := posOf seen) (l := seen) hm (hsk _ hm)
       rw [pos_at hnd hc0.1 hc0.2] at this
       exact this
      ·cases hx
    have hAc : All2 (AV.R ρc) (xs.map (AV.map (posOf seen))) vs := All2.mapR (ρ := ρ) (ρ' := ρc) (f := posOf seen) (names := AV.names) (fun x v => AV.map_R) hA fun n hn y hy => by
     rw [hρc n (hdom n y hy)]; exact hy
    obtain ⟨hfn, hcl⟩ := hc D w0 k _ 1 _ [] r0 H1 d1 ρc vs w hcall hRc hAc
    refine ⟨hfn, Calls.mono hcl fun e w' hh => ?_⟩
    obtain ⟨ρ1, V, hle, rfl, hV, hR1⟩ := hh
    let ρ2 : Ren := fun n => match ρ n with | some x => some x | none => if (n - nm) % stepN = 0 ∧ nm ≤ n ∧ seen.length < (n - nm) / stepN then ρ1 ((n - nm) / stepN) else none
    have hA : ∀ c y, ρ1 c = some y → ρ2 (backN stepN seen nm c) = some y := by
     intro c y hy
     have hk : c ≠ 0 ∧ (c ≤ seen.length ∨ ¬ nm + c * stepN ∈ seen) := by
      rcases hR1.fr c y hy with h1 | h1
      ·obtain ⟨e, he⟩ := Option.isSome_iff_exists.1 h1
       have := hn1 (c, e) (Qey he)
       exact ⟨this.1, this.2.imp id (fun hh => by simpa using hh)⟩
      ·have := hn2 c h1
       exact ⟨this.1, this.2.imp id (fun hh => by simpa using hh)⟩
     have hb : backN stepN seen nm c = if c ≤ seen.length then atPos seen c else nm + c * stepN := by
      unfold backN
      cases hh : Nat.ble c seen.length with
      | true => simp [Nat.le_of_ble_eq_true hh]
      | false =>
       have : ¬ c ≤ seen.length := fun h => by rw [Nat.ble_eq_true_of_le h] at hh; cases hh
       simp [this]
     rw [hb]
     by_cases hcl : c ≤ seen.length
     ·rw [if_pos hcl]
      have hm := atPos_mem (l := seen) (Nat.pos_of_ne_zero hk.1) hcl
      obtain ⟨e, he⟩ := Option.isSome_iff_exists.1 (hsk _ hm)
      obtain ⟨g, z, cc, h1, _⟩ := hR.hp _ e he
      have h2 := hρc _ hm
      rw [pos_at hnd (Nat.pos_of_ne_zero hk.1) hcl, h1] at h2
      have h3 := hle c _ h2
      rw [hy] at h3
      simp [ρ2, h1, h3]
     ·rw [if_neg hcl]
      have hno : ρ (nm + c * stepN) = none := by
       cases hh : ρ (nm + c * stepN) with
       | none => rfl
       | some x => exact absurd (hdom _ x hh) (hk.2.resolve_left hcl)
      have e1 : nm + c * stepN - nm = c * stepN := by omega
      simp only [ρ2, hno, e1, Nat.mul_mod_left, Nat.mul_div_cancel c hsp]
      rw [if_pos ⟨trivial, by omega, by omega⟩]; exact hy
    refine ⟨ρ2, V, fun n x hx => by simp [ρ2, hx], rfl, AV.map_R hV fun n _ y hy => hA n y hy, ?_, ?_, ?_, hR1.out⟩
    ·intro n e' he
     obtain ⟨c, e, h1, rfl, rfl⟩ := mapH_get he
     obtain ⟨g, z, cc, q1, q2, q3, q4, q5, q6⟩ := hR1.hp c e h1
     refine ⟨g, z, cc, hA c _ q1, q2, q3, fun i x hx => ?_, fun hx => by simpa [Ent.map] using q5 hx, q6⟩
     simp only [Ent.map, List.getElem?_map] at hx
     obtain ⟨x0, hx0, rfl⟩ := Option.map_eq_some_iff.1 hx
     obtain ⟨y, hy, hr⟩ := q4 i x0 hx0
     exact ⟨y, hy, C1.map_R hr fun m _ y hmy => hA m y hmy⟩
    ·intro n n' e1 e2 g z z' he1 he2 hg1 hg2
     obtain ⟨c, e, h1, rfl, rfl⟩ := mapH_get he1
     obtain ⟨c', e', h1', rfl, rfl⟩ := mapH_get he2
     obtain ⟨g1, z1, cc, q1, _⟩ := hR1.hp c e h1
     obtain ⟨g2, z2, cc', q1', _⟩ := hR1.hp c' e' h1'
     rw [hA c _ q1] at hg1
     rw [hA c' _ q1'] at hg2
     injection hg1 with hg1; injection hg1 with hg1 hz1; subst hg1
     injection hg2 with hg2; injection hg2 with hg2 hz2; subst hg2
     rw [hR1.inj c c' e e' _ _ _ h1 h1' q1 q1']
    ·intro n x hx
     have put : ∀ c, ρ1 c = some x → backN stepN seen nm c = n → (get (H1.map fun e => (backN stepN seen nm e.1, e.2.map (backN stepN seen nm))) n).isSome = true ∨ n ∈ d1.map (backN stepN seen nm) := by
      intro c hcx hcn
      subst hcn
      rcases hR1.fr c x hcx with h1 | h1
      ·exact .inl (mapH_some h1)
      ·exact .inr (List.mem_map.2 ⟨c, h1, rfl⟩)
     cases hh : ρ n with
     | some y =>
      have hxy : y = x := by simp only [ρ2, hh] at hx; exact Option.some.inj hx
      subst hxy
      have hn := hdom n y hh
      obtain ⟨h1, h2, h3⟩ := posOf_spec hn
      refine put (posOf seen n) (hle _ _ (by rw [hρc n hn]; exact hh)) ?_
      simp only [backN, Nat.ble_eq_true_of_le h2, cond_true, h3]
     | none =>
      simp only [ρ2, hh] at hx
      split at hx
      ·rename_i hq
       obtain ⟨q1, q2, q3⟩ := hq
       refine put _ hx ?_
       have hb : Nat.ble ((n - nm) / stepN) seen.length = false := by
        cases hb : Nat.ble ((n - nm) / stepN) seen.length with
        | false => rfl
        | true => have := Nat.le_of_ble_eq_true hb; omega
       simp only [backN, hb, cond_false]
       have := Nat.div_add_mod (n - nm) stepN
       rw [q1, Nat.mul_comm] at this
       omega
      ·cases hx
   ·cases h
  ·cases h
 ·cases h
noncomputable def resA (P : Program) (s : St) : List ResultVar → Option (List AV)
 | [] => some []
 | .tmp t :: l => match resA P s l with
  | some vs => some (nthA s.tm t :: vs)
  | none => none
 | .cell t ty :: l => match ptrA (nthA s.tm t), resA P s l with
  | some (n, o), some vs => match loadA P s.H ty n o with
   | some v => some (v :: vs)
   | none => none
  | _, _ => none
def toT : AV → Option T1
 | .c x => some (.c x)
 | .g l => some (.g l)
 | .t _ => none
def toTs : List AV → Option (List T1)
 | [] => some []
 | v :: l => match toT v, toTs l with
  | some x, some xs => some (x :: xs)
  | _, _ => none
def finA : List AV → Option AV
 | [v] => some v
 | l => (toTs l).map .t
theorem toTs_R {ρ : Ren} : ∀ {l : List AV} {xs : List T1} {L : List Value}, toTs l = some xs → All2 (AV.R ρ) l L → All2 (T1.R ρ) xs L
 | [], xs, [], h, _ => by simp [toTs] at h; subst h; trivial
 | v :: l, xs, V :: L, h, ⟨h1, h2⟩ => by
  unfold toTs at h
  split at h
  ·rename_i x xs' hx hxs
   simp at h; subst h
   refine ⟨?_, toTs_R hxs h2⟩
   cases v <;> simp [toT] at hx <;> subst hx <;> exact h1
  ·cases h
 | [], _, _ :: _, _, hh => hh.elim
 | _ :: _, _, [], _, hh => hh.elim
theorem resA_sound {ρ : Ren} {s : St} {a : Act} {w : World} (h : Rel D w0 ρ s a w) : ∀ {l : List ResultVar} {vs : List AV}, resA P s l = some vs →
    ∃ VS, All2 (AV.R ρ) vs VS ∧ (l.mapM fun (x : ResultVar) => (match x with | .tmp t => pure (a.tmps.getD t undef) | .cell t ty => do loadVar ty (← asAddr (a.tmps.getD t undef)) : Sem Value)).run P w = .ok VS w
 | [], vs, he => by simp [resA] at he; subst he; exact ⟨[], trivial, by simp⟩
 | .tmp t :: l, vs, he => by
  unfold resA at he
  split at he
  ·rename_i vs' hv
   simp at he; subst he
   obtain ⟨VS, h1, h2⟩ := resA_sound h hv
   exact ⟨a.tmps.getD t undef :: VS, ⟨Qds h.tm t, h1⟩, by simp only [List.mapM_cons, Sem.run_bind, Sem.run_pure, h2, Result.andThen_ok]⟩
  ·cases he
 | .cell t ty :: l, vs, he => by
  unfold resA at he
  split at he
  ·rename_i n o vs' hp hv
   split at he
   ·rename_i v hl
    simp at he; subst he
    obtain ⟨VS, h1, h2⟩ := resA_sound h hv
    obtain ⟨g, z, hg, hV⟩ := ptrA_R hp (Qds h.tm t)
    obtain ⟨V, hr, hrun⟩ := loadA_sound (P := P) h.rh hg hl
    simp only [Instr.loadAt, Instr.sureAddr, Sem.run_bind, Sem.run_pure, Result.andThen_ok] at hrun
    exact ⟨V :: VS, ⟨hr, h1⟩, by
     have ha : (asAddr (a.tmps.getD t undef)).run P w = .ok ⟨g, o, none⟩ w := by rw [hV]; rfl
     simp only [List.mapM_cons, Sem.run_bind, Sem.run_pure, h2, ha, hrun, Result.andThen_ok]⟩
   ·cases he
  ·cases he
theorem results_sound {ρ : Ren} {s : St} {a : Act} {w : World} (h : Rel D w0 ρ s a w) {fn : Func} {vs : List AV} {r : AV} (he : resA P s fn.results.toList = some vs) (hf : finA vs = some r) :
    ∃ V, r.R ρ V ∧ (results fn a.tmps).run P w = .ok V w := by
 obtain ⟨VS, h1, h2⟩ := resA_sound h he
 have hrun : ∀ (f : ResultVar → Sem Value), (fn.results.toList.mapM f).run P w = .ok VS w → (do let vs ← fn.results.mapM f; pure (if h : vs.size = 1 then vs[0] else Value.tuple vs) : Sem Value).run P w = .ok (if h : VS.toArray.size = 1 then VS.toArray[0] else .tuple VS.toArray) w := by
  intro f hf
  rw [Array.mapM_eq_mapM_toList]
  simp [hf]
 refine ⟨if h : VS.toArray.size = 1 then VS.toArray[0] else .tuple VS.toArray, ?_, hrun _ h2⟩
 have hl := h1.len
 unfold finA at hf
 split at hf
 ·rename_i v
  simp at hf; subst hf
  cases VS with
  | nil => simp at hl
  | cons V VS =>
   cases VS with
   | nil => exact h1.1
   | cons _ _ => simp at hl
 ·rename_i hn
  obtain ⟨xs, hx, rfl⟩ := Option.map_eq_some_iff.1 hf
  have : ¬ VS.toArray.size = 1 := by
   intro hs
   have hs2 : vs.length = 1 := by simp at hs; omega
   cases vs with
   | nil => simp at hs2
   | cons v vs =>
    cases vs with
    | nil => exact hn v rfl
    | cons _ _ => simp at hs2
  rw [dif_neg this]
  exact ⟨VS, toTs_R hx h1, rfl⟩
noncomputable def evFn (P : Program) (tbl : FuncId → Option Func) (noop : FuncId → Bool) (rk : FuncId → Nat) (N : Nat) : Nat → Qdq
 | 0 => fun _ _ _ _ _ => none
 | d + 1 => fun k xs nm H dead => bif Nat.ble (rk k) d then evFn P tbl noop rk N d k xs nm H dead else match tbl k with
  | none => none
  | some fn => match fn.body with
   | none => none
   | some c => match evCode P (framed (ren 4294967296 (evFn P tbl noop rk N d))) nm N c { tm := xs ++ List.replicate (fn.ntmps - xs.length) Qd6, H := H, dead := dead, df := [], r := 0 } with
    | some (.x _, _) => none
    | none => none
    | some (_, s) => if s.df.all (fun x => noop x.1 && Nat.beq x.2.length 2) then match resA P s fn.results.toList with
        | some vs => match finA vs with
         | some r => if s.H.length ≤ H.length then some (r, s.H, s.dead) else some (r, gc H dead r s.H s.dead)
         | none => none
        | none => none
     else none
def NoopOK (P : Program) (noop : FuncId → Bool) : Prop :=
 ∀ f, noop f = true → (∃ fn, P.funcs[f]? = some fn ∧ (fn.name == "runtime.NumGoroutine") = false ∧ fn.body.isNone = false) ∧
  ∀ p q w, CallsD P f #[p, q] .returning w fun e u w' => (∃ v, e = .returned v) ∧ u = .returning ∧ w' = w
theorem leaves_noop {noop : FuncId → Bool} (hn : NoopOK P noop) {ρ : Ren} {fn : Func} {tmps : Array Value} {R : Ending → World → Prop} {w : World} {V : Value} (hres : (results fn tmps).run P w = .ok V w) (hR : R (.returned V) w) :
    ∀ {l : List (FuncId × List C0)} {m : List Deferred}, All2 (fun (x : FuncId × List C0) (d : Deferred) => ∃ C, All2 (C0.R ρ) x.2 C ∧ d = { target := .fn (.func x.1) C.toArray, args := #[] }) l m →
     l.all (fun x => noop x.1 && Nat.beq x.2.length 2) = true → Leaves P fn tmps R m .returning w
 | [], [], _, _ => ⟨V, hres, hR⟩
 | x :: l, d :: m, ⟨⟨C, h1, h2⟩, h3⟩, h => by
  simp only [List.all_cons, Bool.and_eq_true] at h
  subst h2
  obtain ⟨⟨f, hf1, hf2, hf3⟩, hcall⟩ := hn x.1 h.1.1
  have hl := h1.len
  rw [Nat.eq_of_beq_eq_true h.1.2] at hl
  obtain ⟨p, q, rfl⟩ : ∃ p q, C = [p, q] := by
   cases C with
   | nil => simp at hl
   | cons p C => cases C with
    | nil => simp at hl
    | cons q C => cases C with
     | nil => exact ⟨p, q, rfl⟩
     | cons _ _ => simp at hl
  refine leaves_cons (f := x.1) (args := #[p, q]) (by simp) ?_ ?_
  ·simp only [invoke, callFunc, Sem.run_bind]
   have hp : (program : Sem Program).run P w = .ok P w := rfl
   rw [hp]
   simp only [Result.andThen_ok, hf1, hf2, hf3, if_false, Bool.false_eq_true, Sem.run_pure]
   simp
  ·refine (hcall p q w).mono fun e u w' hh => ?_
   obtain ⟨⟨v, rfl⟩, rfl, rfl⟩ := hh
   exact leaves_noop hn hres hR h3 h.2
 | [], _ :: _, hh, _ => hh.elim
 | _ :: _, [], hh, _ => hh.elim
def TblOK (P : Program) (tbl : FuncId → Option Func) : Prop := ∀ k fn, tbl k = some fn → P.funcs[k]? = some fn ∧ (fn.name == "runtime.NumGoroutine") = false
theorem evFn_sound (hm : P.follows .mixedOrders = true) {tbl : FuncId → Option Func} (ht : TblOK P tbl) {noop : FuncId → Bool} (hn : NoopOK P noop) (rk : FuncId → Nat) (N : Nat) : ∀ d D w0, Qel P D w0 (evFn P tbl noop rk N d) := by
 intro d
 induction d with
 | zero => intro D w0 k xs nm H dead r H' dead' ρ vs w h; simp [evFn] at h
 | succ d ih =>
  intro D w0 k xs nm H dead r H' dead' ρ vs w h hR hA
  simp only [evFn] at h
  cases hrk : Nat.ble (rk k) d with
  | true => rw [hrk] at h; exact ih D w0 k xs nm H dead r H' dead' ρ vs w h hR hA
  | false =>
  rw [hrk] at h
  simp only [cond_false] at h
  split at h
  ·cases h
  ·rename_i fn hfn
   obtain ⟨hP, hnm⟩ := ht k fn hfn
   split at h
   ·cases h
   ·rename_i c hb
    refine ⟨⟨fn, hP, hnm, by simp [hb]⟩, ?_⟩
    have hl := hA.len
    have hrel : Rel D w0 ρ { tm := xs ++ List.replicate (fn.ntmps - xs.length) Qd6, H := H, dead := dead, df := [], r := 0 } { tmps := vs.toArray ++ Array.replicate (fn.ntmps - vs.toArray.size) undef, defers := [] } w := by
     refine ⟨?_, trivial, hR⟩
     show All2 _ _ (vs.toArray ++ Array.replicate (fn.ntmps - vs.toArray.size) undef).toList
     rw [Array.toList_append, Array.toList_replicate]
     have e1 : vs.toArray.size = xs.length := by simp [hl]
     rw [e1]
     exact hA.app (All2.rep (undef_R ρ) _)
    refine calls_of_wp_defers hP hb ?_
    split at h
    ·cases h
    ·cases h
    ·rename_i e s he hne
     split at h
     ·rename_i hdf
      split at h
      ·rename_i vs' hres
       split at h
       ·rename_i r' hfin
        refine evCode_sound (Q := bodyPostD P fn _) hm (framed_sound fun D w0 => ren_sound (by decide) ih) c hne hrel fun ρ' a' w' hle h' => ?_
        have key : Leaves P fn a'.tmps (fun e w' => ∃ ρ' V, ρ.le ρ' ∧ e = .returned V ∧ r.R ρ' V ∧ RH D w0 ρ' H' dead' w') a'.defers .returning w' := by
         obtain ⟨V, hr, hrun⟩ := results_sound (P := P) h' hres hfin
         refine leaves_noop hn hrun ?_ h'.df hdf
         split at h
         ·simp at h; obtain ⟨rfl, rfl, rfl⟩ := h
          exact ⟨ρ', V, hle, rfl, hr, h'.rh⟩
         ·simp at h; obtain ⟨rfl, hgc⟩ := h
          obtain ⟨ρ2, h1, h2, h3⟩ := gc_sound hR hle h'.rh hr
          rw [hgc] at h2
          exact ⟨ρ2, V, h1, rfl, h3, h2⟩
        cases e with
        | n => exact key
        | r => exact key
        | x id => exact (he id rfl).elim
       ·cases h
      ·cases h
     ·cases h
end
end Go.Proofs.YtchpkjgibloleaaGreat.V
namespace Go.Proofs.YtchpkjgibloleaaGreat.V
set_option maxRecDepth 100000
set_option maxHeartbeats 8000000
open Go Go.RowKit
noncomputable def tbl : FuncId → Option Func
 | 7 => some Tryz.f7
 | 14 => some Tryz.f14
 | 17 => some Tryz.f17
 | 18 => some Tryz.f18
 | 19 => some Tryz.f19
 | 20 => some Tryz.f20
 | 21 => some Tryz.f21
 | 31 => some Tryz.f31
 | 32 => some Tryz.f32
 | 33 => some Tryz.f33
 | 34 => some Tryz.f34
 | 35 => some Tryz.f35
 | 36 => some Tryz.f36
 | 37 => some Tryz.f37
 | 38 => some Tryz.f38
 | 39 => some Tryz.f39
 | 40 => some Tryz.f40
 | 41 => some Tryz.f41
 | 42 => some Tryz.f42
 | 43 => some Tryz.f43
 | 44 => some Tryz.f44
 | 45 => some Tryz.f45
 | 46 => some Tryz.f46
 | 47 => some Tryz.f47
 | 48 => some Tryz.f48
 | 49 => some Tryz.f49
 | 50 => some Tryz.f50
 | 51 => some Tryz.f51
 | 59 => some Tryz.f59
 | 60 => some Tryz.f60
 | 61 => some Tryz.f61
 | 62 => some Tryz.f62
 | 63 => some Tryz.f63
 | 64 => some Tryz.f64
 | 65 => some Tryz.f65
 | 66 => some Tryz.f66
 | 67 => some Tryz.f67
 | 68 => some Tryz.f68
 | 69 => some Tryz.f69
 | 70 => some Tryz.f70
 | 71 => some Tryz.f71
 | 72 => some Tryz.f72
 | 73 => some Tryz.f73
 | 74 => some Tryz.f74
 | 75 => some Tryz.f75
 | 76 => some Tryz.f76
 | 77 => some Tryz.f77
 | 79 => some Tryz.f79
 | 80 => some Tryz.f80
 | 81 => some Tryz.f81
 | 83 => some Tryz.f83
 | 84 => some Tryz.f84
 | 85 => some Tryz.f85
 | 86 => some Tryz.f86
 | 87 => some Tryz.f87
 | 88 => some Tryz.f88
 | 89 => some Tryz.f89
 | 90 => some Tryz.f90
 | 91 => some Tryz.f91
 | 92 => some Tryz.f92
 | 93 => some Tryz.f93
 | 94 => some Tryz.f94
 | 95 => some Tryz.f95
 | 96 => some Tryz.f96
 | 97 => some Tryz.f97
 | 98 => some Tryz.f98
 | 103 => some Tryz.f103
 | 104 => some Tryz.f104
 | 105 => some Tryz.f105
 | 106 => some Tryz.f106
 | 107 => some Tryz.f107
 | 108 => some Tryz.f108
 | 109 => some Tryz.f109
 | 110 => some Tryz.f110
 | 111 => some Tryz.f111
 | 112 => some Tryz.f112
 | 113 => some Tryz.f113
 | 114 => some Tryz.f114
 | 115 => some Tryz.f115
 | 116 => some Tryz.f116
 | 117 => some Tryz.f117
 | 118 => some Tryz.f118
 | 119 => some Tryz.f119
 | 120 => some Tryz.f120
 | 121 => some Tryz.f121
 | 122 => some Tryz.f122
 | 123 => some Tryz.f123
 | 124 => some Tryz.f124
 | 125 => some Tryz.f125
 | 126 => some Tryz.f126
 | 127 => some Tryz.f127
 | 130 => some Tryz.f130
 | 131 => some Tryz.f131
 | 132 => some Tryz.f132
 | 135 => some Tryz.f135
 | 136 => some Tryz.f136
 | 137 => some Tryz.f137
 | 138 => some Tryz.f138
 | 139 => some Tryz.f139
 | 141 => some Tryz.f141
 | 143 => some Tryz.f143
 | 145 => some Tryz.f145
 | 147 => some Tryz.f147
 | 148 => some Tryz.f148
 | 149 => some Tryz.f149
 | 150 => some Tryz.f150
 | 151 => some Tryz.f151
 | 152 => some Tryz.f152
 | 153 => some Tryz.f153
 | 154 => some Tryz.f154
 | 155 => some Tryz.f155
 | 156 => some Tryz.f156
 | 160 => some Tryz.f160
 | 161 => some Tryz.f161
 | 163 => some Tryz.f163
 | 164 => some Tryz.f164
 | 170 => some Tryz.f170
 | 171 => some Tryz.f171
 | 172 => some Tryz.f172
 | 173 => some Tryz.f173
 | 174 => some Tryz.f174
 | 183 => some Tryz.f183
 | 190 => some Tryz.f190
 | 191 => some Tryz.f191
 | 195 => some Tryz.f195
 | 197 => some Tryz.f197
 | _ => none
def rk : FuncId → Nat
 | 7 => 16
 | 14 => 13
 | 17 => 12
 | 18 => 11
 | 19 => 15
 | 20 => 1
 | 21 => 14
 | 31 => 9
 | 32 => 4
 | 33 => 12
 | 34 => 1
 | 35 => 3
 | 36 => 1
 | 37 => 2
 | 38 => 5
 | 39 => 1
 | 40 => 1
 | 41 => 11
 | 42 => 10
 | 43 => 9
 | 44 => 10
 | 45 => 9
 | 46 => 8
 | 47 => 7
 | 48 => 10
 | 49 => 7
 | 50 => 8
 | 51 => 3
 | 59 => 5
 | 60 => 8
 | 61 => 4
 | 62 => 3
 | 63 => 3
 | 64 => 1
 | 65 => 7
 | 66 => 11
 | 67 => 2
 | 68 => 1
 | 69 => 4
 | 70 => 1
 | 71 => 1
 | 72 => 4
 | 73 => 1
 | 74 => 4
 | 75 => 2
 | 76 => 5
 | 77 => 7
 | 79 => 8
 | 80 => 1
 | 81 => 7
 | 83 => 8
 | 84 => 1
 | 85 => 4
 | 86 => 6
 | 87 => 8
 | 88 => 8
 | 89 => 5
 | 90 => 5
 | 91 => 1
 | 92 => 1
 | 93 => 1
 | 94 => 6
 | 95 => 1
 | 96 => 7
 | 97 => 1
 | 98 => 2
 | 103 => 1
 | 104 => 4
 | 105 => 1
 | 106 => 7
 | 107 => 1
 | 108 => 3
 | 109 => 2
 | 110 => 2
 | 111 => 1
 | 112 => 2
 | 113 => 1
 | 114 => 1
 | 115 => 1
 | 116 => 6
 | 117 => 2
 | 118 => 1
 | 119 => 1
 | 120 => 10
 | 121 => 4
 | 122 => 1
 | 123 => 3
 | 124 => 1
 | 125 => 2
 | 126 => 1
 | 127 => 1
 | 130 => 5
 | 131 => 5
 | 132 => 6
 | 135 => 1
 | 136 => 2
 | 137 => 5
 | 138 => 2
 | 139 => 4
 | 141 => 5
 | 143 => 2
 | 145 => 1
 | 147 => 1
 | 148 => 3
 | 149 => 2
 | 150 => 6
 | 151 => 1
 | 152 => 1
 | 153 => 5
 | 154 => 2
 | 155 => 1
 | 156 => 1
 | 160 => 3
 | 161 => 1
 | 163 => 1
 | 164 => 3
 | 170 => 1
 | 171 => 1
 | 172 => 5
 | 173 => 4
 | 174 => 3
 | 183 => 1
 | 190 => 2
 | 191 => 2
 | 195 => 4
 | 197 => 3
 | _ => 0
def noop : FuncId → Bool
 | 36 | 119 => true
 | _ => false
theorem tbl_ok : TblOK Tryz.prog tbl := by
 intro k fn h
 unfold tbl at h
 split at h
 ·injection h with h; subst h; exact ⟨Tryz.func7, by kernel_rfl⟩
 ·injection h with h; subst h; exact ⟨Tryz.func14, by kernel_rfl⟩
 ·injection h with h; subst h; exact ⟨Tryz.func17, by kernel_rfl⟩
 ·injection h with h; subst h; exact ⟨Tryz.func18, by kernel_rfl⟩
 ·injection h with h; subst h; exact ⟨Tryz.func19, by kernel_rfl⟩
 ·injection h with h; subst h; exact ⟨Tryz.func20, by kernel_rfl⟩
 ·injection h with h; subst h; exact ⟨Tryz.func21, by kernel_rfl⟩
 ·injection h with h; subst h; exact ⟨Tryz.func31, by kernel_rfl⟩
 ·injection h with h; subst h; exact ⟨Tryz.func32, by kernel_rfl⟩
 ·injection h with h; subst h; exact ⟨Tryz.func33, by kernel_rfl⟩
 ·injection h with h; subst h; exact ⟨Tryz.func34, by kernel_rfl⟩
 ·injection h with h; subst h; exact ⟨Tryz.func35, by kernel_rfl⟩
 ·injection h with h; subst h; exact ⟨Tryz.func36, by kernel_rfl⟩
 ·injection h with h; subst h; exact ⟨Tryz.func37, by kernel_rfl⟩
 ·injection h with h; subst h; exact ⟨Tryz.func38, by kernel_rfl⟩
 ·injection h with h; subst h; exact ⟨Tryz.func39, by kernel_rfl⟩
 ·injection h with h; subst h; exact ⟨Tryz.func40, by kernel_rfl⟩
 ·injection h with h; subst h; exact ⟨Tryz.func41, by kernel_rfl⟩
 ·injection h with h; subst h; exact ⟨Tryz.func42, by kernel_rfl⟩
 ·injection h with h; subst h; exact ⟨Tryz.func43, by kernel_rfl⟩
 ·injection h with h; subst h; exact ⟨Tryz.func44, by kernel_rfl⟩
 ·injection h with h; subst h; exact ⟨Tryz.func45, by kernel_rfl⟩
 ·injection h with h; subst h; exact ⟨Tryz.func46, by kernel_rfl⟩
 ·injection h with h; subst h; exact ⟨Tryz.func47, by kernel_rfl⟩
 ·injection h with h; subst h; exact ⟨Tryz.func48, by kernel_rfl⟩
 ·injection h with h; subst h; exact ⟨Tryz.func49, by kernel_rfl⟩
 ·injection h with h; subst h; exact ⟨Tryz.func50, by kernel_rfl⟩
 ·injection h with h; subst h; exact ⟨Tryz.func51, by kernel_rfl⟩
 ·injection h with h; subst h; exact ⟨Tryz.func59, by kernel_rfl⟩
 ·injection h with h; subst h; exact ⟨Tryz.func60, by kernel_rfl⟩
 ·injection h with h; subst h; exact ⟨Tryz.func61, by kernel_rfl⟩
 ·injection h with h; subst h; exact ⟨Tryz.func62, by kernel_rfl⟩
 ·injection h with h; subst h; exact ⟨Tryz.func63, by kernel_rfl⟩
 ·injection h with h; subst h; exact ⟨Tryz.func64, by kernel_rfl⟩
 ·injection h with h; subst h; exact ⟨Tryz.func65, by kernel_rfl⟩
 ·injection h with h; subst h; exact ⟨Tryz.func66, by kernel_rfl⟩
 ·injection h with h; subst h; exact ⟨Tryz.func67, by kernel_rfl⟩
 ·injection h with h; subst h; exact ⟨Tryz.func68, by kernel_rfl⟩
 ·injection h with h; subst h; exact ⟨Tryz.func69, by kernel_rfl⟩
 ·injection h with h; subst h; exact ⟨Tryz.func70, by kernel_rfl⟩
 ·injection h with h; subst h; exact ⟨Tryz.func71, by kernel_rfl⟩
 ·injection h with h; subst h; exact ⟨Tryz.func72, by kernel_rfl⟩
 ·injection h with h; subst h; exact ⟨Tryz.func73, by kernel_rfl⟩
 ·injection h with h; subst h; exact ⟨Tryz.func74, by kernel_rfl⟩
 ·injection h with h; subst h; exact ⟨Tryz.func75, by kernel_rfl⟩
 ·injection h with h; subst h; exact ⟨Tryz.func76, by kernel_rfl⟩
 ·injection h with h; subst h; exact ⟨Tryz.func77, by kernel_rfl⟩
 ·injection h with h; subst h; exact ⟨Tryz.func79, by kernel_rfl⟩
 ·injection h with h; subst h; exact ⟨Tryz.func80, by kernel_rfl⟩
 ·injection h with h; subst h; exact ⟨Tryz.func81, by kernel_rfl⟩
 ·injection h with h; subst h; exact ⟨Tryz.func83, by kernel_rfl⟩
 ·injection h with h; subst h; exact ⟨Tryz.func84, by kernel_rfl⟩
 ·injection h with h; subst h; exact ⟨Tryz.func85, by kernel_rfl⟩
 ·injection h with h; subst h; exact ⟨Tryz.func86, by kernel_rfl⟩
 ·injection h with h; subst h; exact ⟨Tryz.func87, by kernel_rfl⟩
 ·injection h with h; subst h; exact ⟨Tryz.func88, by kernel_rfl⟩
 ·injection h with h; subst h; exact ⟨Tryz.func89, by kernel_rfl⟩
 ·injection h with h; subst h; exact ⟨Tryz.func90, by kernel_rfl⟩
 ·injection h with h; subst h; exact ⟨Tryz.func91, by kernel_rfl⟩
 ·injection h with h; subst h; exact ⟨Tryz.func92, by kernel_rfl⟩
 ·injection h with h; subst h; exact ⟨Tryz.func93, by kernel_rfl⟩
 ·injection h with h; subst h; exact ⟨Tryz.func94, by kernel_rfl⟩
 ·injection h with h; subst h; exact ⟨Tryz.func95, by kernel_rfl⟩
 ·injection h with h; subst h; exact ⟨Tryz.func96, by kernel_rfl⟩
 ·injection h with h; subst h; exact ⟨Tryz.func97, by kernel_rfl⟩
 ·injection h with h; subst h; exact ⟨Tryz.func98, by kernel_rfl⟩
 ·injection h with h; subst h; exact ⟨Tryz.func103, by kernel_rfl⟩
 ·injection h with h; subst h; exact ⟨Tryz.func104, by kernel_rfl⟩
 ·injection h with h; subst h; exact ⟨Tryz.func105, by kernel_rfl⟩
 ·injection h with h; subst h; exact ⟨Tryz.func106, by kernel_rfl⟩
 ·injection h with h; subst h; exact ⟨Tryz.func107, by kernel_rfl⟩
 ·injection h with h; subst h; exact ⟨Tryz.func108, by kernel_rfl⟩
 ·injection h with h; subst h; exact ⟨Tryz.func109, by kernel_rfl⟩
 ·injection h with h; subst h; exact ⟨Tryz.func110, by kernel_rfl⟩
 ·injection h with h; subst h; exact ⟨Tryz.func111, by kernel_rfl⟩
 ·injection h with h; subst h; exact ⟨Tryz.func112, by kernel_rfl⟩
 ·injection h with h; subst h; exact ⟨Tryz.func113, by kernel_rfl⟩
 ·injection h with h; subst h; exact ⟨Tryz.func114, by kernel_rfl⟩
 ·injection h with h; subst h; exact ⟨Tryz.func115, by kernel_rfl⟩
 ·injection h with h; subst h; exact ⟨Tryz.func116, by kernel_rfl⟩
 ·injection h with h; subst h; exact ⟨Tryz.func117, by kernel_rfl⟩
 ·injection h with h; subst h; exact ⟨Tryz.func118, by kernel_rfl⟩
 ·injection h with h; subst h; exact ⟨Tryz.func119, by kernel_rfl⟩
 ·injection h with h; subst h; exact ⟨Tryz.func120, by kernel_rfl⟩
 ·injection h with h; subst h; exact ⟨Tryz.func121, by kernel_rfl⟩
 ·injection h with h; subst h; exact ⟨Tryz.func122, by kernel_rfl⟩
 ·injection h with h; subst h; exact ⟨Tryz.func123, by kernel_rfl⟩
 ·injection h with h; subst h; exact ⟨Tryz.func124, by kernel_rfl⟩
 ·injection h with h; subst h; exact ⟨Tryz.func125, by kernel_rfl⟩
 ·injection h with h; subst h; exact ⟨Tryz.func126, by kernel_rfl⟩
 ·injection h with h; subst h; exact ⟨Tryz.func127, by kernel_rfl⟩
 ·injection h with h; subst h; exact ⟨Tryz.func130, by kernel_rfl⟩
 ·injection h with h; subst h; exact ⟨Tryz.func131, by kernel_rfl⟩
 ·injection h with h; subst h; exact ⟨Tryz.func132, by kernel_rfl⟩
 ·injection h with h; subst h; exact ⟨Tryz.func135, by kernel_rfl⟩
 ·injection h with h; subst h; exact ⟨Tryz.func136, by kernel_rfl⟩
 ·injection h with h; subst h; exact ⟨Tryz.func137, by kernel_rfl⟩
 ·injection h with h; subst h; exact ⟨Tryz.func138, by kernel_rfl⟩
 ·injection h with h; subst h; exact ⟨Tryz.func139, by kernel_rfl⟩
 ·injection h with h; subst h; exact ⟨Tryz.func141, by kernel_rfl⟩
 ·injection h with h; subst h; exact ⟨Tryz.func143, by kernel_rfl⟩
 ·injection h with h; subst h; exact ⟨Tryz.func145, by kernel_rfl⟩
 ·injection h with h; subst h; exact ⟨Tryz.func147, by kernel_rfl⟩
 ·injection h with h; subst h; exact ⟨Tryz.func148, by kernel_rfl⟩
 ·injection h with h; subst h; exact ⟨Tryz.func149, by kernel_rfl⟩
 ·injection h with h; subst h; exact ⟨Tryz.func150, by kernel_rfl⟩
 ·injection h with h; subst h; exact ⟨Tryz.func151, by kernel_rfl⟩
 ·injection h with h; subst h; exact ⟨Tryz.func152, by kernel_rfl⟩
 ·injection h with h; subst h; exact ⟨Tryz.func153, by kernel_rfl⟩
 ·injection h with h; subst h; exact ⟨Tryz.func154, by kernel_rfl⟩
 ·injection h with h; subst h; exact ⟨Tryz.func155, by kernel_rfl⟩
 ·injection h with h; subst h; exact ⟨Tryz.func156, by kernel_rfl⟩
 ·injection h with h; subst h; exact ⟨Tryz.func160, by kernel_rfl⟩
 ·injection h with h; subst h; exact ⟨Tryz.func161, by kernel_rfl⟩
 ·injection h with h; subst h; exact ⟨Tryz.func163, by kernel_rfl⟩
 ·injection h with h; subst h; exact ⟨Tryz.func164, by kernel_rfl⟩
 ·injection h with h; subst h; exact ⟨Tryz.func170, by kernel_rfl⟩
 ·injection h with h; subst h; exact ⟨Tryz.func171, by kernel_rfl⟩
 ·injection h with h; subst h; exact ⟨Tryz.func172, by kernel_rfl⟩
 ·injection h with h; subst h; exact ⟨Tryz.func173, by kernel_rfl⟩
 ·injection h with h; subst h; exact ⟨Tryz.func174, by kernel_rfl⟩
 ·injection h with h; subst h; exact ⟨Tryz.func183, by kernel_rfl⟩
 ·injection h with h; subst h; exact ⟨Tryz.func190, by kernel_rfl⟩
 ·injection h with h; subst h; exact ⟨Tryz.func191, by kernel_rfl⟩
 ·injection h with h; subst h; exact ⟨Tryz.func195, by kernel_rfl⟩
 ·injection h with h; subst h; exact ⟨Tryz.func197, by kernel_rfl⟩
 ·cases h
theorem noop_ok : NoopOK Tryz.prog noop := by
 intro f hf
 have hu20 := Tryz.underlying20
 unfold noop at hf
 split at hf
 ·refine ⟨⟨Tryz.f36, Tryz.func36, by kernel_rfl, by kernel_rfl⟩, fun p q w => ?_⟩
  refine callsD_of_wpS Tryz.func36 rfl fun c₀ cs hu => ?_
  apply wpS_seq
  apply wpS_region
  simp [wpOpsS, go_sem, recoverD, hu, Tryz.ntmps36, Exit.thenS]
  apply wpS_seq
  apply wpS_region
  simp [wpOpsS, go_sem, Exit.thenS]
  refine wpS_cond (t := false) (by simp [Act.eval, Array.replicate]) ?_
  simp only [Bool.false_eq_true, if_false]
  refine wpS_of_wp (wp_skip ?_)
  cases c₀
  simp_all [bodyPostS, results, Tryz.results36, Exit.thenS]
 ·refine ⟨⟨Tryz.f119, Tryz.func119, by kernel_rfl, by kernel_rfl⟩, fun p q w => ?_⟩
  refine callsD_of_wpS Tryz.func119 rfl fun c₀ cs hu => ?_
  apply wpS_seq
  apply wpS_region
  simp [wpOpsS, go_sem, recoverD, hu, Tryz.ntmps119, Exit.thenS]
  apply wpS_seq
  apply wpS_region
  simp [wpOpsS, go_sem, Exit.thenS]
  refine wpS_cond (t := false) (by simp [Act.eval, Array.replicate]) ?_
  simp only [Bool.false_eq_true, if_false]
  refine wpS_of_wp (wp_skip ?_)
  cases c₀
  simp_all [bodyPostS, results, Tryz.results119, Exit.thenS]
 ·cases hf
noncomputable def isYes (x : Option Mem) : Bool :=
 match x with
 | some (.c (.c (.b true)), _, _) => true
 | _ => false
theorem awake_reckoned : isYes (evFn Tryz.prog tbl noop rk 100 40 7 [] 1 [] []) = true := by kernel_rfl
theorem awake_calls (w : World) : Calls Tryz.prog 7 #[] w fun e w' => e = .returned (.bool true) ∧ Below w.heap.size w w' := by
 have h := awake_reckoned
 unfold isYes at h
 split at h
 ·rename_i H d he
  have hc := evFn_sound (P := Tryz.prog) (by kernel_rfl) tbl_ok noop_ok rk 100 40 (fun _ => False) w
  have hR : RH (fun _ => False) w (fun _ => none) [] [] w :=
   ⟨fun n e h => by simp [Qd4] at h, fun n m e e' g z z' h => by simp [Qd4] at h, fun n x h => (by cases h), ⟨rfl, rfl, rfl, Nat.le_refl _, fun _ _ _ => rfl⟩⟩
  refine Calls.mono (hc 7 [] 1 [] [] _ _ _ _ [] w he hR trivial).2 fun e w' hh => ?_
  obtain ⟨ρ', V, _, rfl, hV, hR'⟩ := hh
  have hV : V = .bool true := hV
  subst hV
  exact ⟨rfl, hR'.out.os, hR'.out.tape, hR'.out.output, hR'.out.size, fun k hk => hR'.out.block k hk (fun h => h)⟩
 ·cases h
end Go.Proofs.YtchpkjgibloleaaGreat.V
namespace Go.Proofs.YtchpkjgibloleaaGreat.Z
set_option maxRecDepth 100000
set_option maxHeartbeats 8000000
open Go.RowKit Go.Proofs.YtchpkjgibloleaaGreatW.PrintWords Go.Proofs.YtchpkjgibloleaaGreatW.PrintLast Go.Proofs.YtchpkjgibloleaaGreatW.PrintMore
attribute [local go_sem] Qb3 Qb8
def Qbi.f (k : Nat) : Option Bool := some true
theorem Qbi.calls (k : Nat) (r : Bool) (w : World) (h : Qbi.f k = some r) : Calls Tryz.prog 7 #[] w fun e w' => e = .returned (.bool r) ∧ Below w.heap.size w w' := by
 obtain rfl := Option.some.inj h
 exact V.awake_calls w
end Go.Proofs.YtchpkjgibloleaaGreat.Z
