/- TA -/
import Derived.Test.YtchpkjgibloleaaGreatProg
import Derived.Below
import Derived.Deep.Draws
import Derived.Deep.AppendLies
import Derived.Maps.AppendAt
import Derived.OwnWalk
import Derived.Laws.BytesArg
import Derived.Laws.MakeOwn
import Derived.Laws.OwnMore
import Derived.Deep.OwnRows
import Derived.Tactics
import Derived.Lib.ConvBytes
import Derived.Laws.Slices
import Derived.WalkKit
import Derived.KernelRfl
import Derived.RowKit3
import Derived.Deep.LoopGhost
import Derived.Deep.QuietTactic
import Derived.BigQuiet
import Derived.WideLaws
import Derived.Deep.DeepCutAuto
import Derived.Deep.CutBlock
import Derived.Deep.RegionHeld3
import Derived.Laws.Rows
import Derived.Lib.AppendStr
import Derived.ArgAppend
import Derived.Laws.IdiomCopy
import Derived.OrdersHeld
import Derived.Laws.BitsLemmas
import Derived.RowKit
import Derived.Test.YtchpkjgibloleaaGreatTW
import Derived.WalkLawsBesides
import Derived.Laws.EntriesVeiled
import Derived.Laws.Tables
import Derived.Laws.CopyOwn
import Derived.Outline
import Derived.Handy
import Derived.Shelf.Abstract
set_option linter.unusedVariables false
set_option linter.unusedSimpArgs false
namespace Go.Proofs.YtchpkjgibloleaaGreat.Z
set_option maxRecDepth 100000
set_option maxHeartbeats 8000000
open Go.RowKit Go.Proofs.YtchpkjgibloleaaGreatW.PrintWords Go.Proofs.YtchpkjgibloleaaGreatW.PrintLast Go.Proofs.YtchpkjgibloleaaGreatW.PrintMore
attribute [local go_sem] Qb3 Qb8
def errW : Option Int → Value
 | none => .nilIface
 | some c => .iface 0 (.int .i64 c)
theorem As0 {p : Prop} (h : p) : Qbk p := ⟨h⟩
theorem wblt (w : World) {p : Addr} {v : Value} (h : w.cell? p = some v) : p.block < w.heap.size := World.block_lt_of_cell? w _ h
theorem bdN {B : Nat} {w W : World} (h : Below B w W) (n : Nat) : Below B w (W.drewN n) := Qcq h n
theorem bd1 {base : Nat} {w W : World} (h : Below base w W) : Below base w W.drew := below_drew1 h
theorem sL1 {α : Type} (l : List α) (i : Nat) (a : α) : l.toArray.setIfInBounds i a = (l.set i a).toArray := List.setIfInBounds_toArray ..
theorem sL2 {α : Type} (x : α) (xs : List α) (a : α) : (x :: xs).set 0 a = a :: xs := rfl
theorem sL3 {α : Type} (x : α) (xs : List α) (i : Nat) (a : α) : (x :: xs).set (i + 1) a = x :: xs.set i a := rfl
theorem Qbe : errW none = .nilIface := rfl
theorem Qbd (c : Int) : errW (some c) = .iface 0 (.int .i64 c) := rfl
theorem info39 : (Tryz.prog.info? 39).map (fun i => (i.zero, i.size, i.bytes)) = some (some (.agg #[(.slice none 0 0), (.int .i64 0), (.int .i64 0), (.int .i64 0), (.int .i64 0)]), 5, 56) := by kernel_rfl
theorem info41 : (Tryz.prog.info? 41).map (fun i => (i.zero, i.size, i.bytes)) = some (some (.agg #[(.int .i64 0), (.int .i64 0), (.int .i64 0), (.int .i64 0), (.int .i64 0)]), 5, 40) := by kernel_rfl
theorem info44 : (Tryz.prog.info? 44).map (fun i => (i.zero, i.size, i.bytes)) = some (some (.slice none 0 0), 1, 24) := by kernel_rfl
theorem Qc5 : (Tryz.prog.info? 47).map (fun i => (i.zero, i.size, i.bytes)) = some (some (.agg #[(.int .i64 0), (.int .i64 0)]), 2, 16) := by kernel_rfl
theorem info57 : (Tryz.prog.info? 57).map (fun i => (i.zero, i.size, i.bytes)) = some (some (.agg #[(.slice none 0 0), (.int .i64 0), (.int .i64 0), (.int .i64 0), (.int .i64 0)]), 5, 56) := by kernel_rfl
theorem info59 : (Tryz.prog.info? 59).map (fun i => (i.zero, i.size, i.bytes)) = some (some (.agg #[(.int .i64 0), (.int .i64 0), (.int .i64 0), (.int .i64 0), (.int .i64 0), (.int .i64 0), (.int .i64 0)]), 7, 56) := by kernel_rfl
theorem info180 : (Tryz.prog.info? 180).map (fun i => (i.zero, i.size, i.bytes)) = some (some (.agg #[(.int .i64 0), (.int .i64 0), (.int .i64 0), (.int .i64 0), (.int .i64 0), (.int .i64 0)]), 6, 48) := by kernel_rfl
structure S41 where
 f0 : Int
 f1 : Int
 f2 : Int
 f3 : Int
 f4 : Int
def z41 : S41 := ⟨(0 : Int), (0 : Int), (0 : Int), (0 : Int), (0 : Int)⟩
def k41 : Kd S41 := Kd.iso (Kd.pair (Kd.int .i64) (Kd.pair (Kd.int .i64) (Kd.pair (Kd.int .i64) (Kd.pair (Kd.int .i64) (Kd.int .i64))))) (fun x : S41 => (x.f0, x.f1, x.f2, x.f3, x.f4))
theorem k41_open {w : World} {x : S41} {cs : List Value} (h : k41.K w x cs) : cs = [.int .i64 x.f0, .int .i64 x.f1, .int .i64 x.f2, .int .i64 x.f3, .int .i64 x.f4] := by
 obtain ⟨_, _, rfl, rfl, ⟨_, _, rfl, rfl, ⟨_, _, rfl, rfl, ⟨_, _, rfl, rfl, rfl⟩⟩⟩⟩ := h
 exact rfl
def Qav (xs : List S41) (i : Int) : S41 := xs.getD i.toNat z41
theorem at_T41 {w : World} {A : Option Addr} {n : Nat} {xs : List S41} (h : Kd.C k41 w A n xs) (i : Int) (h0 : 0 ≤ i) (h1 : i < n) : ∃ ad , A = some ad ∧ w.cell? (ad.add (i.toNat * 5)) = some (.int .i64 (Qav xs i).f0) ∧ w.cell? ⟨(ad.add (i.toNat * 5)).block, (ad.add (i.toNat * 5)).off + 1, none⟩ = some (.int .i64 (Qav xs i).f1) ∧ w.cell? ⟨(ad.add (i.toNat * 5)).block, (ad.add (i.toNat * 5)).off + 2, none⟩ = some (.int .i64 (Qav xs i).f2) ∧ w.cell? ⟨(ad.add (i.toNat * 5)).block, (ad.add (i.toNat * 5)).off + 3, none⟩ = some (.int .i64 (Qav xs i).f3) ∧ w.cell? ⟨(ad.add (i.toNat * 5)).block, (ad.add (i.toNat * 5)).off + 4, none⟩ = some (.int .i64 (Qav xs i).f4) := by
 obtain ⟨ad, c, e, _, hK, hc0⟩ := Kd.C_get h z41 i h0 h1
 have hc : ∀ j u, c[j]? = some u → w.cell? (ad.add (i.toNat * 5 + j)) = some u := hc0
 obtain rfl := k41_open hK
 exact ⟨ad, e, hc 0 _ rfl, by rw [← Qb4 _ _ 1 (by omega)]; exact hc 1 _ rfl, by rw [← Qb4 _ _ 2 (by omega)]; exact hc 2 _ rfl, by rw [← Qb4 _ _ 3 (by omega)]; exact hc 3 _ rfl, by rw [← Qb4 _ _ 4 (by omega)]; exact hc 4 _ rfl⟩
structure S37 where
 f0 : Int
 f1 : Int
 f2 : Int
 f3 : Int
def z37 : S37 := ⟨(0 : Int), (0 : Int), (0 : Int), (0 : Int)⟩
def k37 : Kd S37 := Kd.iso (Kd.pair (Kd.int .i64) (Kd.pair (Kd.int .i64) (Kd.pair (Kd.int .i64) (Kd.int .i64)))) (fun x : S37 => (x.f0, x.f1, x.f2, x.f3))
theorem k37_open {w : World} {x : S37} {cs : List Value} (h : k37.K w x cs) : cs = [.int .i64 x.f0, .int .i64 x.f1, .int .i64 x.f2, .int .i64 x.f3] := by
 obtain ⟨_, _, rfl, rfl, ⟨_, _, rfl, rfl, ⟨_, _, rfl, rfl, rfl⟩⟩⟩ := h
 exact rfl
theorem k37_mk (w : World) (x : S37)  : k37.K w x [.int .i64 x.f0, .int .i64 x.f1, .int .i64 x.f2, .int .i64 x.f3] := ⟨[.int .i64 x.f0], [.int .i64 x.f1, .int .i64 x.f2, .int .i64 x.f3], rfl, rfl, ⟨[.int .i64 x.f1], [.int .i64 x.f2, .int .i64 x.f3], rfl, rfl, ⟨[.int .i64 x.f2], [.int .i64 x.f3], rfl, rfl, rfl⟩⟩⟩
theorem k37_mkM (w : World) (base : Nat) (ok : Nat → Prop) (x : S37)  : k37.M w base ok x [.int .i64 x.f0, .int .i64 x.f1, .int .i64 x.f2, .int .i64 x.f3] := ⟨[.int .i64 x.f0], [.int .i64 x.f1, .int .i64 x.f2, .int .i64 x.f3], rfl, rfl, ⟨[.int .i64 x.f1], [.int .i64 x.f2, .int .i64 x.f3], rfl, rfl, ⟨[.int .i64 x.f2], [.int .i64 x.f3], rfl, rfl, rfl⟩⟩⟩
structure S39 where
 f0 : (List S41)
 f1 : S37
def z39 : S39 := ⟨([] : List S41), z37⟩
def k39 : Kd S39 := Kd.iso (Kd.pair (Kd.slice 41 k41) k37) (fun x : S39 => (x.f0, x.f1))
theorem k39_open {w : World} {x : S39} {cs : List Value} (h : k39.K w x cs) : ∃ A0 c0, cs = [.slice A0 x.f0.length c0, .int .i64 x.f1.f0, .int .i64 x.f1.f1, .int .i64 x.f1.f2, .int .i64 x.f1.f3] ∧ x.f0.length ≤ c0 ∧ k41.C w A0 x.f0.length x.f0 := by
 obtain ⟨_, _, rfl, ⟨A0, c0, rfl, l0, g0⟩, s1⟩ := h
 obtain rfl := k37_open s1
 exact ⟨A0, c0, rfl, l0, g0⟩
theorem k39_mkM (w : World) (base : Nat) (ok : Nat → Prop) (x : S39) {v0 : Value} (g0 : k41.R 41 w base ok v0 x.f0) : k39.M w base ok x [v0, .int .i64 x.f1.f0, .int .i64 x.f1.f1, .int .i64 x.f1.f2, .int .i64 x.f1.f3] := ⟨[v0], [.int .i64 x.f1.f0, .int .i64 x.f1.f1, .int .i64 x.f1.f2, .int .i64 x.f1.f3], rfl, ⟨v0, rfl, g0⟩, (k37_mkM w base ok x.f1 )⟩
def Qam (xs : List S39) (i : Int) : S39 := xs.getD i.toNat z39
theorem at_T39 {w : World} {A : Option Addr} {n : Nat} {xs : List S39} (h : Kd.C k39 w A n xs) (i : Int) (h0 : 0 ≤ i) (h1 : i < n) : ∃ ad A0 c0, A = some ad ∧ w.cell? (ad.add (i.toNat * 5)) = some (.slice A0 (Qam xs i).f0.length c0) ∧ w.cell? ⟨(ad.add (i.toNat * 5)).block, (ad.add (i.toNat * 5)).off + 1, none⟩ = some (.int .i64 (Qam xs i).f1.f0) ∧ w.cell? ⟨(ad.add (i.toNat * 5)).block, (ad.add (i.toNat * 5)).off + 2, none⟩ = some (.int .i64 (Qam xs i).f1.f1) ∧ w.cell? ⟨(ad.add (i.toNat * 5)).block, (ad.add (i.toNat * 5)).off + 3, none⟩ = some (.int .i64 (Qam xs i).f1.f2) ∧ w.cell? ⟨(ad.add (i.toNat * 5)).block, (ad.add (i.toNat * 5)).off + 4, none⟩ = some (.int .i64 (Qam xs i).f1.f3) ∧ (Qam xs i).f0.length ≤ c0 ∧ k41.C w A0 (Qam xs i).f0.length (Qam xs i).f0 := by
 obtain ⟨ad, c, e, _, hK, hc0⟩ := Kd.C_get h z39 i h0 h1
 have hc : ∀ j u, c[j]? = some u → w.cell? (ad.add (i.toNat * 5 + j)) = some u := hc0
 obtain ⟨A0, c0, rfl, l0, g0⟩ := k39_open hK
 exact ⟨ad, A0, c0, e, hc 0 _ rfl, by rw [← Qb4 _ _ 1 (by omega)]; exact hc 1 _ rfl, by rw [← Qb4 _ _ 2 (by omega)]; exact hc 2 _ rfl, by rw [← Qb4 _ _ 3 (by omega)]; exact hc 3 _ rfl, by rw [← Qb4 _ _ 4 (by omega)]; exact hc 4 _ rfl, l0, g0⟩
structure S235 where
 f0 : Int
 f1 : Bool
 f2 : Int
def z235 : S235 := ⟨(0 : Int), false, (0 : Int)⟩
def k235 : Kd S235 := Kd.iso (Kd.pair (Kd.int .i64) (Kd.pair Kd.bool (Kd.int .i64))) (fun x : S235 => (x.f0, x.f1, x.f2))
theorem k235_open {w : World} {x : S235} {cs : List Value} (h : k235.K w x cs) : cs = [.int .i64 x.f0, .bool x.f1, .int .i64 x.f2] := by
 obtain ⟨_, _, rfl, rfl, ⟨_, _, rfl, rfl, rfl⟩⟩ := h
 exact rfl
theorem Qb9 (w : World) (base : Nat) (ok : Nat → Prop) (x : S235)  : k235.M w base ok x [.int .i64 x.f0, .bool x.f1, .int .i64 x.f2] := ⟨[.int .i64 x.f0], [.bool x.f1, .int .i64 x.f2], rfl, rfl, ⟨[.bool x.f1], [.int .i64 x.f2], rfl, rfl, rfl⟩⟩
def Qa6 (xs : List S235) (i : Int) : S235 := xs.getD i.toNat z235
theorem at_T235 {w : World} {A : Option Addr} {n : Nat} {xs : List S235} (h : Kd.C k235 w A n xs) (i : Int) (h0 : 0 ≤ i) (h1 : i < n) : ∃ ad , A = some ad ∧ w.cell? (ad.add (i.toNat * 3)) = some (.int .i64 (Qa6 xs i).f0) ∧ w.cell? ⟨(ad.add (i.toNat * 3)).block, (ad.add (i.toNat * 3)).off + 1, none⟩ = some (.bool (Qa6 xs i).f1) ∧ w.cell? ⟨(ad.add (i.toNat * 3)).block, (ad.add (i.toNat * 3)).off + 2, none⟩ = some (.int .i64 (Qa6 xs i).f2) := by
 obtain ⟨ad, c, e, _, hK, hc0⟩ := Kd.C_get h z235 i h0 h1
 have hc : ∀ j u, c[j]? = some u → w.cell? (ad.add (i.toNat * 3 + j)) = some u := hc0
 obtain rfl := k235_open hK
 exact ⟨ad, e, hc 0 _ rfl, by rw [← Qb4 _ _ 1 (by omega)]; exact hc 1 _ rfl, by rw [← Qb4 _ _ 2 (by omega)]; exact hc 2 _ rfl⟩
structure S59 where
 f0 : Int
 f1 : Int
 f2 : Int
 f3 : Int
 f4 : Int
 f5 : Int
 f6 : Int
def z59 : S59 := ⟨(0 : Int), (0 : Int), (0 : Int), (0 : Int), (0 : Int), (0 : Int), (0 : Int)⟩
def k59 : Kd S59 := Kd.iso (Kd.pair (Kd.int .i64) (Kd.pair (Kd.int .i64) (Kd.pair (Kd.int .i64) (Kd.pair (Kd.int .i64) (Kd.pair (Kd.int .i64) (Kd.pair (Kd.int .i64) (Kd.int .i64))))))) (fun x : S59 => (x.f0, x.f1, x.f2, x.f3, x.f4, x.f5, x.f6))
theorem k59_open {w : World} {x : S59} {cs : List Value} (h : k59.K w x cs) : cs = [.int .i64 x.f0, .int .i64 x.f1, .int .i64 x.f2, .int .i64 x.f3, .int .i64 x.f4, .int .i64 x.f5, .int .i64 x.f6] := by
 obtain ⟨_, _, rfl, rfl, ⟨_, _, rfl, rfl, ⟨_, _, rfl, rfl, ⟨_, _, rfl, rfl, ⟨_, _, rfl, rfl, ⟨_, _, rfl, rfl, rfl⟩⟩⟩⟩⟩⟩ := h
 exact rfl
theorem k59_mkM (w : World) (base : Nat) (ok : Nat → Prop) (x : S59)  : k59.M w base ok x [.int .i64 x.f0, .int .i64 x.f1, .int .i64 x.f2, .int .i64 x.f3, .int .i64 x.f4, .int .i64 x.f5, .int .i64 x.f6] := ⟨[.int .i64 x.f0], [.int .i64 x.f1, .int .i64 x.f2, .int .i64 x.f3, .int .i64 x.f4, .int .i64 x.f5, .int .i64 x.f6], rfl, rfl, ⟨[.int .i64 x.f1], [.int .i64 x.f2, .int .i64 x.f3, .int .i64 x.f4, .int .i64 x.f5, .int .i64 x.f6], rfl, rfl, ⟨[.int .i64 x.f2], [.int .i64 x.f3, .int .i64 x.f4, .int .i64 x.f5, .int .i64 x.f6], rfl, rfl, ⟨[.int .i64 x.f3], [.int .i64 x.f4, .int .i64 x.f5, .int .i64 x.f6], rfl, rfl, ⟨[.int .i64 x.f4], [.int .i64 x.f5, .int .i64 x.f6], rfl, rfl, ⟨[.int .i64 x.f5], [.int .i64 x.f6], rfl, rfl, rfl⟩⟩⟩⟩⟩⟩
def Qag (xs : List S59) (i : Int) : S59 := xs.getD i.toNat z59
theorem at_T59 {w : World} {A : Option Addr} {n : Nat} {xs : List S59} (h : Kd.C k59 w A n xs) (i : Int) (h0 : 0 ≤ i) (h1 : i < n) : ∃ ad , A = some ad ∧ w.cell? (ad.add (i.toNat * 7)) = some (.int .i64 (Qag xs i).f0) ∧ w.cell? ⟨(ad.add (i.toNat * 7)).block, (ad.add (i.toNat * 7)).off + 1, none⟩ = some (.int .i64 (Qag xs i).f1) ∧ w.cell? ⟨(ad.add (i.toNat * 7)).block, (ad.add (i.toNat * 7)).off + 2, none⟩ = some (.int .i64 (Qag xs i).f2) ∧ w.cell? ⟨(ad.add (i.toNat * 7)).block, (ad.add (i.toNat * 7)).off + 3, none⟩ = some (.int .i64 (Qag xs i).f3) ∧ w.cell? ⟨(ad.add (i.toNat * 7)).block, (ad.add (i.toNat * 7)).off + 4, none⟩ = some (.int .i64 (Qag xs i).f4) ∧ w.cell? ⟨(ad.add (i.toNat * 7)).block, (ad.add (i.toNat * 7)).off + 5, none⟩ = some (.int .i64 (Qag xs i).f5) ∧ w.cell? ⟨(ad.add (i.toNat * 7)).block, (ad.add (i.toNat * 7)).off + 6, none⟩ = some (.int .i64 (Qag xs i).f6) := by
 obtain ⟨ad, c, e, _, hK, hc0⟩ := Kd.C_get h z59 i h0 h1
 have hc : ∀ j u, c[j]? = some u → w.cell? (ad.add (i.toNat * 7 + j)) = some u := hc0
 obtain rfl := k59_open hK
 exact ⟨ad, e, hc 0 _ rfl, by rw [← Qb4 _ _ 1 (by omega)]; exact hc 1 _ rfl, by rw [← Qb4 _ _ 2 (by omega)]; exact hc 2 _ rfl, by rw [← Qb4 _ _ 3 (by omega)]; exact hc 3 _ rfl, by rw [← Qb4 _ _ 4 (by omega)]; exact hc 4 _ rfl, by rw [← Qb4 _ _ 5 (by omega)]; exact hc 5 _ rfl, by rw [← Qb4 _ _ 6 (by omega)]; exact hc 6 _ rfl⟩
structure S57 where
 f0 : (List S59)
 f1 : S37
def z57 : S57 := ⟨([] : List S59), z37⟩
def k57 : Kd S57 := Kd.iso (Kd.pair (Kd.slice 59 k59) k37) (fun x : S57 => (x.f0, x.f1))
theorem k57_open {w : World} {x : S57} {cs : List Value} (h : k57.K w x cs) : ∃ A0 c0, cs = [.slice A0 x.f0.length c0, .int .i64 x.f1.f0, .int .i64 x.f1.f1, .int .i64 x.f1.f2, .int .i64 x.f1.f3] ∧ x.f0.length ≤ c0 ∧ k59.C w A0 x.f0.length x.f0 := by
 obtain ⟨_, _, rfl, ⟨A0, c0, rfl, l0, g0⟩, s1⟩ := h
 obtain rfl := k37_open s1
 exact ⟨A0, c0, rfl, l0, g0⟩
theorem k57_mk (w : World) (x : S57) {A0 : Option Addr} {c0 : Nat} (l0 : x.f0.length ≤ c0) (g0 : k59.C w A0 x.f0.length x.f0) : k57.K w x [.slice A0 x.f0.length c0, .int .i64 x.f1.f0, .int .i64 x.f1.f1, .int .i64 x.f1.f2, .int .i64 x.f1.f3] := ⟨[.slice A0 x.f0.length c0], [.int .i64 x.f1.f0, .int .i64 x.f1.f1, .int .i64 x.f1.f2, .int .i64 x.f1.f3], rfl, ⟨A0, c0, rfl, l0, g0⟩, (k37_mk w x.f1 )⟩
theorem k57_mkM (w : World) (base : Nat) (ok : Nat → Prop) (x : S57) {v0 : Value} (g0 : k59.R 59 w base ok v0 x.f0) : k57.M w base ok x [v0, .int .i64 x.f1.f0, .int .i64 x.f1.f1, .int .i64 x.f1.f2, .int .i64 x.f1.f3] := ⟨[v0], [.int .i64 x.f1.f0, .int .i64 x.f1.f1, .int .i64 x.f1.f2, .int .i64 x.f1.f3], rfl, ⟨v0, rfl, g0⟩, (k37_mkM w base ok x.f1 )⟩
theorem k57_openF {W : World} {ok : Nat → Prop} {x : S57} {cs : List Value} (h : Kd.FK k57 W ok x cs) : ∃ A0 c0, cs = [.slice A0 x.f0.length c0, .int .i64 x.f1.f0, .int .i64 x.f1.f1, .int .i64 x.f1.f2, .int .i64 x.f1.f3] ∧ x.f0.length ≤ c0 ∧ Kd.F k59 W ok A0 x.f0.length x.f0 := by
 obtain ⟨A0, c0, rfl, l0, _⟩ := k57_open (Kd.FK_now h)
 exact ⟨A0, c0, rfl, l0, (fun W' hW => by obtain ⟨A0_, c0_, he, l0_, g0_⟩ := k57_open (h W' hW); injection (Option.some.inj (show some (Value.slice A0 x.f0.length c0) = some (Value.slice A0_ x.f0.length c0_) from congrArg (fun l => l[0]?) he)) with ha_ _ _; rw [ha_]; exact g0_)⟩
theorem k57_mkF (W : World) (ok : Nat → Prop) (x : S57) {A0 : Option Addr} {c0 : Nat} (l0 : x.f0.length ≤ c0) (g0 : Kd.F k59 W ok A0 x.f0.length x.f0) : Kd.FK k57 W ok x [.slice A0 x.f0.length c0, .int .i64 x.f1.f0, .int .i64 x.f1.f1, .int .i64 x.f1.f2, .int .i64 x.f1.f3] := fun W2 hW => k57_mk W2 x l0 (g0 W2 hW)
def Qad (xs : List S57) (i : Int) : S57 := xs.getD i.toNat z57
theorem Qej {w : World} {A : Option Addr} {n : Nat} {xs : List S57} (h : Kd.C k57 w A n xs) (i : Int) (h0 : 0 ≤ i) (h1 : i < n) : ∃ ad A0 c0, A = some ad ∧ w.cell? (ad.add (i.toNat * 5)) = some (.slice A0 (Qad xs i).f0.length c0) ∧ w.cell? ⟨(ad.add (i.toNat * 5)).block, (ad.add (i.toNat * 5)).off + 1, none⟩ = some (.int .i64 (Qad xs i).f1.f0) ∧ w.cell? ⟨(ad.add (i.toNat * 5)).block, (ad.add (i.toNat * 5)).off + 2, none⟩ = some (.int .i64 (Qad xs i).f1.f1) ∧ w.cell? ⟨(ad.add (i.toNat * 5)).block, (ad.add (i.toNat * 5)).off + 3, none⟩ = some (.int .i64 (Qad xs i).f1.f2) ∧ w.cell? ⟨(ad.add (i.toNat * 5)).block, (ad.add (i.toNat * 5)).off + 4, none⟩ = some (.int .i64 (Qad xs i).f1.f3) ∧ (Qad xs i).f0.length ≤ c0 ∧ k59.C w A0 (Qad xs i).f0.length (Qad xs i).f0 := by
 obtain ⟨ad, c, e, _, hK, hc0⟩ := Kd.C_get h z57 i h0 h1
 have hc : ∀ j u, c[j]? = some u → w.cell? (ad.add (i.toNat * 5 + j)) = some u := hc0
 obtain ⟨A0, c0, rfl, l0, g0⟩ := k57_open hK
 exact ⟨ad, A0, c0, e, hc 0 _ rfl, by rw [← Qb4 _ _ 1 (by omega)]; exact hc 1 _ rfl, by rw [← Qb4 _ _ 2 (by omega)]; exact hc 2 _ rfl, by rw [← Qb4 _ _ 3 (by omega)]; exact hc 3 _ rfl, by rw [← Qb4 _ _ 4 (by omega)]; exact hc 4 _ rfl, l0, g0⟩
structure S47 where
 f0 : Int
 f1 : Int
def z47 : S47 := ⟨(0 : Int), (0 : Int)⟩
def k47 : Kd S47 := Kd.iso (Kd.pair (Kd.int .i64) (Kd.int .i64)) (fun x : S47 => (x.f0, x.f1))
theorem k47_open {w : World} {x : S47} {cs : List Value} (h : k47.K w x cs) : cs = [.int .i64 x.f0, .int .i64 x.f1] := by
 obtain ⟨_, _, rfl, rfl, rfl⟩ := h
 exact rfl
theorem k47_mk (w : World) (x : S47)  : k47.K w x [.int .i64 x.f0, .int .i64 x.f1] := ⟨[.int .i64 x.f0], [.int .i64 x.f1], rfl, rfl, rfl⟩
theorem Qef (w : World) (base : Nat) (ok : Nat → Prop) (x : S47)  : k47.M w base ok x [.int .i64 x.f0, .int .i64 x.f1] := ⟨[.int .i64 x.f0], [.int .i64 x.f1], rfl, rfl, rfl⟩
def Qaa (xs : List S47) (i : Int) : S47 := xs.getD i.toNat z47
theorem Qcs {w : World} {A : Option Addr} {n : Nat} {xs : List S47} (h : Kd.C k47 w A n xs) (i : Int) (h0 : 0 ≤ i) (h1 : i < n) : ∃ ad , A = some ad ∧ w.cell? (ad.add (i.toNat * 2)) = some (.int .i64 (Qaa xs i).f0) ∧ w.cell? ⟨(ad.add (i.toNat * 2)).block, (ad.add (i.toNat * 2)).off + 1, none⟩ = some (.int .i64 (Qaa xs i).f1) := by
 obtain ⟨ad, c, e, _, hK, hc0⟩ := Kd.C_get h z47 i h0 h1
 have hc : ∀ j u, c[j]? = some u → w.cell? (ad.add (i.toNat * 2 + j)) = some u := hc0
 obtain rfl := k47_open hK
 exact ⟨ad, e, hc 0 _ rfl, by rw [← Qb4 _ _ 1 (by omega)]; exact hc 1 _ rfl⟩
def Qax (xs : List (List S47)) (i : Int) : (List S47) := xs.getD i.toNat ([] : List S47)
theorem Qek {w : World} {A : Option Addr} {n : Nat} {xs : List (List S47)} (h : Kd.C (Kd.slice 47 k47) w A n xs) (i : Int) (h0 : 0 ≤ i) (h1 : i < n) : ∃ ad A0 c0, A = some ad ∧ w.cell? (ad.add i.toNat) = some (.slice A0 (Qax xs i).length c0) ∧ (Qax xs i).length ≤ c0 ∧ k47.C w A0 (Qax xs i).length (Qax xs i) := by
 obtain ⟨ad, c, e, _, hK, hc0⟩ := Kd.C_get h ([] : List S47) i h0 h1
 have hc : ∀ j u, c[j]? = some u → w.cell? (ad.add (i.toNat * 1 + j)) = some u := hc0
 obtain ⟨A0, c0, rfl, l0, g0⟩ := hK
 exact ⟨ad, A0, c0, e, by have hq := hc 0 _ rfl; rwa [Nat.mul_one, Nat.add_zero] at hq, l0, g0⟩
structure S180 where
 f0 : Int
 f1 : Int
 f2 : Int
 f3 : Int
 f4 : Int
 f5 : Int
def z180 : S180 := ⟨(0 : Int), (0 : Int), (0 : Int), (0 : Int), (0 : Int), (0 : Int)⟩
def k180 : Kd S180 := Kd.iso (Kd.pair (Kd.int .i64) (Kd.pair (Kd.int .i64) (Kd.pair (Kd.int .i64) (Kd.pair (Kd.int .i64) (Kd.pair (Kd.int .i64) (Kd.int .i64)))))) (fun x : S180 => (x.f0, x.f1, x.f2, x.f3, x.f4, x.f5))
theorem k180_open {w : World} {x : S180} {cs : List Value} (h : k180.K w x cs) : cs = [.int .i64 x.f0, .int .i64 x.f1, .int .i64 x.f2, .int .i64 x.f3, .int .i64 x.f4, .int .i64 x.f5] := by
 obtain ⟨_, _, rfl, rfl, ⟨_, _, rfl, rfl, ⟨_, _, rfl, rfl, ⟨_, _, rfl, rfl, ⟨_, _, rfl, rfl, rfl⟩⟩⟩⟩⟩ := h
 exact rfl
theorem k180_mkM (w : World) (base : Nat) (ok : Nat → Prop) (x : S180)  : k180.M w base ok x [.int .i64 x.f0, .int .i64 x.f1, .int .i64 x.f2, .int .i64 x.f3, .int .i64 x.f4, .int .i64 x.f5] := ⟨[.int .i64 x.f0], [.int .i64 x.f1, .int .i64 x.f2, .int .i64 x.f3, .int .i64 x.f4, .int .i64 x.f5], rfl, rfl, ⟨[.int .i64 x.f1], [.int .i64 x.f2, .int .i64 x.f3, .int .i64 x.f4, .int .i64 x.f5], rfl, rfl, ⟨[.int .i64 x.f2], [.int .i64 x.f3, .int .i64 x.f4, .int .i64 x.f5], rfl, rfl, ⟨[.int .i64 x.f3], [.int .i64 x.f4, .int .i64 x.f5], rfl, rfl, ⟨[.int .i64 x.f4], [.int .i64 x.f5], rfl, rfl, rfl⟩⟩⟩⟩⟩
def Qd9 (xs : List S180) (i : Int) : S180 := xs.getD i.toNat z180
theorem at_T180 {w : World} {A : Option Addr} {n : Nat} {xs : List S180} (h : Kd.C k180 w A n xs) (i : Int) (h0 : 0 ≤ i) (h1 : i < n) : ∃ ad , A = some ad ∧ w.cell? (ad.add (i.toNat * 6)) = some (.int .i64 (Qd9 xs i).f0) ∧ w.cell? ⟨(ad.add (i.toNat * 6)).block, (ad.add (i.toNat * 6)).off + 1, none⟩ = some (.int .i64 (Qd9 xs i).f1) ∧ w.cell? ⟨(ad.add (i.toNat * 6)).block, (ad.add (i.toNat * 6)).off + 2, none⟩ = some (.int .i64 (Qd9 xs i).f2) ∧ w.cell? ⟨(ad.add (i.toNat * 6)).block, (ad.add (i.toNat * 6)).off + 3, none⟩ = some (.int .i64 (Qd9 xs i).f3) ∧ w.cell? ⟨(ad.add (i.toNat * 6)).block, (ad.add (i.toNat * 6)).off + 4, none⟩ = some (.int .i64 (Qd9 xs i).f4) ∧ w.cell? ⟨(ad.add (i.toNat * 6)).block, (ad.add (i.toNat * 6)).off + 5, none⟩ = some (.int .i64 (Qd9 xs i).f5) := by
 obtain ⟨ad, c, e, _, hK, hc0⟩ := Kd.C_get h z180 i h0 h1
 have hc : ∀ j u, c[j]? = some u → w.cell? (ad.add (i.toNat * 6 + j)) = some u := hc0
 obtain rfl := k180_open hK
 exact ⟨ad, e, hc 0 _ rfl, by rw [← Qb4 _ _ 1 (by omega)]; exact hc 1 _ rfl, by rw [← Qb4 _ _ 2 (by omega)]; exact hc 2 _ rfl, by rw [← Qb4 _ _ 3 (by omega)]; exact hc 3 _ rfl, by rw [← Qb4 _ _ 4 (by omega)]; exact hc 4 _ rfl, by rw [← Qb4 _ _ 5 (by omega)]; exact hc 5 _ rfl⟩
structure S87 where
 f0 : (List S47)
 f1 : Int
 f2 : Int
 f3 : Int
 f4 : Int
structure S24 where
 f0 : Int
 f1 : Int
 f2 : (List S39)
def k24 : Kd S24 := Kd.iso (Kd.pair (Kd.int .i64) (Kd.pair (Kd.int .i64) (Kd.slice 39 k39))) (fun x : S24 => (x.f0, x.f1, x.f2))
theorem k24_open {w : World} {x : S24} {cs : List Value} (h : k24.K w x cs) : ∃ A2 c2, cs = [.int .i64 x.f0, .int .i64 x.f1, .slice A2 x.f2.length c2] ∧ x.f2.length ≤ c2 ∧ k39.C w A2 x.f2.length x.f2 := by
 obtain ⟨_, _, rfl, rfl, ⟨_, _, rfl, rfl, ⟨A2, c2, rfl, l2, g2⟩⟩⟩ := h
 exact ⟨A2, c2, rfl, l2, g2⟩
structure S27 where
 f0 : Int
 f1 : Int
 f2 : Int
 f3 : (List S57)
def k27 : Kd S27 := Kd.iso (Kd.pair (Kd.int .i64) (Kd.pair (Kd.int .i64) (Kd.pair (Kd.int .i64) (Kd.slice 57 k57)))) (fun x : S27 => (x.f0, x.f1, x.f2, x.f3))
theorem k27_open {w : World} {x : S27} {cs : List Value} (h : k27.K w x cs) : ∃ A3 c3, cs = [.int .i64 x.f0, .int .i64 x.f1, .int .i64 x.f2, .slice A3 x.f3.length c3] ∧ x.f3.length ≤ c3 ∧ k57.C w A3 x.f3.length x.f3 := by
 obtain ⟨_, _, rfl, rfl, ⟨_, _, rfl, rfl, ⟨_, _, rfl, rfl, ⟨A3, c3, rfl, l3, g3⟩⟩⟩⟩ := h
 exact ⟨A3, c3, rfl, l3, g3⟩
structure S30 where
 f0 : S24
 f1 : S27
 f2 : (List (List S47))
def k30 : Kd S30 := Kd.iso (Kd.pair k24 (Kd.pair k27 (Kd.slice 44 (Kd.slice 47 k47)))) (fun x : S30 => (x.f0, x.f1, x.f2))
theorem k30_open {w : World} {x : S30} {cs : List Value} (h : k30.K w x cs) : ∃ A2 c2 A6 c6 A7 c7, cs = [.int .i64 x.f0.f0, .int .i64 x.f0.f1, .slice A2 x.f0.f2.length c2, .int .i64 x.f1.f0, .int .i64 x.f1.f1, .int .i64 x.f1.f2, .slice A6 x.f1.f3.length c6, .slice A7 x.f2.length c7] ∧ x.f0.f2.length ≤ c2 ∧ k39.C w A2 x.f0.f2.length x.f0.f2 ∧ x.f1.f3.length ≤ c6 ∧ k57.C w A6 x.f1.f3.length x.f1.f3 ∧ x.f2.length ≤ c7 ∧ (Kd.slice 47 k47).C w A7 x.f2.length x.f2 := by
 obtain ⟨_, _, rfl, s0, ⟨_, _, rfl, s3, ⟨A7, c7, rfl, l7, g7⟩⟩⟩ := h
 obtain ⟨A2, c2, rfl, l2, g2⟩ := k24_open s0
 obtain ⟨A6, c6, rfl, l6, g6⟩ := k27_open s3
 exact ⟨A2, c2, A6, c6, A7, c7, rfl, l2, g2, l6, g6, l7, g7⟩
structure S51 where
 f0 : Int
 f1 : Int
 f2 : Int
 f3 : Int
 f4 : Int
 f5 : Int
 f6 : Int
theorem RF {α : Type} {d : Kd α} {e : Nat} {w : World} {base : Nat} {ok : Nat → Prop} {v : Value} {xs : List α} (g i : Nat) (h : d.R e w base (fun k => ok k ∧ k ≠ g) v xs) (u : Value) : d.R e (w.setCell ⟨g, i, none⟩ u) base (fun k => ok k ∧ k ≠ g) v xs := Kd.R_far (p := ⟨g, i, none⟩) h (fun _ hk => hk.2) u
theorem RA {α : Type} {d : Kd α} {e : Nat} {w : World} {base : Nat} {ok : Nat → Prop} {v : Value} {xs : List α} (h : d.R e w base ok v xs) (o : Obj) : d.R e (w.alloc o) base ok v xs := Kd.R_alloc h o
theorem RD {α : Type} {d : Kd α} {e : Nat} {w : World} {base : Nat} {ok : Nat → Prop} {v : Value} {xs : List α} (h : d.R e w base ok v xs) : d.R e w.drew base ok v xs := Kd.R_drew h
theorem RN {α : Type} {d : Kd α} {e : Nat} {w : World} {base : Nat} {ok : Nat → Prop} {v : Value} {xs : List α} (h : d.R e w base ok v xs) (m : Nat) : d.R e (w.drewN m) base ok v xs := Kd.R_drewN h m
theorem bA {w : World} {g : Nat} {o : Obj} (h : w.heap[g]? = some o) (o' : Obj) : (w.alloc o').heap[g]? = some o := Qbw h o'
theorem bD {w : World} {g : Nat} {o : Obj} (h : w.heap[g]? = some o) : w.drew.heap[g]? = some o := Qbr h
theorem bN {w : World} {g : Nat} {o : Obj} (h : w.heap[g]? = some o) (n : Nat) : (w.drewN n).heap[g]? = some o := blk_drewN h n
inductive UpI : World → World → Prop where
 | r (w : World) : UpI w w
 | a {w w' : World} (h : UpI w w') (o : Obj) : UpI w (w'.alloc o)
 | d {w w' : World} (h : UpI w w') : UpI w w'.drew
 | n {w w' : World} (h : UpI w w') (m : Nat) : UpI w (w'.drewN m)
inductive BeI (b : Nat) : World → World → Prop where
 | r (w : World) : BeI b w w
 | a {w w' : World} (h : BeI b w w') (o : Obj) : BeI b w (w'.alloc o)
 | d {w w' : World} (h : BeI b w w') : BeI b w w'.drew
 | n {w w' : World} (h : BeI b w w') (m : Nat) : BeI b w (w'.drewN m)
 | s {w w' : World} {g j : Nat} {v : Value} (h : BeI b w w') (hg : b ≤ g) : BeI b w (w'.setCell ⟨g, j, none⟩ v)
theorem bU {w w' : World} {g : Nat} {o : Obj} (h : w.heap[g]? = some o) (u : UpI w w' := by with_reducible (repeat (first | exact Go.Proofs.YtchpkjgibloleaaGreat.Z.UpI.r _ | refine Go.Proofs.YtchpkjgibloleaaGreat.Z.UpI.n ?_ _ | refine Go.Proofs.YtchpkjgibloleaaGreat.Z.UpI.d ?_ | refine Go.Proofs.YtchpkjgibloleaaGreat.Z.UpI.a ?_ _))) : w'.heap[g]? = some o := by
 induction u with
 | r => exact h
 | a _ o ih => exact bA ih o
 | d _ ih => exact bD ih
 | n _ m ih => exact bN ih m
theorem RU {α : Type} {d : Kd α} {e : Nat} {w w' : World} {base : Nat} {ok : Nat → Prop} {v : Value} {xs : List α} (h : d.R e w base ok v xs) (u : UpI w w' := by with_reducible (repeat (first | exact Go.Proofs.YtchpkjgibloleaaGreat.Z.UpI.r _ | refine Go.Proofs.YtchpkjgibloleaaGreat.Z.UpI.n ?_ _ | refine Go.Proofs.YtchpkjgibloleaaGreat.Z.UpI.d ?_ | refine Go.Proofs.YtchpkjgibloleaaGreat.Z.UpI.a ?_ _))) : d.R e w' base ok v xs := by
 induction u with
 | r => exact h
 | a _ o ih => exact RA ih o
 | d _ ih => exact RD ih
 | n _ m ih => exact RN ih m
theorem BU {w w1 w2 : World} (h : Below w.heap.size w w1) (u : BeI w.heap.size w1 w2 := by repeat (first | (with_reducible first | exact Go.Proofs.YtchpkjgibloleaaGreat.Z.BeI.r _ | refine Go.Proofs.YtchpkjgibloleaaGreat.Z.BeI.a ?_ _ | refine Go.Proofs.YtchpkjgibloleaaGreat.Z.BeI.n ?_ _ | refine Go.Proofs.YtchpkjgibloleaaGreat.Z.BeI.d ?_ | refine Go.Proofs.YtchpkjgibloleaaGreat.Z.BeI.s ?_ (Qbk.out (by assumption))) | exact Go.Proofs.YtchpkjgibloleaaGreat.Z.BeI.r _)) : Below w.heap.size w w2 := by
 induction u with
 | r => exact h
 | a _ o ih => exact Qb2 ih o
 | d _ ih => exact bd1 ih
 | n _ m ih => exact bdN ih m
 | s _ hg ih => exact below_set ih hg
def bl : Nat → Nat → List Bool
 | 0, _ => []
 | n + 1, k => (k % 2 == 1) :: bl n (k / 2)
def bb (n k : Nat) : Array Bool := (bl n k).toArray
theorem pu {P : Program} {ops : Array Oper} {Q : Exit → Act → World → Prop} {md : Region.Mode} {S : World → Prop} {ds : List Nat} (i N : Nat) (l' : Array Bool) {oi : Oper} {v : Value} {fuel : Nat} {l : Array Bool} {a a' : Act} {w : World} (h : Qbs P md ops Q S ds fuel l' a' w) (hi : ops[i]? = some oi := by rfl) (hN : oi.dst = some N := by rfl) (hc : anyB md ops l l' i = true := by kernel_rfl) (hQ : ∀ c a w, Q (.panic c) (a.put oi.dst v) w → Q (.panic c) a w := by exact fun _ _ _ h => h) (hw : Region.wanted oi (yielded ops a.tmps) = true := by rfl) (hv : ∀ w, (execOp a.eval oi).run P w = .ok (.value v) w := by intro w'; go_simp; with_reducible rfl) (ha : a.put (some N) v = a' := by simp only [Act.put, List.setIfInBounds_toArray, List.set_cons_zero, List.set_cons_succ, Qbu, Qbv]; rfl) : Qbs P md ops Q S ds (fuel + 1) l a w := pure_ l' hi hN hc hQ (.inl ⟨hw, hv⟩) ha h
theorem pv {P : Program} {ops : Array Oper} {Q : Exit → Act → World → Prop} {md : Region.Mode} {S : World → Prop} {ds : List Nat} {T : Bool × List (List Nat × List Nat)} (hT : rtab md ops = T) (i N : Nat) (l' : Array Bool) {oi : Oper} {v : Value} {fuel : Nat} {l : Array Bool} {a a' : Act} {w : World} (h : Qbs P md ops Q S ds fuel l' a' w) (hi : ops[i]? = some oi := by rfl) (hN : oi.dst = some N := by rfl) (hc : anyT T l.toList l'.toList i = true := by kernel_rfl) (hQ : ∀ c a w, Q (.panic c) (a.put oi.dst v) w → Q (.panic c) a w := by exact fun _ _ _ h => h) (hw : Region.wanted oi (yielded ops a.tmps) = true := by rfl) (hv : ∀ w, (execOp a.eval oi).run P w = .ok (.value v) w := by intro w'; go_simp; with_reducible rfl) (ha : a.put (some N) v = a' := by simp only [Act.put, List.setIfInBounds_toArray, List.set_cons_zero, List.set_cons_succ, Qbu, Qbv]; rfl) : Qbs P md ops Q S ds (fuel + 1) l a w := pure_ l' hi hN (any_of hT hc) hQ (.inl ⟨hw, hv⟩) ha h
theorem pz {P : Program} {ops : Array Oper} {Q : Exit → Act → World → Prop} {md : Region.Mode} {S : World → Prop} {ds : List Nat} (i N : Nat) (l' : Array Bool) {oi : Oper} {fuel : Nat} {l : Array Bool} {a a' : Act} {w : World} (h : Qbs P md ops Q S ds fuel l' a' w) (hi : ops[i]? = some oi := by rfl) (hN : oi.dst = some N := by rfl) (hc : anyB md ops l l' i = true := by kernel_rfl) (hQ : ∀ c a w, Q (.panic c) (a.put oi.dst undef) w → Q (.panic c) a w := by exact fun _ _ _ h => h) (hw : Region.wanted oi (yielded ops a.tmps) = false := by rfl) (ha : a.put (some N) undef = a' := by simp only [Act.put, List.setIfInBounds_toArray, List.set_cons_zero, List.set_cons_succ, Qbu, Qbv]; rfl) : Qbs P md ops Q S ds (fuel + 1) l a w := pure_ l' hi hN hc hQ (.inr ⟨hw, rfl⟩) ha h
theorem py {P : Program} {ops : Array Oper} {Q : Exit → Act → World → Prop} {md : Region.Mode} {S : World → Prop} {ds : List Nat} {T : Bool × List (List Nat × List Nat)} (hT : rtab md ops = T) (i N : Nat) (l' : Array Bool) {oi : Oper} {fuel : Nat} {l : Array Bool} {a a' : Act} {w : World} (h : Qbs P md ops Q S ds fuel l' a' w) (hi : ops[i]? = some oi := by rfl) (hN : oi.dst = some N := by rfl) (hc : anyT T l.toList l'.toList i = true := by kernel_rfl) (hQ : ∀ c a w, Q (.panic c) (a.put oi.dst undef) w → Q (.panic c) a w := by exact fun _ _ _ h => h) (hw : Region.wanted oi (yielded ops a.tmps) = false := by rfl) (ha : a.put (some N) undef = a' := by simp only [Act.put, List.setIfInBounds_toArray, List.set_cons_zero, List.set_cons_succ, Qbu, Qbv]; rfl) : Qbs P md ops Q S ds (fuel + 1) l a w := pure_ l' hi hN (any_of hT hc) hQ (.inr ⟨hw, rfl⟩) ha h
theorem tu {w : World} {P : Program} {ops : Array Oper} {Q : Exit → Act → World → Prop} {md : Region.Mode} {S : World → Prop} {ds : List Nat} (hS : S w) (i N : Nat) (l' : Array Bool) {oi : Oper} {v : Value} {fuel : Nat} {l : Array Bool} {a a' : Act} (h : Qbs P md ops Q S ds fuel l' a' w) (hi : ops[i]? = some oi := by rfl) (hN : oi.dst = some N := by rfl) (hc : takeB md ops ds l l' i = true := by kernel_rfl) (hQ : ∀ c a w, Q (.panic c) (a.put oi.dst v) w → Q (.panic c) a w := by exact fun _ _ _ h => h) (hw : Region.wanted oi (yielded ops a.tmps) = true := by rfl) (hv : ∀ w, S w → (execOp a.eval oi).run P w = .ok (.value v) w := by intro w' hs; (repeat (have s := hs.1; replace hs := hs.2)); go_simp; with_reducible rfl) (ha : a.put (some N) v = a' := by simp only [Act.put, List.setIfInBounds_toArray, List.set_cons_zero, List.set_cons_succ, Qbu, Qbv]; rfl) : Qbs P md ops Q S ds (fuel + 1) l a w := take_ l' hi hN hc hQ (.inl ⟨hw, hv⟩) hS ha h
theorem tv {w : World} {P : Program} {ops : Array Oper} {Q : Exit → Act → World → Prop} {md : Region.Mode} {S : World → Prop} {ds : List Nat} (hS : S w) {T : Bool × List (List Nat × List Nat)} (hT : rtab md ops = T) {B : List Nat} (hB : Qcr T.2 B = true) (i N : Nat) (l' : Array Bool) {oi : Oper} {v : Value} {fuel : Nat} {l : Array Bool} {a a' : Act} (h : Qbs P md ops Q S ds fuel l' a' w) (hi : ops[i]? = some oi := by rfl) (hN : oi.dst = some N := by rfl) (hc : takeW T B ds l.toList l'.toList i = true := by kernel_rfl) (hQ : ∀ c a w, Q (.panic c) (a.put oi.dst v) w → Q (.panic c) a w := by exact fun _ _ _ h => h) (hw : Region.wanted oi (yielded ops a.tmps) = true := by rfl) (hv : ∀ w, S w → (execOp a.eval oi).run P w = .ok (.value v) w := by intro w' hs; (repeat (have s := hs.1; replace hs := hs.2)); go_simp; with_reducible rfl) (ha : a.put (some N) v = a' := by simp only [Act.put, List.setIfInBounds_toArray, List.set_cons_zero, List.set_cons_succ, Qbu, Qbv]; rfl) : Qbs P md ops Q S ds (fuel + 1) l a w := take_ l' hi hN (take_ofW hT hB hc) hQ (.inl ⟨hw, hv⟩) hS ha h
theorem bX {P : Program} {OPS : Array Oper} {rest : List Oper} {o : Oper} {a : Act} {Q : Exit → Act → World → Prop} {W : World} {N : Tmp} {cs : Array Value} {t : TypeId}
    (h : ∀ g, g = W.heap.size → ∀ w1, w1.heap[g]? = some (.cells cs t (0, 0)) → Below W.heap.size W w1 → wpList P OPS Q rest (a.put o.dst (.pointer (some ⟨g, 0, none⟩))) w1)
    (hd : o.dst = some N := by rfl) (hgd : o.guard = none := by rfl)
    (hrun : (execOp a.eval o).run P W = .ok (.value (.pointer (some ⟨W.heap.size, 0, none⟩))) (W.alloc (.cells cs t (0, 0))) := by first | (go_simp; done) | (go_simp; rfl)) : wpList P OPS Q (o :: rest) a W := box_event hgd hd hrun h
theorem cN4 {w : World} {g t : Nat} {v0 v1 v2 v3 : Value} (h : w.heap[g]? = some (.cells #[v0, v1, v2, v3] t (0, 0))) : w.cell? ⟨g, 0, none⟩ = some v0 ∧ w.cell? ⟨g, 1, none⟩ = some v1 ∧ w.cell? ⟨g, 2, none⟩ = some v2 ∧ w.cell? ⟨g, 3, none⟩ = some v3 ∧ w.frozen? ⟨g, 0, none⟩ = false ∧ w.frozen? ⟨g, 1, none⟩ = false ∧ w.frozen? ⟨g, 2, none⟩ = false ∧ w.frozen? ⟨g, 3, none⟩ = false := ⟨(Qbn h 0).trans rfl, (Qbn h 1).trans rfl, (Qbn h 2).trans rfl, (Qbn h 3).trans rfl, Qbp h 0, Qbp h 1, Qbp h 2, Qbp h 3⟩
theorem cN5 {w : World} {g t : Nat} {v0 v1 v2 v3 v4 : Value} (h : w.heap[g]? = some (.cells #[v0, v1, v2, v3, v4] t (0, 0))) : w.cell? ⟨g, 0, none⟩ = some v0 ∧ w.cell? ⟨g, 1, none⟩ = some v1 ∧ w.cell? ⟨g, 2, none⟩ = some v2 ∧ w.cell? ⟨g, 3, none⟩ = some v3 ∧ w.cell? ⟨g, 4, none⟩ = some v4 ∧ w.frozen? ⟨g, 0, none⟩ = false ∧ w.frozen? ⟨g, 1, none⟩ = false ∧ w.frozen? ⟨g, 2, none⟩ = false ∧ w.frozen? ⟨g, 3, none⟩ = false ∧ w.frozen? ⟨g, 4, none⟩ = false := ⟨(Qbn h 0).trans rfl, (Qbn h 1).trans rfl, (Qbn h 2).trans rfl, (Qbn h 3).trans rfl, (Qbn h 4).trans rfl, Qbp h 0, Qbp h 1, Qbp h 2, Qbp h 3, Qbp h 4⟩
theorem cN7 {w : World} {g t : Nat} {v0 v1 v2 v3 v4 v5 v6 : Value} (h : w.heap[g]? = some (.cells #[v0, v1, v2, v3, v4, v5, v6] t (0, 0))) : w.cell? ⟨g, 0, none⟩ = some v0 ∧ w.cell? ⟨g, 1, none⟩ = some v1 ∧ w.cell? ⟨g, 2, none⟩ = some v2 ∧ w.cell? ⟨g, 3, none⟩ = some v3 ∧ w.cell? ⟨g, 4, none⟩ = some v4 ∧ w.cell? ⟨g, 5, none⟩ = some v5 ∧ w.cell? ⟨g, 6, none⟩ = some v6 ∧ w.frozen? ⟨g, 0, none⟩ = false ∧ w.frozen? ⟨g, 1, none⟩ = false ∧ w.frozen? ⟨g, 2, none⟩ = false ∧ w.frozen? ⟨g, 3, none⟩ = false ∧ w.frozen? ⟨g, 4, none⟩ = false ∧ w.frozen? ⟨g, 5, none⟩ = false ∧ w.frozen? ⟨g, 6, none⟩ = false := ⟨(Qbn h 0).trans rfl, (Qbn h 1).trans rfl, (Qbn h 2).trans rfl, (Qbn h 3).trans rfl, (Qbn h 4).trans rfl, (Qbn h 5).trans rfl, (Qbn h 6).trans rfl, Qbp h 0, Qbp h 1, Qbp h 2, Qbp h 3, Qbp h 4, Qbp h 5, Qbp h 6⟩
theorem cN8 {w : World} {g t : Nat} {v0 v1 v2 v3 v4 v5 v6 v7 : Value} (h : w.heap[g]? = some (.cells #[v0, v1, v2, v3, v4, v5, v6, v7] t (0, 0))) : w.cell? ⟨g, 0, none⟩ = some v0 ∧ w.cell? ⟨g, 1, none⟩ = some v1 ∧ w.cell? ⟨g, 2, none⟩ = some v2 ∧ w.cell? ⟨g, 3, none⟩ = some v3 ∧ w.cell? ⟨g, 4, none⟩ = some v4 ∧ w.cell? ⟨g, 5, none⟩ = some v5 ∧ w.cell? ⟨g, 6, none⟩ = some v6 ∧ w.cell? ⟨g, 7, none⟩ = some v7 ∧ w.frozen? ⟨g, 0, none⟩ = false ∧ w.frozen? ⟨g, 1, none⟩ = false ∧ w.frozen? ⟨g, 2, none⟩ = false ∧ w.frozen? ⟨g, 3, none⟩ = false ∧ w.frozen? ⟨g, 4, none⟩ = false ∧ w.frozen? ⟨g, 5, none⟩ = false ∧ w.frozen? ⟨g, 6, none⟩ = false ∧ w.frozen? ⟨g, 7, none⟩ = false := ⟨(Qbn h 0).trans rfl, (Qbn h 1).trans rfl, (Qbn h 2).trans rfl, (Qbn h 3).trans rfl, (Qbn h 4).trans rfl, (Qbn h 5).trans rfl, (Qbn h 6).trans rfl, (Qbn h 7).trans rfl, Qbp h 0, Qbp h 1, Qbp h 2, Qbp h 3, Qbp h 4, Qbp h 5, Qbp h 6, Qbp h 7⟩
inductive UpX (g : Nat) : World → Obj → World → Obj → Prop where
 | r (w : World) (o : Obj) : UpX g w o w o
 | a {w w' : World} {o o' : Obj} (h : UpX g w o w' o') (x : Obj) : UpX g w o (w'.alloc x) o'
 | d {w w' : World} {o o' : Obj} (h : UpX g w o w' o') : UpX g w o w'.drew o'
 | n {w w' : World} {o o' : Obj} (h : UpX g w o w' o') (m : Nat) : UpX g w o (w'.drewN m) o'
 | p {w w' : World} {o : Obj} {cs : Array Value} {t : TypeId} {j : Nat} {v : Value} (h : UpX g w o w' (.cells cs t (0, 0))) : UpX g w o (w'.setCell ⟨g, j, none⟩ v) (.cells (cs.setIfInBounds j v) t (0, 0))
 | f {w w' : World} {o o' : Obj} {g' j : Nat} {v : Value} (h : UpX g w o w' o') (hp : g ≠ g') : UpX g w o (w'.setCell ⟨g', j, none⟩ v) o'
theorem bV {w w' : World} {g : Nat} {o o' : Obj} (h : w.heap[g]? = some o) (u : UpX g w o w' o') : w'.heap[g]? = some o' := by
 induction u with
 | r => exact h
 | a _ x ih => exact bA (ih h) x
 | d _ ih => exact bD (ih h)
 | n _ m ih => exact bN (ih h) m
 | p _ ih => exact Qbt (ih h) _ _ rfl
 | f _ hp ih => exact (Below.heap_setCell _ ⟨_, _, none⟩ _ g hp).trans (ih h)
theorem kB {w w1 w2 : World} {g : Nat} {o : Obj} (h : Qbk (w.heap[g]? = some o)) (hb : Below w1.heap.size w1 w2) (u : UpI w w1 := by with_reducible (repeat (first | exact Go.Proofs.YtchpkjgibloleaaGreat.Z.UpI.r _ | refine Go.Proofs.YtchpkjgibloleaaGreat.Z.UpI.n ?_ _ | refine Go.Proofs.YtchpkjgibloleaaGreat.Z.UpI.d ?_ | refine Go.Proofs.YtchpkjgibloleaaGreat.Z.UpI.a ?_ _))) : Qbk (w2.heap[g]? = some o) := ⟨Qbl (bU h.out u) hb⟩
theorem kP {w w1 w2 : World} {g : Nat} {o o' : Obj} (o2 : Obj) (h : Qbk (w.heap[g]? = some o)) (hb : Below w1.heap.size w1 w2) (u : UpX g w o w1 o' := by with_reducible (repeat (first | exact Go.Proofs.YtchpkjgibloleaaGreat.Z.UpX.r _ _ | apply Go.Proofs.YtchpkjgibloleaaGreat.Z.UpX.n | apply Go.Proofs.YtchpkjgibloleaaGreat.Z.UpX.d | apply Go.Proofs.YtchpkjgibloleaaGreat.Z.UpX.a | apply Go.Proofs.YtchpkjgibloleaaGreat.Z.UpX.p | (apply Go.Proofs.YtchpkjgibloleaaGreat.Z.UpX.f; case hp => first | exact Qbk.out (by assumption) | assumption)))) (e : o' = o2 := by rfl) : Qbk (w2.heap[g]? = some o2) := ⟨e ▸ Qbl (bV h.out u) hb⟩
theorem kF {w w1 w2 : World} {g : Nat} {cs : Array Value} {t : TypeId} (h : Qbk (w.heap[g]? = some (.cells cs t (0, 0)))) (hb : Below w1.heap.size w1 w2) (u : UpX g w (.cells cs t (0, 0)) w1 (.cells cs t (0, 0)) := by with_reducible (repeat (first | exact Go.Proofs.YtchpkjgibloleaaGreat.Z.UpX.r _ _ | apply Go.Proofs.YtchpkjgibloleaaGreat.Z.UpX.n | apply Go.Proofs.YtchpkjgibloleaaGreat.Z.UpX.d | apply Go.Proofs.YtchpkjgibloleaaGreat.Z.UpX.a | apply Go.Proofs.YtchpkjgibloleaaGreat.Z.UpX.p | (apply Go.Proofs.YtchpkjgibloleaaGreat.Z.UpX.f; case hp => first | exact Qbk.out (by assumption) | assumption)))) : Qbk (w2.heap[g]? = some (.cells cs t (0, 0))) := ⟨Qbl (bV h.out u) hb⟩
theorem gW {w w1 w2 : World} {g : Nat} (hg : g = w2.heap.size) (h : Below w.heap.size w w1) (u : BeI w.heap.size w1 w2 := by repeat (first | (with_reducible first | exact Go.Proofs.YtchpkjgibloleaaGreat.Z.BeI.r _ | refine Go.Proofs.YtchpkjgibloleaaGreat.Z.BeI.a ?_ _ | refine Go.Proofs.YtchpkjgibloleaaGreat.Z.BeI.n ?_ _ | refine Go.Proofs.YtchpkjgibloleaaGreat.Z.BeI.d ?_ | refine Go.Proofs.YtchpkjgibloleaaGreat.Z.BeI.s ?_ (Qbk.out (by assumption))) | exact Go.Proofs.YtchpkjgibloleaaGreat.Z.BeI.r _)) : Qbk (w.heap.size ≤ g) := ⟨hg ▸ Qbm (BU h u)⟩
theorem nL {w1 w2 : World} {g g' : Nat} {o : Obj} (hg : g' = w2.heap.size) (h : Qbk (w1.heap[g]? = some o)) (u : UpI w1 w2 := by with_reducible (repeat (first | exact Go.Proofs.YtchpkjgibloleaaGreat.Z.UpI.r _ | refine Go.Proofs.YtchpkjgibloleaaGreat.Z.UpI.n ?_ _ | refine Go.Proofs.YtchpkjgibloleaaGreat.Z.UpI.d ?_ | refine Go.Proofs.YtchpkjgibloleaaGreat.Z.UpI.a ?_ _))) : Qbk (g ≠ g') := ⟨hg ▸ Nat.ne_of_lt (Qby (bU h.out u))⟩
theorem nR {w1 w2 : World} {g g' : Nat} {o : Obj} (hg : g' = w2.heap.size) (h : Qbk (w1.heap[g]? = some o)) (u : UpI w1 w2 := by with_reducible (repeat (first | exact Go.Proofs.YtchpkjgibloleaaGreat.Z.UpI.r _ | refine Go.Proofs.YtchpkjgibloleaaGreat.Z.UpI.n ?_ _ | refine Go.Proofs.YtchpkjgibloleaaGreat.Z.UpI.d ?_ | refine Go.Proofs.YtchpkjgibloleaaGreat.Z.UpI.a ?_ _))) : Qbk (g' ≠ g) := ⟨hg ▸ Nat.ne_of_gt (Qby (bU h.out u))⟩
theorem CU {α : Type} {d : Kd α} {w1 w2 : World} {A : Option Addr} {n : Nat} {xs : List α} (h : d.C w1 A n xs) (u : UpI w1 w2 := by with_reducible (repeat (first | exact Go.Proofs.YtchpkjgibloleaaGreat.Z.UpI.r _ | refine Go.Proofs.YtchpkjgibloleaaGreat.Z.UpI.n ?_ _ | refine Go.Proofs.YtchpkjgibloleaaGreat.Z.UpI.d ?_ | refine Go.Proofs.YtchpkjgibloleaaGreat.Z.UpI.a ?_ _))) : d.C w2 A n xs := by
 induction u with
 | r => exact h
 | a _ o ih => exact Kd.C_alloc ih o
 | d _ ih => exact Kd.C_drew ih
 | n _ m ih => exact Kd.C_drewN ih m
theorem gL {P : Program} {ops : Array Oper} {Q : Exit → Act → World → Prop} {rest : List Oper} {oi : Oper} {a : Act} {w : World} (N : Option Tmp) {f : FuncId} {fn : Func} {ax : Array Operand} {ts : Array TypeId} (hf : P.funcs[f]? = some fn) (args : Array Value)
    (h : Calls P f args w fun e w' => ∃ v, e = .returned v ∧ wpList P ops Q rest (a.put N v) w') (hname : (fn.name == "runtime.NumGoroutine") = false := by kernel_rfl) (hd : oi.dst = N := by rfl) (hg : oi.guard = none := by rfl) (hb : fn.body.isSome = true := by rfl)
    (hop : oi.op = .call { callee := .value (.func f), args := ax, argTypes := ts } := by rfl) (hargs : ax.map a.eval = args := by (try simp only [List.map_toArray, List.map_cons, List.map_nil]); first | done | rfl | (simp only [List.length_drop, List.length_take]; rfl)) : wpList P ops Q (oi :: rest) a w := goesL_ N hd hg hf hname hb args hop hargs h
theorem dR {α : Type} {a b : α} {w w' : World} (h : a = b := by first | rfl | (simp; done) | (simp [*]; done)) (d : Qbz w w' := by repeat (first | exact Qbz.refl _ | apply Qbz.step)) : a = b ∧ Qbz w w' := ⟨h, d⟩
theorem eR {α : Type} {a b : α} (h : a = b := by first | rfl | (simp; done) | (simp [*]; done)) : a = b := h
theorem oR {α : Type} {a b : α} (h : a = b := by first | rfl | (simp [Qbe, Qbd] <;> rfl) | (simp [*, Qbe, Qbd] <;> rfl)) : a = b := h
theorem qR {p : Prop} [Decidable p] (h : decide p = true := by first | (with_reducible assumption) | assumption) : p := of_decide_eq_true h
theorem cN1 {w : World} {g t : Nat} {v0 : Value} (h : w.heap[g]? = some (.cells #[v0] t (0, 0))) : w.cell? ⟨g, 0, none⟩ = some v0 ∧ w.frozen? ⟨g, 0, none⟩ = false := ⟨(Qbn h 0).trans rfl, Qbp h 0⟩
theorem cN2 {w : World} {g t : Nat} {v0 v1 : Value} (h : w.heap[g]? = some (.cells #[v0, v1] t (0, 0))) : w.cell? ⟨g, 0, none⟩ = some v0 ∧ w.cell? ⟨g, 1, none⟩ = some v1 ∧ w.frozen? ⟨g, 0, none⟩ = false ∧ w.frozen? ⟨g, 1, none⟩ = false := ⟨(Qbn h 0).trans rfl, (Qbn h 1).trans rfl, Qbp h 0, Qbp h 1⟩
theorem cN3 {w : World} {g t : Nat} {v0 v1 v2 : Value} (h : w.heap[g]? = some (.cells #[v0, v1, v2] t (0, 0))) : w.cell? ⟨g, 0, none⟩ = some v0 ∧ w.cell? ⟨g, 1, none⟩ = some v1 ∧ w.cell? ⟨g, 2, none⟩ = some v2 ∧ w.frozen? ⟨g, 0, none⟩ = false ∧ w.frozen? ⟨g, 1, none⟩ = false ∧ w.frozen? ⟨g, 2, none⟩ = false := ⟨(Qbn h 0).trans rfl, (Qbn h 1).trans rfl, (Qbn h 2).trans rfl, Qbp h 0, Qbp h 1, Qbp h 2⟩
theorem cN6 {w : World} {g t : Nat} {v0 v1 v2 v3 v4 v5 : Value} (h : w.heap[g]? = some (.cells #[v0, v1, v2, v3, v4, v5] t (0, 0))) : w.cell? ⟨g, 0, none⟩ = some v0 ∧ w.cell? ⟨g, 1, none⟩ = some v1 ∧ w.cell? ⟨g, 2, none⟩ = some v2 ∧ w.cell? ⟨g, 3, none⟩ = some v3 ∧ w.cell? ⟨g, 4, none⟩ = some v4 ∧ w.cell? ⟨g, 5, none⟩ = some v5 ∧ w.frozen? ⟨g, 0, none⟩ = false ∧ w.frozen? ⟨g, 1, none⟩ = false ∧ w.frozen? ⟨g, 2, none⟩ = false ∧ w.frozen? ⟨g, 3, none⟩ = false ∧ w.frozen? ⟨g, 4, none⟩ = false ∧ w.frozen? ⟨g, 5, none⟩ = false := ⟨(Qbn h 0).trans rfl, (Qbn h 1).trans rfl, (Qbn h 2).trans rfl, (Qbn h 3).trans rfl, (Qbn h 4).trans rfl, (Qbn h 5).trans rfl, Qbp h 0, Qbp h 1, Qbp h 2, Qbp h 3, Qbp h 4, Qbp h 5⟩
theorem cM2 {w : World} {g t : Nat} {v0 v1 : Value} (h : w.heap[g]? = some (.cells #[v0, v1] t (0, 0))) : w.cell? ⟨g, 0, none⟩ = some v0 ∧ w.cell? ⟨g, 1, none⟩ = some v1 := ⟨(Qbn h 0).trans rfl, (Qbn h 1).trans rfl⟩
theorem cM3 {w : World} {g t : Nat} {v0 v1 v2 : Value} (h : w.heap[g]? = some (.cells #[v0, v1, v2] t (0, 0))) : w.cell? ⟨g, 0, none⟩ = some v0 ∧ w.cell? ⟨g, 1, none⟩ = some v1 ∧ w.cell? ⟨g, 2, none⟩ = some v2 := ⟨(Qbn h 0).trans rfl, (Qbn h 1).trans rfl, (Qbn h 2).trans rfl⟩
theorem cM4 {w : World} {g t : Nat} {v0 v1 v2 v3 : Value} (h : w.heap[g]? = some (.cells #[v0, v1, v2, v3] t (0, 0))) : w.cell? ⟨g, 0, none⟩ = some v0 ∧ w.cell? ⟨g, 1, none⟩ = some v1 ∧ w.cell? ⟨g, 2, none⟩ = some v2 ∧ w.cell? ⟨g, 3, none⟩ = some v3 := ⟨(Qbn h 0).trans rfl, (Qbn h 1).trans rfl, (Qbn h 2).trans rfl, (Qbn h 3).trans rfl⟩
theorem cM5 {w : World} {g t : Nat} {v0 v1 v2 v3 v4 : Value} (h : w.heap[g]? = some (.cells #[v0, v1, v2, v3, v4] t (0, 0))) : w.cell? ⟨g, 0, none⟩ = some v0 ∧ w.cell? ⟨g, 1, none⟩ = some v1 ∧ w.cell? ⟨g, 2, none⟩ = some v2 ∧ w.cell? ⟨g, 3, none⟩ = some v3 ∧ w.cell? ⟨g, 4, none⟩ = some v4 := ⟨(Qbn h 0).trans rfl, (Qbn h 1).trans rfl, (Qbn h 2).trans rfl, (Qbn h 3).trans rfl, (Qbn h 4).trans rfl⟩
theorem cM6 {w : World} {g t : Nat} {v0 v1 v2 v3 v4 v5 : Value} (h : w.heap[g]? = some (.cells #[v0, v1, v2, v3, v4, v5] t (0, 0))) : w.cell? ⟨g, 0, none⟩ = some v0 ∧ w.cell? ⟨g, 1, none⟩ = some v1 ∧ w.cell? ⟨g, 2, none⟩ = some v2 ∧ w.cell? ⟨g, 3, none⟩ = some v3 ∧ w.cell? ⟨g, 4, none⟩ = some v4 ∧ w.cell? ⟨g, 5, none⟩ = some v5 := ⟨(Qbn h 0).trans rfl, (Qbn h 1).trans rfl, (Qbn h 2).trans rfl, (Qbn h 3).trans rfl, (Qbn h 4).trans rfl, (Qbn h 5).trans rfl⟩
theorem cM7 {w : World} {g t : Nat} {v0 v1 v2 v3 v4 v5 v6 : Value} (h : w.heap[g]? = some (.cells #[v0, v1, v2, v3, v4, v5, v6] t (0, 0))) : w.cell? ⟨g, 0, none⟩ = some v0 ∧ w.cell? ⟨g, 1, none⟩ = some v1 ∧ w.cell? ⟨g, 2, none⟩ = some v2 ∧ w.cell? ⟨g, 3, none⟩ = some v3 ∧ w.cell? ⟨g, 4, none⟩ = some v4 ∧ w.cell? ⟨g, 5, none⟩ = some v5 ∧ w.cell? ⟨g, 6, none⟩ = some v6 := ⟨(Qbn h 0).trans rfl, (Qbn h 1).trans rfl, (Qbn h 2).trans rfl, (Qbn h 3).trans rfl, (Qbn h 4).trans rfl, (Qbn h 5).trans rfl, (Qbn h 6).trans rfl⟩
theorem cM8 {w : World} {g t : Nat} {v0 v1 v2 v3 v4 v5 v6 v7 : Value} (h : w.heap[g]? = some (.cells #[v0, v1, v2, v3, v4, v5, v6, v7] t (0, 0))) : w.cell? ⟨g, 0, none⟩ = some v0 ∧ w.cell? ⟨g, 1, none⟩ = some v1 ∧ w.cell? ⟨g, 2, none⟩ = some v2 ∧ w.cell? ⟨g, 3, none⟩ = some v3 ∧ w.cell? ⟨g, 4, none⟩ = some v4 ∧ w.cell? ⟨g, 5, none⟩ = some v5 ∧ w.cell? ⟨g, 6, none⟩ = some v6 ∧ w.cell? ⟨g, 7, none⟩ = some v7 := ⟨(Qbn h 0).trans rfl, (Qbn h 1).trans rfl, (Qbn h 2).trans rfl, (Qbn h 3).trans rfl, (Qbn h 4).trans rfl, (Qbn h 5).trans rfl, (Qbn h 6).trans rfl, (Qbn h 7).trans rfl⟩
theorem kV {w w1 : World} {g : Nat} {o o' o2 : Obj} (h : Qbk (w.heap[g]? = some o)) (u : UpX g w o w1 o' := by with_reducible (repeat (first | exact Go.Proofs.YtchpkjgibloleaaGreat.Z.UpX.r _ _ | apply Go.Proofs.YtchpkjgibloleaaGreat.Z.UpX.n | apply Go.Proofs.YtchpkjgibloleaaGreat.Z.UpX.d | apply Go.Proofs.YtchpkjgibloleaaGreat.Z.UpX.a | apply Go.Proofs.YtchpkjgibloleaaGreat.Z.UpX.p | (apply Go.Proofs.YtchpkjgibloleaaGreat.Z.UpX.f; case hp => first | exact Qbk.out (by assumption) | assumption)))) (e : o' = o2 := by rfl) : w1.heap[g]? = some o2 := e ▸ bV h.out u
theorem SU {α : Type} {d : Kd α} {e : Nat} {w w1 : World} {base : Nat} {ok : Nat → Prop} {v : Value} {xs : List α} (h : d.S e w base ok v xs) (u : UpI w w1 := by with_reducible (repeat (first | exact Go.Proofs.YtchpkjgibloleaaGreat.Z.UpI.r _ | refine Go.Proofs.YtchpkjgibloleaaGreat.Z.UpI.n ?_ _ | refine Go.Proofs.YtchpkjgibloleaaGreat.Z.UpI.d ?_ | refine Go.Proofs.YtchpkjgibloleaaGreat.Z.UpI.a ?_ _))) : d.S e w1 base ok v xs := by
 induction u with
 | r => exact h
 | a _ o ih => exact Kd.S_alloc ih o
 | d _ ih => exact Kd.S_drew ih
 | n _ m ih => exact Kd.S_drewN ih m
theorem cl {w w1 : World} {p : Addr} {v : Value} (h : Qbk (Below w.heap.size w w1)) (c : w.cell? p = some v) : w1.cell? p = some v := (h.out.cell (wblt w c)).trans c
theorem bc {w : World} {g : Nat} {t : TypeId} {cs : Array Value} (h : Qbk (w.heap[g]? = some (.cells cs t (0, 0)))) (i : Nat) {v : Value} (e : cs[i]? = some v := by rfl) : w.cell? ⟨g, i, none⟩ = some v := (Qbn h.out i).trans e
theorem nV {w1 w2 : World} {g g' : Nat} {o o' : Obj} (hg : g' = w2.heap.size) (h : Qbk (w1.heap[g]? = some o)) (u : UpX g w1 o w2 o' := by with_reducible (repeat (first | exact Go.Proofs.YtchpkjgibloleaaGreat.Z.UpX.r _ _ | apply Go.Proofs.YtchpkjgibloleaaGreat.Z.UpX.n | apply Go.Proofs.YtchpkjgibloleaaGreat.Z.UpX.d | apply Go.Proofs.YtchpkjgibloleaaGreat.Z.UpX.a | apply Go.Proofs.YtchpkjgibloleaaGreat.Z.UpX.p | (apply Go.Proofs.YtchpkjgibloleaaGreat.Z.UpX.f; case hp => first | exact Qbk.out (by assumption) | assumption)))) : Qbk (g ≠ g') := ⟨hg ▸ Nat.ne_of_lt (Qby (bV h.out u))⟩
theorem nW {w1 w2 : World} {g g' : Nat} {o o' : Obj} (hg : g' = w2.heap.size) (h : Qbk (w1.heap[g]? = some o)) (u : UpX g w1 o w2 o' := by with_reducible (repeat (first | exact Go.Proofs.YtchpkjgibloleaaGreat.Z.UpX.r _ _ | apply Go.Proofs.YtchpkjgibloleaaGreat.Z.UpX.n | apply Go.Proofs.YtchpkjgibloleaaGreat.Z.UpX.d | apply Go.Proofs.YtchpkjgibloleaaGreat.Z.UpX.a | apply Go.Proofs.YtchpkjgibloleaaGreat.Z.UpX.p | (apply Go.Proofs.YtchpkjgibloleaaGreat.Z.UpX.f; case hp => first | exact Qbk.out (by assumption) | assumption)))) : Qbk (g' ≠ g) := ⟨hg ▸ Nat.ne_of_gt (Qby (bV h.out u))⟩
theorem sB {w w1 W w2 : World} (h : Qbk (Below w.heap.size w w1)) (hb : Below W.heap.size W w2) (u : BeI w.heap.size w1 W := by repeat (first | (with_reducible first | exact Go.Proofs.YtchpkjgibloleaaGreat.Z.BeI.r _ | refine Go.Proofs.YtchpkjgibloleaaGreat.Z.BeI.a ?_ _ | refine Go.Proofs.YtchpkjgibloleaaGreat.Z.BeI.n ?_ _ | refine Go.Proofs.YtchpkjgibloleaaGreat.Z.BeI.d ?_ | refine Go.Proofs.YtchpkjgibloleaaGreat.Z.BeI.s ?_ (Qbk.out (by assumption))) | exact Go.Proofs.YtchpkjgibloleaaGreat.Z.BeI.r _)) : Qbk (Below w.heap.size w w2) := ⟨Qb5 (BU h.out u) hb⟩
theorem bF : ¬ (false = true) := by decide
theorem bY {P : Program} {OPS : Array Oper} {rest : List Oper} {o : Oper} {a : Act} {Q : Exit → Act → World → Prop} {W w w1 : World} {N : Tmp} {cs : Array Value} {t : TypeId} (HB : Below w.heap.size w w1)
 (h : ∀ g w', g = W.heap.size → Below W.heap.size W w' → Qbk (w'.heap[g]? = some (.cells cs t (0, 0))) → Qbk (w.heap.size ≤ g) → Qbk (Below w.heap.size w w') → wpList P OPS Q rest (a.put o.dst (.pointer (some ⟨g, 0, none⟩))) w') (u : BeI w.heap.size w1 W := by repeat (first | (with_reducible first | exact Go.Proofs.YtchpkjgibloleaaGreat.Z.BeI.r _ | refine Go.Proofs.YtchpkjgibloleaaGreat.Z.BeI.a ?_ _ | refine Go.Proofs.YtchpkjgibloleaaGreat.Z.BeI.n ?_ _ | refine Go.Proofs.YtchpkjgibloleaaGreat.Z.BeI.d ?_ | refine Go.Proofs.YtchpkjgibloleaaGreat.Z.BeI.s ?_ (Qbk.out (by assumption))) | exact Go.Proofs.YtchpkjgibloleaaGreat.Z.BeI.r _)) (hd : o.dst = some N := by rfl) (hgd : o.guard = none := by rfl)
 (hrun : (execOp a.eval o).run P W = .ok (.value (.pointer (some ⟨W.heap.size, 0, none⟩))) (W.alloc (.cells cs t (0, 0))) := by first | (go_simp; done) | (go_simp; rfl)) : wpList P OPS Q (o :: rest) a W := bX (fun g hg w' hbox hb => h g w' hg hb ⟨hbox⟩ (gW hg HB u) ⟨Qb5 (BU HB u) hb⟩) hd hgd hrun
theorem gD {P : Program} {ops : Array Oper} {rest : List Oper} {o : Oper} {a : Act} {Q : Exit → Act → World → Prop} {W : World} (N : Tmp) (h : wpList P ops Q (o :: rest) a W) (hN : o.dst = some N := by exact rfl) : wpList P ops Q (o :: rest) a W := h
theorem gG {P : Program} {ops : Array Oper} {Q : Exit → Act → World → Prop} {oi : Oper} {N : Option Tmp} {a : Act} {w : World} {K : Act → World → Prop} {f : FuncId} {fn : Func} {ax : Array Operand} {ts : Array TypeId} (hf : P.funcs[f]? = some fn) (args : Array Value) (h : Calls P f args w fun e w' => ∃ v, e = .returned v ∧ K (a.put N v) w')
 (hname : (fn.name == "runtime.NumGoroutine") = false := by kernel_rfl) (hb : fn.body.isSome = true := by rfl) (hw : Region.wanted oi (yielded ops a.tmps) = true := by rfl) (hN : oi.dst = N := by rfl) (hop : oi.op = .call { callee := .value (.func f), args := ax, argTypes := ts } := by rfl)
 (hargs : ax.map a.eval = args := by (try simp only [List.map_toArray, List.map_cons, List.map_nil]); first | done | rfl | (simp only [List.length_drop, List.length_take]; rfl)) : if Region.wanted oi (yielded ops a.tmps) = true then Oper.wp P oi a w K Q else K (a.put N undef) w := goes_ hf hname hb args hw hN hop hargs h
theorem pL {w1 w2 : World} {g g' : Nat} {o : Obj} (hg : g' = w2.heap.size) (h : Qbk (w1.heap[g]? = some o)) (u : UpI w1 w2 := by with_reducible (repeat (first | exact Go.Proofs.YtchpkjgibloleaaGreat.Z.UpI.r _ | refine Go.Proofs.YtchpkjgibloleaaGreat.Z.UpI.n ?_ _ | refine Go.Proofs.YtchpkjgibloleaaGreat.Z.UpI.d ?_ | refine Go.Proofs.YtchpkjgibloleaaGreat.Z.UpI.a ?_ _))) : g ≠ g' := (nL hg h u).out
theorem pR {w1 w2 : World} {g g' : Nat} {o : Obj} (hg : g' = w2.heap.size) (h : Qbk (w1.heap[g]? = some o)) (u : UpI w1 w2 := by with_reducible (repeat (first | exact Go.Proofs.YtchpkjgibloleaaGreat.Z.UpI.r _ | refine Go.Proofs.YtchpkjgibloleaaGreat.Z.UpI.n ?_ _ | refine Go.Proofs.YtchpkjgibloleaaGreat.Z.UpI.d ?_ | refine Go.Proofs.YtchpkjgibloleaaGreat.Z.UpI.a ?_ _))) : g' ≠ g := (nR hg h u).out
theorem pV {w1 w2 : World} {g g' : Nat} {o o' : Obj} (hg : g' = w2.heap.size) (h : Qbk (w1.heap[g]? = some o)) (u : UpX g w1 o w2 o' := by with_reducible (repeat (first | exact Go.Proofs.YtchpkjgibloleaaGreat.Z.UpX.r _ _ | apply Go.Proofs.YtchpkjgibloleaaGreat.Z.UpX.n | apply Go.Proofs.YtchpkjgibloleaaGreat.Z.UpX.d | apply Go.Proofs.YtchpkjgibloleaaGreat.Z.UpX.a | apply Go.Proofs.YtchpkjgibloleaaGreat.Z.UpX.p | (apply Go.Proofs.YtchpkjgibloleaaGreat.Z.UpX.f; case hp => first | exact Qbk.out (by assumption) | assumption)))) : g ≠ g' := (nV hg h u).out
theorem pW {w1 w2 : World} {g g' : Nat} {o o' : Obj} (hg : g' = w2.heap.size) (h : Qbk (w1.heap[g]? = some o)) (u : UpX g w1 o w2 o' := by with_reducible (repeat (first | exact Go.Proofs.YtchpkjgibloleaaGreat.Z.UpX.r _ _ | apply Go.Proofs.YtchpkjgibloleaaGreat.Z.UpX.n | apply Go.Proofs.YtchpkjgibloleaaGreat.Z.UpX.d | apply Go.Proofs.YtchpkjgibloleaaGreat.Z.UpX.a | apply Go.Proofs.YtchpkjgibloleaaGreat.Z.UpX.p | (apply Go.Proofs.YtchpkjgibloleaaGreat.Z.UpX.f; case hp => first | exact Qbk.out (by assumption) | assumption)))) : g' ≠ g := (nW hg h u).out
theorem eqA47 (d : Nat) (w : World) (x0 y0 x1 y1 : Int) :
    (Op.equalIn (d + 2) 47 (.agg #[.int .i64 x0, .int .i64 x1]) (.agg #[.int .i64 y0, .int .i64 y1])).run Tryz.prog w = .ok (x0 == y0 && (x1 == y1)) w := by
 refine eqA_of Tryz.underlying47 (by kernel_rfl) ?_
 refine eqf_cons (by rfl) (by go_simp; rfl) (by go_simp; rfl) (by go_simp) ?_
 exact eqf_last (by rfl) (by go_simp; rfl) (by go_simp; rfl) (by go_simp)
attribute [local go_sem high] eqA47
def Qbh.l0 : Nat → Int → Int → Int → Int → List (S39) → Option (Int)
 | 0, _, _, _, _, _ => none
 | k + 1, x3, x4, x458000, x458001, x458002 => if x4 < (x458002.length : Int) then (if 0 ≤ x4 then (Qbh.l0 k (wrap64 (x3 + (((Qam x458002 x4).f0).length : Int))) (wrap64 (x4 + 1)) x458000 x458001 x458002) else (none)) else (some x3)
def Qbh.f (k : Nat) (a0_0 a0_1 : Int) (l0_2 : List (S39)) : Option (Int) := Qbh.l0 k 0 0 a0_0 a0_1 l0_2
theorem Qbh.calls (k : Nat) (a0_0 a0_1 : Int) (A0_2 : Option Addr) (c0_2 : Nat) (l0_2 : List (S39)) (r : Int) (w : World) (hr0_2 : Kd.C k39 w A0_2 l0_2.length l0_2) (hc0_2 : l0_2.length ≤ c0_2) (h : Qbh.f k a0_0 a0_1 l0_2 = some r) :
 Calls Tryz.prog 52 #[.agg #[.int .i64 a0_0, .int .i64 a0_1, .slice A0_2 l0_2.length c0_2]] w fun e w' => e = .returned (.int .i64 r) ∧ Below w.heap.size w w' := by
 have hu24 := Tryz.underlying24
 have R0_2 := As0 hr0_2
 have C0_2 := As0 hc0_2
 clear hr0_2 hc0_2
 have HB := As0 (Below.refl w.heap.size w)
 have H : (Qbh.l0 k 0 0 a0_0 a0_1 l0_2) = some r := h
 clear h
 have H' := As0 H
 clear H
 go_enter Tryz.func52, Tryz.ntmps52
 go_wp2_with (first | ((with_reducible refine gD 1 ?_); refine bY HB.out ?_; intro gb457 w2 hg hb K457 GW457 HB; clear hb hg))
 go_loopg [3, 4] k (fun kq v3 v4 w' => ∃ (x3_1 : Int) (x4_1 : Int), v3 = .int .i64 x3_1 ∧ v4 = .int .i64 x4_1 ∧ Qbk (Qbh.l0 kq x3_1 x4_1 a0_0 a0_1 l0_2 = some r) ∧ Qbk (kq ≤ k) ∧ Qbk (w'.heap[gb457]? = some (.cells #[.int .i64 a0_0, .int .i64 a0_1, (.slice A0_2 l0_2.length c0_2)] 24 (0, 0))) ∧ Qbk (Below w.heap.size w w'))
 case atStart => exact ⟨(0), (0), eR, eR, H', ⟨Nat.le_refl _⟩, ⟨bU K457.out⟩, ⟨BU HB.out⟩⟩
 case round =>
  clear H'
  obtain ⟨x3_1, x4_1, rfl, rfl, HA, HK1, K457, HB⟩ := hrel
  cases gk with
  | zero => exact absurd HA.out (by simp [Qbh.l0])
  | succ k1 =>
   have H := HA.out
   clear HA
   simp only [Qbh.l0] at H
   by_cases c3 : x4_1 < (l0_2.length : Int)
   rotate_left
   ·rw [if_neg c3] at H
    have c3b0 := decide_eq_false c3
    clear c3
    obtain rfl := Option.some.inj H
    have q6_ := cN3 K457.out
    go_wp2
    go_ret
    exact ⟨oR, BU HB.out⟩
   rw [if_pos c3] at H
   have c3b0 := decide_eq_true c3
   clear c3
   by_cases c4 : 0 ≤ x4_1
   rotate_left
   ·rw [if_neg c4] at H
    exact absurd H (by simp)
   rw [if_pos c4] at H
   have c4b0 := decide_eq_true c4
   clear c4
   have H' := As0 H
   clear H
   have q5_ := cN3 K457.out
   have p458 : 0 ≤ (x4_1 : Int) := qR
   have q458 : x4_1 < (l0_2.length : Int) := qR
   obtain ⟨ad458, A458_0, c458_0, e458, hx458_0, hx458_1, hx458_2, hx458_3, hx458_4, hl458_0, hi458_0⟩ := at_T39 R0_2.out x4_1 p458 q458
   cases e458
   replace hx458_0 := cl HB hx458_0
   replace hx458_1 := cl HB hx458_1
   replace hx458_2 := cl HB hx458_2
   replace hx458_3 := cl HB hx458_3
   replace hx458_4 := cl HB hx458_4
   have R458_0 := As0 hi458_0
   have C458_0 := As0 hl458_0
   clear hi458_0 hl458_0
   replace p458 := eq_true p458
   replace q458 := eq_true q458
   go_wp2
   go_roundg k1
   case measure => have := HK1.out; omega
   case rel => exact ⟨(wrap64 (x3_1 + (((Qam l0_2 x4_1).f0).length : Int))), (wrap64 (x4_1 + 1)), eR, eR, H', ⟨by have := HK1.out; omega⟩, ⟨bU K457.out⟩, ⟨BU HB.out⟩⟩
mutual
def Qaw.j0 : Nat → Bool → Int → Int → List (S39) → Option (Bool)
 | 0, _, _, _, _ => none
 | k + 1, x12, x460000, x460001, x460002 => if x12 = true then (some false) else (Qaw.l0 k 0 x460000 x460001 x460002)
def Qaw.l0 : Nat → Int → Int → Int → List (S39) → Option (Bool)
 | 0, _, _, _, _ => none
 | k + 1, x3, x460000, x460001, x460002 => if x3 < (x460002.length : Int) then (if 0 ≤ x3 then (if (((Qam x460002 x3).f0).length : Int) > 100 then (some false) else (Qaw.l0 k (wrap64 (x3 + 1)) x460000 x460001 x460002)) else (none)) else ((Qbh.f k x460000 x460001 x460002).bind fun t460 => (some (decide (t460 ≤ 300))))
end
def Qaw.f (k : Nat) (a0_0 a0_1 : Int) (l0_2 : List (S39)) : Option (Bool) := if (l0_2.length : Int) > 40 then (Qaw.j0 k true a0_0 a0_1 l0_2) else (Qaw.j0 k (decide (a0_1 > 60)) a0_0 a0_1 l0_2)
theorem Qaw.calls (k : Nat) (a0_0 a0_1 : Int) (A0_2 : Option Addr) (c0_2 : Nat) (l0_2 : List (S39)) (r : Bool) (w : World) (hr0_2 : Kd.C k39 w A0_2 l0_2.length l0_2) (hc0_2 : l0_2.length ≤ c0_2) (h : Qaw.f k a0_0 a0_1 l0_2 = some r) :
 Calls Tryz.prog 22 #[.agg #[.int .i64 a0_0, .int .i64 a0_1, .slice A0_2 l0_2.length c0_2]] w fun e w' => e = .returned (.bool r) ∧ Below w.heap.size w w' := by
 have hu24 := Tryz.underlying24
 have R0_2 := As0 hr0_2
 have C0_2 := As0 hc0_2
 clear hr0_2 hc0_2
 have HB := As0 (Below.refl w.heap.size w)
 have H : (if (l0_2.length : Int) > 40 then (Qaw.j0 k true a0_0 a0_1 l0_2) else (Qaw.j0 k (decide (a0_1 > 60)) a0_0 a0_1 l0_2)) = some r := h
 clear h
 have C2 := As0 H
 clear H
 go_enter Tryz.func22, Tryz.ntmps22
 go_upto_region 1 with (first | ((with_reducible refine gD 1 ?_); refine bY HB.out ?_; intro gb459 w3 hg hb K459 GW459 HB; clear hb hg))
 (try simp only [Act.put, sL1, sL2, sL3])
 go_cut [12] (fun v12 wc => ∃ (kq : Nat) (x12_1 : Bool), v12 = .bool x12_1 ∧ Qbk (Qaw.j0 kq x12_1 a0_0 a0_1 l0_2 = some r) ∧ Qbk (kq ≤ k) ∧ Qbk (wc.heap[gb459]? = some (.cells #[.int .i64 a0_0, .int .i64 a0_1, (.slice A0_2 l0_2.length c0_2)] 24 (0, 0))) ∧ Qbk (Below w.heap.size w wc))
 case first =>
  have H := C2.out
  clear C2
  by_cases c4 : (l0_2.length : Int) > 40
  rotate_left
  ·rw [if_neg c4] at H
   have c4b0 := decide_eq_false c4
   have c4b1 : decide (40 < l0_2.length) = false := decide_eq_false (by omega)
   clear c4
   (first | rw [c4b0] | (simp only [Qbu, Qbv]; rw [c4b0]) | skip)
   have H' := As0 H
   clear H
   have q6_ := cN3 K459.out
   go_wp2
   go_meet
   case rel => exact ⟨_, (decide (a0_1 > 60)), eR, H', ⟨by first | omega | exact Nat.le_refl _⟩, ⟨bU K459.out⟩, ⟨BU HB.out⟩⟩
  rw [if_pos c4] at H
  have c4b0 := decide_eq_true c4
  have c4b1 : decide (40 < l0_2.length) = true := decide_eq_true (by omega)
  clear c4
  (first | rw [c4b0] | (simp only [Qbu, Qbv]; rw [c4b0]) | skip)
  have H' := As0 H
  clear H
  have q5_ := cN3 K459.out
  go_wp2
  go_meet
  case rel => exact ⟨_, (true), eR, H', ⟨by first | omega | exact Nat.le_refl _⟩, ⟨bU K459.out⟩, ⟨BU HB.out⟩⟩
 case rest =>
  clear C2
  obtain ⟨kq, x12_1, rfl, HA, HJ1, K459, HB⟩ := hcut
  cases kq with
  | zero => exact absurd HA.out (by simp [Qaw.j0])
  | succ kj1 =>
   have H := HA.out
   clear HA
   simp only [Qaw.j0] at H
   by_cases c7 : x12_1 = true
   ·subst c7
    rw [if_pos rfl] at H
    obtain rfl := Option.some.inj H
    go_wp2
    go_ret
    exact ⟨oR, BU HB.out⟩
   replace c7 := Bool.eq_false_iff.mpr c7
   subst c7
   rw [if_neg bF] at H
   have H' := As0 H
   clear H
   go_wp2
   go_loopg [3] kj1 (fun kq v3 w' => ∃ (x3_2 : Int), v3 = .int .i64 x3_2 ∧ Qbk (Qaw.l0 kq x3_2 a0_0 a0_1 l0_2 = some r) ∧ Qbk (kq ≤ kj1) ∧ Qbk (w'.heap[gb459]? = some (.cells #[.int .i64 a0_0, .int .i64 a0_1, (.slice A0_2 l0_2.length c0_2)] 24 (0, 0))) ∧ Qbk (Below w.heap.size w w'))
   case atStart => exact ⟨(0), eR, H', ⟨Nat.le_refl _⟩, ⟨bU K459.out⟩, ⟨BU HB.out⟩⟩
   case round =>
    clear H'
    obtain ⟨x3_2, rfl, HA, HK2, K459, HB⟩ := hrel
    cases gk with
    | zero => exact absurd HA.out (by simp [Qaw.l0])
    | succ k2 =>
     have H := HA.out
     clear HA
     simp only [Qaw.l0] at H
     by_cases c8 : x3_2 < (l0_2.length : Int)
     rotate_left
     ·rw [if_neg c8] at H
      have c8b0 := decide_eq_false c8
      clear c8
      replace H := Option.bind_eq_some_iff.mp H
      obtain ⟨t460, A130, H⟩ := H
      have A13 := As0 A130
      clear A130
      obtain rfl := Option.some.inj H
      have q14_ := cN3 K459.out
      go_wp2_with (first | ((with_reducible refine Qbo (f := 52) rfl ?_); refine gL (some 29) Tryz.func52 #[.agg #[.int .i64 a0_0, .int .i64 a0_1, .slice A0_2 l0_2.length c0_2]] ?_; (with_reducible refine (Qbh.calls k2 a0_0 a0_1 _ _ l0_2 t460 _ ?side1 ?side2 A13.out).mono ?_); (case side1 => exact CU (Kd.C_below R0_2.out HB.out)); (case side2 => exact C0_2.out); rintro e w15 ⟨rfl, hb⟩; refine ⟨_, rfl, ?_⟩; replace K459 := kB K459 hb; replace HB := sB HB hb; (try clear hb)))
      go_ret
      exact ⟨oR, BU HB.out⟩
     rw [if_pos c8] at H
     have c8b0 := decide_eq_true c8
     clear c8
     by_cases c9 : 0 ≤ x3_2
     rotate_left
     ·rw [if_neg c9] at H
      exact absurd H (by simp)
     rw [if_pos c9] at H
     have c9b0 := decide_eq_true c9
     clear c9
     by_cases c10 : (((Qam l0_2 x3_2).f0).length : Int) > 100
     ·rw [if_pos c10] at H
      have c10b0 := decide_eq_true c10
      have c10b1 : decide (100 < ((Qam l0_2 x3_2).f0).length) = true := decide_eq_true (by omega)
      clear c10
      obtain rfl := Option.some.inj H
      have q11_ := cN3 K459.out
      have p461 : 0 ≤ (x3_2 : Int) := qR
      have q461 : x3_2 < (l0_2.length : Int) := qR
      obtain ⟨ad461, A461_0, c461_0, e461, hx461_0, hx461_1, hx461_2, hx461_3, hx461_4, hl461_0, hi461_0⟩ := at_T39 R0_2.out x3_2 p461 q461
      cases e461
      replace hx461_0 := cl HB hx461_0
      replace hx461_1 := cl HB hx461_1
      replace hx461_2 := cl HB hx461_2
      replace hx461_3 := cl HB hx461_3
      replace hx461_4 := cl HB hx461_4
      have R461_0 := As0 hi461_0
      have C461_0 := As0 hl461_0
      clear hi461_0 hl461_0
      replace p461 := eq_true p461
      replace q461 := eq_true q461
      go_wp2
      go_ret
      exact ⟨oR, BU HB.out⟩
     rw [if_neg c10] at H
     have c10b0 := decide_eq_false c10
     have c10b1 : decide (100 < ((Qam l0_2 x3_2).f0).length) = false := decide_eq_false (by omega)
     clear c10
     have H' := As0 H
     clear H
     have q12_ := cN3 K459.out
     have p461 : 0 ≤ (x3_2 : Int) := qR
     have q461 : x3_2 < (l0_2.length : Int) := qR
     obtain ⟨ad461, A461_0, c461_0, e461, hx461_0, hx461_1, hx461_2, hx461_3, hx461_4, hl461_0, hi461_0⟩ := at_T39 R0_2.out x3_2 p461 q461
     cases e461
     replace hx461_0 := cl HB hx461_0
     replace hx461_1 := cl HB hx461_1
     replace hx461_2 := cl HB hx461_2
     replace hx461_3 := cl HB hx461_3
     replace hx461_4 := cl HB hx461_4
     have R461_0 := As0 hi461_0
     have C461_0 := As0 hl461_0
     clear hi461_0 hl461_0
     replace p461 := eq_true p461
     replace q461 := eq_true q461
     go_wp2
     go_roundg k2
     case measure => have := HJ1.out; have := HK2.out; omega
     case rel => exact ⟨(wrap64 (x3_2 + 1)), eR, H', ⟨by have := HJ1.out; have := HK2.out; omega⟩, ⟨bU K459.out⟩, ⟨BU HB.out⟩⟩
def Qbg.l0 : Nat → Int → Int → Int → Int → Int → List (S57) → Option (Int)
 | 0, _, _, _, _, _, _ => none
 | k + 1, x3, x4, x463000, x463001, x463002, x463003 => if x4 < (x463003.length : Int) then (if 0 ≤ x4 then (Qbg.l0 k (wrap64 (x3 + (((Qad x463003 x4).f0).length : Int))) (wrap64 (x4 + 1)) x463000 x463001 x463002 x463003) else (none)) else (some x3)
def Qbg.f (k : Nat) (a0_0 a0_1 a0_2 : Int) (l0_3 : List (S57)) : Option (Int) := Qbg.l0 k 0 0 a0_0 a0_1 a0_2 l0_3
theorem Qbg.calls (k : Nat) (a0_0 a0_1 a0_2 : Int) (A0_3 : Option Addr) (c0_3 : Nat) (l0_3 : List (S57)) (r : Int) (w : World) (hr0_3 : Kd.C k57 w A0_3 l0_3.length l0_3) (hc0_3 : l0_3.length ≤ c0_3) (h : Qbg.f k a0_0 a0_1 a0_2 l0_3 = some r) :
 Calls Tryz.prog 53 #[.agg #[.int .i64 a0_0, .int .i64 a0_1, .int .i64 a0_2, .slice A0_3 l0_3.length c0_3]] w fun e w' => e = .returned (.int .i64 r) ∧ Below w.heap.size w w' := by
 have hu27 := Tryz.underlying27
 have R0_3 := As0 hr0_3
 have C0_3 := As0 hc0_3
 clear hr0_3 hc0_3
 have HB := As0 (Below.refl w.heap.size w)
 have H : (Qbg.l0 k 0 0 a0_0 a0_1 a0_2 l0_3) = some r := h
 clear h
 have H' := As0 H
 clear H
 go_enter Tryz.func53, Tryz.ntmps53
 go_wp2_with (first | ((with_reducible refine gD 1 ?_); refine bY HB.out ?_; intro gb462 w2 hg hb K462 GW462 HB; clear hb hg))
 go_loopg [3, 4] k (fun kq v3 v4 w' => ∃ (x3_1 : Int) (x4_1 : Int), v3 = .int .i64 x3_1 ∧ v4 = .int .i64 x4_1 ∧ Qbk (Qbg.l0 kq x3_1 x4_1 a0_0 a0_1 a0_2 l0_3 = some r) ∧ Qbk (kq ≤ k) ∧ Qbk (w'.heap[gb462]? = some (.cells #[.int .i64 a0_0, .int .i64 a0_1, .int .i64 a0_2, (.slice A0_3 l0_3.length c0_3)] 27 (0, 0))) ∧ Qbk (Below w.heap.size w w'))
 case atStart => exact ⟨(0), (0), eR, eR, H', ⟨Nat.le_refl _⟩, ⟨bU K462.out⟩, ⟨BU HB.out⟩⟩
 case round =>
  clear H'
  obtain ⟨x3_1, x4_1, rfl, rfl, HA, HK1, K462, HB⟩ := hrel
  cases gk with
  | zero => exact absurd HA.out (by simp [Qbg.l0])
  | succ k1 =>
   have H := HA.out
   clear HA
   simp only [Qbg.l0] at H
   by_cases c3 : x4_1 < (l0_3.length : Int)
   rotate_left
   ·rw [if_neg c3] at H
    have c3b0 := decide_eq_false c3
    clear c3
    obtain rfl := Option.some.inj H
    have q6_ := cN4 K462.out
    go_wp2
    go_ret
    exact ⟨oR, BU HB.out⟩
   rw [if_pos c3] at H
   have c3b0 := decide_eq_true c3
   clear c3
   by_cases c4 : 0 ≤ x4_1
   rotate_left
   ·rw [if_neg c4] at H
    exact absurd H (by simp)
   rw [if_pos c4] at H
   have c4b0 := decide_eq_true c4
   clear c4
   have H' := As0 H
   clear H
   have q5_ := cN4 K462.out
   have p463 : 0 ≤ (x4_1 : Int) := qR
   have q463 : x4_1 < (l0_3.length : Int) := qR
   obtain ⟨ad463, A463_0, c463_0, e463, hx463_0, hx463_1, hx463_2, hx463_3, hx463_4, hl463_0, hi463_0⟩ := Qej R0_3.out x4_1 p463 q463
   cases e463
   replace hx463_0 := cl HB hx463_0
   replace hx463_1 := cl HB hx463_1
   replace hx463_2 := cl HB hx463_2
   replace hx463_3 := cl HB hx463_3
   replace hx463_4 := cl HB hx463_4
   have R463_0 := As0 hi463_0
   have C463_0 := As0 hl463_0
   clear hi463_0 hl463_0
   replace p463 := eq_true p463
   replace q463 := eq_true q463
   go_wp2
   go_roundg k1
   case measure => have := HK1.out; omega
   case rel => exact ⟨(wrap64 (x3_1 + (((Qad l0_3 x4_1).f0).length : Int))), (wrap64 (x4_1 + 1)), eR, eR, H', ⟨by have := HK1.out; omega⟩, ⟨bU K462.out⟩, ⟨BU HB.out⟩⟩
mutual
def Qat.j0 : Nat → Bool → Int → Int → Int → List (S57) → Option (Bool)
 | 0, _, _, _, _, _ => none
 | k + 1, x17, x465000, x465001, x465002, x465003 => if x17 = true then (some false) else (Qat.l0 k 0 x465000 x465001 x465002 x465003)
def Qat.l0 : Nat → Int → Int → Int → Int → List (S57) → Option (Bool)
 | 0, _, _, _, _, _ => none
 | k + 1, x3, x465000, x465001, x465002, x465003 => if x3 < (x465003.length : Int) then (if 0 ≤ x3 then (if (((Qad x465003 x3).f0).length : Int) > 300 then (some false) else (Qat.l0 k (wrap64 (x3 + 1)) x465000 x465001 x465002 x465003)) else (none)) else ((Qbg.f k x465000 x465001 x465002 x465003).bind fun t465 => (some (decide (t465 ≤ 900))))
end
def Qat.f (k : Nat) (a0_0 a0_1 a0_2 : Int) (l0_3 : List (S57)) : Option (Bool) := if (l0_3.length : Int) > 40 then (Qat.j0 k true a0_0 a0_1 a0_2 l0_3) else (if a0_1 > 60 then (Qat.j0 k true a0_0 a0_1 a0_2 l0_3) else (Qat.j0 k (decide (a0_2 > 60)) a0_0 a0_1 a0_2 l0_3))
theorem Qat.calls (k : Nat) (a0_0 a0_1 a0_2 : Int) (A0_3 : Option Addr) (c0_3 : Nat) (l0_3 : List (S57)) (r : Bool) (w : World) (hr0_3 : Kd.C k57 w A0_3 l0_3.length l0_3) (hc0_3 : l0_3.length ≤ c0_3) (h : Qat.f k a0_0 a0_1 a0_2 l0_3 = some r) :
 Calls Tryz.prog 23 #[.agg #[.int .i64 a0_0, .int .i64 a0_1, .int .i64 a0_2, .slice A0_3 l0_3.length c0_3]] w fun e w' => e = .returned (.bool r) ∧ Below w.heap.size w w' := by
 have hu27 := Tryz.underlying27
 have R0_3 := As0 hr0_3
 have C0_3 := As0 hc0_3
 clear hr0_3 hc0_3
 have HB := As0 (Below.refl w.heap.size w)
 have H : (if (l0_3.length : Int) > 40 then (Qat.j0 k true a0_0 a0_1 a0_2 l0_3) else (if a0_1 > 60 then (Qat.j0 k true a0_0 a0_1 a0_2 l0_3) else (Qat.j0 k (decide (a0_2 > 60)) a0_0 a0_1 a0_2 l0_3))) = some r := h
 clear h
 have C2 := As0 H
 clear H
 go_enter Tryz.func23, Tryz.ntmps23
 go_upto_region 1 with (first | ((with_reducible refine gD 1 ?_); refine bY HB.out ?_; intro gb464 w3 hg hb K464 GW464 HB; clear hb hg))
 (try simp only [Act.put, sL1, sL2, sL3])
 go_cut [17] (fun v17 wc => ∃ (kq : Nat) (x17_1 : Bool), v17 = .bool x17_1 ∧ Qbk (Qat.j0 kq x17_1 a0_0 a0_1 a0_2 l0_3 = some r) ∧ Qbk (kq ≤ k) ∧ Qbk (wc.heap[gb464]? = some (.cells #[.int .i64 a0_0, .int .i64 a0_1, .int .i64 a0_2, (.slice A0_3 l0_3.length c0_3)] 27 (0, 0))) ∧ Qbk (Below w.heap.size w wc))
 case first =>
  have H := C2.out
  clear C2
  by_cases c4 : (l0_3.length : Int) > 40
  ·rw [if_pos c4] at H
   have c4b0 := decide_eq_true c4
   have c4b1 : decide (40 < l0_3.length) = true := decide_eq_true (by omega)
   clear c4
   (first | rw [c4b0] | (simp only [Qbu, Qbv]; rw [c4b0]) | skip)
   have H' := As0 H
   clear H
   have q5_ := cN4 K464.out
   go_wp2
   go_meet
   case rel => exact ⟨_, (true), eR, H', ⟨by first | omega | exact Nat.le_refl _⟩, ⟨bU K464.out⟩, ⟨BU HB.out⟩⟩
  rw [if_neg c4] at H
  have c4b0 := decide_eq_false c4
  have c4b1 : decide (40 < l0_3.length) = false := decide_eq_false (by omega)
  clear c4
  (first | rw [c4b0] | (simp only [Qbu, Qbv]; rw [c4b0]) | skip)
  by_cases c6 : a0_1 > 60
  rotate_left
  ·rw [if_neg c6] at H
   have c6b0 := decide_eq_false c6
   clear c6
   have H' := As0 H
   clear H
   have q8_ := cN4 K464.out
   go_wp2
   go_meet
   case rel => exact ⟨_, (decide (a0_2 > 60)), eR, H', ⟨by first | omega | exact Nat.le_refl _⟩, ⟨bU K464.out⟩, ⟨BU HB.out⟩⟩
  rw [if_pos c6] at H
  have c6b0 := decide_eq_true c6
  clear c6
  have H' := As0 H
  clear H
  have q7_ := cN4 K464.out
  go_wp2
  go_meet
  case rel => exact ⟨_, (true), eR, H', ⟨by first | omega | exact Nat.le_refl _⟩, ⟨bU K464.out⟩, ⟨BU HB.out⟩⟩
 case rest =>
  clear C2
  obtain ⟨kq, x17_1, rfl, HA, HJ1, K464, HB⟩ := hcut
  cases kq with
  | zero => exact absurd HA.out (by simp [Qat.j0])
  | succ kj1 =>
   have H := HA.out
   clear HA
   simp only [Qat.j0] at H
   by_cases c9 : x17_1 = true
   ·subst c9
    rw [if_pos rfl] at H
    obtain rfl := Option.some.inj H
    go_wp2
    go_ret
    exact ⟨oR, BU HB.out⟩
   replace c9 := Bool.eq_false_iff.mpr c9
   subst c9
   rw [if_neg bF] at H
   have H' := As0 H
   clear H
   go_wp2
   go_loopg [3] kj1 (fun kq v3 w' => ∃ (x3_2 : Int), v3 = .int .i64 x3_2 ∧ Qbk (Qat.l0 kq x3_2 a0_0 a0_1 a0_2 l0_3 = some r) ∧ Qbk (kq ≤ kj1) ∧ Qbk (w'.heap[gb464]? = some (.cells #[.int .i64 a0_0, .int .i64 a0_1, .int .i64 a0_2, (.slice A0_3 l0_3.length c0_3)] 27 (0, 0))) ∧ Qbk (Below w.heap.size w w'))
   case atStart => exact ⟨(0), eR, H', ⟨Nat.le_refl _⟩, ⟨bU K464.out⟩, ⟨BU HB.out⟩⟩
   case round =>
    clear H'
    obtain ⟨x3_2, rfl, HA, HK2, K464, HB⟩ := hrel
    cases gk with
    | zero => exact absurd HA.out (by simp [Qat.l0])
    | succ k2 =>
     have H := HA.out
     clear HA
     simp only [Qat.l0] at H
     by_cases c10 : x3_2 < (l0_3.length : Int)
     rotate_left
     ·rw [if_neg c10] at H
      have c10b0 := decide_eq_false c10
      clear c10
      replace H := Option.bind_eq_some_iff.mp H
      obtain ⟨t465, A150, H⟩ := H
      have A15 := As0 A150
      clear A150
      obtain rfl := Option.some.inj H
      have q16_ := cN4 K464.out
      go_wp2_with (first | ((with_reducible refine Qbo (f := 53) rfl ?_); refine gL (some 34) Tryz.func53 #[.agg #[.int .i64 a0_0, .int .i64 a0_1, .int .i64 a0_2, .slice A0_3 l0_3.length c0_3]] ?_; (with_reducible refine (Qbg.calls k2 a0_0 a0_1 a0_2 _ _ l0_3 t465 _ ?side1 ?side2 A15.out).mono ?_); (case side1 => exact CU (Kd.C_below R0_3.out HB.out)); (case side2 => exact C0_3.out); rintro e w17 ⟨rfl, hb⟩; refine ⟨_, rfl, ?_⟩; replace K464 := kB K464 hb; replace HB := sB HB hb; (try clear hb)))
      go_ret
      exact ⟨oR, BU HB.out⟩
     rw [if_pos c10] at H
     have c10b0 := decide_eq_true c10
     clear c10
     by_cases c11 : 0 ≤ x3_2
     rotate_left
     ·rw [if_neg c11] at H
      exact absurd H (by simp)
     rw [if_pos c11] at H
     have c11b0 := decide_eq_true c11
     clear c11
     by_cases c12 : (((Qad l0_3 x3_2).f0).length : Int) > 300
     ·rw [if_pos c12] at H
      have c12b0 := decide_eq_true c12
      have c12b1 : decide (300 < ((Qad l0_3 x3_2).f0).length) = true := decide_eq_true (by omega)
      clear c12
      obtain rfl := Option.some.inj H
      have q13_ := cN4 K464.out
      have p466 : 0 ≤ (x3_2 : Int) := qR
      have q466 : x3_2 < (l0_3.length : Int) := qR
      obtain ⟨ad466, A466_0, c466_0, e466, hx466_0, hx466_1, hx466_2, hx466_3, hx466_4, hl466_0, hi466_0⟩ := Qej R0_3.out x3_2 p466 q466
      cases e466
      replace hx466_0 := cl HB hx466_0
      replace hx466_1 := cl HB hx466_1
      replace hx466_2 := cl HB hx466_2
      replace hx466_3 := cl HB hx466_3
      replace hx466_4 := cl HB hx466_4
      have R466_0 := As0 hi466_0
      have C466_0 := As0 hl466_0
      clear hi466_0 hl466_0
      replace p466 := eq_true p466
      replace q466 := eq_true q466
      go_wp2
      go_ret
      exact ⟨oR, BU HB.out⟩
     rw [if_neg c12] at H
     have c12b0 := decide_eq_false c12
     have c12b1 : decide (300 < ((Qad l0_3 x3_2).f0).length) = false := decide_eq_false (by omega)
     clear c12
     have H' := As0 H
     clear H
     have q14_ := cN4 K464.out
     have p466 : 0 ≤ (x3_2 : Int) := qR
     have q466 : x3_2 < (l0_3.length : Int) := qR
     obtain ⟨ad466, A466_0, c466_0, e466, hx466_0, hx466_1, hx466_2, hx466_3, hx466_4, hl466_0, hi466_0⟩ := Qej R0_3.out x3_2 p466 q466
     cases e466
     replace hx466_0 := cl HB hx466_0
     replace hx466_1 := cl HB hx466_1
     replace hx466_2 := cl HB hx466_2
     replace hx466_3 := cl HB hx466_3
     replace hx466_4 := cl HB hx466_4
     have R466_0 := As0 hi466_0
     have C466_0 := As0 hl466_0
     clear hi466_0 hl466_0
     replace p466 := eq_true p466
     replace q466 := eq_true q466
     go_wp2
     go_roundg k2
     case measure => have := HJ1.out; have := HK2.out; omega
     case rel => exact ⟨(wrap64 (x3_2 + 1)), eR, H', ⟨by have := HJ1.out; have := HK2.out; omega⟩, ⟨bU K464.out⟩, ⟨BU HB.out⟩⟩
mutual
def Qa4.l0 : Nat → List (List (S47)) → Int → Option (Bool)
 | 0, _, _ => none
 | k + 1, x0, x3 => if x3 < (x0.length : Int) then (Qa4.j1 k x0 x3 (decide (x3 ≤ 40))) else (Qa4.j1 k x0 x3 false)
def Qa4.j1 : Nat → List (List (S47)) → Int → Bool → Option (Bool)
 | 0, _, _, _ => none
 | k + 1, x0, x3, x11 => if x11 = true then (if 0 ≤ x3 then (if x3 < (x0.length : Int) then (if ((Qax x0 x3).length : Int) > 400 then (some false) else (Qa4.l0 k x0 (wrap64 (x3 + 1)))) else (none)) else (none)) else (some (decide ((x0.length : Int) ≤ 40)))
end
def Qa4.f (k : Nat) (l0 : List (List (S47))) : Option (Bool) := Qa4.l0 k l0 0
theorem Qa4.calls (k : Nat) (A0 : Option Addr) (c0 : Nat) (l0 : List (List (S47))) (r : Bool) (w : World) (hr0 : Kd.C (Kd.slice 47 k47) w A0 l0.length l0) (hc0 : l0.length ≤ c0) (h : Qa4.f k l0 = some r) :
 Calls Tryz.prog 24 #[.slice A0 l0.length c0] w fun e w' => e = .returned (.bool r) ∧ Qbz w w' := by
 have R0 := As0 hr0
 have C0 := As0 hc0
 clear hr0 hc0
 have H : (Qa4.l0 k l0 0) = some r := h
 clear h
 have H' := As0 H
 clear H
 go_enter Tryz.func24, Tryz.ntmps24
 go_wp2
 go_loopg [3] k (fun kq v3 w' => ∃ (x3_1 : Int), v3 = .int .i64 x3_1 ∧ Qbk (Qa4.l0 kq l0 x3_1 = some r) ∧ Qbk (kq ≤ k) ∧ Qbz w w')
 case atStart => exact ⟨(0), eR, H', ⟨Nat.le_refl _⟩, by repeat (first | exact Qbz.refl _ | apply Qbz.step)⟩
 case round =>
  clear H'
  obtain ⟨x3_1, rfl, HA, HK1, ⟨m1, rfl⟩⟩ := hrel
  cases gk with
  | zero => exact absurd HA.out (by simp [Qa4.l0])
  | succ k1 =>
   have H := HA.out
   clear HA
   simp only [Qa4.l0] at H
   have C2 := As0 H
   clear H
   go_upto_region 2 with (fail)
   go_cut [11] (fun v11 wc => ∃ (kq : Nat) (x11_1 : Bool), v11 = .bool x11_1 ∧ Qbk (Qa4.j1 kq l0 x3_1 x11_1 = some r) ∧ Qbk (kq ≤ k1) ∧ Qbz w wc)
   case first =>
    have H := C2.out
    clear C2
    by_cases c3 : x3_1 < (l0.length : Int)
    rotate_left
    ·rw [if_neg c3] at H
     have c3b0 := decide_eq_false c3
     clear c3
     (first | rw [c3b0] | (simp only [Qbu, Qbv]; rw [c3b0]) | skip)
     have H' := As0 H
     clear H
     go_wp2
     go_meet
     case rel => exact ⟨_, (false), eR, H', ⟨by have := HK1.out; first | omega | exact Nat.le_refl _⟩, by repeat (first | exact Qbz.refl _ | apply Qbz.step)⟩
    rw [if_pos c3] at H
    have c3b0 := decide_eq_true c3
    clear c3
    (first | rw [c3b0] | (simp only [Qbu, Qbv]; rw [c3b0]) | skip)
    have H' := As0 H
    clear H
    go_wp2
    go_meet
    case rel => exact ⟨_, (decide (x3_1 ≤ 40)), eR, H', ⟨by have := HK1.out; first | omega | exact Nat.le_refl _⟩, by repeat (first | exact Qbz.refl _ | apply Qbz.step)⟩
   case rest =>
    clear C2
    obtain ⟨kq, x11_1, rfl, HA, HJ1, ⟨mc1, rfl⟩⟩ := hcut
    cases kq with
    | zero => exact absurd HA.out (by simp [Qa4.j1])
    | succ kj1 =>
     have H := HA.out
     clear HA
     simp only [Qa4.j1] at H
     by_cases c4 : x11_1 = true
     rotate_left
     ·replace c4 := Bool.eq_false_iff.mpr c4
      subst c4
      rw [if_neg bF] at H
      obtain rfl := Option.some.inj H
      go_wp2
      go_ret
      exact dR
     subst c4
     rw [if_pos rfl] at H
     by_cases c5 : 0 ≤ x3_1
     rotate_left
     ·rw [if_neg c5] at H
      exact absurd H (by simp)
     rw [if_pos c5] at H
     have c5b0 := decide_eq_true c5
     clear c5
     by_cases c6 : x3_1 < (l0.length : Int)
     rotate_left
     ·rw [if_neg c6] at H
      exact absurd H (by simp)
     rw [if_pos c6] at H
     have c6b0 := decide_eq_true c6
     clear c6
     by_cases c7 : ((Qax l0 x3_1).length : Int) > 400
     ·rw [if_pos c7] at H
      have c7b0 := decide_eq_true c7
      have c7b1 : decide (400 < (Qax l0 x3_1).length) = true := decide_eq_true (by omega)
      clear c7
      obtain rfl := Option.some.inj H
      have p467 : 0 ≤ (x3_1 : Int) := qR
      have q467 : x3_1 < (l0.length : Int) := qR
      obtain ⟨ad467, A467_0, c467_0, e467, hx467_0, hl467_0, hi467_0⟩ := Qek R0.out x3_1 p467 q467
      cases e467
      have R467_0 := As0 hi467_0
      have C467_0 := As0 hl467_0
      clear hi467_0 hl467_0
      replace p467 := eq_true p467
      replace q467 := eq_true q467
      go_wp2
      go_ret
      exact dR
     rw [if_neg c7] at H
     have c7b0 := decide_eq_false c7
     have c7b1 : decide (400 < (Qax l0 x3_1).length) = false := decide_eq_false (by omega)
     clear c7
     have H' := As0 H
     clear H
     have p467 : 0 ≤ (x3_1 : Int) := qR
     have q467 : x3_1 < (l0.length : Int) := qR
     obtain ⟨ad467, A467_0, c467_0, e467, hx467_0, hl467_0, hi467_0⟩ := Qek R0.out x3_1 p467 q467
     cases e467
     have R467_0 := As0 hi467_0
     have C467_0 := As0 hl467_0
     clear hi467_0 hl467_0
     replace p467 := eq_true p467
     replace q467 := eq_true q467
     go_wp2
     go_roundg kj1
     case measure => have := HK1.out; have := HJ1.out; omega
     case rel => exact ⟨(wrap64 (x3_1 + 1)), eR, H', ⟨by have := HK1.out; have := HJ1.out; omega⟩, by repeat (first | exact Qbz.refl _ | apply Qbz.step)⟩
def regcertref16_Few.f (k : Nat) (a0_0 a0_1 : Int) (l0_2 : List (S39)) (a0_3 a0_4 a0_5 : Int) (l0_6 : List (S57)) (l0_7 : List (List (S47))) : Option (Bool) := (Qaw.f k a0_0 a0_1 l0_2).bind fun t469 => (if t469 = true then ((Qat.f k a0_3 a0_4 a0_5 l0_6).bind fun t470 => (if t470 = true then ((Qa4.f k l0_7).bind fun t471 => (some t471)) else (some false))) else (some false))
theorem regcertref16_Few.calls (k : Nat) (a0_0 a0_1 : Int) (A0_2 : Option Addr) (c0_2 : Nat) (l0_2 : List (S39)) (a0_3 a0_4 a0_5 : Int) (A0_6 : Option Addr) (c0_6 : Nat) (l0_6 : List (S57)) (A0_7 : Option Addr) (c0_7 : Nat) (l0_7 : List (List (S47))) (r : Bool) (w : World) (hr0_2 : Kd.C k39 w A0_2 l0_2.length l0_2) (hc0_2 : l0_2.length ≤ c0_2) (hr0_6 : Kd.C k57 w A0_6 l0_6.length l0_6) (hc0_6 : l0_6.length ≤ c0_6) (hr0_7 : Kd.C (Kd.slice 47 k47) w A0_7 l0_7.length l0_7) (hc0_7 : l0_7.length ≤ c0_7) (h : regcertref16_Few.f k a0_0 a0_1 l0_2 a0_3 a0_4 a0_5 l0_6 l0_7 = some r) :
 Calls Tryz.prog 8 #[.agg #[.int .i64 a0_0, .int .i64 a0_1, .slice A0_2 l0_2.length c0_2, .int .i64 a0_3, .int .i64 a0_4, .int .i64 a0_5, .slice A0_6 l0_6.length c0_6, .slice A0_7 l0_7.length c0_7]] w fun e w' => e = .returned (.bool r) ∧ Below w.heap.size w w' := by
 have hu30 := Tryz.underlying30
 have hu24 := Tryz.underlying24
 have hu27 := Tryz.underlying27
 have R0_2 := As0 hr0_2
 have C0_2 := As0 hc0_2
 clear hr0_2 hc0_2
 have R0_6 := As0 hr0_6
 have C0_6 := As0 hc0_6
 clear hr0_6 hc0_6
 have R0_7 := As0 hr0_7
 have C0_7 := As0 hc0_7
 clear hr0_7 hc0_7
 have HB := As0 (Below.refl w.heap.size w)
 have H : ((Qaw.f k a0_0 a0_1 l0_2).bind fun t469 => (if t469 = true then ((Qat.f k a0_3 a0_4 a0_5 l0_6).bind fun t470 => (if t470 = true then ((Qa4.f k l0_7).bind fun t471 => (some t471)) else (some false))) else (some false))) = some r := h
 clear h
 replace H := Option.bind_eq_some_iff.mp H
 obtain ⟨t469, A20, H⟩ := H
 have A2 := As0 A20
 clear A20
 by_cases c3 : t469 = true
 rotate_left
 ·replace c3 := Bool.eq_false_iff.mpr c3
  subst c3
  rw [if_neg bF] at H
  obtain rfl := Option.some.inj H
  go_enter Tryz.func8, Tryz.ntmps8
  go_wp2_with (first | ((with_reducible refine gD 1 ?_); refine bY HB.out ?_; intro gb468 w18 hg hb K468 GW468 HB; clear hb hg; have q19_ := cN8 K468.out) | ((with_reducible refine Qbo (f := 22) rfl ?_); refine gL (some 5) Tryz.func22 #[.agg #[.int .i64 a0_0, .int .i64 a0_1, .slice A0_2 l0_2.length c0_2]] ?_; (with_reducible refine (Qaw.calls k a0_0 a0_1 _ _ l0_2 false _ ?side1 ?side2 A2.out).mono ?_); (case side1 => exact CU (Kd.C_below R0_2.out HB.out)); (case side2 => exact C0_2.out); rintro e w20 ⟨rfl, hb⟩; refine ⟨_, rfl, ?_⟩; replace K468 := kB K468 hb; replace HB := sB HB hb; (try clear hb)))
  go_ret
  exact ⟨oR, BU HB.out⟩
 subst c3
 rw [if_pos rfl] at H
 replace H := Option.bind_eq_some_iff.mp H
 obtain ⟨t470, A40, H⟩ := H
 have A4 := As0 A40
 clear A40
 by_cases c5 : t470 = true
 rotate_left
 ·replace c5 := Bool.eq_false_iff.mpr c5
  subst c5
  rw [if_neg bF] at H
  obtain rfl := Option.some.inj H
  go_enter Tryz.func8, Tryz.ntmps8
  go_wp2_with (first | ((with_reducible refine gD 1 ?_); refine bY HB.out ?_; intro gb468 w13 hg hb K468 GW468 HB; clear hb hg; have q14_ := cN8 K468.out) | ((with_reducible refine Qbo (f := 22) rfl ?_); refine gL (some 5) Tryz.func22 #[.agg #[.int .i64 a0_0, .int .i64 a0_1, .slice A0_2 l0_2.length c0_2]] ?_; (with_reducible refine (Qaw.calls k a0_0 a0_1 _ _ l0_2 true _ ?side1 ?side2 A2.out).mono ?_); (case side1 => exact CU (Kd.C_below R0_2.out HB.out)); (case side2 => exact C0_2.out); rintro e w15 ⟨rfl, hb⟩; refine ⟨_, rfl, ?_⟩; replace K468 := kB K468 hb; replace HB := sB HB hb; (try clear hb); have q16_ := cN8 K468.out) | (go_at_call 23; (with_reducible refine (Qat.calls k a0_3 a0_4 a0_5 _ _ l0_6 false _ ?side1 ?side2 A4.out).mono ?_); (case side1 => exact CU (Kd.C_below R0_6.out HB.out)); (case side2 => exact C0_6.out); rintro e w17 ⟨rfl, hb⟩; replace K468 := kB K468 hb; replace HB := sB HB hb; (try clear hb)))
  go_ret
  exact ⟨oR, BU HB.out⟩
 subst c5
 rw [if_pos rfl] at H
 replace H := Option.bind_eq_some_iff.mp H
 obtain ⟨t471, A60, H⟩ := H
 have A6 := As0 A60
 clear A60
 obtain rfl := Option.some.inj H
 go_enter Tryz.func8, Tryz.ntmps8
 go_wp2_with (first | ((with_reducible refine gD 1 ?_); refine bY HB.out ?_; intro gb468 w7 hg hb K468 GW468 HB; clear hb hg; have q8_ := cN8 K468.out) | ((with_reducible refine Qbo (f := 22) rfl ?_); refine gL (some 5) Tryz.func22 #[.agg #[.int .i64 a0_0, .int .i64 a0_1, .slice A0_2 l0_2.length c0_2]] ?_; (with_reducible refine (Qaw.calls k a0_0 a0_1 _ _ l0_2 true _ ?side1 ?side2 A2.out).mono ?_); (case side1 => exact CU (Kd.C_below R0_2.out HB.out)); (case side2 => exact C0_2.out); rintro e w9 ⟨rfl, hb⟩; refine ⟨_, rfl, ?_⟩; replace K468 := kB K468 hb; replace HB := sB HB hb; (try clear hb); have q10_ := cN8 K468.out) | (go_at_call 23; (with_reducible refine (Qat.calls k a0_3 a0_4 a0_5 _ _ l0_6 true _ ?side1 ?side2 A4.out).mono ?_); (case side1 => exact CU (Kd.C_below R0_6.out HB.out)); (case side2 => exact C0_6.out); rintro e w11 ⟨rfl, hb⟩; replace K468 := kB K468 hb; replace HB := sB HB hb; (try clear hb); have q12_ := cN8 K468.out) | (go_at_call 24; (with_reducible refine (Qa4.calls k _ _ l0_7 t471 _ ?side1 ?side2 A6.out).mono ?_); (case side1 => exact CU (Kd.C_below R0_7.out HB.out)); (case side2 => exact C0_7.out); rintro e w' ⟨rfl, ⟨nd, rfl⟩⟩))
 go_ret
 exact ⟨oR, BU HB.out⟩
def Qap.l0 : Nat → Int → Int → Int → List (S39) → Int → Int → List (S39) → Option (Int × Int × (List (S39)))
 | 0, _, _, _, _, _, _, _ => none
 | k + 1, x4, x473000, x473001, x473002, x475000, x475001, x475002 => if x4 < (x473002.length : Int) then ((some (([] : List (S41)) : List (S41))).bind fun y475 => (if 0 ≤ x4 then (if y475.length + ((Qam x473002 x4).f0).length < 3518437208883 then (if x475002.length < 2513169434916 then (Qap.l0 k (wrap64 (x4 + 1)) x473000 x473001 x473002 x475000 x475001 (x475002 ++ [(⟨(y475 ++ ((Qam x473002 x4).f0)), (⟨(Qam x473002 x4).f1.f0, (Qam x473002 x4).f1.f1, (Qam x473002 x4).f1.f2, (Qam x473002 x4).f1.f3⟩ : S37)⟩ : S39)])) else (none)) else (none)) else (none))) else (some (x475000, x475001, x475002))
def Qap.f (k : Nat) (a0_0 a0_1 : Int) (l0_2 : List (S39)) : Option (Int × Int × (List (S39))) := Qap.l0 k 0 a0_0 a0_1 l0_2 a0_0 a0_1 ([] : List (S39))
def Qap.T5 : Bool × List (List Nat × List Nat) := (true, [([], []), ([0], [0]), ([], []), ([], []), ([3], [3]), ([], []), ([4, 5], [4, 5]), ([6], [6]), ([7], [7]), ([2, 8], [2, 8]), ([], []), ([10], [10]), ([], []), ([11, 12], [11, 12]), ([13], [13]), ([14], [14]), ([9, 15], [9, 15]), ([16], [16]), ([1, 17, 9], [1, 17]), ([0, 1, 2, 3, 4, 5, 6, 7, 8, 9, 10, 11, 12, 13, 14, 15, 16, 17, 18], []), ([19, 18, 18, 0, 1, 2, 3, 4, 5, 6, 7, 8, 9, 10, 11, 12, 13, 14, 15, 16, 17, 18], [18, 19])])
def Qap.B5 : List Nat := [0, 1, 0, 0, 8, 0, 56, 120, 248, 508, 0, 1024, 0, 7168, 15360, 31744, 65532, 131068, 262143, 524287, 1048575]
theorem Qap.tab5 : rtab .any (opsOf Tryz.f28 5) = Qap.T5 := by kernel_rfl
theorem Qap.bits5 : Qcr Qap.T5.2 Qap.B5 = true := by kernel_rfl
theorem Qap.calls (k : Nat) (a0_0 a0_1 : Int) (A0_2 : Option Addr) (c0_2 : Nat) (l0_2 : List (S39)) (r1 r2 : Int) (r3 : List (S39)) (w : World) (hr0_2 : Kd.C k39 w A0_2 l0_2.length l0_2) (hc0_2 : l0_2.length ≤ c0_2) (h : Qap.f k a0_0 a0_1 l0_2 = some (r1, r2, r3)) :
 Calls Tryz.prog 28 #[.agg #[.int .i64 a0_0, .int .i64 a0_1, .slice A0_2 l0_2.length c0_2]] w fun e w' => ∃ v2_ : Value, e = .returned (.agg #[.int .i64 r1, .int .i64 r2, v2_]) ∧ Kd.S k39 39 w' w.heap.size (fun _ => True) v2_ r3 ∧ Below w.heap.size w w' := by
 have hu24 := Tryz.underlying24
 have hu37 := Tryz.underlying37
 have hu39 := Tryz.underlying39
 have R0_2 := As0 hr0_2
 have C0_2 := As0 hc0_2
 clear hr0_2 hc0_2
 have HB := As0 (Below.refl w.heap.size w)
 have H : (Qap.l0 k 0 a0_0 a0_1 l0_2 a0_0 a0_1 ([] : List (S39))) = some (r1, r2, r3) := h
 clear h
 have H' := As0 H
 clear H
 go_enter Tryz.func28, Tryz.ntmps28
 go_wp2_with (first | ((with_reducible refine gD 1 ?_); refine bY HB.out ?_; intro gb472 w2 hg hb K472 GW472 HB; clear hb hg) | ((with_reducible refine gD 2 ?_); refine bY HB.out ?_; intro gb473 w3 hg hb K473 GW473 HB; have N472_473 := nL hg K472; have N473_472 := nR hg K472; replace K472 := kB K472 hb; clear hb hg; have hnb4 := N472_473.out; have hnc4 := N473_472.out; have q5_ := cN3 K472.out) | ((with_reducible refine gD 3 ?_); refine bY HB.out ?_; intro gb474 w6 hg hb K474 GW474 HB; have N472_474 := nL hg K472; have N474_472 := nR hg K472; replace K472 := kB K472 hb; have N473_474 := nL hg K473; have N474_473 := nR hg K473; replace K473 := kB K473 hb; clear hb hg; have hnb7 := N474_472.out; have hnc7 := N472_474.out; have hnb8 := N474_473.out; have hnc8 := N473_474.out; have q9_ := cN3 K474.out))
 go_loopg [4] k (fun kq v4 w' => ∃ (x4_1 : Int) (x475002_1 : List (S39)) (u475002 : Value), v4 = .int .i64 x4_1 ∧ Qbk (Qap.l0 kq x4_1 a0_0 a0_1 l0_2 a0_0 a0_1 x475002_1 = some (r1, r2, r3)) ∧ Qbk (kq ≤ k) ∧ Qbk (Kd.S k39 39 w' w.heap.size (fun _ => True) u475002 x475002_1) ∧ Qbk (w'.heap[gb472]? = some (.cells #[.int .i64 a0_0, .int .i64 a0_1, (.slice A0_2 l0_2.length c0_2)] 24 (0, 0))) ∧ Qbk (w'.heap[gb473]? = some (.cells #[.int .i64 0, .int .i64 0, (.slice none 0 0)] 24 (0, 0))) ∧ Qbk (w'.heap[gb474]? = some (.cells #[.int .i64 a0_0, .int .i64 a0_1, u475002] 24 (0, 0))) ∧ Qbk (Below w.heap.size w w'))
 case atStart => exact ⟨(0), (([] : List (S39))), (.slice none 0 0), eR, H', ⟨Nat.le_refl _⟩, ⟨by first | exact Kd.S_nil _ _ _ _ _ | exact Kd.N_nil _ _ _ _ _ | exact Kd.V_nil _ _ _ _ _ | exact Kd.Q_nil _ _ _ _ _ | exact Kd.R_nil _ _ _ _ _⟩, ⟨kV K472⟩, ⟨kV K473⟩, ⟨kV K474⟩, ⟨BU HB.out⟩⟩
 case round =>
  clear H'
  obtain ⟨x4_1, x475002_1, u475002, rfl, HA, HK1, HO_475002, K472, K473, K474, HB⟩ := hrel
  cases gk with
  | zero => exact absurd HA.out (by simp [Qap.l0])
  | succ k1 =>
   have H := HA.out
   clear HA
   simp only [Qap.l0] at H
   by_cases c10 : x4_1 < (l0_2.length : Int)
   rotate_left
   ·rw [if_neg c10] at H
    have c10b0 := decide_eq_false c10
    clear c10
    simp only [Option.some.injEq, Prod.mk.injEq] at H
    obtain ⟨rfl, rfl, rfl⟩ := H
    have hnb25 := N472_473.out
    have hnc25 := N473_472.out
    have hnb26 := N472_474.out
    have hnc26 := N474_472.out
    have q27_ := cN3 K472.out
    have hnb28 := N474_473.out
    have hnc28 := N473_474.out
    have q29_ := cN3 K474.out
    have q30_ := cN3 K473.out
    obtain ⟨Ao31, co31, eo31⟩ := Kd.S_slice HO_475002.out
    subst eo31
    go_wp2
    refine bodyPost_ret (results_cell_row rfl _ _ gb473 24 #[.int .i64 a0_0, .int .i64 a0_1, .slice Ao31 x475002_1.length co31] (0, 0) _ rfl (kV K473) Tryz.underlying24 rfl (by kernel_rfl)) rfl ?_
    exact ⟨_, by first | rfl | (simp [Qbe, Qbd] <;> rfl) | (simp [*, Qbe, Qbd] <;> rfl), by (with_reducible repeat (first | apply Kd.S_alloc | apply Kd.S_drewN | apply Kd.S_drew)); exact Kd.S_mono (Kd.S_far (p := ⟨gb473, 2, none⟩) (Kd.S_far (p := ⟨gb473, 1, none⟩) (Kd.S_far (p := ⟨gb473, 0, none⟩) (Kd.S_types HO_475002.out K473.out (by decide)) (fun _ hk => hk.2) (.int .i64 a0_0)) (fun _ hk => hk.2) (.int .i64 a0_1)) (fun _ hk => hk.2) (.slice Ao31 x475002_1.length co31)) (fun _ hk => trivial), BU HB.out⟩
   rw [if_pos c10] at H
   have c10b0 := decide_eq_true c10
   clear c10
   obtain ⟨y475, hy475⟩ : ∃ y_ : List (S41), y_ = (([] : List (S41))) := ⟨_, rfl⟩
   replace H : (if 0 ≤ x4_1 then (if y475.length + ((Qam l0_2 x4_1).f0).length < 3518437208883 then (if x475002_1.length < 2513169434916 then (Qap.l0 k1 (wrap64 (x4_1 + 1)) a0_0 a0_1 l0_2 a0_0 a0_1 (x475002_1 ++ [(⟨(y475 ++ ((Qam l0_2 x4_1).f0)), (⟨(Qam l0_2 x4_1).f1.f0, (Qam l0_2 x4_1).f1.f1, (Qam l0_2 x4_1).f1.f2, (Qam l0_2 x4_1).f1.f3⟩ : S37)⟩ : S39)])) else (none)) else (none)) else (none)) = some (r1, r2, r3) := by first | (rw [hy475]; exact H) | exact H
   have Ny475 := As0 hy475
   clear hy475
   by_cases c11 : 0 ≤ x4_1
   rotate_left
   ·rw [if_neg c11] at H
    exact absurd H (by simp)
   rw [if_pos c11] at H
   have c11b0 := decide_eq_true c11
   clear c11
   by_cases c12 : y475.length + ((Qam l0_2 x4_1).f0).length < 3518437208883
   rotate_left
   ·rw [if_neg c12] at H
    exact absurd H (by simp)
   rw [if_pos c12] at H
   have LMc12 := As0 c12
   clear c12
   obtain ⟨y479, hy479⟩ : ∃ y_ : List (S41), y_ = (y475 ++ ((Qam l0_2 x4_1).f0)) := ⟨_, rfl⟩
   replace H : (if x475002_1.length < 2513169434916 then (Qap.l0 k1 (wrap64 (x4_1 + 1)) a0_0 a0_1 l0_2 a0_0 a0_1 (x475002_1 ++ [(⟨y479, (⟨(Qam l0_2 x4_1).f1.f0, (Qam l0_2 x4_1).f1.f1, (Qam l0_2 x4_1).f1.f2, (Qam l0_2 x4_1).f1.f3⟩ : S37)⟩ : S39)])) else (none)) = some (r1, r2, r3) := by first | (rw [hy479]; exact H) | exact H
   have Ny479 := As0 hy479
   clear hy479
   by_cases c13 : x475002_1.length < 2513169434916
   rotate_left
   ·rw [if_neg c13] at H
    exact absurd H (by simp)
   rw [if_pos c13] at H
   have LMc13 := As0 c13
   clear c13
   obtain ⟨y483, hy483⟩ : ∃ y_ : List (S39), y_ = (x475002_1 ++ [(⟨y479, (⟨(Qam l0_2 x4_1).f1.f0, (Qam l0_2 x4_1).f1.f1, (Qam l0_2 x4_1).f1.f2, (Qam l0_2 x4_1).f1.f3⟩ : S37)⟩ : S39)]) := ⟨_, rfl⟩
   replace H : (Qap.l0 k1 (wrap64 (x4_1 + 1)) a0_0 a0_1 l0_2 a0_0 a0_1 y483) = some (r1, r2, r3) := by first | (rw [hy483]; exact H) | exact H
   have Ny483 := As0 hy483
   clear hy483
   have H' := As0 H
   clear H
   have hnb14 := N472_473.out
   have hnc14 := N473_472.out
   have hnb15 := N472_474.out
   have hnc15 := N474_472.out
   have q16_ := cN3 K472.out
   try go_wp2
   replace HO_475002 := As0 (Kd.S_drew HO_475002.out)
   replace K472 := As0 (Qbr K472.out)
   replace K473 := As0 (Qbr K473.out)
   replace K474 := As0 (Qbr K474.out)
   replace HB := As0 (bd1 HB.out)
   have p478 : 0 ≤ (x4_1 : Int) := qR
   have q478 : x4_1 < (l0_2.length : Int) := qR
   obtain ⟨ad478, A478_0, c478_0, e478, hx478_0, hx478_1, hx478_2, hx478_3, hx478_4, hl478_0, hi478_0⟩ := at_T39 R0_2.out x4_1 p478 q478
   have hw478_4 := hx478_4
   have hw478_3 := hx478_3
   have hw478_2 := hx478_2
   have hw478_1 := hx478_1
   have hw478_0 := hx478_0
   cases e478
   replace hx478_0 := cl HB hx478_0
   replace hx478_1 := cl HB hx478_1
   replace hx478_2 := cl HB hx478_2
   replace hx478_3 := cl HB hx478_3
   replace hx478_4 := cl HB hx478_4
   have R478_0 := As0 hi478_0
   have C478_0 := As0 hl478_0
   clear hi478_0 hl478_0
   replace p478 := eq_true p478
   replace q478 := eq_true q478
   have p482 : 0 ≤ (x4_1 : Int) := qR
   have q482 : x4_1 < (l0_2.length : Int) := qR
   obtain ⟨ad482, A482_0, c482_0, e482, hx482_0, hx482_1, hx482_2, hx482_3, hx482_4, hl482_0, hi482_0⟩ := at_T39 R0_2.out x4_1 p482 q482
   have hw482_4 := hx482_4
   have hw482_3 := hx482_3
   have hw482_2 := hx482_2
   have hw482_1 := hx482_1
   have hw482_0 := hx482_0
   obtain rfl : ad478 = ad482 := (by injection e482)
   replace hx482_0 := cl HB hx482_0
   replace hx482_1 := cl HB hx482_1
   replace hx482_2 := cl HB hx482_2
   replace hx482_3 := cl HB hx482_3
   replace hx482_4 := cl HB hx482_4
   have R482_0 := As0 hi482_0
   have C482_0 := As0 hl482_0
   clear hi482_0 hl482_0
   replace p482 := eq_true p482
   replace q482 := eq_true q482
   have ea_ := Option.some.inj (hx478_0.symm.trans hx482_0)
   injection ea_ with ea_ en_ ec_
   subst ea_
   subst ec_
   clear en_
   refine Qcb (n := 21) (S := fun w' => w'.cell? ⟨gb474, 0, none⟩ = some (.int .i64 a0_0) ∧ w'.cell? ⟨gb474, 1, none⟩ = some (.int .i64 a0_1) ∧ w'.cell? ⟨gb474, 2, none⟩ = some (u475002) ∧ w'.cell? ⟨gb472, 0, none⟩ = some (.int .i64 a0_0) ∧ w'.cell? ⟨gb472, 1, none⟩ = some (.int .i64 a0_1) ∧ w'.cell? ⟨gb472, 2, none⟩ = some (.slice (some ad478) l0_2.length c0_2) ∧ w'.cell? (ad478.add ((x4_1).toNat * 5)) = some (.slice A478_0 ((Qam l0_2 x4_1).f0).length c478_0) ∧ w'.cell? ⟨(ad478.add ((x4_1).toNat * 5)).block, (ad478.add ((x4_1).toNat * 5)).off + 1, none⟩ = some (.int .i64 ((Qam l0_2 x4_1).f1.f0)) ∧ w'.cell? ⟨(ad478.add ((x4_1).toNat * 5)).block, (ad478.add ((x4_1).toNat * 5)).off + 2, none⟩ = some (.int .i64 ((Qam l0_2 x4_1).f1.f1)) ∧ w'.cell? ⟨(ad478.add ((x4_1).toNat * 5)).block, (ad478.add ((x4_1).toNat * 5)).off + 3, none⟩ = some (.int .i64 ((Qam l0_2 x4_1).f1.f2)) ∧ w'.cell? ⟨(ad478.add ((x4_1).toNat * 5)).block, (ad478.add ((x4_1).toNat * 5)).off + 4, none⟩ = some (.int .i64 ((Qam l0_2 x4_1).f1.f3)) ∧ w'.cell? (ad478.add ((x4_1).toNat * 5)) = some (.slice A478_0 ((Qam l0_2 x4_1).f0).length c478_0) ∧ w'.cell? ⟨(ad478.add ((x4_1).toNat * 5)).block, (ad478.add ((x4_1).toNat * 5)).off + 1, none⟩ = some (.int .i64 ((Qam l0_2 x4_1).f1.f0)) ∧ w'.cell? ⟨(ad478.add ((x4_1).toNat * 5)).block, (ad478.add ((x4_1).toNat * 5)).off + 2, none⟩ = some (.int .i64 ((Qam l0_2 x4_1).f1.f1)) ∧ w'.cell? ⟨(ad478.add ((x4_1).toNat * 5)).block, (ad478.add ((x4_1).toNat * 5)).off + 3, none⟩ = some (.int .i64 ((Qam l0_2 x4_1).f1.f2)) ∧ w'.cell? ⟨(ad478.add ((x4_1).toNat * 5)).block, (ad478.add ((x4_1).toNat * 5)).off + 4, none⟩ = some (.int .i64 ((Qam l0_2 x4_1).f1.f3))) (ds := [20]) (bb 21 0) (by kernel_rfl) rfl rfl ⟨bc K474 0, bc K474 1, bc K474 2, bc K472 0, bc K472 1, bc K472 2, (cl HB hw478_0), (cl HB hw478_1), (cl HB hw478_2), (cl HB hw478_3), (cl HB hw478_4), (cl HB hw482_0), (cl HB hw482_1), (cl HB hw482_2), (cl HB hw482_3), (cl HB hw482_4)⟩ (fun hHeld => ?_); refine Qca Qap.tab5 Qap.bits5 (fun HT_ HW_ => ?_)
   generalize wr.drew = w17 at HO_475002 K472 K473 K474 HB R478_0 R482_0 hx478_0 hx478_1 hx478_2 hx478_3 hx478_4 hx482_0 hx482_1 hx482_2 hx482_3 hx482_4 hHeld ⊢
   refine pv HT_.out 0 17 (bb 21 1) ?_
   refine pv HT_.out 3 20 (bb 21 9) ?_
   refine pv HT_.out 5 22 (bb 21 41) ?_
   refine pv HT_.out 10 27 (bb 21 1065) ?_
   refine pv HT_.out 12 29 (bb 21 5161) ?_
   refine tv hHeld HT_.out HW_.out 1 18 (bb 21 5163) ?_
   refine tv hHeld HT_.out HW_.out 4 21 (bb 21 5179) ?_
   refine pv HT_.out 6 23 (bb 21 5243) ?_
   refine pv HT_.out 7 24 (bb 21 5371) ?_
   refine tv hHeld HT_.out HW_.out 8 25 (bb 21 5627) ?_
   refine tv hHeld HT_.out HW_.out 11 28 (bb 21 7675) ?_
   refine pv HT_.out 13 30 (bb 21 15867) ?_
   refine pv HT_.out 14 31 (bb 21 32251) ?_
   refine tv hHeld HT_.out HW_.out 15 32 (bb 21 65019) ?_
   refine one_ (i := 2) (N := some 19) (bb 21 65023) rfl rfl (Qcd HT_.out (by kernel_rfl)) (by decide) (fun K hK => ?_)
   refine Kd.R_lit_step k41 _ 41 ?hg (N := 19) ?hd (xs := ([] : List (S41))) (inner := []) (ok := fun _ => True) (okp := fun _ => True) ?hr ?hp (fun _ hk => hk) trivial (Below.refl _ _) (Nat.le_refl _) (by simp) ?_; (case hd => rfl); (case hg => rfl); (case hr => first | (go_simp; done) | (go_simp; rfl)); (case hp => exact (Reps.none _ _))
   intro v476 w18 ho19 hb hg_ hnew_
   clear hg_ hnew_
   (first | rw [← Ny475.out] at ho19 | (simp only [Int.reduceToNat] at ho19; rw [← Ny475.out] at ho19))
   replace HO_475002 := As0 (Kd.S_elder' (SU HO_475002.out) (Kd.R_base ho19) hb)
   have O477 := As0 (Kd.R_lower ho19 (Qbm (BU HB.out)))
   replace K472 := kB K472 hb
   replace K473 := kB K473 hb
   replace K474 := kB K474 hb
   replace HB := sB HB hb
   clear hb ho19
   refine hK.out _ _ ⟨bc K474 0, bc K474 1, bc K474 2, bc K472 0, bc K472 1, bc K472 2, (cl HB hw478_0), (cl HB hw478_1), (cl HB hw478_2), (cl HB hw478_3), (cl HB hw478_4), (cl HB hw482_0), (cl HB hw482_1), (cl HB hw482_2), (cl HB hw482_3), (cl HB hw482_4)⟩ (fun hHeld => ?_)
   clear hK K
   refine Qb1 (a' := ?_) ?_ ?_
   rotate_left
   ·show Act.put _ (some 19) _ = _
    simp only [Act.put, sL1, sL2, sL3, Qbu, Qbv]
    rfl
   refine one_ (i := 9) (N := some 26) (bb 21 65535) rfl rfl (Qcd HT_.out (by kernel_rfl)) (by decide) (fun K hK => ?_)
   refine Kd.R_append_rows_step k41 (w0 := w) w.heap.size (by rfl) (.tmp 19) (.tmp 25) 35 41 (.agg #[(.int .i64 0), (.int .i64 0), (.int .i64 0), (.int .i64 0), (.int .i64 0)]) 40 rfl Tryz.underlying35 info41 rfl (by decide) (by omega) v476 y475 ((Qam l0_2 x4_1).f0) _ _ _ (fun _ => True) (fun _ => False) rfl rfl ?aO ?aR (fun _ _ h => h) (fun _ h => h.elim) ?aF ?aB ?aS ?aL ?_
   (case aR => exact CU (Kd.C_below R478_0.out HB.out))
   (case aB => exact (BU HB.out))
   (case aF => exact (fun _ _ => trivial))
   (case aO => exact (RU O477.out))
   (case aS => exact (Qbm (BU HB.out)))
   (case aL => have := LMc12.out; omega)
   intro v480 w20 ho hb hg hat
   rw [← Ny479.out] at ho
   replace HO_475002 := As0 (Kd.S_after (ok := (fun _ => True)) (SU HO_475002.out) hg hat)
   replace K472 := As0 (Qbx (bU K472.out) hg (Kd.R_ne O477.out K472.out (by decide)))
   replace K473 := As0 (Qbx (bU K473.out) hg (Kd.R_ne O477.out K473.out (by decide)))
   replace K474 := As0 (Qbx (bU K474.out) hg (Kd.R_ne O477.out K474.out (by decide)))
   replace HB := As0 (hb)
   have O481 := As0 (ho)
   clear O477 ho hb hg hat
   obtain ⟨Ao21, co21, eo21⟩ := Kd.R_slice O481.out
   (first | subst eo21 | (injection eo21 with f1_ f2_ f3_; have f4_ := f1_.symm; have f5_ := f3_.symm; clear f1_ f2_ f3_; subst f4_; subst f5_))
   refine hK.out _ _ ⟨bc K474 0, bc K474 1, bc K474 2, bc K472 0, bc K472 1, bc K472 2, (cl HB hw478_0), (cl HB hw478_1), (cl HB hw478_2), (cl HB hw478_3), (cl HB hw478_4), (cl HB hw482_0), (cl HB hw482_1), (cl HB hw482_2), (cl HB hw482_3), (cl HB hw482_4)⟩ (fun hHeld => ?_)
   clear hK K
   refine Qb1 (a' := ?_) ?_ ?_
   rotate_left
   ·show Act.put _ (some 26) _ = _
    simp only [Act.put, sL1, sL2, sL3, Qbu, Qbv]
    rfl
   refine pv HT_.out 16 33 (bb 21 131071) ?_
   refine one_ (i := 17) (N := some 34) (bb 21 262143) rfl rfl (Qcd HT_.out (by kernel_rfl)) (by decide) (fun K hK => ?_)
   refine value_ (w1 := ?_) (v := ?_) (by rfl) rfl ?_ ?_
   rotate_left 2
   ·go_simp
    constructor
    ·rfl
    ·rfl
   refine hK.out _ _ ⟨(Qbn (Qbw K474.out _) 0).trans rfl, (Qbn (Qbw K474.out _) 1).trans rfl, (Qbn (Qbw K474.out _) 2).trans rfl, (Qbn (Qbw K472.out _) 0).trans rfl, (Qbn (Qbw K472.out _) 1).trans rfl, (Qbn (Qbw K472.out _) 2).trans rfl, (World.cell?_alloc_lt _ _ _ (World.block_lt_of_cell? _ _ ((cl HB hw478_0)))).trans ((cl HB hw478_0)), (World.cell?_alloc_lt _ _ _ (World.block_lt_of_cell? _ _ ((cl HB hw478_1)))).trans ((cl HB hw478_1)), (World.cell?_alloc_lt _ _ _ (World.block_lt_of_cell? _ _ ((cl HB hw478_2)))).trans ((cl HB hw478_2)), (World.cell?_alloc_lt _ _ _ (World.block_lt_of_cell? _ _ ((cl HB hw478_3)))).trans ((cl HB hw478_3)), (World.cell?_alloc_lt _ _ _ (World.block_lt_of_cell? _ _ ((cl HB hw478_4)))).trans ((cl HB hw478_4)), (World.cell?_alloc_lt _ _ _ (World.block_lt_of_cell? _ _ ((cl HB hw482_0)))).trans ((cl HB hw482_0)), (World.cell?_alloc_lt _ _ _ (World.block_lt_of_cell? _ _ ((cl HB hw482_1)))).trans ((cl HB hw482_1)), (World.cell?_alloc_lt _ _ _ (World.block_lt_of_cell? _ _ ((cl HB hw482_2)))).trans ((cl HB hw482_2)), (World.cell?_alloc_lt _ _ _ (World.block_lt_of_cell? _ _ ((cl HB hw482_3)))).trans ((cl HB hw482_3)), (World.cell?_alloc_lt _ _ _ (World.block_lt_of_cell? _ _ ((cl HB hw482_4)))).trans ((cl HB hw482_4))⟩ (fun hHeld => ?_)
   clear hK K
   refine Qb1 (a' := ?_) ?_ ?_
   rotate_left
   ·show Act.put _ (some 34) _ = _
    simp only [Act.put, sL1, sL2, sL3, Qbu, Qbv]
    rfl
   refine one_ (i := 18) (N := some 35) (bb 21 524287) rfl rfl (Qcd HT_.out (by kernel_rfl)) (by decide) (fun K hK => ?_)
   refine Kd.S_append_step k39 (w0 := w) w.heap.size (by rfl) (.tmp 18) (.tmp 34) 22 39 (.agg #[(.slice none 0 0), (.int .i64 0), (.int .i64 0), (.int .i64 0), (.int .i64 0)]) 56 rfl Tryz.underlying22 info39 rfl (by decide) (by omega) u475002 x475002_1 (⟨y479, (⟨(Qam l0_2 x4_1).f1.f0, (Qam l0_2 x4_1).f1.f1, (Qam l0_2 x4_1).f1.f2, (Qam l0_2 x4_1).f1.f3⟩ : S37)⟩ : S39) [.slice Ao21 y479.length co21, .int .i64 ((Qam l0_2 x4_1).f1.f0), .int .i64 ((Qam l0_2 x4_1).f1.f1), .int .i64 ((Qam l0_2 x4_1).f1.f2), .int .i64 ((Qam l0_2 x4_1).f1.f3)] (fun _ => True) (fun k_ => some k_ = (.slice Ao21 y479.length co21 : Value).ownBlock) rfl rfl ?aP (fun k_ hk_ => ((Kd.R_mono (ok' := fun k_ => ((fun _ => True)) k_ ∧ some k_ ≠ (u475002 : Value).ownBlock) (Kd.R_apart' (O481.out) (Kd.S_typed HO_475002.out) (by decide)) (fun k_ hk => ⟨trivial, hk.2⟩))).1 k_ hk_.symm) ?aF ?aO ?aB ?aS ?aL ?_
   (case aP => exact k39_mkM _ _ _ (⟨y479, (⟨(Qam l0_2 x4_1).f1.f0, (Qam l0_2 x4_1).f1.f1, (Qam l0_2 x4_1).f1.f2, (Qam l0_2 x4_1).f1.f3⟩ : S37)⟩ : S39) (Kd.R_mono (Kd.R_tight rfl (Kd.R_mono (ok' := fun k_ => ((fun _ => True)) k_ ∧ some k_ ≠ (u475002 : Value).ownBlock) (Kd.R_apart' (O481.out) (Kd.S_typed HO_475002.out) (by decide)) (fun k_ hk => ⟨trivial, hk.2⟩))) (fun _ h_ => h_)))
   (case aB => exact (BU HB.out))
   (case aF => exact (fun _ _ => trivial))
   (case aO => exact (SU (Kd.S_mono HO_475002.out (fun k_ hk => ⟨trivial, fun e_ => hk.2 e_⟩))))
   (case aS => exact (Qbm (BU HB.out)))
   (case aL => have := LMc13.out; omega)
   intro v484 w22 ho hb hg hat
   rw [← Ny483.out] at ho
   replace K472 := As0 (Qbx (bU K472.out) hg (Kd.S_ne HO_475002.out K472.out (by decide)))
   replace K473 := As0 (Qbx (bU K473.out) hg (Kd.S_ne HO_475002.out K473.out (by decide)))
   replace K474 := As0 (Qbx (bU K474.out) hg (Kd.S_ne HO_475002.out K474.out (by decide)))
   replace HB := As0 (hb)
   have O485 := As0 (ho)
   clear HO_475002 O481 ho hb hg hat
   obtain ⟨Ao23, co23, eo23⟩ := Kd.S_slice O485.out
   (first | subst eo23 | (injection eo23 with f1_ f2_ f3_; have f4_ := f1_.symm; have f5_ := f3_.symm; clear f1_ f2_ f3_; subst f4_; subst f5_))
   refine hK.out _ _ ⟨bc K474 0, bc K474 1, bc K474 2, bc K472 0, bc K472 1, bc K472 2, (cl HB hw478_0), (cl HB hw478_1), (cl HB hw478_2), (cl HB hw478_3), (cl HB hw478_4), (cl HB hw482_0), (cl HB hw482_1), (cl HB hw482_2), (cl HB hw482_3), (cl HB hw482_4)⟩ (fun hHeld => ?_)
   clear hK K
   refine Qb1 (a' := ?_) ?_ ?_
   rotate_left
   ·show Act.put _ (some 35) _ = _
    simp only [Act.put, sL1, sL2, sL3, Qbu, Qbv]
    rfl
   refine pv HT_.out 19 36 (bb 21 1048575) ?_
   refine Qdu (i := 20) (N := none) (bb 21 2097151) rfl rfl (Qcd HT_.out (by kernel_rfl)) (by decide) (fun K hK => ?_)
   have hs24 : w22.cell? ⟨gb474, 2, none⟩ = some (u475002) := bc K474 2
   have hfs24 := Qbp K474.out 2
   have hns24_0 := N472_474.out
   have hns24_1 := N473_474.out
   have hms24_0 := N474_472.out
   have hms24_1 := N474_473.out
   refine skip_ (w1 := ?_) (by rfl) rfl ?_ ?_
   rotate_left
   ·go_simp
    rfl
   refine hK.out _ _ ?_
   clear hK K
   refine Qcy (Qco HT_.out (by kernel_rfl)) ?_
   try go_wp2
   go_roundg k1
   case measure => have := HK1.out; omega
   case rel => exact ⟨(wrap64 (x4_1 + 1)), (y483), (.slice Ao23 y483.length co23), eR, H', ⟨by have := HK1.out; omega⟩, ⟨SU (Kd.S_mono (Kd.S_far (p := ⟨gb474, 2, none⟩) (Kd.S_types O485.out K474.out (by decide)) (fun _ hk => hk.2) (.slice Ao23 y483.length co23)) (fun _ hk => trivial))⟩, ⟨kV K472⟩, ⟨kV K473⟩, ⟨kV K474⟩, ⟨BU HB.out⟩⟩
def Qan.l0 : Nat → Int → Int → Int → Int → List (S57) → Int → Int → Int → List (S57) → Option (Int × Int × Int × (List (S57)))
 | 0, _, _, _, _, _, _, _, _, _ => none
 | k + 1, x4, x487000, x487001, x487002, x487003, x489000, x489001, x489002, x489003 => if x4 < (x487003.length : Int) then ((some (([] : List (S59)) : List (S59))).bind fun y489 => (if 0 ≤ x4 then (if y489.length + ((Qad x487003 x4).f0).length < 2513169434916 then (if x489003.length < 2513169434916 then (Qan.l0 k (wrap64 (x4 + 1)) x487000 x487001 x487002 x487003 x489000 x489001 x489002 (x489003 ++ [(⟨(y489 ++ ((Qad x487003 x4).f0)), (⟨(Qad x487003 x4).f1.f0, (Qad x487003 x4).f1.f1, (Qad x487003 x4).f1.f2, (Qad x487003 x4).f1.f3⟩ : S37)⟩ : S57)])) else (none)) else (none)) else (none))) else (some (x489000, x489001, x489002, x489003))
def Qan.f (k : Nat) (a0_0 a0_1 a0_2 : Int) (l0_3 : List (S57)) : Option (Int × Int × Int × (List (S57))) := Qan.l0 k 0 a0_0 a0_1 a0_2 l0_3 a0_0 a0_1 a0_2 ([] : List (S57))
def Qan.T5 : Bool × List (List Nat × List Nat) := (true, [([], []), ([0], [0]), ([], []), ([], []), ([3], [3]), ([], []), ([4, 5], [4, 5]), ([6], [6]), ([7], [7]), ([2, 8], [2, 8]), ([], []), ([10], [10]), ([], []), ([11, 12], [11, 12]), ([13], [13]), ([14], [14]), ([9, 15], [9, 15]), ([16], [16]), ([1, 17, 9], [1, 17]), ([0, 1, 2, 3, 4, 5, 6, 7, 8, 9, 10, 11, 12, 13, 14, 15, 16, 17, 18], []), ([19, 18, 18, 0, 1, 2, 3, 4, 5, 6, 7, 8, 9, 10, 11, 12, 13, 14, 15, 16, 17, 18], [18, 19])])
def Qan.B5 : List Nat := [0, 1, 0, 0, 8, 0, 56, 120, 248, 508, 0, 1024, 0, 7168, 15360, 31744, 65532, 131068, 262143, 524287, 1048575]
theorem Qan.tab5 : rtab .any (opsOf Tryz.f29 5) = Qan.T5 := by kernel_rfl
theorem Qan.bits5 : Qcr Qan.T5.2 Qan.B5 = true := by kernel_rfl
theorem Qan.calls (k : Nat) (a0_0 a0_1 a0_2 : Int) (A0_3 : Option Addr) (c0_3 : Nat) (l0_3 : List (S57)) (r1 r2 r3 : Int) (r4 : List (S57)) (w : World) (hr0_3 : Kd.C k57 w A0_3 l0_3.length l0_3) (hc0_3 : l0_3.length ≤ c0_3) (h : Qan.f k a0_0 a0_1 a0_2 l0_3 = some (r1, r2, r3, r4)) :
 Calls Tryz.prog 29 #[.agg #[.int .i64 a0_0, .int .i64 a0_1, .int .i64 a0_2, .slice A0_3 l0_3.length c0_3]] w fun e w' => ∃ v3_ : Value, e = .returned (.agg #[.int .i64 r1, .int .i64 r2, .int .i64 r3, v3_]) ∧ Kd.S k57 57 w' w.heap.size (fun _ => True) v3_ r4 ∧ Below w.heap.size w w' := by
 have hu27 := Tryz.underlying27
 have hu37 := Tryz.underlying37
 have hu57 := Tryz.underlying57
 have R0_3 := As0 hr0_3
 have C0_3 := As0 hc0_3
 clear hr0_3 hc0_3
 have HB := As0 (Below.refl w.heap.size w)
 have H : (Qan.l0 k 0 a0_0 a0_1 a0_2 l0_3 a0_0 a0_1 a0_2 ([] : List (S57))) = some (r1, r2, r3, r4) := h
 clear h
 have H' := As0 H
 clear H
 go_enter Tryz.func29, Tryz.ntmps29
 go_wp2_with (first | ((with_reducible refine gD 1 ?_); refine bY HB.out ?_; intro gb486 w2 hg hb K486 GW486 HB; clear hb hg) | ((with_reducible refine gD 2 ?_); refine bY HB.out ?_; intro gb487 w3 hg hb K487 GW487 HB; have N486_487 := nL hg K486; have N487_486 := nR hg K486; replace K486 := kB K486 hb; clear hb hg; have hnb4 := N486_487.out; have hnc4 := N487_486.out; have q5_ := cN4 K486.out) | ((with_reducible refine gD 3 ?_); refine bY HB.out ?_; intro gb488 w6 hg hb K488 GW488 HB; have N486_488 := nL hg K486; have N488_486 := nR hg K486; replace K486 := kB K486 hb; have N487_488 := nL hg K487; have N488_487 := nR hg K487; replace K487 := kB K487 hb; clear hb hg; have hnb7 := N488_486.out; have hnc7 := N486_488.out; have hnb8 := N488_487.out; have hnc8 := N487_488.out; have q9_ := cN4 K488.out))
 go_loopg [4] k (fun kq v4 w' => ∃ (x4_1 : Int) (x489003_1 : List (S57)) (u489003 : Value), v4 = .int .i64 x4_1 ∧ Qbk (Qan.l0 kq x4_1 a0_0 a0_1 a0_2 l0_3 a0_0 a0_1 a0_2 x489003_1 = some (r1, r2, r3, r4)) ∧ Qbk (kq ≤ k) ∧ Qbk (Kd.S k57 57 w' w.heap.size (fun _ => True) u489003 x489003_1) ∧ Qbk (w'.heap[gb486]? = some (.cells #[.int .i64 a0_0, .int .i64 a0_1, .int .i64 a0_2, (.slice A0_3 l0_3.length c0_3)] 27 (0, 0))) ∧ Qbk (w'.heap[gb487]? = some (.cells #[.int .i64 0, .int .i64 0, .int .i64 0, (.slice none 0 0)] 27 (0, 0))) ∧ Qbk (w'.heap[gb488]? = some (.cells #[.int .i64 a0_0, .int .i64 a0_1, .int .i64 a0_2, u489003] 27 (0, 0))) ∧ Qbk (Below w.heap.size w w'))
 case atStart => exact ⟨(0), (([] : List (S57))), (.slice none 0 0), eR, H', ⟨Nat.le_refl _⟩, ⟨by first | exact Kd.S_nil _ _ _ _ _ | exact Kd.N_nil _ _ _ _ _ | exact Kd.V_nil _ _ _ _ _ | exact Kd.Q_nil _ _ _ _ _ | exact Kd.R_nil _ _ _ _ _⟩, ⟨kV K486⟩, ⟨kV K487⟩, ⟨kV K488⟩, ⟨BU HB.out⟩⟩
 case round =>
  clear H'
  obtain ⟨x4_1, x489003_1, u489003, rfl, HA, HK1, HO_489003, K486, K487, K488, HB⟩ := hrel
  cases gk with
  | zero => exact absurd HA.out (by simp [Qan.l0])
  | succ k1 =>
   have H := HA.out
   clear HA
   simp only [Qan.l0] at H
   by_cases c10 : x4_1 < (l0_3.length : Int)
   rotate_left
   ·rw [if_neg c10] at H
    have c10b0 := decide_eq_false c10
    clear c10
    simp only [Option.some.injEq, Prod.mk.injEq] at H
    obtain ⟨rfl, rfl, rfl, rfl⟩ := H
    have hnb25 := N486_487.out
    have hnc25 := N487_486.out
    have hnb26 := N486_488.out
    have hnc26 := N488_486.out
    have q27_ := cN4 K486.out
    have hnb28 := N488_487.out
    have hnc28 := N487_488.out
    have q29_ := cN4 K488.out
    have q30_ := cN4 K487.out
    obtain ⟨Ao31, co31, eo31⟩ := Kd.S_slice HO_489003.out
    subst eo31
    go_wp2
    refine bodyPost_ret (results_cell_row rfl _ _ gb487 27 #[.int .i64 a0_0, .int .i64 a0_1, .int .i64 a0_2, .slice Ao31 x489003_1.length co31] (0, 0) _ rfl (kV K487) Tryz.underlying27 rfl (by kernel_rfl)) rfl ?_
    exact ⟨_, by first | rfl | (simp [Qbe, Qbd] <;> rfl) | (simp [*, Qbe, Qbd] <;> rfl), by (with_reducible repeat (first | apply Kd.S_alloc | apply Kd.S_drewN | apply Kd.S_drew)); exact Kd.S_mono (Kd.S_far (p := ⟨gb487, 3, none⟩) (Kd.S_far (p := ⟨gb487, 2, none⟩) (Kd.S_far (p := ⟨gb487, 1, none⟩) (Kd.S_far (p := ⟨gb487, 0, none⟩) (Kd.S_types HO_489003.out K487.out (by decide)) (fun _ hk => hk.2) (.int .i64 a0_0)) (fun _ hk => hk.2) (.int .i64 a0_1)) (fun _ hk => hk.2) (.int .i64 a0_2)) (fun _ hk => hk.2) (.slice Ao31 x489003_1.length co31)) (fun _ hk => trivial), BU HB.out⟩
   rw [if_pos c10] at H
   have c10b0 := decide_eq_true c10
   clear c10
   obtain ⟨y489, hy489⟩ : ∃ y_ : List (S59), y_ = (([] : List (S59))) := ⟨_, rfl⟩
   replace H : (if 0 ≤ x4_1 then (if y489.length + ((Qad l0_3 x4_1).f0).length < 2513169434916 then (if x489003_1.length < 2513169434916 then (Qan.l0 k1 (wrap64 (x4_1 + 1)) a0_0 a0_1 a0_2 l0_3 a0_0 a0_1 a0_2 (x489003_1 ++ [(⟨(y489 ++ ((Qad l0_3 x4_1).f0)), (⟨(Qad l0_3 x4_1).f1.f0, (Qad l0_3 x4_1).f1.f1, (Qad l0_3 x4_1).f1.f2, (Qad l0_3 x4_1).f1.f3⟩ : S37)⟩ : S57)])) else (none)) else (none)) else (none)) = some (r1, r2, r3, r4) := by first | (rw [hy489]; exact H) | exact H
   have Ny489 := As0 hy489
   clear hy489
   by_cases c11 : 0 ≤ x4_1
   rotate_left
   ·rw [if_neg c11] at H
    exact absurd H (by simp)
   rw [if_pos c11] at H
   have c11b0 := decide_eq_true c11
   clear c11
   by_cases c12 : y489.length + ((Qad l0_3 x4_1).f0).length < 2513169434916
   rotate_left
   ·rw [if_neg c12] at H
    exact absurd H (by simp)
   rw [if_pos c12] at H
   have LMc12 := As0 c12
   clear c12
   obtain ⟨y493, hy493⟩ : ∃ y_ : List (S59), y_ = (y489 ++ ((Qad l0_3 x4_1).f0)) := ⟨_, rfl⟩
   replace H : (if x489003_1.length < 2513169434916 then (Qan.l0 k1 (wrap64 (x4_1 + 1)) a0_0 a0_1 a0_2 l0_3 a0_0 a0_1 a0_2 (x489003_1 ++ [(⟨y493, (⟨(Qad l0_3 x4_1).f1.f0, (Qad l0_3 x4_1).f1.f1, (Qad l0_3 x4_1).f1.f2, (Qad l0_3 x4_1).f1.f3⟩ : S37)⟩ : S57)])) else (none)) = some (r1, r2, r3, r4) := by first | (rw [hy493]; exact H) | exact H
   have Ny493 := As0 hy493
   clear hy493
   by_cases c13 : x489003_1.length < 2513169434916
   rotate_left
   ·rw [if_neg c13] at H
    exact absurd H (by simp)
   rw [if_pos c13] at H
   have LMc13 := As0 c13
   clear c13
   obtain ⟨y497, hy497⟩ : ∃ y_ : List (S57), y_ = (x489003_1 ++ [(⟨y493, (⟨(Qad l0_3 x4_1).f1.f0, (Qad l0_3 x4_1).f1.f1, (Qad l0_3 x4_1).f1.f2, (Qad l0_3 x4_1).f1.f3⟩ : S37)⟩ : S57)]) := ⟨_, rfl⟩
   replace H : (Qan.l0 k1 (wrap64 (x4_1 + 1)) a0_0 a0_1 a0_2 l0_3 a0_0 a0_1 a0_2 y497) = some (r1, r2, r3, r4) := by first | (rw [hy497]; exact H) | exact H
   have Ny497 := As0 hy497
   clear hy497
   have H' := As0 H
   clear H
   have hnb14 := N486_487.out
   have hnc14 := N487_486.out
   have hnb15 := N486_488.out
   have hnc15 := N488_486.out
   have q16_ := cN4 K486.out
   try go_wp2
   replace HO_489003 := As0 (Kd.S_drew HO_489003.out)
   replace K486 := As0 (Qbr K486.out)
   replace K487 := As0 (Qbr K487.out)
   replace K488 := As0 (Qbr K488.out)
   replace HB := As0 (bd1 HB.out)
   have p492 : 0 ≤ (x4_1 : Int) := qR
   have q492 : x4_1 < (l0_3.length : Int) := qR
   obtain ⟨ad492, A492_0, c492_0, e492, hx492_0, hx492_1, hx492_2, hx492_3, hx492_4, hl492_0, hi492_0⟩ := Qej R0_3.out x4_1 p492 q492
   have hw492_4 := hx492_4
   have hw492_3 := hx492_3
   have hw492_2 := hx492_2
   have hw492_1 := hx492_1
   have hw492_0 := hx492_0
   cases e492
   replace hx492_0 := cl HB hx492_0
   replace hx492_1 := cl HB hx492_1
   replace hx492_2 := cl HB hx492_2
   replace hx492_3 := cl HB hx492_3
   replace hx492_4 := cl HB hx492_4
   have R492_0 := As0 hi492_0
   have C492_0 := As0 hl492_0
   clear hi492_0 hl492_0
   replace p492 := eq_true p492
   replace q492 := eq_true q492
   have p496 : 0 ≤ (x4_1 : Int) := qR
   have q496 : x4_1 < (l0_3.length : Int) := qR
   obtain ⟨ad496, A496_0, c496_0, e496, hx496_0, hx496_1, hx496_2, hx496_3, hx496_4, hl496_0, hi496_0⟩ := Qej R0_3.out x4_1 p496 q496
   have hw496_4 := hx496_4
   have hw496_3 := hx496_3
   have hw496_2 := hx496_2
   have hw496_1 := hx496_1
   have hw496_0 := hx496_0
   obtain rfl : ad492 = ad496 := (by injection e496)
   replace hx496_0 := cl HB hx496_0
   replace hx496_1 := cl HB hx496_1
   replace hx496_2 := cl HB hx496_2
   replace hx496_3 := cl HB hx496_3
   replace hx496_4 := cl HB hx496_4
   have R496_0 := As0 hi496_0
   have C496_0 := As0 hl496_0
   clear hi496_0 hl496_0
   replace p496 := eq_true p496
   replace q496 := eq_true q496
   have ea_ := Option.some.inj (hx492_0.symm.trans hx496_0)
   injection ea_ with ea_ en_ ec_
   subst ea_
   subst ec_
   clear en_
   refine Qcb (n := 21) (S := fun w' => w'.cell? ⟨gb488, 0, none⟩ = some (.int .i64 a0_0) ∧ w'.cell? ⟨gb488, 1, none⟩ = some (.int .i64 a0_1) ∧ w'.cell? ⟨gb488, 2, none⟩ = some (.int .i64 a0_2) ∧ w'.cell? ⟨gb488, 3, none⟩ = some (u489003) ∧ w'.cell? ⟨gb486, 0, none⟩ = some (.int .i64 a0_0) ∧ w'.cell? ⟨gb486, 1, none⟩ = some (.int .i64 a0_1) ∧ w'.cell? ⟨gb486, 2, none⟩ = some (.int .i64 a0_2) ∧ w'.cell? ⟨gb486, 3, none⟩ = some (.slice (some ad492) l0_3.length c0_3) ∧ w'.cell? (ad492.add ((x4_1).toNat * 5)) = some (.slice A492_0 ((Qad l0_3 x4_1).f0).length c492_0) ∧ w'.cell? ⟨(ad492.add ((x4_1).toNat * 5)).block, (ad492.add ((x4_1).toNat * 5)).off + 1, none⟩ = some (.int .i64 ((Qad l0_3 x4_1).f1.f0)) ∧ w'.cell? ⟨(ad492.add ((x4_1).toNat * 5)).block, (ad492.add ((x4_1).toNat * 5)).off + 2, none⟩ = some (.int .i64 ((Qad l0_3 x4_1).f1.f1)) ∧ w'.cell? ⟨(ad492.add ((x4_1).toNat * 5)).block, (ad492.add ((x4_1).toNat * 5)).off + 3, none⟩ = some (.int .i64 ((Qad l0_3 x4_1).f1.f2)) ∧ w'.cell? ⟨(ad492.add ((x4_1).toNat * 5)).block, (ad492.add ((x4_1).toNat * 5)).off + 4, none⟩ = some (.int .i64 ((Qad l0_3 x4_1).f1.f3)) ∧ w'.cell? (ad492.add ((x4_1).toNat * 5)) = some (.slice A492_0 ((Qad l0_3 x4_1).f0).length c492_0) ∧ w'.cell? ⟨(ad492.add ((x4_1).toNat * 5)).block, (ad492.add ((x4_1).toNat * 5)).off + 1, none⟩ = some (.int .i64 ((Qad l0_3 x4_1).f1.f0)) ∧ w'.cell? ⟨(ad492.add ((x4_1).toNat * 5)).block, (ad492.add ((x4_1).toNat * 5)).off + 2, none⟩ = some (.int .i64 ((Qad l0_3 x4_1).f1.f1)) ∧ w'.cell? ⟨(ad492.add ((x4_1).toNat * 5)).block, (ad492.add ((x4_1).toNat * 5)).off + 3, none⟩ = some (.int .i64 ((Qad l0_3 x4_1).f1.f2)) ∧ w'.cell? ⟨(ad492.add ((x4_1).toNat * 5)).block, (ad492.add ((x4_1).toNat * 5)).off + 4, none⟩ = some (.int .i64 ((Qad l0_3 x4_1).f1.f3))) (ds := [20]) (bb 21 0) (by kernel_rfl) rfl rfl ⟨bc K488 0, bc K488 1, bc K488 2, bc K488 3, bc K486 0, bc K486 1, bc K486 2, bc K486 3, (cl HB hw492_0), (cl HB hw492_1), (cl HB hw492_2), (cl HB hw492_3), (cl HB hw492_4), (cl HB hw496_0), (cl HB hw496_1), (cl HB hw496_2), (cl HB hw496_3), (cl HB hw496_4)⟩ (fun hHeld => ?_); refine Qca Qan.tab5 Qan.bits5 (fun HT_ HW_ => ?_)
   generalize wr.drew = w17 at HO_489003 K486 K487 K488 HB R492_0 R496_0 hx492_0 hx492_1 hx492_2 hx492_3 hx492_4 hx496_0 hx496_1 hx496_2 hx496_3 hx496_4 hHeld ⊢
   refine pv HT_.out 0 19 (bb 21 1) ?_
   refine pv HT_.out 3 22 (bb 21 9) ?_
   refine pv HT_.out 5 24 (bb 21 41) ?_
   refine pv HT_.out 10 29 (bb 21 1065) ?_
   refine pv HT_.out 12 31 (bb 21 5161) ?_
   refine tv hHeld HT_.out HW_.out 1 20 (bb 21 5163) ?_
   refine tv hHeld HT_.out HW_.out 4 23 (bb 21 5179) ?_
   refine pv HT_.out 6 25 (bb 21 5243) ?_
   refine pv HT_.out 7 26 (bb 21 5371) ?_
   refine tv hHeld HT_.out HW_.out 8 27 (bb 21 5627) ?_
   refine tv hHeld HT_.out HW_.out 11 30 (bb 21 7675) ?_
   refine pv HT_.out 13 32 (bb 21 15867) ?_
   refine pv HT_.out 14 33 (bb 21 32251) ?_
   refine tv hHeld HT_.out HW_.out 15 34 (bb 21 65019) ?_
   refine one_ (i := 2) (N := some 21) (bb 21 65023) rfl rfl (Qcd HT_.out (by kernel_rfl)) (by decide) (fun K hK => ?_)
   refine Kd.R_lit_step k59 _ 59 ?hg (N := 21) ?hd (xs := ([] : List (S59))) (inner := []) (ok := fun _ => True) (okp := fun _ => True) ?hr ?hp (fun _ hk => hk) trivial (Below.refl _ _) (Nat.le_refl _) (by simp) ?_; (case hd => rfl); (case hg => rfl); (case hr => first | (go_simp; done) | (go_simp; rfl)); (case hp => exact (Reps.none _ _))
   intro v490 w18 ho19 hb hg_ hnew_
   clear hg_ hnew_
   (first | rw [← Ny489.out] at ho19 | (simp only [Int.reduceToNat] at ho19; rw [← Ny489.out] at ho19))
   replace HO_489003 := As0 (Kd.S_elder' (SU HO_489003.out) (Kd.R_base ho19) hb)
   have O491 := As0 (Kd.R_lower ho19 (Qbm (BU HB.out)))
   replace K486 := kB K486 hb
   replace K487 := kB K487 hb
   replace K488 := kB K488 hb
   replace HB := sB HB hb
   clear hb ho19
   refine hK.out _ _ ⟨bc K488 0, bc K488 1, bc K488 2, bc K488 3, bc K486 0, bc K486 1, bc K486 2, bc K486 3, (cl HB hw492_0), (cl HB hw492_1), (cl HB hw492_2), (cl HB hw492_3), (cl HB hw492_4), (cl HB hw496_0), (cl HB hw496_1), (cl HB hw496_2), (cl HB hw496_3), (cl HB hw496_4)⟩ (fun hHeld => ?_)
   clear hK K
   refine Qb1 (a' := ?_) ?_ ?_
   rotate_left
   ·show Act.put _ (some 21) _ = _
    simp only [Act.put, sL1, sL2, sL3, Qbu, Qbv]
    rfl
   refine one_ (i := 9) (N := some 28) (bb 21 65535) rfl rfl (Qcd HT_.out (by kernel_rfl)) (by decide) (fun K hK => ?_)
   refine Kd.R_append_rows_step k59 (w0 := w) w.heap.size (by rfl) (.tmp 21) (.tmp 27) 54 59 (.agg #[(.int .i64 0), (.int .i64 0), (.int .i64 0), (.int .i64 0), (.int .i64 0), (.int .i64 0), (.int .i64 0)]) 56 rfl Tryz.underlying54 info59 rfl (by decide) (by omega) v490 y489 ((Qad l0_3 x4_1).f0) _ _ _ (fun _ => True) (fun _ => False) rfl rfl ?aO ?aR (fun _ _ h => h) (fun _ h => h.elim) ?aF ?aB ?aS ?aL ?_
   (case aR => exact CU (Kd.C_below R492_0.out HB.out))
   (case aB => exact (BU HB.out))
   (case aF => exact (fun _ _ => trivial))
   (case aO => exact (RU O491.out))
   (case aS => exact (Qbm (BU HB.out)))
   (case aL => have := LMc12.out; omega)
   intro v494 w20 ho hb hg hat
   rw [← Ny493.out] at ho
   replace HO_489003 := As0 (Kd.S_after (ok := (fun _ => True)) (SU HO_489003.out) hg hat)
   replace K486 := As0 (Qbx (bU K486.out) hg (Kd.R_ne O491.out K486.out (by decide)))
   replace K487 := As0 (Qbx (bU K487.out) hg (Kd.R_ne O491.out K487.out (by decide)))
   replace K488 := As0 (Qbx (bU K488.out) hg (Kd.R_ne O491.out K488.out (by decide)))
   replace HB := As0 (hb)
   have O495 := As0 (ho)
   clear O491 ho hb hg hat
   obtain ⟨Ao21, co21, eo21⟩ := Kd.R_slice O495.out
   (first | subst eo21 | (injection eo21 with f1_ f2_ f3_; have f4_ := f1_.symm; have f5_ := f3_.symm; clear f1_ f2_ f3_; subst f4_; subst f5_))
   refine hK.out _ _ ⟨bc K488 0, bc K488 1, bc K488 2, bc K488 3, bc K486 0, bc K486 1, bc K486 2, bc K486 3, (cl HB hw492_0), (cl HB hw492_1), (cl HB hw492_2), (cl HB hw492_3), (cl HB hw492_4), (cl HB hw496_0), (cl HB hw496_1), (cl HB hw496_2), (cl HB hw496_3), (cl HB hw496_4)⟩ (fun hHeld => ?_)
   clear hK K
   refine Qb1 (a' := ?_) ?_ ?_
   rotate_left
   ·show Act.put _ (some 28) _ = _
    simp only [Act.put, sL1, sL2, sL3, Qbu, Qbv]
    rfl
   refine pv HT_.out 16 35 (bb 21 131071) ?_
   refine one_ (i := 17) (N := some 36) (bb 21 262143) rfl rfl (Qcd HT_.out (by kernel_rfl)) (by decide) (fun K hK => ?_)
   refine value_ (w1 := ?_) (v := ?_) (by rfl) rfl ?_ ?_
   rotate_left 2
   ·go_simp
    constructor
    ·rfl
    ·rfl
   refine hK.out _ _ ⟨(Qbn (Qbw K488.out _) 0).trans rfl, (Qbn (Qbw K488.out _) 1).trans rfl, (Qbn (Qbw K488.out _) 2).trans rfl, (Qbn (Qbw K488.out _) 3).trans rfl, (Qbn (Qbw K486.out _) 0).trans rfl, (Qbn (Qbw K486.out _) 1).trans rfl, (Qbn (Qbw K486.out _) 2).trans rfl, (Qbn (Qbw K486.out _) 3).trans rfl, (World.cell?_alloc_lt _ _ _ (World.block_lt_of_cell? _ _ ((cl HB hw492_0)))).trans ((cl HB hw492_0)), (World.cell?_alloc_lt _ _ _ (World.block_lt_of_cell? _ _ ((cl HB hw492_1)))).trans ((cl HB hw492_1)), (World.cell?_alloc_lt _ _ _ (World.block_lt_of_cell? _ _ ((cl HB hw492_2)))).trans ((cl HB hw492_2)), (World.cell?_alloc_lt _ _ _ (World.block_lt_of_cell? _ _ ((cl HB hw492_3)))).trans ((cl HB hw492_3)), (World.cell?_alloc_lt _ _ _ (World.block_lt_of_cell? _ _ ((cl HB hw492_4)))).trans ((cl HB hw492_4)), (World.cell?_alloc_lt _ _ _ (World.block_lt_of_cell? _ _ ((cl HB hw496_0)))).trans ((cl HB hw496_0)), (World.cell?_alloc_lt _ _ _ (World.block_lt_of_cell? _ _ ((cl HB hw496_1)))).trans ((cl HB hw496_1)), (World.cell?_alloc_lt _ _ _ (World.block_lt_of_cell? _ _ ((cl HB hw496_2)))).trans ((cl HB hw496_2)), (World.cell?_alloc_lt _ _ _ (World.block_lt_of_cell? _ _ ((cl HB hw496_3)))).trans ((cl HB hw496_3)), (World.cell?_alloc_lt _ _ _ (World.block_lt_of_cell? _ _ ((cl HB hw496_4)))).trans ((cl HB hw496_4))⟩ (fun hHeld => ?_)
   clear hK K
   refine Qb1 (a' := ?_) ?_ ?_
   rotate_left
   ·show Act.put _ (some 36) _ = _
    simp only [Act.put, sL1, sL2, sL3, Qbu, Qbv]
    rfl
   refine one_ (i := 18) (N := some 37) (bb 21 524287) rfl rfl (Qcd HT_.out (by kernel_rfl)) (by decide) (fun K hK => ?_)
   refine Kd.S_append_step k57 (w0 := w) w.heap.size (by rfl) (.tmp 20) (.tmp 36) 25 57 (.agg #[(.slice none 0 0), (.int .i64 0), (.int .i64 0), (.int .i64 0), (.int .i64 0)]) 56 rfl Tryz.underlying25 info57 rfl (by decide) (by omega) u489003 x489003_1 (⟨y493, (⟨(Qad l0_3 x4_1).f1.f0, (Qad l0_3 x4_1).f1.f1, (Qad l0_3 x4_1).f1.f2, (Qad l0_3 x4_1).f1.f3⟩ : S37)⟩ : S57) [.slice Ao21 y493.length co21, .int .i64 ((Qad l0_3 x4_1).f1.f0), .int .i64 ((Qad l0_3 x4_1).f1.f1), .int .i64 ((Qad l0_3 x4_1).f1.f2), .int .i64 ((Qad l0_3 x4_1).f1.f3)] (fun _ => True) (fun k_ => some k_ = (.slice Ao21 y493.length co21 : Value).ownBlock) rfl rfl ?aP (fun k_ hk_ => ((Kd.R_mono (ok' := fun k_ => ((fun _ => True)) k_ ∧ some k_ ≠ (u489003 : Value).ownBlock) (Kd.R_apart' (O495.out) (Kd.S_typed HO_489003.out) (by decide)) (fun k_ hk => ⟨trivial, hk.2⟩))).1 k_ hk_.symm) ?aF ?aO ?aB ?aS ?aL ?_
   (case aP => exact k57_mkM _ _ _ (⟨y493, (⟨(Qad l0_3 x4_1).f1.f0, (Qad l0_3 x4_1).f1.f1, (Qad l0_3 x4_1).f1.f2, (Qad l0_3 x4_1).f1.f3⟩ : S37)⟩ : S57) (Kd.R_mono (Kd.R_tight rfl (Kd.R_mono (ok' := fun k_ => ((fun _ => True)) k_ ∧ some k_ ≠ (u489003 : Value).ownBlock) (Kd.R_apart' (O495.out) (Kd.S_typed HO_489003.out) (by decide)) (fun k_ hk => ⟨trivial, hk.2⟩))) (fun _ h_ => h_)))
   (case aB => exact (BU HB.out))
   (case aF => exact (fun _ _ => trivial))
   (case aO => exact (SU (Kd.S_mono HO_489003.out (fun k_ hk => ⟨trivial, fun e_ => hk.2 e_⟩))))
   (case aS => exact (Qbm (BU HB.out)))
   (case aL => have := LMc13.out; omega)
   intro v498 w22 ho hb hg hat
   rw [← Ny497.out] at ho
   replace K486 := As0 (Qbx (bU K486.out) hg (Kd.S_ne HO_489003.out K486.out (by decide)))
   replace K487 := As0 (Qbx (bU K487.out) hg (Kd.S_ne HO_489003.out K487.out (by decide)))
   replace K488 := As0 (Qbx (bU K488.out) hg (Kd.S_ne HO_489003.out K488.out (by decide)))
   replace HB := As0 (hb)
   have O499 := As0 (ho)
   clear HO_489003 O495 ho hb hg hat
   obtain ⟨Ao23, co23, eo23⟩ := Kd.S_slice O499.out
   (first | subst eo23 | (injection eo23 with f1_ f2_ f3_; have f4_ := f1_.symm; have f5_ := f3_.symm; clear f1_ f2_ f3_; subst f4_; subst f5_))
   refine hK.out _ _ ⟨bc K488 0, bc K488 1, bc K488 2, bc K488 3, bc K486 0, bc K486 1, bc K486 2, bc K486 3, (cl HB hw492_0), (cl HB hw492_1), (cl HB hw492_2), (cl HB hw492_3), (cl HB hw492_4), (cl HB hw496_0), (cl HB hw496_1), (cl HB hw496_2), (cl HB hw496_3), (cl HB hw496_4)⟩ (fun hHeld => ?_)
   clear hK K
   refine Qb1 (a' := ?_) ?_ ?_
   rotate_left
   ·show Act.put _ (some 37) _ = _
    simp only [Act.put, sL1, sL2, sL3, Qbu, Qbv]
    rfl
   refine pv HT_.out 19 38 (bb 21 1048575) ?_
   refine Qdu (i := 20) (N := none) (bb 21 2097151) rfl rfl (Qcd HT_.out (by kernel_rfl)) (by decide) (fun K hK => ?_)
   have hs24 : w22.cell? ⟨gb488, 3, none⟩ = some (u489003) := bc K488 3
   have hfs24 := Qbp K488.out 3
   have hns24_0 := N486_488.out
   have hns24_1 := N487_488.out
   have hms24_0 := N488_486.out
   have hms24_1 := N488_487.out
   refine skip_ (w1 := ?_) (by rfl) rfl ?_ ?_
   rotate_left
   ·go_simp
    rfl
   refine hK.out _ _ ?_
   clear hK K
   refine Qcy (Qco HT_.out (by kernel_rfl)) ?_
   try go_wp2
   go_roundg k1
   case measure => have := HK1.out; omega
   case rel => exact ⟨(wrap64 (x4_1 + 1)), (y497), (.slice Ao23 y497.length co23), eR, H', ⟨by have := HK1.out; omega⟩, ⟨SU (Kd.S_mono (Kd.S_far (p := ⟨gb488, 3, none⟩) (Kd.S_types O499.out K488.out (by decide)) (fun _ hk => hk.2) (.slice Ao23 y497.length co23)) (fun _ hk => trivial))⟩, ⟨kV K486⟩, ⟨kV K487⟩, ⟨kV K488⟩, ⟨BU HB.out⟩⟩
def Qai.l0 : Nat → Int → Int → Int → List (S39) → Int → Int → Int → List (S57) → List (List (S47)) → Int → Int → List (S39) → Int → Int → Int → List (S57) → List (List (S47)) → Option (Int × Int × (List (S39)) × Int × Int × Int × (List (S57)) × (List (List (S47))))
 | 0, _, _, _, _, _, _, _, _, _, _, _, _, _, _, _, _, _ => none
 | k + 1, x4, x501000, x501001, x501002, x501003, x501004, x501005, x501006, x501007, x514000, x514001, x514002, x514003, x514004, x514005, x514006, x514007 => if x4 < (x501007.length : Int) then ((some (([] : List (S47)) : List (S47))).bind fun y514 => (if 0 ≤ x4 then (if y514.length + (Qax x501007 x4).length < 8796093022208 then (if x514007.length < 5864062014805 then (Qai.l0 k (wrap64 (x4 + 1)) x501000 x501001 x501002 x501003 x501004 x501005 x501006 x501007 x514000 x514001 x514002 x514003 x514004 x514005 x514006 (x514007 ++ [(y514 ++ (Qax x501007 x4))])) else (none)) else (none)) else (none))) else (some (x514000, x514001, x514002, x514003, x514004, x514005, x514006, x514007))
def Qai.f (k : Nat) (a0_0 a0_1 : Int) (l0_2 : List (S39)) (a0_3 a0_4 a0_5 : Int) (l0_6 : List (S57)) (l0_7 : List (List (S47))) : Option (Int × Int × (List (S39)) × Int × Int × Int × (List (S57)) × (List (List (S47)))) := (Qap.f k a0_0 a0_1 l0_2).bind fun bt502 => ((Qan.f k a0_3 a0_4 a0_5 l0_6).bind fun bt507 => (Qai.l0 k 0 a0_0 a0_1 l0_2 a0_3 a0_4 a0_5 l0_6 l0_7 bt502.1 bt502.2.1 bt502.2.2 bt507.1 bt507.2.1 bt507.2.2.1 bt507.2.2.2 ([] : List (List (S47)))))
def Qai.T1 : Bool × List (List Nat × List Nat) := (true, [([], []), ([0], [0]), ([1], [1]), ([], []), ([3], [3]), ([4, 2], [4]), ([2, 5], [2, 5]), ([], []), ([7, 6, 5, 0, 1, 2, 3, 4, 5, 6, 7], [6, 7])])
def Qai.B1 : List Nat := [0, 1, 3, 0, 8, 31, 63, 0, 255]
theorem Qai.tab1 : rtab .any (opsOf Tryz.f10 1) = Qai.T1 := by kernel_rfl
theorem Qai.bits1 : Qcr Qai.T1.2 Qai.B1 = true := by kernel_rfl
def Qai.T5 : Bool × List (List Nat × List Nat) := (true, [([], []), ([0], [0]), ([], []), ([], []), ([3], [3]), ([], []), ([4, 5], [4, 5]), ([6], [6]), ([2, 7], [2, 7]), ([8], [8]), ([1, 9, 8], [1, 9]), ([0, 1, 2, 3, 4, 5, 6, 7, 8, 9, 10], []), ([11, 10, 10, 0, 1, 2, 3, 4, 5, 6, 7, 8, 9, 10], [10, 11])])
def Qai.B5 : List Nat := [0, 1, 0, 0, 8, 0, 56, 120, 252, 508, 1023, 2047, 4095]
theorem Qai.tab5 : rtab .any (opsOf Tryz.f10 5) = Qai.T5 := by kernel_rfl
theorem Qai.bits5 : Qcr Qai.T5.2 Qai.B5 = true := by kernel_rfl
theorem Qai.calls (k : Nat) (a0_0 a0_1 : Int) (A0_2 : Option Addr) (c0_2 : Nat) (l0_2 : List (S39)) (a0_3 a0_4 a0_5 : Int) (A0_6 : Option Addr) (c0_6 : Nat) (l0_6 : List (S57)) (A0_7 : Option Addr) (c0_7 : Nat) (l0_7 : List (List (S47))) (r1 r2 : Int) (r3 : List (S39)) (r4 r5 r6 : Int) (r7 : List (S57)) (r8 : List (List (S47))) (w : World) (hr0_2 : Kd.C k39 w A0_2 l0_2.length l0_2) (hc0_2 : l0_2.length ≤ c0_2) (hr0_6 : Kd.C k57 w A0_6 l0_6.length l0_6) (hc0_6 : l0_6.length ≤ c0_6) (hr0_7 : Kd.C (Kd.slice 47 k47) w A0_7 l0_7.length l0_7) (hc0_7 : l0_7.length ≤ c0_7) (h : Qai.f k a0_0 a0_1 l0_2 a0_3 a0_4 a0_5 l0_6 l0_7 = some (r1, r2, r3, r4, r5, r6, r7, r8)) :
 Calls Tryz.prog 10 #[.agg #[.int .i64 a0_0, .int .i64 a0_1, .slice A0_2 l0_2.length c0_2, .int .i64 a0_3, .int .i64 a0_4, .int .i64 a0_5, .slice A0_6 l0_6.length c0_6, .slice A0_7 l0_7.length c0_7]] w fun e w' => ∃ v2_ v6_ v7_ : Value, e = .returned (.agg #[.int .i64 r1, .int .i64 r2, v2_, .int .i64 r4, .int .i64 r5, .int .i64 r6, v6_, v7_]) ∧ Kd.S k39 39 w' w.heap.size (fun _ => True) v2_ r3 ∧ Kd.S k57 57 w' w.heap.size (fun _ => True) v6_ r7 ∧ Kd.S (Kd.slice 47 k47) 44 w' w.heap.size (fun _ => True) v7_ r8 ∧ Below w.heap.size w w' := by
 have hu30 := Tryz.underlying30
 have hu24 := Tryz.underlying24
 have hu27 := Tryz.underlying27
 have R0_2 := As0 hr0_2
 have C0_2 := As0 hc0_2
 clear hr0_2 hc0_2
 have R0_6 := As0 hr0_6
 have C0_6 := As0 hc0_6
 clear hr0_6 hc0_6
 have R0_7 := As0 hr0_7
 have C0_7 := As0 hc0_7
 clear hr0_7 hc0_7
 have HB := As0 (Below.refl w.heap.size w)
 have H : ((Qap.f k a0_0 a0_1 l0_2).bind fun bt502 => ((Qan.f k a0_3 a0_4 a0_5 l0_6).bind fun bt507 => (Qai.l0 k 0 a0_0 a0_1 l0_2 a0_3 a0_4 a0_5 l0_6 l0_7 bt502.1 bt502.2.1 bt502.2.2 bt507.1 bt507.2.1 bt507.2.2.1 bt507.2.2.2 ([] : List (List (S47)))))) = some (r1, r2, r3, r4, r5, r6, r7, r8) := h
 clear h
 replace H := Option.bind_eq_some_iff.mp H
 obtain ⟨⟨t502, t503, t504⟩, A20, H⟩ := H
 have A2 := As0 A20
 clear A20
 replace H := Option.bind_eq_some_iff.mp H
 obtain ⟨⟨t507, t508, t509, t510⟩, A30, H⟩ := H
 have A3 := As0 A30
 clear A30
 have H' := As0 H
 clear H
 go_enter Tryz.func10, Tryz.ntmps10
 try go_wp2_with (first | ((with_reducible refine gD 1 ?_); refine bY HB.out ?_; intro gb500 w4 hg hb K500 GW500 HB; clear hb hg) | ((with_reducible refine gD 2 ?_); refine bY HB.out ?_; intro gb501 w5 hg hb K501 GW501 HB; have N500_501 := nL hg K500; have N501_500 := nR hg K500; replace K500 := kB K500 hb; clear hb hg))
 replace K500 := As0 (Qbr K500.out)
 replace K501 := As0 (Qbr K501.out)
 replace HB := As0 (bd1 HB.out)
 refine Qcb (n := 9) (S := fun w' => w'.cell? ⟨gb500, 0, none⟩ = some (.int .i64 a0_0) ∧ w'.cell? ⟨gb500, 1, none⟩ = some (.int .i64 a0_1) ∧ w'.cell? ⟨gb500, 2, none⟩ = some (.slice A0_2 l0_2.length c0_2) ∧ w'.cell? ⟨gb500, 3, none⟩ = some (.int .i64 a0_3) ∧ w'.cell? ⟨gb500, 4, none⟩ = some (.int .i64 a0_4) ∧ w'.cell? ⟨gb500, 5, none⟩ = some (.int .i64 a0_5) ∧ w'.cell? ⟨gb500, 6, none⟩ = some (.slice A0_6 l0_6.length c0_6) ∧ w'.cell? ⟨gb500, 7, none⟩ = some (.slice A0_7 l0_7.length c0_7)) (ds := []) (bb 9 0) (by kernel_rfl) rfl rfl ⟨bc K500 0, bc K500 1, bc K500 2, bc K500 3, bc K500 4, bc K500 5, bc K500 6, bc K500 7⟩ (fun hHeld => ?_); refine Qca Qai.tab1 Qai.bits1 (fun HT_ HW_ => ?_)
 generalize w5.drew = w6 at K500 K501 HB hHeld ⊢
 refine pv HT_.out 0 5 (bb 9 1) ?_
 refine pv HT_.out 3 8 (bb 9 9) ?_
 refine tv hHeld HT_.out HW_.out 1 6 (bb 9 11) ?_
 refine tv hHeld HT_.out HW_.out 4 9 (bb 9 27) ?_
 refine join_ (σ := Value × Value × Nat) 1 (bb 9 255) (fun s_ => [(7, .agg #[.int .i64 t502, .int .i64 t503, s_.1]), (10, .agg #[.int .i64 t507, .int .i64 t508, .int .i64 t509, s_.2.1]), (3, .pointer (some ⟨s_.2.2, 0, none⟩)), (11, .agg #[.int .i64 t502, .int .i64 t503, s_.1, .int .i64 t507, .int .i64 t508, .int .i64 t509, s_.2.1, .slice none 0 0])]) (fun s_ w' => (w'.cell? ⟨gb500, 0, none⟩ = some (.int .i64 a0_0) ∧ w'.cell? ⟨gb500, 1, none⟩ = some (.int .i64 a0_1) ∧ w'.cell? ⟨gb500, 2, none⟩ = some (.slice A0_2 l0_2.length c0_2) ∧ w'.cell? ⟨gb500, 3, none⟩ = some (.int .i64 a0_3) ∧ w'.cell? ⟨gb500, 4, none⟩ = some (.int .i64 a0_4) ∧ w'.cell? ⟨gb500, 5, none⟩ = some (.int .i64 a0_5) ∧ w'.cell? ⟨gb500, 6, none⟩ = some (.slice A0_6 l0_6.length c0_6) ∧ w'.cell? ⟨gb500, 7, none⟩ = some (.slice A0_7 l0_7.length c0_7)) ∧ (Kd.S k39 39 w' w.heap.size (fun _ => True) s_.1 t504) ∧ (Kd.S k57 57 w' w.heap.size (fun _ => True) s_.2.1 t510) ∧ (w'.heap[gb500]? = some (.cells #[.int .i64 a0_0, .int .i64 a0_1, .slice A0_2 l0_2.length c0_2, .int .i64 a0_3, .int .i64 a0_4, .int .i64 a0_5, .slice A0_6 l0_6.length c0_6, .slice A0_7 l0_7.length c0_7] 30 (0, 0))) ∧ (w'.heap[gb501]? = some (.cells #[.int .i64 0, .int .i64 0, .slice none 0 0, .int .i64 0, .int .i64 0, .int .i64 0, .slice none 0 0, .slice none 0 0] 30 (0, 0))) ∧ (w'.heap[s_.2.2]? = some (.cells #[.int .i64 0, .int .i64 0, .slice none 0 0, .int .i64 0, .int .i64 0, .int .i64 0, .slice none 0 0, .slice none 0 0] 30 (0, 0))) ∧ (w.heap.size ≤ s_.2.2) ∧ (w.heap.size ≤ s_.2.2) ∧ (gb500 ≠ s_.2.2) ∧ (s_.2.2 ≠ gb500) ∧ (gb501 ≠ s_.2.2) ∧ (s_.2.2 ≠ gb501) ∧ (Below w.heap.size w w')) ?_ ?_
 rotate_left
 ·intro hCont
  refine two_ (i := 2) (j := 7) (Ni := some 7) (Nj := some 3) (bb 9 31) (bb 9 155) rfl rfl rfl rfl (two_of HT_.out (by kernel_rfl)) (by decide) (by decide) (fun K hK => ?_) (fun K hK => ?_)
  ·skip
   refine gG Tryz.func28 #[.agg #[.int .i64 a0_0, .int .i64 a0_1, .slice A0_2 l0_2.length c0_2]] ?_
   with_reducible refine (Qap.calls k a0_0 a0_1 _ _ l0_2 t502 t503 t504 _ ?side1 ?side2 A2.out).mono ?_
   (case side1 => exact CU (Kd.C_below R0_2.out HB.out))
   (case side2 => exact C0_2.out)
   rintro e w7 ⟨v505, rfl, ho0, hb⟩
   refine ⟨_, rfl, ?_⟩
   have O506 := As0 (Kd.S_lower ho0 (Qbm (BU HB.out)))
   replace K500 := kB K500 hb
   replace K501 := kB K501 hb
   replace HB := sB HB hb
   (try clear hb)
   (try clear hb2)
   (try clear hk)
   (try clear hi)
   (try clear ho0)
   refine hK.out _ _ ⟨bc K500 0, bc K500 1, bc K500 2, bc K500 3, bc K500 4, bc K500 5, bc K500 6, bc K500 7⟩ (fun hHeld => ?_)
   clear hK K
   refine Qb1 (a' := ?_) ?_ ?_
   rotate_left
   ·show Act.put _ (some 7) _ = _
    simp only [Act.put, sL1, sL2, sL3, Qbu, Qbv]
    rfl
   refine two_ (i := 5) (j := 7) (Ni := some 10) (Nj := some 3) (bb 9 63) (bb 9 159) rfl rfl rfl rfl (two_of HT_.out (by kernel_rfl)) (by decide) (by decide) (fun K hK => ?_) (fun K hK => ?_)
   ·skip
    refine gG Tryz.func29 #[.agg #[.int .i64 a0_3, .int .i64 a0_4, .int .i64 a0_5, .slice A0_6 l0_6.length c0_6]] ?_
    with_reducible refine (Qan.calls k a0_3 a0_4 a0_5 _ _ l0_6 t507 t508 t509 t510 _ ?side1 ?side2 A3.out).mono ?_
    (case side1 => exact CU (Kd.C_below R0_6.out HB.out))
    (case side2 => exact C0_6.out)
    rintro e w8 ⟨v511, rfl, ho0, hb⟩
    refine ⟨_, rfl, ?_⟩
    replace O506 := As0 (Kd.S_below (SU O506.out) hb)
    have O512 := As0 (Kd.S_lower ho0 (Qbm (BU HB.out)))
    replace K500 := kB K500 hb
    replace K501 := kB K501 hb
    replace HB := sB HB hb
    (try clear hb)
    (try clear hb2)
    (try clear hk)
    (try clear hi)
    (try clear ho0)
    obtain ⟨Ao9, co9, eo9⟩ := Kd.S_slice O512.out
    (first | subst eo9 | (injection eo9 with f1_ f2_ f3_; have f4_ := f1_.symm; have f5_ := f3_.symm; clear f1_ f2_ f3_; subst f4_; subst f5_))
    obtain ⟨Ao10, co10, eo10⟩ := Kd.S_slice O506.out
    (first | subst eo10 | (injection eo10 with f1_ f2_ f3_; have f4_ := f1_.symm; have f5_ := f3_.symm; clear f1_ f2_ f3_; subst f4_; subst f5_))
    refine hK.out _ _ ⟨bc K500 0, bc K500 1, bc K500 2, bc K500 3, bc K500 4, bc K500 5, bc K500 6, bc K500 7⟩ (fun hHeld => ?_)
    clear hK K
    refine Qb1 (a' := ?_) ?_ ?_
    rotate_left
    ·show Act.put _ (some 10) _ = _
     simp only [Act.put, sL1, sL2, sL3, Qbu, Qbv]
     rfl
    refine pv HT_.out 6 11 (bb 9 127) ?_
    refine one_ (i := 7) (N := some 3) (bb 9 255) rfl rfl (Qcd HT_.out (by kernel_rfl)) (by decide) (fun K hK => ?_)
    refine box_step ?hg (N := 3) ?hd (cs := #[.int .i64 0, .int .i64 0, .slice none 0 0, .int .i64 0, .int .i64 0, .int .i64 0, .slice none 0 0, .slice none 0 0]) (t := 30) ?hr ?_; (case hd => rfl); (case hg => rfl); (case hr => first | (go_simp; done) | (go_simp; rfl))
    intro gb513 hg w11 hbox hb
    replace O506 := As0 (Kd.S_below (SU O506.out) hb)
    replace O512 := As0 (Kd.S_below (SU O512.out) hb)
    have K513 := As0 (hbox)
    have GW513 := gW hg HB.out
    have GE513 := gW hg HB.out
    replace HB := sB HB hb
    have N500_513 := nL hg K500
    have N513_500 := nR hg K500
    replace K500 := kB K500 hb
    have N501_513 := nL hg K501
    have N513_501 := nR hg K501
    replace K501 := kB K501 hb
    clear hb hbox hg
    refine hK.out _ _ ⟨bc K500 0, bc K500 1, bc K500 2, bc K500 3, bc K500 4, bc K500 5, bc K500 6, bc K500 7⟩ (fun hHeld => ?_)
    clear hK K
    refine Qb1 (a' := ?_) ?_ ?_
    rotate_left
    ·show Act.put _ (some 3) _ = _
     simp only [Act.put, sL1, sL2, sL3, Qbu, Qbv]
     rfl
    exact Qb1 (by simp only [Qc4, Act.put, sL1, sL2, sL3]) (hCont (.slice Ao10 t504.length co10, .slice Ao9 t510.length co9, gb513) _ ⟨hHeld, (SU O506.out), (SU O512.out), (bU K500.out), (bU K501.out), (bU K513.out), GW513.out, GE513.out, N500_513.out, N513_500.out, N501_513.out, N513_501.out, (BU HB.out)⟩)
   ·skip
    refine box_step ?hg (N := 3) ?hd (cs := #[.int .i64 0, .int .i64 0, .slice none 0 0, .int .i64 0, .int .i64 0, .int .i64 0, .slice none 0 0, .slice none 0 0]) (t := 30) ?hr ?_; (case hd => rfl); (case hg => rfl); (case hr => first | (go_simp; done) | (go_simp; rfl))
    intro gb513 hg w8 hbox hb
    replace O506 := As0 (Kd.S_below (SU O506.out) hb)
    have K513 := As0 (hbox)
    have GW513 := gW hg HB.out
    have GE513 := gW hg HB.out
    replace HB := sB HB hb
    have N500_513 := nL hg K500
    have N513_500 := nR hg K500
    replace K500 := kB K500 hb
    have N501_513 := nL hg K501
    have N513_501 := nR hg K501
    replace K501 := kB K501 hb
    clear hb hbox hg
    refine hK.out _ _ ⟨bc K500 0, bc K500 1, bc K500 2, bc K500 3, bc K500 4, bc K500 5, bc K500 6, bc K500 7⟩ (fun hHeld => ?_)
    clear hK K
    refine Qb1 (a' := ?_) ?_ ?_
    rotate_left
    ·show Act.put _ (some 3) _ = _
     simp only [Act.put, sL1, sL2, sL3, Qbu, Qbv]
     rfl
    refine one_ (i := 5) (N := some 10) (bb 9 191) rfl rfl (Qcd HT_.out (by kernel_rfl)) (by decide) (fun K hK => ?_)
    refine gG Tryz.func29 #[.agg #[.int .i64 a0_3, .int .i64 a0_4, .int .i64 a0_5, .slice A0_6 l0_6.length c0_6]] ?_
    with_reducible refine (Qan.calls k a0_3 a0_4 a0_5 _ _ l0_6 t507 t508 t509 t510 _ ?side1 ?side2 A3.out).mono ?_
    (case side1 => exact CU (Kd.C_below R0_6.out HB.out))
    (case side2 => exact C0_6.out)
    rintro e w9 ⟨v511, rfl, ho0, hb⟩
    refine ⟨_, rfl, ?_⟩
    replace O506 := As0 (Kd.S_below (SU O506.out) hb)
    have O512 := As0 (Kd.S_lower ho0 (Qbm (BU HB.out)))
    replace K500 := kB K500 hb
    replace K501 := kB K501 hb
    replace K513 := kB K513 hb
    replace HB := sB HB hb
    (try clear hb)
    (try clear hb2)
    (try clear hk)
    (try clear hi)
    (try clear ho0)
    obtain ⟨Ao10, co10, eo10⟩ := Kd.S_slice O512.out
    (first | subst eo10 | (injection eo10 with f1_ f2_ f3_; have f4_ := f1_.symm; have f5_ := f3_.symm; clear f1_ f2_ f3_; subst f4_; subst f5_))
    obtain ⟨Ao11, co11, eo11⟩ := Kd.S_slice O506.out
    (first | subst eo11 | (injection eo11 with f1_ f2_ f3_; have f4_ := f1_.symm; have f5_ := f3_.symm; clear f1_ f2_ f3_; subst f4_; subst f5_))
    refine hK.out _ _ ⟨bc K500 0, bc K500 1, bc K500 2, bc K500 3, bc K500 4, bc K500 5, bc K500 6, bc K500 7⟩ (fun hHeld => ?_)
    clear hK K
    refine Qb1 (a' := ?_) ?_ ?_
    rotate_left
    ·show Act.put _ (some 10) _ = _
     simp only [Act.put, sL1, sL2, sL3, Qbu, Qbv]
     rfl
    refine pv HT_.out 6 11 (bb 9 255) ?_
    exact Qb1 (by simp only [Qc4, Act.put, sL1, sL2, sL3]) (hCont (.slice Ao11 t504.length co11, .slice Ao10 t510.length co10, gb513) _ ⟨hHeld, (SU O506.out), (SU O512.out), (bU K500.out), (bU K501.out), (bU K513.out), GW513.out, GE513.out, N500_513.out, N513_500.out, N501_513.out, N513_501.out, (BU HB.out)⟩)
  ·skip
   refine box_step ?hg (N := 3) ?hd (cs := #[.int .i64 0, .int .i64 0, .slice none 0 0, .int .i64 0, .int .i64 0, .int .i64 0, .slice none 0 0, .slice none 0 0]) (t := 30) ?hr ?_; (case hd => rfl); (case hg => rfl); (case hr => first | (go_simp; done) | (go_simp; rfl))
   intro gb513 hg w7 hbox hb
   have K513 := As0 (hbox)
   have GW513 := gW hg HB.out
   have GE513 := gW hg HB.out
   replace HB := sB HB hb
   have N500_513 := nL hg K500
   have N513_500 := nR hg K500
   replace K500 := kB K500 hb
   have N501_513 := nL hg K501
   have N513_501 := nR hg K501
   replace K501 := kB K501 hb
   clear hb hbox hg
   refine hK.out _ _ ⟨bc K500 0, bc K500 1, bc K500 2, bc K500 3, bc K500 4, bc K500 5, bc K500 6, bc K500 7⟩ (fun hHeld => ?_)
   clear hK K
   refine Qb1 (a' := ?_) ?_ ?_
   rotate_left
   ·show Act.put _ (some 3) _ = _
    simp only [Act.put, sL1, sL2, sL3, Qbu, Qbv]
    rfl
   refine one_ (i := 2) (N := some 7) (bb 9 159) rfl rfl (Qcd HT_.out (by kernel_rfl)) (by decide) (fun K hK => ?_)
   refine gG Tryz.func28 #[.agg #[.int .i64 a0_0, .int .i64 a0_1, .slice A0_2 l0_2.length c0_2]] ?_
   with_reducible refine (Qap.calls k a0_0 a0_1 _ _ l0_2 t502 t503 t504 _ ?side1 ?side2 A2.out).mono ?_
   (case side1 => exact CU (Kd.C_below R0_2.out HB.out))
   (case side2 => exact C0_2.out)
   rintro e w8 ⟨v505, rfl, ho0, hb⟩
   refine ⟨_, rfl, ?_⟩
   have O506 := As0 (Kd.S_lower ho0 (Qbm (BU HB.out)))
   replace K500 := kB K500 hb
   replace K501 := kB K501 hb
   replace K513 := kB K513 hb
   replace HB := sB HB hb
   (try clear hb)
   (try clear hb2)
   (try clear hk)
   (try clear hi)
   (try clear ho0)
   refine hK.out _ _ ⟨bc K500 0, bc K500 1, bc K500 2, bc K500 3, bc K500 4, bc K500 5, bc K500 6, bc K500 7⟩ (fun hHeld => ?_)
   clear hK K
   refine Qb1 (a' := ?_) ?_ ?_
   rotate_left
   ·show Act.put _ (some 7) _ = _
    simp only [Act.put, sL1, sL2, sL3, Qbu, Qbv]
    rfl
   refine one_ (i := 5) (N := some 10) (bb 9 191) rfl rfl (Qcd HT_.out (by kernel_rfl)) (by decide) (fun K hK => ?_)
   refine gG Tryz.func29 #[.agg #[.int .i64 a0_3, .int .i64 a0_4, .int .i64 a0_5, .slice A0_6 l0_6.length c0_6]] ?_
   with_reducible refine (Qan.calls k a0_3 a0_4 a0_5 _ _ l0_6 t507 t508 t509 t510 _ ?side1 ?side2 A3.out).mono ?_
   (case side1 => exact CU (Kd.C_below R0_6.out HB.out))
   (case side2 => exact C0_6.out)
   rintro e w9 ⟨v511, rfl, ho0, hb⟩
   refine ⟨_, rfl, ?_⟩
   replace O506 := As0 (Kd.S_below (SU O506.out) hb)
   have O512 := As0 (Kd.S_lower ho0 (Qbm (BU HB.out)))
   replace K500 := kB K500 hb
   replace K501 := kB K501 hb
   replace K513 := kB K513 hb
   replace HB := sB HB hb
   (try clear hb)
   (try clear hb2)
   (try clear hk)
   (try clear hi)
   (try clear ho0)
   obtain ⟨Ao10, co10, eo10⟩ := Kd.S_slice O512.out
   (first | subst eo10 | (injection eo10 with f1_ f2_ f3_; have f4_ := f1_.symm; have f5_ := f3_.symm; clear f1_ f2_ f3_; subst f4_; subst f5_))
   obtain ⟨Ao11, co11, eo11⟩ := Kd.S_slice O506.out
   (first | subst eo11 | (injection eo11 with f1_ f2_ f3_; have f4_ := f1_.symm; have f5_ := f3_.symm; clear f1_ f2_ f3_; subst f4_; subst f5_))
   refine hK.out _ _ ⟨bc K500 0, bc K500 1, bc K500 2, bc K500 3, bc K500 4, bc K500 5, bc K500 6, bc K500 7⟩ (fun hHeld => ?_)
   clear hK K
   refine Qb1 (a' := ?_) ?_ ?_
   rotate_left
   ·show Act.put _ (some 10) _ = _
    simp only [Act.put, sL1, sL2, sL3, Qbu, Qbv]
    rfl
   refine pv HT_.out 6 11 (bb 9 255) ?_
   exact Qb1 (by simp only [Qc4, Act.put, sL1, sL2, sL3]) (hCont (.slice Ao11 t504.length co11, .slice Ao10 t510.length co10, gb513) _ ⟨hHeld, (SU O506.out), (SU O512.out), (bU K500.out), (bU K501.out), (bU K513.out), GW513.out, GE513.out, N500_513.out, N513_500.out, N501_513.out, N513_501.out, (BU HB.out)⟩)
 rintro ⟨v505, v511, gb513⟩ w12 ⟨hS_, h0_, h1_, h2_, h3_, h4_, h5_, h6_, h7_, h8_, h9_, h10_, h11_⟩
 have O506 : Qbk (Kd.S k39 39 w12 w.heap.size (fun _ => True) v505 t504) := ⟨h0_⟩
 have O512 : Qbk (Kd.S k57 57 w12 w.heap.size (fun _ => True) v511 t510) := ⟨h1_⟩
 replace K500 : Qbk (w12.heap[gb500]? = some (.cells #[.int .i64 a0_0, .int .i64 a0_1, .slice A0_2 l0_2.length c0_2, .int .i64 a0_3, .int .i64 a0_4, .int .i64 a0_5, .slice A0_6 l0_6.length c0_6, .slice A0_7 l0_7.length c0_7] 30 (0, 0))) := ⟨h2_⟩
 replace K501 : Qbk (w12.heap[gb501]? = some (.cells #[.int .i64 0, .int .i64 0, .slice none 0 0, .int .i64 0, .int .i64 0, .int .i64 0, .slice none 0 0, .slice none 0 0] 30 (0, 0))) := ⟨h3_⟩
 have K513 : Qbk (w12.heap[gb513]? = some (.cells #[.int .i64 0, .int .i64 0, .slice none 0 0, .int .i64 0, .int .i64 0, .int .i64 0, .slice none 0 0, .slice none 0 0] 30 (0, 0))) := ⟨h4_⟩
 have GW513 : Qbk (w.heap.size ≤ gb513) := ⟨h5_⟩
 have GE513 : Qbk (w.heap.size ≤ gb513) := ⟨h6_⟩
 have N500_513 : Qbk (gb500 ≠ gb513) := ⟨h7_⟩
 have N513_500 : Qbk (gb513 ≠ gb500) := ⟨h8_⟩
 have N501_513 : Qbk (gb501 ≠ gb513) := ⟨h9_⟩
 have N513_501 : Qbk (gb513 ≠ gb501) := ⟨h10_⟩
 replace HB : Qbk (Below w.heap.size w w12) := ⟨h11_⟩
 clear h0_ h1_ h2_ h3_ h4_ h5_ h6_ h7_ h8_ h9_ h10_ h11_
 have hHeld : w12.cell? ⟨gb500, 0, none⟩ = some (.int .i64 a0_0) ∧ w12.cell? ⟨gb500, 1, none⟩ = some (.int .i64 a0_1) ∧ w12.cell? ⟨gb500, 2, none⟩ = some (.slice A0_2 l0_2.length c0_2) ∧ w12.cell? ⟨gb500, 3, none⟩ = some (.int .i64 a0_3) ∧ w12.cell? ⟨gb500, 4, none⟩ = some (.int .i64 a0_4) ∧ w12.cell? ⟨gb500, 5, none⟩ = some (.int .i64 a0_5) ∧ w12.cell? ⟨gb500, 6, none⟩ = some (.slice A0_6 l0_6.length c0_6) ∧ w12.cell? ⟨gb500, 7, none⟩ = some (.slice A0_7 l0_7.length c0_7) := hS_
 obtain ⟨Ao13, co13, eo13⟩ := Kd.S_slice O512.out
 (first | subst eo13 | (injection eo13 with f1_ f2_ f3_; have f4_ := f1_.symm; have f5_ := f3_.symm; clear f1_ f2_ f3_; subst f4_; subst f5_))
 obtain ⟨Ao14, co14, eo14⟩ := Kd.S_slice O506.out
 (first | subst eo14 | (injection eo14 with f1_ f2_ f3_; have f4_ := f1_.symm; have f5_ := f3_.symm; clear f1_ f2_ f3_; subst f4_; subst f5_))
 refine Qb1 (a' := ?_) ?_ ?_
 rotate_left
 ·simp only [Qc4, Act.put, sL1, sL2, sL3]
  rfl
 refine one_ (i := 8) (N := none) (bb 9 511) rfl rfl (Qcd HT_.out (by kernel_rfl)) (by decide) (fun K hK => ?_)
 have hs15 : w12.cell? ⟨gb513, 0, none⟩ = some (.int .i64 0) := bc K513 0
 have hfs15 := Qbp K513.out 0
 have hns15_0 := N500_513.out
 have hns15_1 := N501_513.out
 have hms15_0 := N513_500.out
 have hms15_1 := N513_501.out
 have hs16 : w12.cell? ⟨gb513, 1, none⟩ = some (.int .i64 0) := bc K513 1
 have hfs16 := Qbp K513.out 1
 have hns16_0 := N500_513.out
 have hns16_1 := N501_513.out
 have hms16_0 := N513_500.out
 have hms16_1 := N513_501.out
 have hs17 : w12.cell? ⟨gb513, 2, none⟩ = some (.slice none 0 0) := bc K513 2
 have hfs17 := Qbp K513.out 2
 have hns17_0 := N500_513.out
 have hns17_1 := N501_513.out
 have hms17_0 := N513_500.out
 have hms17_1 := N513_501.out
 have hs18 : w12.cell? ⟨gb513, 3, none⟩ = some (.int .i64 0) := bc K513 3
 have hfs18 := Qbp K513.out 3
 have hns18_0 := N500_513.out
 have hns18_1 := N501_513.out
 have hms18_0 := N513_500.out
 have hms18_1 := N513_501.out
 have hs19 : w12.cell? ⟨gb513, 4, none⟩ = some (.int .i64 0) := bc K513 4
 have hfs19 := Qbp K513.out 4
 have hns19_0 := N500_513.out
 have hns19_1 := N501_513.out
 have hms19_0 := N513_500.out
 have hms19_1 := N513_501.out
 have hs20 : w12.cell? ⟨gb513, 5, none⟩ = some (.int .i64 0) := bc K513 5
 have hfs20 := Qbp K513.out 5
 have hns20_0 := N500_513.out
 have hns20_1 := N501_513.out
 have hms20_0 := N513_500.out
 have hms20_1 := N513_501.out
 have hs21 : w12.cell? ⟨gb513, 6, none⟩ = some (.slice none 0 0) := bc K513 6
 have hfs21 := Qbp K513.out 6
 have hns21_0 := N500_513.out
 have hns21_1 := N501_513.out
 have hms21_0 := N513_500.out
 have hms21_1 := N513_501.out
 have hs22 : w12.cell? ⟨gb513, 7, none⟩ = some (.slice none 0 0) := bc K513 7
 have hfs22 := Qbp K513.out 7
 have hns22_0 := N500_513.out
 have hns22_1 := N501_513.out
 have hms22_0 := N513_500.out
 have hms22_1 := N513_501.out
 refine skip_ (w1 := ?_) (by rfl) rfl ?_ ?_
 rotate_left
 ·go_simp
  rfl
 refine hK.out _ _ ⟨((Qbq (p := ⟨gb513, _, none⟩) N500_513.out _).trans (((Qbq (p := ⟨gb513, _, none⟩) N500_513.out _).trans (((Qbq (p := ⟨gb513, _, none⟩) N500_513.out _).trans (((Qbq (p := ⟨gb513, _, none⟩) N500_513.out _).trans (((Qbq (p := ⟨gb513, _, none⟩) N500_513.out _).trans (((Qbq (p := ⟨gb513, _, none⟩) N500_513.out _).trans (((Qbq (p := ⟨gb513, _, none⟩) N500_513.out _).trans (((Qbq (p := ⟨gb513, _, none⟩) N500_513.out _).trans (hHeld.1)))))))))))))))), ((Qbq (p := ⟨gb513, _, none⟩) N500_513.out _).trans (((Qbq (p := ⟨gb513, _, none⟩) N500_513.out _).trans (((Qbq (p := ⟨gb513, _, none⟩) N500_513.out _).trans (((Qbq (p := ⟨gb513, _, none⟩) N500_513.out _).trans (((Qbq (p := ⟨gb513, _, none⟩) N500_513.out _).trans (((Qbq (p := ⟨gb513, _, none⟩) N500_513.out _).trans (((Qbq (p := ⟨gb513, _, none⟩) N500_513.out _).trans (((Qbq (p := ⟨gb513, _, none⟩) N500_513.out _).trans (hHeld.2.1)))))))))))))))), ((Qbq (p := ⟨gb513, _, none⟩) N500_513.out _).trans (((Qbq (p := ⟨gb513, _, none⟩) N500_513.out _).trans (((Qbq (p := ⟨gb513, _, none⟩) N500_513.out _).trans (((Qbq (p := ⟨gb513, _, none⟩) N500_513.out _).trans (((Qbq (p := ⟨gb513, _, none⟩) N500_513.out _).trans (((Qbq (p := ⟨gb513, _, none⟩) N500_513.out _).trans (((Qbq (p := ⟨gb513, _, none⟩) N500_513.out _).trans (((Qbq (p := ⟨gb513, _, none⟩) N500_513.out _).trans (hHeld.2.2.1)))))))))))))))), ((Qbq (p := ⟨gb513, _, none⟩) N500_513.out _).trans (((Qbq (p := ⟨gb513, _, none⟩) N500_513.out _).trans (((Qbq (p := ⟨gb513, _, none⟩) N500_513.out _).trans (((Qbq (p := ⟨gb513, _, none⟩) N500_513.out _).trans (((Qbq (p := ⟨gb513, _, none⟩) N500_513.out _).trans (((Qbq (p := ⟨gb513, _, none⟩) N500_513.out _).trans (((Qbq (p := ⟨gb513, _, none⟩) N500_513.out _).trans (((Qbq (p := ⟨gb513, _, none⟩) N500_513.out _).trans (hHeld.2.2.2.1)))))))))))))))), ((Qbq (p := ⟨gb513, _, none⟩) N500_513.out _).trans (((Qbq (p := ⟨gb513, _, none⟩) N500_513.out _).trans (((Qbq (p := ⟨gb513, _, none⟩) N500_513.out _).trans (((Qbq (p := ⟨gb513, _, none⟩) N500_513.out _).trans (((Qbq (p := ⟨gb513, _, none⟩) N500_513.out _).trans (((Qbq (p := ⟨gb513, _, none⟩) N500_513.out _).trans (((Qbq (p := ⟨gb513, _, none⟩) N500_513.out _).trans (((Qbq (p := ⟨gb513, _, none⟩) N500_513.out _).trans (hHeld.2.2.2.2.1)))))))))))))))), ((Qbq (p := ⟨gb513, _, none⟩) N500_513.out _).trans (((Qbq (p := ⟨gb513, _, none⟩) N500_513.out _).trans (((Qbq (p := ⟨gb513, _, none⟩) N500_513.out _).trans (((Qbq (p := ⟨gb513, _, none⟩) N500_513.out _).trans (((Qbq (p := ⟨gb513, _, none⟩) N500_513.out _).trans (((Qbq (p := ⟨gb513, _, none⟩) N500_513.out _).trans (((Qbq (p := ⟨gb513, _, none⟩) N500_513.out _).trans (((Qbq (p := ⟨gb513, _, none⟩) N500_513.out _).trans (hHeld.2.2.2.2.2.1)))))))))))))))), ((Qbq (p := ⟨gb513, _, none⟩) N500_513.out _).trans (((Qbq (p := ⟨gb513, _, none⟩) N500_513.out _).trans (((Qbq (p := ⟨gb513, _, none⟩) N500_513.out _).trans (((Qbq (p := ⟨gb513, _, none⟩) N500_513.out _).trans (((Qbq (p := ⟨gb513, _, none⟩) N500_513.out _).trans (((Qbq (p := ⟨gb513, _, none⟩) N500_513.out _).trans (((Qbq (p := ⟨gb513, _, none⟩) N500_513.out _).trans (((Qbq (p := ⟨gb513, _, none⟩) N500_513.out _).trans (hHeld.2.2.2.2.2.2.1)))))))))))))))), ((Qbq (p := ⟨gb513, _, none⟩) N500_513.out _).trans (((Qbq (p := ⟨gb513, _, none⟩) N500_513.out _).trans (((Qbq (p := ⟨gb513, _, none⟩) N500_513.out _).trans (((Qbq (p := ⟨gb513, _, none⟩) N500_513.out _).trans (((Qbq (p := ⟨gb513, _, none⟩) N500_513.out _).trans (((Qbq (p := ⟨gb513, _, none⟩) N500_513.out _).trans (((Qbq (p := ⟨gb513, _, none⟩) N500_513.out _).trans (((Qbq (p := ⟨gb513, _, none⟩) N500_513.out _).trans (hHeld.2.2.2.2.2.2.2))))))))))))))))⟩ (fun hHeld => ?_)
 clear hK K
 refine Qcy (Qco HT_.out (by kernel_rfl)) ?_
 try go_wp2
 go_loopg [4] k (fun kq v4 w' => ∃ (x4_1 : Int) (x514007_1 : List (List (S47))) (u514007 : Value), v4 = .int .i64 x4_1 ∧ Qbk (Qai.l0 kq x4_1 a0_0 a0_1 l0_2 a0_3 a0_4 a0_5 l0_6 l0_7 t502 t503 t504 t507 t508 t509 t510 x514007_1 = some (r1, r2, r3, r4, r5, r6, r7, r8)) ∧ Qbk (kq ≤ k) ∧ Qbk (Kd.S k39 39 w' w.heap.size (fun _ => True) (.slice Ao14 t504.length co14) t504) ∧ Qbk (Kd.S k57 57 w' w.heap.size (fun _ => True) (.slice Ao13 t510.length co13) t510) ∧ Qbk (Kd.S (Kd.slice 47 k47) 44 w' w.heap.size (fun _ => True) u514007 x514007_1) ∧ Qbk (w'.heap[gb500]? = some (.cells #[.int .i64 a0_0, .int .i64 a0_1, (.slice A0_2 l0_2.length c0_2), .int .i64 a0_3, .int .i64 a0_4, .int .i64 a0_5, (.slice A0_6 l0_6.length c0_6), (.slice A0_7 l0_7.length c0_7)] 30 (0, 0))) ∧ Qbk (w'.heap[gb501]? = some (.cells #[.int .i64 0, .int .i64 0, (.slice none 0 0), .int .i64 0, .int .i64 0, .int .i64 0, (.slice none 0 0), (.slice none 0 0)] 30 (0, 0))) ∧ Qbk (w'.heap[gb513]? = some (.cells #[.int .i64 t502, .int .i64 t503, (.slice Ao14 t504.length co14), .int .i64 t507, .int .i64 t508, .int .i64 t509, (.slice Ao13 t510.length co13), u514007] 30 (0, 0))) ∧ Qbk (Below w.heap.size w w'))
 case atStart => exact ⟨(0), (([] : List (List (S47)))), (.slice none 0 0), eR, H', ⟨Nat.le_refl _⟩, ⟨SU (Kd.S_mono (Kd.S_far (p := ⟨gb513, 7, none⟩) (Kd.S_far (p := ⟨gb513, 6, none⟩) (Kd.S_far (p := ⟨gb513, 5, none⟩) (Kd.S_far (p := ⟨gb513, 4, none⟩) (Kd.S_far (p := ⟨gb513, 3, none⟩) (Kd.S_far (p := ⟨gb513, 2, none⟩) (Kd.S_far (p := ⟨gb513, 1, none⟩) (Kd.S_far (p := ⟨gb513, 0, none⟩) (Kd.S_types O506.out K513.out (by decide)) (fun _ hk => hk.2) (.int .i64 t502)) (fun _ hk => hk.2) (.int .i64 t503)) (fun _ hk => hk.2) (.slice Ao14 t504.length co14)) (fun _ hk => hk.2) (.int .i64 t507)) (fun _ hk => hk.2) (.int .i64 t508)) (fun _ hk => hk.2) (.int .i64 t509)) (fun _ hk => hk.2) (.slice Ao13 t510.length co13)) (fun _ hk => hk.2) (.slice none 0 0)) (fun _ hk => trivial))⟩, ⟨SU (Kd.S_mono (Kd.S_far (p := ⟨gb513, 7, none⟩) (Kd.S_far (p := ⟨gb513, 6, none⟩) (Kd.S_far (p := ⟨gb513, 5, none⟩) (Kd.S_far (p := ⟨gb513, 4, none⟩) (Kd.S_far (p := ⟨gb513, 3, none⟩) (Kd.S_far (p := ⟨gb513, 2, none⟩) (Kd.S_far (p := ⟨gb513, 1, none⟩) (Kd.S_far (p := ⟨gb513, 0, none⟩) (Kd.S_types O512.out K513.out (by decide)) (fun _ hk => hk.2) (.int .i64 t502)) (fun _ hk => hk.2) (.int .i64 t503)) (fun _ hk => hk.2) (.slice Ao14 t504.length co14)) (fun _ hk => hk.2) (.int .i64 t507)) (fun _ hk => hk.2) (.int .i64 t508)) (fun _ hk => hk.2) (.int .i64 t509)) (fun _ hk => hk.2) (.slice Ao13 t510.length co13)) (fun _ hk => hk.2) (.slice none 0 0)) (fun _ hk => trivial))⟩, ⟨by first | exact Kd.S_nil _ _ _ _ _ | exact Kd.N_nil _ _ _ _ _ | exact Kd.V_nil _ _ _ _ _ | exact Kd.Q_nil _ _ _ _ _ | exact Kd.R_nil _ _ _ _ _⟩, ⟨kV K500⟩, ⟨kV K501⟩, ⟨kV K513⟩, ⟨BU HB.out⟩⟩
 case round =>
  clear H'
  obtain ⟨x4_1, x514007_1, u514007, rfl, HA, HK1, HO_514002, HO_514006, HO_514007, K500, K501, K513, HB⟩ := hrel
  cases gk with
  | zero => exact absurd HA.out (by simp [Qai.l0])
  | succ k1 =>
   have H := HA.out
   clear HA
   simp only [Qai.l0] at H
   by_cases c23 : x4_1 < (l0_7.length : Int)
   rotate_left
   ·rw [if_neg c23] at H
    have c23b0 := decide_eq_false c23
    clear c23
    simp only [Option.some.injEq, Prod.mk.injEq] at H
    obtain ⟨rfl, rfl, rfl, rfl, rfl, rfl, rfl, rfl⟩ := H
    have hnb38 := N500_501.out
    have hnc38 := N501_500.out
    have hnb39 := N500_513.out
    have hnc39 := N513_500.out
    have q40_ := cN8 K500.out
    have hnb41 := N513_501.out
    have hnc41 := N501_513.out
    have q42_ := cN8 K513.out
    have q43_ := cN8 K501.out
    obtain ⟨Ao44, co44, eo44⟩ := Kd.S_slice HO_514007.out
    subst eo44
    go_wp2
    refine bodyPost_ret (results_cell_row rfl _ _ gb501 30 #[.int .i64 t502, .int .i64 t503, .slice Ao14 t504.length co14, .int .i64 t507, .int .i64 t508, .int .i64 t509, .slice Ao13 t510.length co13, .slice Ao44 x514007_1.length co44] (0, 0) _ rfl (kV K501) Tryz.underlying30 rfl (by kernel_rfl)) rfl ?_
    exact ⟨_, _, _, by first | rfl | (simp [Qbe, Qbd] <;> rfl) | (simp [*, Qbe, Qbd] <;> rfl), by (with_reducible repeat (first | apply Kd.S_alloc | apply Kd.S_drewN | apply Kd.S_drew)); exact Kd.S_mono (Kd.S_far (p := ⟨gb501, 7, none⟩) (Kd.S_far (p := ⟨gb501, 6, none⟩) (Kd.S_far (p := ⟨gb501, 5, none⟩) (Kd.S_far (p := ⟨gb501, 4, none⟩) (Kd.S_far (p := ⟨gb501, 3, none⟩) (Kd.S_far (p := ⟨gb501, 2, none⟩) (Kd.S_far (p := ⟨gb501, 1, none⟩) (Kd.S_far (p := ⟨gb501, 0, none⟩) (Kd.S_types HO_514002.out K501.out (by decide)) (fun _ hk => hk.2) (.int .i64 t502)) (fun _ hk => hk.2) (.int .i64 t503)) (fun _ hk => hk.2) (.slice Ao14 t504.length co14)) (fun _ hk => hk.2) (.int .i64 t507)) (fun _ hk => hk.2) (.int .i64 t508)) (fun _ hk => hk.2) (.int .i64 t509)) (fun _ hk => hk.2) (.slice Ao13 t510.length co13)) (fun _ hk => hk.2) (.slice Ao44 x514007_1.length co44)) (fun _ hk => trivial), by (with_reducible repeat (first | apply Kd.S_alloc | apply Kd.S_drewN | apply Kd.S_drew)); exact Kd.S_mono (Kd.S_far (p := ⟨gb501, 7, none⟩) (Kd.S_far (p := ⟨gb501, 6, none⟩) (Kd.S_far (p := ⟨gb501, 5, none⟩) (Kd.S_far (p := ⟨gb501, 4, none⟩) (Kd.S_far (p := ⟨gb501, 3, none⟩) (Kd.S_far (p := ⟨gb501, 2, none⟩) (Kd.S_far (p := ⟨gb501, 1, none⟩) (Kd.S_far (p := ⟨gb501, 0, none⟩) (Kd.S_types HO_514006.out K501.out (by decide)) (fun _ hk => hk.2) (.int .i64 t502)) (fun _ hk => hk.2) (.int .i64 t503)) (fun _ hk => hk.2) (.slice Ao14 t504.length co14)) (fun _ hk => hk.2) (.int .i64 t507)) (fun _ hk => hk.2) (.int .i64 t508)) (fun _ hk => hk.2) (.int .i64 t509)) (fun _ hk => hk.2) (.slice Ao13 t510.length co13)) (fun _ hk => hk.2) (.slice Ao44 x514007_1.length co44)) (fun _ hk => trivial), by (with_reducible repeat (first | apply Kd.S_alloc | apply Kd.S_drewN | apply Kd.S_drew)); exact Kd.S_mono (Kd.S_far (p := ⟨gb501, 7, none⟩) (Kd.S_far (p := ⟨gb501, 6, none⟩) (Kd.S_far (p := ⟨gb501, 5, none⟩) (Kd.S_far (p := ⟨gb501, 4, none⟩) (Kd.S_far (p := ⟨gb501, 3, none⟩) (Kd.S_far (p := ⟨gb501, 2, none⟩) (Kd.S_far (p := ⟨gb501, 1, none⟩) (Kd.S_far (p := ⟨gb501, 0, none⟩) (Kd.S_types HO_514007.out K501.out (by decide)) (fun _ hk => hk.2) (.int .i64 t502)) (fun _ hk => hk.2) (.int .i64 t503)) (fun _ hk => hk.2) (.slice Ao14 t504.length co14)) (fun _ hk => hk.2) (.int .i64 t507)) (fun _ hk => hk.2) (.int .i64 t508)) (fun _ hk => hk.2) (.int .i64 t509)) (fun _ hk => hk.2) (.slice Ao13 t510.length co13)) (fun _ hk => hk.2) (.slice Ao44 x514007_1.length co44)) (fun _ hk => trivial), BU HB.out⟩
   rw [if_pos c23] at H
   have c23b0 := decide_eq_true c23
   clear c23
   obtain ⟨y514, hy514⟩ : ∃ y_ : List (S47), y_ = (([] : List (S47))) := ⟨_, rfl⟩
   replace H : (if 0 ≤ x4_1 then (if y514.length + (Qax l0_7 x4_1).length < 8796093022208 then (if x514007_1.length < 5864062014805 then (Qai.l0 k1 (wrap64 (x4_1 + 1)) a0_0 a0_1 l0_2 a0_3 a0_4 a0_5 l0_6 l0_7 t502 t503 t504 t507 t508 t509 t510 (x514007_1 ++ [(y514 ++ (Qax l0_7 x4_1))])) else (none)) else (none)) else (none)) = some (r1, r2, r3, r4, r5, r6, r7, r8) := by first | (rw [hy514]; exact H) | exact H
   have Ny514 := As0 hy514
   clear hy514
   by_cases c24 : 0 ≤ x4_1
   rotate_left
   ·rw [if_neg c24] at H
    exact absurd H (by simp)
   rw [if_pos c24] at H
   have c24b0 := decide_eq_true c24
   clear c24
   by_cases c25 : y514.length + (Qax l0_7 x4_1).length < 8796093022208
   rotate_left
   ·rw [if_neg c25] at H
    exact absurd H (by simp)
   rw [if_pos c25] at H
   have LMc25 := As0 c25
   clear c25
   obtain ⟨y518, hy518⟩ : ∃ y_ : List (S47), y_ = (y514 ++ (Qax l0_7 x4_1)) := ⟨_, rfl⟩
   replace H : (if x514007_1.length < 5864062014805 then (Qai.l0 k1 (wrap64 (x4_1 + 1)) a0_0 a0_1 l0_2 a0_3 a0_4 a0_5 l0_6 l0_7 t502 t503 t504 t507 t508 t509 t510 (x514007_1 ++ [y518])) else (none)) = some (r1, r2, r3, r4, r5, r6, r7, r8) := by first | (rw [hy518]; exact H) | exact H
   have Ny518 := As0 hy518
   clear hy518
   by_cases c26 : x514007_1.length < 5864062014805
   rotate_left
   ·rw [if_neg c26] at H
    exact absurd H (by simp)
   rw [if_pos c26] at H
   have LMc26 := As0 c26
   clear c26
   obtain ⟨y521, hy521⟩ : ∃ y_ : List (List (S47)), y_ = (x514007_1 ++ [y518]) := ⟨_, rfl⟩
   replace H : (Qai.l0 k1 (wrap64 (x4_1 + 1)) a0_0 a0_1 l0_2 a0_3 a0_4 a0_5 l0_6 l0_7 t502 t503 t504 t507 t508 t509 t510 y521) = some (r1, r2, r3, r4, r5, r6, r7, r8) := by first | (rw [hy521]; exact H) | exact H
   have Ny521 := As0 hy521
   clear hy521
   have H' := As0 H
   clear H
   have hnb27 := N500_501.out
   have hnc27 := N501_500.out
   have hnb28 := N500_513.out
   have hnc28 := N513_500.out
   have q29_ := cN8 K500.out
   try go_wp2
   replace HO_514002 := As0 (Kd.S_drew HO_514002.out)
   replace HO_514006 := As0 (Kd.S_drew HO_514006.out)
   replace HO_514007 := As0 (Kd.S_drew HO_514007.out)
   replace K500 := As0 (Qbr K500.out)
   replace K501 := As0 (Qbr K501.out)
   replace K513 := As0 (Qbr K513.out)
   replace HB := As0 (bd1 HB.out)
   have p517 : 0 ≤ (x4_1 : Int) := qR
   have q517 : x4_1 < (l0_7.length : Int) := qR
   obtain ⟨ad517, A517_0, c517_0, e517, hx517_0, hl517_0, hi517_0⟩ := Qek R0_7.out x4_1 p517 q517
   have hw517_0 := hx517_0
   cases e517
   replace hx517_0 := cl HB hx517_0
   have R517_0 := As0 hi517_0
   have C517_0 := As0 hl517_0
   clear hi517_0 hl517_0
   replace p517 := eq_true p517
   replace q517 := eq_true q517
   refine Qcb (n := 13) (S := fun w' => w'.cell? ⟨gb513, 0, none⟩ = some (.int .i64 t502) ∧ w'.cell? ⟨gb513, 1, none⟩ = some (.int .i64 t503) ∧ w'.cell? ⟨gb513, 2, none⟩ = some (.slice Ao14 t504.length co14) ∧ w'.cell? ⟨gb513, 3, none⟩ = some (.int .i64 t507) ∧ w'.cell? ⟨gb513, 4, none⟩ = some (.int .i64 t508) ∧ w'.cell? ⟨gb513, 5, none⟩ = some (.int .i64 t509) ∧ w'.cell? ⟨gb513, 6, none⟩ = some (.slice Ao13 t510.length co13) ∧ w'.cell? ⟨gb513, 7, none⟩ = some (u514007) ∧ w'.cell? ⟨gb500, 0, none⟩ = some (.int .i64 a0_0) ∧ w'.cell? ⟨gb500, 1, none⟩ = some (.int .i64 a0_1) ∧ w'.cell? ⟨gb500, 2, none⟩ = some (.slice A0_2 l0_2.length c0_2) ∧ w'.cell? ⟨gb500, 3, none⟩ = some (.int .i64 a0_3) ∧ w'.cell? ⟨gb500, 4, none⟩ = some (.int .i64 a0_4) ∧ w'.cell? ⟨gb500, 5, none⟩ = some (.int .i64 a0_5) ∧ w'.cell? ⟨gb500, 6, none⟩ = some (.slice A0_6 l0_6.length c0_6) ∧ w'.cell? ⟨gb500, 7, none⟩ = some (.slice (some ad517) l0_7.length c0_7) ∧ w'.cell? (ad517.add (x4_1).toNat) = some (.slice A517_0 (Qax l0_7 x4_1).length c517_0)) (ds := [12]) (bb 13 0) (by kernel_rfl) rfl rfl ⟨bc K513 0, bc K513 1, bc K513 2, bc K513 3, bc K513 4, bc K513 5, bc K513 6, bc K513 7, bc K500 0, bc K500 1, bc K500 2, bc K500 3, bc K500 4, bc K500 5, bc K500 6, bc K500 7, (cl HB hw517_0)⟩ (fun hHeld => ?_); refine Qca Qai.tab5 Qai.bits5 (fun HT_ HW_ => ?_)
   generalize wr.drew = w30 at HO_514002 HO_514006 HO_514007 K500 K501 K513 HB R517_0 hx517_0 hHeld ⊢
   refine pv HT_.out 0 19 (bb 13 1) ?_
   refine pv HT_.out 3 22 (bb 13 9) ?_
   refine pv HT_.out 5 24 (bb 13 41) ?_
   refine tv hHeld HT_.out HW_.out 1 20 (bb 13 43) ?_
   refine tv hHeld HT_.out HW_.out 4 23 (bb 13 59) ?_
   refine pv HT_.out 6 25 (bb 13 123) ?_
   refine tv hHeld HT_.out HW_.out 7 26 (bb 13 251) ?_
   refine one_ (i := 2) (N := some 21) (bb 13 255) rfl rfl (Qcd HT_.out (by kernel_rfl)) (by decide) (fun K hK => ?_)
   refine Kd.R_lit_step k47 _ 47 ?hg (N := 21) ?hd (xs := ([] : List (S47))) (inner := []) (ok := fun _ => True) (okp := fun _ => True) ?hr ?hp (fun _ hk => hk) trivial (Below.refl _ _) (Nat.le_refl _) (by simp) ?_; (case hd => rfl); (case hg => rfl); (case hr => first | (go_simp; done) | (go_simp; rfl)); (case hp => exact (Reps.none _ _))
   intro v515 w31 ho32 hb hg_ hnew_
   clear hg_ hnew_
   (first | rw [← Ny514.out] at ho32 | (simp only [Int.reduceToNat] at ho32; rw [← Ny514.out] at ho32))
   replace HO_514002 := As0 (Kd.S_below (SU HO_514002.out) hb)
   replace HO_514006 := As0 (Kd.S_below (SU HO_514006.out) hb)
   replace HO_514007 := As0 (Kd.S_elder' (SU HO_514007.out) (Kd.R_base ho32) hb)
   have O516 := As0 (Kd.R_lower ho32 (Qbm (BU HB.out)))
   replace K500 := kB K500 hb
   replace K501 := kB K501 hb
   replace K513 := kB K513 hb
   replace HB := sB HB hb
   clear hb ho32
   refine hK.out _ _ ⟨bc K513 0, bc K513 1, bc K513 2, bc K513 3, bc K513 4, bc K513 5, bc K513 6, bc K513 7, bc K500 0, bc K500 1, bc K500 2, bc K500 3, bc K500 4, bc K500 5, bc K500 6, bc K500 7, (cl HB hw517_0)⟩ (fun hHeld => ?_)
   clear hK K
   refine Qb1 (a' := ?_) ?_ ?_
   rotate_left
   ·show Act.put _ (some 21) _ = _
    simp only [Act.put, sL1, sL2, sL3, Qbu, Qbv]
    rfl
   refine one_ (i := 8) (N := some 27) (bb 13 511) rfl rfl (Qcd HT_.out (by kernel_rfl)) (by decide) (fun K hK => ?_)
   refine Kd.R_append_rows_step k47 (w0 := w) w.heap.size (by rfl) (.tmp 21) (.tmp 26) 44 47 (.agg #[(.int .i64 0), (.int .i64 0)]) 16 rfl Tryz.underlying44 Qc5 rfl (by decide) (by omega) v515 y514 (Qax l0_7 x4_1) _ _ _ (fun _ => True) (fun _ => False) rfl rfl ?aO ?aR (fun _ _ h => h) (fun _ h => h.elim) ?aF ?aB ?aS ?aL ?_
   (case aR => exact CU (Kd.C_below R517_0.out HB.out))
   (case aB => exact (BU HB.out))
   (case aF => exact (fun _ _ => trivial))
   (case aO => exact (RU O516.out))
   (case aS => exact (Qbm (BU HB.out)))
   (case aL => have := LMc25.out; omega)
   intro v519 w33 ho hb hg hat
   rw [← Ny518.out] at ho
   replace HO_514002 := As0 (Kd.S_over' (SU HO_514002.out) (Kd.R_typed (RU O516.out)) (by decide) hg)
   replace HO_514006 := As0 (Kd.S_over' (SU HO_514006.out) (Kd.R_typed (RU O516.out)) (by decide) hg)
   replace HO_514007 := As0 (Kd.S_after (ok := (fun _ => True)) (SU HO_514007.out) hg hat)
   replace K500 := As0 (Qbx (bU K500.out) hg (Kd.R_ne O516.out K500.out (by decide)))
   replace K501 := As0 (Qbx (bU K501.out) hg (Kd.R_ne O516.out K501.out (by decide)))
   replace K513 := As0 (Qbx (bU K513.out) hg (Kd.R_ne O516.out K513.out (by decide)))
   replace HB := As0 (hb)
   have O520 := As0 (ho)
   clear O516 ho hb hg hat
   obtain ⟨Ao35, co35, eo35⟩ := Kd.R_slice O520.out
   (first | subst eo35 | (injection eo35 with f1_ f2_ f3_; have f4_ := f1_.symm; have f5_ := f3_.symm; clear f1_ f2_ f3_; subst f4_; subst f5_))
   refine hK.out _ _ ⟨bc K513 0, bc K513 1, bc K513 2, bc K513 3, bc K513 4, bc K513 5, bc K513 6, bc K513 7, bc K500 0, bc K500 1, bc K500 2, bc K500 3, bc K500 4, bc K500 5, bc K500 6, bc K500 7, (cl HB hw517_0)⟩ (fun hHeld => ?_)
   clear hK K
   refine Qb1 (a' := ?_) ?_ ?_
   rotate_left
   ·show Act.put _ (some 27) _ = _
    simp only [Act.put, sL1, sL2, sL3, Qbu, Qbv]
    rfl
   refine one_ (i := 9) (N := some 28) (bb 13 1023) rfl rfl (Qcd HT_.out (by kernel_rfl)) (by decide) (fun K hK => ?_)
   refine value_ (w1 := ?_) (v := ?_) (by rfl) rfl ?_ ?_
   rotate_left 2
   ·go_simp
    constructor
    ·rfl
    ·rfl
   refine hK.out _ _ ⟨(Qbn (Qbw K513.out _) 0).trans rfl, (Qbn (Qbw K513.out _) 1).trans rfl, (Qbn (Qbw K513.out _) 2).trans rfl, (Qbn (Qbw K513.out _) 3).trans rfl, (Qbn (Qbw K513.out _) 4).trans rfl, (Qbn (Qbw K513.out _) 5).trans rfl, (Qbn (Qbw K513.out _) 6).trans rfl, (Qbn (Qbw K513.out _) 7).trans rfl, (Qbn (Qbw K500.out _) 0).trans rfl, (Qbn (Qbw K500.out _) 1).trans rfl, (Qbn (Qbw K500.out _) 2).trans rfl, (Qbn (Qbw K500.out _) 3).trans rfl, (Qbn (Qbw K500.out _) 4).trans rfl, (Qbn (Qbw K500.out _) 5).trans rfl, (Qbn (Qbw K500.out _) 6).trans rfl, (Qbn (Qbw K500.out _) 7).trans rfl, (World.cell?_alloc_lt _ _ _ (World.block_lt_of_cell? _ _ ((cl HB hw517_0)))).trans ((cl HB hw517_0))⟩ (fun hHeld => ?_)
   clear hK K
   refine Qb1 (a' := ?_) ?_ ?_
   rotate_left
   ·show Act.put _ (some 28) _ = _
    simp only [Act.put, sL1, sL2, sL3, Qbu, Qbv]
    rfl
   refine one_ (i := 10) (N := some 29) (bb 13 2047) rfl rfl (Qcd HT_.out (by kernel_rfl)) (by decide) (fun K hK => ?_)
   refine Kd.S_append_step (Kd.slice 47 k47) (w0 := w) w.heap.size (by rfl) (.tmp 20) (.tmp 28) 28 44 (.slice none 0 0) 24 rfl Tryz.underlying28 info44 rfl (by decide) (by omega) u514007 x514007_1 y518 [.slice Ao35 y518.length co35] (fun _ => True) (fun k_ => some k_ = (.slice Ao35 y518.length co35 : Value).ownBlock) rfl rfl ?aP (fun k_ hk_ => ((Kd.R_mono (ok' := fun k_ => ((fun _ => True)) k_ ∧ some k_ ≠ (u514007 : Value).ownBlock) (Kd.R_apart' (O520.out) (Kd.S_typed HO_514007.out) (by decide)) (fun k_ hk => ⟨trivial, hk.2⟩))).1 k_ hk_.symm) ?aF ?aO ?aB ?aS ?aL ?_
   (case aP => exact Kd.M_row (Kd.R_mono (Kd.R_tight rfl (Kd.R_mono (ok' := fun k_ => ((fun _ => True)) k_ ∧ some k_ ≠ (u514007 : Value).ownBlock) (Kd.R_apart' (O520.out) (Kd.S_typed HO_514007.out) (by decide)) (fun k_ hk => ⟨trivial, hk.2⟩))) (fun _ h_ => h_)))
   (case aB => exact (BU HB.out))
   (case aF => exact (fun _ _ => trivial))
   (case aO => exact (SU (Kd.S_mono HO_514007.out (fun k_ hk => ⟨trivial, fun e_ => hk.2 e_⟩))))
   (case aS => exact (Qbm (BU HB.out)))
   (case aL => have := LMc26.out; omega)
   intro v522 w34 ho hb hg hat
   rw [← Ny521.out] at ho
   replace HO_514002 := As0 (Kd.S_over' (SU HO_514002.out) (Kd.S_typed (SU HO_514007.out)) (by decide) hg)
   replace HO_514006 := As0 (Kd.S_over' (SU HO_514006.out) (Kd.S_typed (SU HO_514007.out)) (by decide) hg)
   replace K500 := As0 (Qbx (bU K500.out) hg (Kd.S_ne HO_514007.out K500.out (by decide)))
   replace K501 := As0 (Qbx (bU K501.out) hg (Kd.S_ne HO_514007.out K501.out (by decide)))
   replace K513 := As0 (Qbx (bU K513.out) hg (Kd.S_ne HO_514007.out K513.out (by decide)))
   replace HB := As0 (hb)
   have O523 := As0 (ho)
   clear HO_514007 O520 ho hb hg hat
   obtain ⟨Ao36, co36, eo36⟩ := Kd.S_slice O523.out
   (first | subst eo36 | (injection eo36 with f1_ f2_ f3_; have f4_ := f1_.symm; have f5_ := f3_.symm; clear f1_ f2_ f3_; subst f4_; subst f5_))
   refine hK.out _ _ ⟨bc K513 0, bc K513 1, bc K513 2, bc K513 3, bc K513 4, bc K513 5, bc K513 6, bc K513 7, bc K500 0, bc K500 1, bc K500 2, bc K500 3, bc K500 4, bc K500 5, bc K500 6, bc K500 7, (cl HB hw517_0)⟩ (fun hHeld => ?_)
   clear hK K
   refine Qb1 (a' := ?_) ?_ ?_
   rotate_left
   ·show Act.put _ (some 29) _ = _
    simp only [Act.put, sL1, sL2, sL3, Qbu, Qbv]
    rfl
   refine pv HT_.out 11 30 (bb 13 4095) ?_
   refine Qdu (i := 12) (N := none) (bb 13 8191) rfl rfl (Qcd HT_.out (by kernel_rfl)) (by decide) (fun K hK => ?_)
   have hs37 : w34.cell? ⟨gb513, 7, none⟩ = some (u514007) := bc K513 7
   have hfs37 := Qbp K513.out 7
   have hns37_0 := N500_513.out
   have hns37_1 := N501_513.out
   have hms37_0 := N513_500.out
   have hms37_1 := N513_501.out
   refine skip_ (w1 := ?_) (by rfl) rfl ?_ ?_
   rotate_left
   ·go_simp
    rfl
   refine hK.out _ _ ?_
   clear hK K
   refine Qcy (Qco HT_.out (by kernel_rfl)) ?_
   try go_wp2
   go_roundg k1
   case measure => have := HK1.out; omega
   case rel => exact ⟨(wrap64 (x4_1 + 1)), (y521), (.slice Ao36 y521.length co36), eR, H', ⟨by have := HK1.out; omega⟩, ⟨SU (Kd.S_mono (Kd.S_far (p := ⟨gb513, 7, none⟩) (Kd.S_types HO_514002.out K513.out (by decide)) (fun _ hk => hk.2) (.slice Ao36 y521.length co36)) (fun _ hk => trivial))⟩, ⟨SU (Kd.S_mono (Kd.S_far (p := ⟨gb513, 7, none⟩) (Kd.S_types HO_514006.out K513.out (by decide)) (fun _ hk => hk.2) (.slice Ao36 y521.length co36)) (fun _ hk => trivial))⟩, ⟨SU (Kd.S_mono (Kd.S_far (p := ⟨gb513, 7, none⟩) (Kd.S_types O523.out K513.out (by decide)) (fun _ hk => hk.2) (.slice Ao36 y521.length co36)) (fun _ hk => trivial))⟩, ⟨kV K500⟩, ⟨kV K501⟩, ⟨kV K513⟩, ⟨BU HB.out⟩⟩
end Go.Proofs.YtchpkjgibloleaaGreat.Z
namespace Go.Proofs.YtchpkjgibloleaaGreat.Z
set_option maxRecDepth 100000
set_option maxHeartbeats 8000000
open Go.RowKit Go.Proofs.YtchpkjgibloleaaGreatW.PrintWords Go.Proofs.YtchpkjgibloleaaGreatW.PrintLast Go.Proofs.YtchpkjgibloleaaGreatW.PrintMore
section
variable {P : Program} {ops : Array Oper} {rest : List Oper} {o : Oper} {a : Act} {Q : Exit → Act → World → Prop}
theorem Qau {w : World} (hgd : o.guard = none) (hN : o.dst = none) (ty : TypeId) (x y : Operand) (ho : o.op = .store ty x y)
    (g : Nat) (cells : Array Value) (hx : a.eval x = .pointer (some ⟨g, 0, none⟩)) (hy : a.eval y = .agg cells)
    (t : TypeId) (old : Array Value) (hg : w.heap[g]? = some (.cells old t (0, 0))) (hi : (P.info? ty).map (·.size) = some cells.size)
    (hold : old.size = cells.size) (h1 : cells.all (·.oneCell') = true)
    (h : ∀ w1 : World, w1.heap[g]? = some (.cells cells t (0, 0)) → (∀ i, i ≠ g → w1.heap[i]? = w.heap[i]?) → (∀ B w0, B ≤ g → Below B w0 w → Below B w0 w1) → wpList P ops Q rest a w1) : wpList P ops Q (o :: rest) a w := by
 refine wpList_store_row hgd ty x y ho g cells hx hy t old hg hi hold h1 ?_
 rw [hN]
 exact h _ (setRow_heap w g old cells t (0, 0) hg) (fun i hi => setRow_other w g i cells hi) (fun B w0 hb hB => below_setRow hB hb cells)
end
section
variable {P : Program} {α : Type} {o : Oper} {a : Act} {ops : Array Oper} {rest : List Oper} {Q : Exit → Act → World → Prop}
theorem Kd.R_make0 (d : Kd α) {w0 W : World} (base e : Nat) (hgd : o.guard = none) {N : Tmp} (hd : o.dst = some N) (t : TypeId) (x y : Operand) (ho : o.op = .makeSlice t x y) (n : Int) (hx : a.eval x = .int .i64 0) (hy : a.eval y = .int .i64 n)
    (ht : P.underlying t = some (.slice e)) (z : Value) (bytes : Nat) (hinfo : (P.info? e).map (fun i => (i.zero, i.size, i.bytes)) = some (some z, d.sz, bytes)) (hz : z.cells.size = d.sz) (hs0 : 0 < d.sz) (hb0 : 0 < bytes)
    (z0 : α) {ok okp : Nat → Prop} (hzero : d.M W base okp z0 z.cells.toList) (hok : ∀ k, okp k → ok k) (hfresh : ok W.heap.size) (h0 : 0 ≤ n) (hl : n.toNat * bytes ≤ 281474976710656) (HB : Below base w0 W) (hbase : base ≤ W.heap.size)
    (h : ∀ v1 w1, d.R e w1 base ok v1 [] → Below base w0 w1 → W.grownBy w1 none → (∃ b, v1.ownBlock = some b ∧ W.heap.size ≤ b) → wpList P ops Q rest (a.put o.dst v1) w1) : wpList P ops Q (o :: rest) a W := by
 obtain ⟨m, rfl⟩ := Int.eq_ofNat_of_zero_le h0
 simp only [Int.toNat_natCast] at hl
 obtain ⟨i0, hi, hzz⟩ := Option.map_eq_some_iff.1 hinfo
 simp only [Prod.mk.injEq] at hzz
 obtain ⟨hz0, hz1, hz2⟩ := hzz
 have hm : m ≤ 281474976710656 := Nat.le_trans (Nat.le_mul_of_pos_right _ hb0) hl
 obtain ⟨w', hr, hown, hgr⟩ := run_make_own (P := P) W base t e i0 z d.sz ht hi hz0 hz1 .i64 .i64 m (by rw [hz2, Nat.mul_comm]; exact hl) (by simp [maxLen]; omega) hbase
 have hr0 := hr
 have hr1 := run_make (P := P) W t e i0 z ht hi hz0 .i64 .i64 0 (m : Int) (by omega) (by omega) (by
     have h3 : ((i0.bytes * m : Nat) : Int) ≤ 281474976710656 := by rw [hz2, Nat.mul_comm]; omega
     rwa [Int.natCast_mul] at h3) (by omega)
 have he : w' = W.alloc (.cells (madeCells z.cells ((m : Int).toNat * i0.size)) e) := by
  rw [hr] at hr1
  simpa using hr1
 subst he
 have hrun : (execOp a.eval o).run P W = .ok (.value (.slice (some ⟨W.heap.size, 0, none⟩) 0 m)) (W.alloc (.cells (madeCells z.cells ((m : Int).toNat * i0.size)) e)) := by simp [execOp, ho, hx, hy, hr0]
 refine Kd.event_run hgd hrun (h _ _ ⟨fun k hk => ?_, [], ?_, ?_⟩ (HB.alloc hbase _) hgr ⟨W.heap.size, by simp [Value.ownBlock], Nat.le_refl _⟩)
 ·have : W.heap.size = k := by simpa [Value.ownBlock] using hk
  subst this
  exact hfresh
 ·simpa using hown
 ·exact Reps.none _ _
end
end Go.Proofs.YtchpkjgibloleaaGreat.Z
namespace Go.Proofs.YtchpkjgibloleaaGreat.Z
set_option maxRecDepth 100000
set_option maxHeartbeats 8000000
open Go.RowKit Go.Proofs.YtchpkjgibloleaaGreatW.PrintWords Go.Proofs.YtchpkjgibloleaaGreatW.PrintLast Go.Proofs.YtchpkjgibloleaaGreatW.PrintMore
attribute [local go_sem] Qb3 Qb8
theorem dropV1 (v p0 p1 : Int) (g : Nat) (W : World) (hg : W.heap[g]? = some (.cells #[.int .i64 v] 3 (0, 0))) :
    Calls Tryz.prog 206 #[.agg #[.int .i64 p0, .int .i64 p1], .pointer (some ⟨g, 0, none⟩)] W fun e w' => e = .returned (.bool (p0 != v)) ∧ Below W.heap.size W w' := by
 have hu47 := Tryz.underlying47
 have HG := As0 hg
 clear hg
 have HB := As0 (Below.refl W.heap.size W)
 go_enter Tryz.func206, Tryz.ntmps206
 go_wp2_with ((with_reducible refine gD 2 ?_); refine bX ?_; intro gb hg w1 hbox hb; have X := As0 hbox; replace HB := sB HB hb; replace HG := As0 (Qbl HG.out hb); (obtain ⟨z0, z1, y0, y1⟩ := cN2 X.out); have c0 := (Qbn HG.out 0).trans rfl; have f0 := Qbp HG.out 0; clear hb hbox hg)
 go_ret
 exact ⟨by first | rfl | simp, BU HB.out⟩
theorem dropL1 (v p0 p1 : Int) (g : Nat) (W : World) (hg : W.heap[g]? = some (.cells #[.int .i64 v] 45 (0, 0))) :
    Calls Tryz.prog 207 #[.agg #[.int .i64 p0, .int .i64 p1], .pointer (some ⟨g, 0, none⟩)] W fun e w' => e = .returned (.bool (p1 != v)) ∧ Below W.heap.size W w' := by
 have hu47 := Tryz.underlying47
 have HG := As0 hg
 clear hg
 have HB := As0 (Below.refl W.heap.size W)
 go_enter Tryz.func207, Tryz.ntmps207
 go_wp2_with ((with_reducible refine gD 2 ?_); refine bX ?_; intro gb hg w1 hbox hb; have X := As0 hbox; replace HB := sB HB hb; replace HG := As0 (Qbl HG.out hb); (obtain ⟨z0, z1, y0, y1⟩ := cN2 X.out); have c0 := (Qbn HG.out 0).trans rfl; have f0 := Qbp HG.out 0; clear hb hbox hg)
 go_ret
 exact ⟨by first | rfl | simp, BU HB.out⟩
theorem filter_calls (K : S47 → Bool) (fv : Nat) (cap : Array Value) (A : Option Addr) (c : Nat) (l : List S47) (w : World) (hr : Kd.C k47 w A l.length l) (hc : l.length ≤ c) (hl : l.length < 8796093022208)
    (eg : ∀ args w, (callFunc fv args).run Tryz.prog w = .ok (.enter fv args) w)
    (hK : ∀ W, Below w.heap.size w W → ∀ p : S47, Calls Tryz.prog fv (#[.agg #[.int .i64 p.f0, .int .i64 p.f1]] ++ cap) W fun e w' => e = .returned (.bool (K p)) ∧ Below W.heap.size W w') :
    Calls Tryz.prog 205 #[.slice A l.length c, .func (.func fv) #[] cap] w fun e w' => ∃ v, e = .returned v ∧ Kd.R k47 47 w' w.heap.size (fun _ => True) v (l.filter K) ∧ Below w.heap.size w w' := by
 have hu47 := Tryz.underlying47
 have hu44 := Tryz.underlying44
 have HR := As0 hr
 have HC := As0 hc
 have HL := As0 hl
 have HK := As0 hK
 clear hr hc hl hK
 have HB := As0 (Below.refl w.heap.size w)
 go_enter Tryz.func205, Tryz.ntmps205
 go_wp2_with ((with_reducible refine gD 10 ?_); (try (refine Qcm (by rfl) ?_; dsimp only)); refine Kd.R_make0 k47 _ 47 rfl (N := 10) rfl 44 _ _ rfl (l.length : Int) rfl rfl Tryz.underlying44 (.agg #[(.int .i64 0), (.int .i64 0)]) 16 Qc5 rfl (by decide) (by omega) z47 (ok := fun _ => True) (okp := fun _ => True) (Qef _ _ _ z47) (fun _ hk => hk) trivial (Int.natCast_nonneg _) (by have := HL.out; simp only [Int.toNat_natCast]; omega) (Below.refl _ _) (Nat.le_refl _) ?_; intro v0 w1 ho hb _h1 _h2; have HO := As0 ho; replace HB := As0 hb; clear ho hb _h1 _h2)
 go_loopg [5, 13] (l.length + 1) (fun g v5 v13 w' => ∃ i : Nat, v13 = .int .i64 (i : Int) ∧ Qbk (i ≤ l.length ∧ l.length - i < g) ∧ Qbk (Kd.R k47 47 w' w.heap.size (fun _ => True) v5 ((l.take i).filter K)) ∧ Qbk (Below w.heap.size w w'))
 case atStart => exact ⟨0, rfl, ⟨by omega, by omega⟩, ⟨RU HO.out⟩, ⟨BU HB.out⟩⟩
 case round =>
  clear HO HB
  obtain ⟨i, rfl, HI, HO, HB⟩ := hrel
  by_cases hi : i < l.length
  ·have hlt : (i : Int) < (l.length : Int) := by omega
   have h0 : (0 : Int) ≤ (i : Int) := by omega
   obtain ⟨ad, e, hx0, hx1⟩ := Qcs HR.out i h0 hlt
   cases e
   replace hx0 := cl HB hx0
   replace hx1 := cl HB hx1
   have hw : wrap64 ((i : Int) + 1) = ((i + 1 : Nat) : Int) := by have := HL.out; unfold wrap64; omega
   have hp : Qaa l (i : Int) = l[i] := by simp [Qaa, List.getD_eq_getElem?_getD, hi]
   rw [hp] at hx0 hx1
   simp only [Int.toNat_natCast] at hx0 hx1
   have htk : l.take (i + 1) = l.take i ++ [l[i]] := by simp [List.take_append_getElem, hi]
   generalize l[i] = p at hx0 hx1 htk
   clear hp
   have HT := As0 htk
   clear htk
   cases hq : K p with
   | true =>
    go_wp2_with (first
     | ((with_reducible refine gD 7 ?_); refine bX ?_; intro gb hg w2 hbox hb; have X := As0 hbox; have GE := As0 (by rw [hg]; exact Qbm (BU HB.out) : w.heap.size ≤ gb); have GB := As0 hg; replace HO := As0 (Kd.R_mono (Kd.R_below (Kd.R_elderB (RU HO.out) gb (Nat.le_of_eq hg.symm)) hb) (fun _ hk => hk.2) : Kd.R k47 47 w2 w.heap.size (fun k_ => k_ ≠ gb) u5 ((l.take i).filter K)); replace HB := sB HB hb; clear hb hbox hg)
     | ((with_reducible refine Qdb (.store 47 (.tmp 7) (.tmp 16)) rfl ?_); go_loud (refine Qau rfl rfl 47 _ _ rfl gb #[.int .i64 p.f0, .int .i64 p.f1] rfl rfl 47 #[.int .i64 0, .int .i64 0] X.out (by kernel_rfl) rfl (by kernel_rfl) ?_); intro w3 hg ho hB; replace HO := As0 (Kd.R_step (RU HO.out) (fun k hk _ => ho k hk)); replace X := As0 hg; replace HB := As0 (hB _ _ GE.out HB.out); (obtain ⟨z0, z1, y0, y1⟩ := cN2 X.out); clear hg ho hB)
     | (go_at_fn fv; refine (HK.out _ (BU HB.out) p).mono ?_; rintro e w4 ⟨rfl, hb⟩; rw [hq]; clear z0 z1 y0 y1; replace HO := As0 (Kd.R_below (RU HO.out) hb); replace X := kB X hb; replace HB := sB HB hb; (obtain ⟨z0, z1, y0, y1⟩ := cN2 X.out); clear hb)
     | ((with_reducible refine Qce (b := .append) (xs := #[.tmp 20, .tmp 22]) rfl ?_); (try (refine Qcm (by rfl) ?_; dsimp only)); at_builtin; refine Kd.R_append k47 (w0 := w) w.heap.size rfl (.tmp 20) (.tmp 22) 44 47 (.agg #[(.int .i64 0), (.int .i64 0)]) 16 rfl Tryz.underlying44 Qc5 rfl (by decide) (by omega) u5 ((l.take i).filter K) p [.int .i64 p.f0, .int .i64 p.f1] (fun k_ => k_ ≠ gb) (fun _ => False) rfl rfl (Qef _ _ _ p) (fun _ hk => hk.elim) ?aF (RU HO.out) (BU HB.out) (Qbm (BU HB.out)) ?aL ?_; (case aF => exact (fun k_ hk => Kd.freshB (g := gb) (bU X.out) k_ hk)); (case aL => have := HL.out; have := List.length_filter_le K (l.take i); have := List.length_take_le i l; omega); intro v5 w5 ho hb hg hat; replace HO := As0 ho; replace HB := As0 hb; clear ho hb hg hat))
    go_roundg (l.length - i)
    case measure => have := HI.out; omega
    case rel => exact ⟨i + 1, by rw [hw], ⟨by omega, by omega⟩, ⟨by rw [HT.out, List.filter_append, List.filter_cons_of_pos (by exact hq)]; exact Kd.R_mono (RU HO.out) (fun _ _ => trivial)⟩, ⟨BU HB.out⟩⟩
   | false =>
    go_wp2_with (first
     | ((with_reducible refine gD 7 ?_); refine bX ?_; intro gb hg w2 hbox hb; have X := As0 hbox; have GE := As0 (by rw [hg]; exact Qbm (BU HB.out) : w.heap.size ≤ gb); have GB := As0 hg; replace HO := As0 (Kd.R_mono (Kd.R_below (Kd.R_elderB (RU HO.out) gb (Nat.le_of_eq hg.symm)) hb) (fun _ hk => hk.2) : Kd.R k47 47 w2 w.heap.size (fun k_ => k_ ≠ gb) u5 ((l.take i).filter K)); replace HB := sB HB hb; clear hb hbox hg)
     | ((with_reducible refine Qdb (.store 47 (.tmp 7) (.tmp 16)) rfl ?_); go_loud (refine Qau rfl rfl 47 _ _ rfl gb #[.int .i64 p.f0, .int .i64 p.f1] rfl rfl 47 #[.int .i64 0, .int .i64 0] X.out (by kernel_rfl) rfl (by kernel_rfl) ?_); intro w3 hg ho hB; replace HO := As0 (Kd.R_step (RU HO.out) (fun k hk _ => ho k hk)); replace X := As0 hg; replace HB := As0 (hB _ _ GE.out HB.out); (obtain ⟨z0, z1, y0, y1⟩ := cN2 X.out); clear hg ho hB)
     | (go_at_fn fv; refine (HK.out _ (BU HB.out) p).mono ?_; rintro e w4 ⟨rfl, hb⟩; rw [hq]; clear z0 z1 y0 y1; replace HO := As0 (Kd.R_below (RU HO.out) hb); replace X := kB X hb; replace HB := sB HB hb; (obtain ⟨z0, z1, y0, y1⟩ := cN2 X.out); clear hb))
    go_roundg (l.length - i)
    case measure => have := HI.out; omega
    case rel => exact ⟨i + 1, by rw [hw], ⟨by omega, by omega⟩, ⟨by rw [HT.out, List.filter_append, List.filter_cons_of_neg (by rw [hq]; decide), List.filter_nil, List.append_nil]; exact Kd.R_mono (RU HO.out) (fun _ _ => trivial)⟩, ⟨BU HB.out⟩⟩
  ·have hi' : i = l.length := by have := HI.out.1; omega
   subst hi'
   go_wp2
   go_ret
   refine ⟨_, rfl, ?_, BU HB.out⟩
   have := HO.out
   rw [List.take_length] at this
   exact RU this
theorem dropV_calls (A : Option Addr) (c : Nat) (l : List S47) (v : Int) (w : World) (hr : Kd.C k47 w A l.length l) (hc : l.length ≤ c) (hl : l.length < 8796093022208) :
    Calls Tryz.prog 185 #[.slice A l.length c, .int .i64 v] w fun e w' => ∃ u, e = .returned u ∧ Kd.R k47 47 w' w.heap.size (fun _ => True) u (l.filter fun p => p.f0 != v) ∧ Below w.heap.size w w' := by
 have hu47 := Tryz.underlying47
 have hu44 := Tryz.underlying44
 have HR := As0 hr
 clear hr
 have HB := As0 (Below.refl w.heap.size w)
 have hmf : ∀ (fn : Fn) (first cap : Array Value) (w : World), (Instr.makeFunc fn first cap).run Tryz.prog w = .ok (.func fn first cap) w := fun _ _ _ _ => rfl
 go_enter Tryz.func185, Tryz.ntmps185
 go_wp2_with (first
  | ((with_reducible refine gD 3 ?_); refine bX ?_; intro gb hg w1 hbox hb; have X := As0 hbox; replace HB := sB HB hb; replace HR := As0 (Kd.C_below HR.out hb); clear hb hbox hg)
  | (go_at_call 205; refine (filter_calls (fun p => p.f0 != v) 206 #[.pointer (some ⟨gb, 0, none⟩)] A c l _ HR.out hc hl (enters_of Tryz.func206 (by kernel_rfl) rfl) (fun W hW p => dropV1 v p.f0 p.f1 gb W (Qbl X.out hW))).mono ?_; rintro e w2 ⟨u, rfl, hu, hb⟩; have HO := As0 (Kd.R_lower hu (Qbm (BU HB.out))); replace HB := sB HB hb; clear hb hu))
 go_ret
 exact ⟨u, rfl, RU HO.out, BU HB.out⟩
theorem dropL_calls (A : Option Addr) (c : Nat) (l : List S47) (v : Int) (w : World) (hr : Kd.C k47 w A l.length l) (hc : l.length ≤ c) (hl : l.length < 8796093022208) :
    Calls Tryz.prog 187 #[.slice A l.length c, .int .i64 v] w fun e w' => ∃ u, e = .returned u ∧ Kd.R k47 47 w' w.heap.size (fun _ => True) u (l.filter fun p => p.f1 != v) ∧ Below w.heap.size w w' := by
 have hu47 := Tryz.underlying47
 have hu44 := Tryz.underlying44
 have HR := As0 hr
 clear hr
 have HB := As0 (Below.refl w.heap.size w)
 have hmf : ∀ (fn : Fn) (first cap : Array Value) (w : World), (Instr.makeFunc fn first cap).run Tryz.prog w = .ok (.func fn first cap) w := fun _ _ _ _ => rfl
 go_enter Tryz.func187, Tryz.ntmps187
 go_wp2_with (first
  | ((with_reducible refine gD 3 ?_); refine bX ?_; intro gb hg w1 hbox hb; have X := As0 hbox; replace HB := sB HB hb; replace HR := As0 (Kd.C_below HR.out hb); clear hb hbox hg)
  | (go_at_call 205; refine (filter_calls (fun p => p.f1 != v) 207 #[.pointer (some ⟨gb, 0, none⟩)] A c l _ HR.out hc hl (enters_of Tryz.func207 (by kernel_rfl) rfl) (fun W hW p => dropL1 v p.f0 p.f1 gb W (Qbl X.out hW))).mono ?_; rintro e w2 ⟨u, rfl, hu, hb⟩; have HO := As0 (Kd.R_lower hu (Qbm (BU HB.out))); replace HB := sB HB hb; clear hb hu))
 go_ret
 exact ⟨u, rfl, RU HO.out, BU HB.out⟩
attribute [local go_sem high] eqA47
def Qa8.f (a0_0 a0_1 a1_0 a1_1 : Int) : Option (Bool) := if a0_0 < a1_0 then (some true) else (if a0_0 = a1_0 then (some (decide (a0_1 < a1_1))) else (some false))
theorem Qa8.calls (a0_0 a0_1 a1_0 a1_1 : Int) (r : Bool) (w : World) (h : Qa8.f a0_0 a0_1 a1_0 a1_1 = some r) :
 Calls Tryz.prog 122 #[.agg #[.int .i64 a0_0, .int .i64 a0_1], .agg #[.int .i64 a1_0, .int .i64 a1_1]] w fun e w' => e = .returned (.bool r) ∧ Below w.heap.size w w' := by
 have hu47 := Tryz.underlying47
 have HB := As0 (Below.refl w.heap.size w)
 have H : (if a0_0 < a1_0 then (some true) else (if a0_0 = a1_0 then (some (decide (a0_1 < a1_1))) else (some false))) = some r := h
 clear h
 by_cases c3 : a0_0 < a1_0
 ·rw [if_pos c3] at H
  have c3b0 := decide_eq_true c3
  clear c3
  obtain rfl := Option.some.inj H
  go_enter Tryz.func122, Tryz.ntmps122
  go_wp2_with (first | ((with_reducible refine gD 2 ?_); refine bY HB.out ?_; intro gb177 w4 hg hb BK177 GW177 HB; clear hb hg) | ((with_reducible refine gD 3 ?_); refine bY HB.out ?_; intro gb178 w5 hg hb BK178 GW178 HB; have NB177_178 := pL hg BK177; have NB178_177 := pR hg BK177; replace BK177 := kB BK177 hb; clear hb hg; have q7_ := cN2 BK177.out; have q8_ := cN2 BK178.out))
  go_ret
  exact ⟨oR, BU HB.out⟩
 rw [if_neg c3] at H
 have c3b0 := decide_eq_false c3
 clear c3
 by_cases c9 : a0_0 = a1_0
 rotate_left
 ·rw [if_neg c9] at H
  have c9b0 : (a0_0 == a1_0) = false := beq_eq_false_iff_ne.mpr c9
  have c9b1 : (a0_0 != a1_0) = true := bne_iff_ne.mpr c9
  obtain rfl := Option.some.inj H
  go_enter Tryz.func122, Tryz.ntmps122
  go_wp2_with (first | ((with_reducible refine gD 2 ?_); refine bY HB.out ?_; intro gb177 w15 hg hb BK177 GW177 HB; clear hb hg) | ((with_reducible refine gD 3 ?_); refine bY HB.out ?_; intro gb178 w16 hg hb BK178 GW178 HB; have NB177_178 := pL hg BK177; have NB178_177 := pR hg BK177; replace BK177 := kB BK177 hb; clear hb hg; have q18_ := cN2 BK177.out; have q19_ := cN2 BK178.out))
  go_ret
  exact ⟨oR, BU HB.out⟩
 rw [if_pos c9] at H
 have c9b0 : (a0_0 == a1_0) = true := beq_iff_eq.mpr c9
 have c9b1 : (a0_0 != a1_0) = false := bne_eq_false_iff_eq.mpr c9
 clear c9
 obtain rfl := Option.some.inj H
 go_enter Tryz.func122, Tryz.ntmps122
 go_wp2_with (first | ((with_reducible refine gD 2 ?_); refine bY HB.out ?_; intro gb177 w10 hg hb BK177 GW177 HB; clear hb hg) | ((with_reducible refine gD 3 ?_); refine bY HB.out ?_; intro gb178 w11 hg hb BK178 GW178 HB; have NB177_178 := pL hg BK177; have NB178_177 := pR hg BK177; replace BK177 := kB BK177 hb; clear hb hg; have q13_ := cN2 BK177.out; have q14_ := cN2 BK178.out))
 go_ret
 exact ⟨oR, BU HB.out⟩
def pairset_compare.f (a0_0 a0_1 a1_0 a1_1 : Int) : Option (Int) := (Qa8.f a0_0 a0_1 a1_0 a1_1).bind fun t289 => (if t289 = true then (some (-1)) else ((Qa8.f a1_0 a1_1 a0_0 a0_1).bind fun t290 => (if t290 = true then (some 1) else (some 0))))
def Qa5.l0 : Nat → List (S47) → Int → Int → Int → Int → Option (Int)
 | 0, _, _, _, _, _ => none
 | k + 1, x0, x5, x6, x302000, x302001 => if x5 < x6 then (if 0 ≤ (wrap64 (x5 + (wrap64 (Int.tdiv (wrap64 (x6 - x5)) 2)))) then (if (wrap64 (x5 + (wrap64 (Int.tdiv (wrap64 (x6 - x5)) 2)))) < (x0.length : Int) then ((Qa8.f ((Qaa x0 (wrap64 (x5 + (wrap64 (Int.tdiv (wrap64 (x6 - x5)) 2))))).f0) ((Qaa x0 (wrap64 (x5 + (wrap64 (Int.tdiv (wrap64 (x6 - x5)) 2))))).f1) x302000 x302001).bind fun t303 => (if t303 = true then (Qa5.l0 k x0 (wrap64 ((wrap64 (x5 + (wrap64 (Int.tdiv (wrap64 (x6 - x5)) 2)))) + 1)) x6 x302000 x302001) else (Qa5.l0 k x0 x5 (wrap64 (x5 + (wrap64 (Int.tdiv (wrap64 (x6 - x5)) 2)))) x302000 x302001))) else (none)) else (none)) else (some x5)
def Qa5.f (k : Nat) (l0 : List (S47)) (a1_0 a1_1 : Int) : Option (Int) := Qa5.l0 k l0 0 (l0.length : Int) a1_0 a1_1
theorem Qa5.calls (k : Nat) (A0 : Option Addr) (c0 : Nat) (l0 : List (S47)) (a1_0 a1_1 r : Int) (w : World) (hr0 : Kd.C k47 w A0 l0.length l0) (hc0 : l0.length ≤ c0) (h : Qa5.f k l0 a1_0 a1_1 = some r) :
 Calls Tryz.prog 190 #[.slice A0 l0.length c0, .agg #[.int .i64 a1_0, .int .i64 a1_1]] w fun e w' => e = .returned (.int .i64 r) ∧ Below w.heap.size w w' := by
 have hu47 := Tryz.underlying47
 have HR0 := As0 hr0
 have HC0 := As0 hc0
 clear hr0 hc0
 have HB := As0 (Below.refl w.heap.size w)
 have H : (Qa5.l0 k l0 0 (l0.length : Int) a1_0 a1_1) = some r := h
 clear h
 have H' := As0 H
 clear H
 go_enter Tryz.func190, Tryz.ntmps190
 go_wp2_with (first | ((with_reducible refine gD 3 ?_); refine bY HB.out ?_; intro gb301 w3 hg hb BK301 GW301 HB; clear hb hg))
 go_loopg [5, 6] k (fun kq v5 v6 w' => ∃ (x5_1 : Int) (x6_1 : Int), v5 = .int .i64 x5_1 ∧ v6 = .int .i64 x6_1 ∧ Qbk (Qa5.l0 kq l0 x5_1 x6_1 a1_0 a1_1 = some r) ∧ Qbk (kq ≤ k) ∧ Qbk (w'.heap[gb301]? = some (.cells #[.int .i64 a1_0, .int .i64 a1_1] 47 (0, 0))) ∧ Qbk (Below w.heap.size w w'))
 case atStart => exact ⟨(0), ((l0.length : Int)), eR, eR, H', ⟨Nat.le_refl _⟩, ⟨bU BK301.out⟩, ⟨BU HB.out⟩⟩
 case round =>
  clear H'
  obtain ⟨x5_1, x6_1, rfl, rfl, HA, HK1, BK301, HB⟩ := hrel
  cases gk with
  | zero => exact absurd HA.out (by simp [Qa5.l0])
  | succ k1 =>
   have H := HA.out
   clear HA
   simp only [Qa5.l0] at H
   by_cases c4 : x5_1 < x6_1
   rotate_left
   ·rw [if_neg c4] at H
    have c4b0 := decide_eq_false c4
    clear c4
    obtain rfl := Option.some.inj H
    go_wp2
    go_ret
    exact ⟨oR, BU HB.out⟩
   rw [if_pos c4] at H
   have c4b0 := decide_eq_true c4
   clear c4
   obtain ⟨ji5, hji5⟩ : ∃ j_ : Int, (wrap64 (x5_1 + (wrap64 (Int.tdiv (wrap64 (x6_1 - x5_1)) 2)))) = j_ := ⟨_, rfl⟩
   replace H : (if 0 ≤ (ji5) then (if (ji5) < (l0.length : Int) then ((Qa8.f ((Qaa l0 (ji5)).f0) ((Qaa l0 (ji5)).f1) a1_0 a1_1).bind fun t303 => (if t303 = true then (Qa5.l0 k1 l0 (wrap64 ((ji5) + 1)) x6_1 a1_0 a1_1) else (Qa5.l0 k1 l0 x5_1 ji5 a1_0 a1_1))) else (none)) else (none)) = some r := by first | (rw [hji5] at H; exact H) | (simp only [hji5] at H ⊢; exact H)
   have hji5w : (IntKind.i64.wrap (x5_1 + (wrap64 (Int.tdiv (wrap64 (x6_1 - x5_1)) 2)))) = ji5 := (Qbu _).trans hji5
   by_cases c6 : 0 ≤ (ji5)
   rotate_left
   ·rw [if_neg c6] at H
    exact absurd H (by simp)
   rw [if_pos c6] at H
   have c6b0 := decide_eq_true c6
   clear c6
   by_cases c7 : (ji5) < (l0.length : Int)
   rotate_left
   ·rw [if_neg c7] at H
    exact absurd H (by simp)
   rw [if_pos c7] at H
   have c7b0 := decide_eq_true c7
   clear c7
   replace H := Option.bind_eq_some_iff.mp H
   obtain ⟨t303, A80, H⟩ := H
   have A8 := As0 A80
   clear A80
   by_cases c9 : t303 = true
   ·subst c9
    rw [if_pos rfl] at H
    have H' := As0 H
    clear H
    try go_wp2
    replace BK301 := As0 (Qbr BK301.out)
    replace HB := As0 (bd1 HB.out)
    have p302 : 0 ≤ ((ji5) : Int) := qR
    have q302 : (ji5) < (l0.length : Int) := qR
    obtain ⟨ad302, e302, hx302_0, hx302_1⟩ := Qcs HR0.out (ji5) p302 q302
    have hw302_1 := hx302_1
    have hw302_0 := hx302_0
    cases e302
    replace hx302_0 := cl HB hx302_0
    replace hx302_1 := cl HB hx302_1
    replace p302 := eq_true p302
    replace q302 := eq_true q302
    refine Qcb (n := 6) (S := fun w' => w'.cell? ⟨gb301, 0, none⟩ = some (.int .i64 a1_0) ∧ w'.cell? ⟨gb301, 1, none⟩ = some (.int .i64 a1_1) ∧ w'.cell? (ad302.add (((ji5)).toNat * 2)) = some (.int .i64 ((Qaa l0 (ji5)).f0)) ∧ w'.cell? ⟨(ad302.add (((ji5)).toNat * 2)).block, (ad302.add (((ji5)).toNat * 2)).off + 1, none⟩ = some (.int .i64 ((Qaa l0 (ji5)).f1))) (ds := []) (bb 6 0) (by kernel_rfl) rfl rfl ⟨bc BK301 0, bc BK301 1, (cl HB hw302_0), (cl HB hw302_1)⟩ (fun hHeld => ?_)
    generalize wr.drew = w10 at BK301 HB hx302_0 hx302_1 hHeld ⊢
    refine pu 0 19 (bb 6 1) ?_
    refine pu 1 20 (bb 6 3) ?_
    refine pu 2 21 (bb 6 7) ?_
    refine tu hHeld 3 22 (bb 6 15) ?_
    refine tu hHeld 4 23 (bb 6 31) ?_
    refine one_ (i := 5) (N := some 24) (bb 6 63) rfl rfl (by kernel_rfl) (by decide) (fun K hK => ?_)
    refine goes_ Tryz.func122 (by kernel_rfl) rfl #[.agg #[.int .i64 ((Qaa l0 (ji5)).f0), .int .i64 ((Qaa l0 (ji5)).f1)], .agg #[.int .i64 a1_0, .int .i64 a1_1]] (by rfl) rfl rfl (by (try simp only [List.map_toArray, List.map_cons, List.map_nil]); first | done | (simp only [hji5]; rfl) | rfl | (simp only [List.length_drop, List.length_take]; rfl)) ?_
    with_reducible refine (Qa8.calls ((Qaa l0 (ji5)).f0) ((Qaa l0 (ji5)).f1) a1_0 a1_1 true _ A8.out).mono ?_
    rintro e w11 ⟨rfl, hb⟩
    refine ⟨_, rfl, ?_⟩
    replace BK301 := kB BK301 hb
    replace HB := sB HB hb
    (try clear hb)
    (try clear hb2)
    (try clear hk)
    (try clear hi)
    refine hK.out _ _ ⟨bc BK301 0, bc BK301 1, (cl HB hw302_0), (cl HB hw302_1)⟩ (fun hHeld => ?_)
    clear hK K
    refine Qb1 (a' := ?_) ?_ ?_
    rotate_left
    ·show Act.put _ (some 24) _ = _
     simp only [Act.put, sL1, sL2, sL3, Qbu, Qbv]
     rfl
    refine Qcy (by kernel_rfl) ?_
    try go_wp2
    go_roundg k1
    case measure => have := HK1.out; omega
    case rel => exact ⟨(wrap64 ((ji5) + 1)), (x6_1), (by first | rfl | (simp; done) | (simp only [← hji5] <;> (first | rfl | simp)) | (simp [*]; done)), eR, H', ⟨by have := HK1.out; omega⟩, ⟨bU BK301.out⟩, ⟨BU HB.out⟩⟩
   replace c9 := Bool.eq_false_iff.mpr c9
   subst c9
   rw [if_neg bF] at H
   have H' := As0 H
   clear H
   try go_wp2
   replace BK301 := As0 (Qbr BK301.out)
   replace HB := As0 (bd1 HB.out)
   have p302 : 0 ≤ ((ji5) : Int) := qR
   have q302 : (ji5) < (l0.length : Int) := qR
   obtain ⟨ad302, e302, hx302_0, hx302_1⟩ := Qcs HR0.out (ji5) p302 q302
   have hw302_1 := hx302_1
   have hw302_0 := hx302_0
   cases e302
   replace hx302_0 := cl HB hx302_0
   replace hx302_1 := cl HB hx302_1
   replace p302 := eq_true p302
   replace q302 := eq_true q302
   refine Qcb (n := 6) (S := fun w' => w'.cell? ⟨gb301, 0, none⟩ = some (.int .i64 a1_0) ∧ w'.cell? ⟨gb301, 1, none⟩ = some (.int .i64 a1_1) ∧ w'.cell? (ad302.add (((ji5)).toNat * 2)) = some (.int .i64 ((Qaa l0 (ji5)).f0)) ∧ w'.cell? ⟨(ad302.add (((ji5)).toNat * 2)).block, (ad302.add (((ji5)).toNat * 2)).off + 1, none⟩ = some (.int .i64 ((Qaa l0 (ji5)).f1))) (ds := []) (bb 6 0) (by kernel_rfl) rfl rfl ⟨bc BK301 0, bc BK301 1, (cl HB hw302_0), (cl HB hw302_1)⟩ (fun hHeld => ?_)
   generalize wr.drew = w12 at BK301 HB hx302_0 hx302_1 hHeld ⊢
   refine pu 0 19 (bb 6 1) ?_
   refine pu 1 20 (bb 6 3) ?_
   refine pu 2 21 (bb 6 7) ?_
   refine tu hHeld 3 22 (bb 6 15) ?_
   refine tu hHeld 4 23 (bb 6 31) ?_
   refine one_ (i := 5) (N := some 24) (bb 6 63) rfl rfl (by kernel_rfl) (by decide) (fun K hK => ?_)
   refine goes_ Tryz.func122 (by kernel_rfl) rfl #[.agg #[.int .i64 ((Qaa l0 (ji5)).f0), .int .i64 ((Qaa l0 (ji5)).f1)], .agg #[.int .i64 a1_0, .int .i64 a1_1]] (by rfl) rfl rfl (by (try simp only [List.map_toArray, List.map_cons, List.map_nil]); first | done | (simp only [hji5]; rfl) | rfl | (simp only [List.length_drop, List.length_take]; rfl)) ?_
   with_reducible refine (Qa8.calls ((Qaa l0 (ji5)).f0) ((Qaa l0 (ji5)).f1) a1_0 a1_1 false _ A8.out).mono ?_
   rintro e w13 ⟨rfl, hb⟩
   refine ⟨_, rfl, ?_⟩
   replace BK301 := kB BK301 hb
   replace HB := sB HB hb
   (try clear hb)
   (try clear hb2)
   (try clear hk)
   (try clear hi)
   refine hK.out _ _ ⟨bc BK301 0, bc BK301 1, (cl HB hw302_0), (cl HB hw302_1)⟩ (fun hHeld => ?_)
   clear hK K
   refine Qb1 (a' := ?_) ?_ ?_
   rotate_left
   ·show Act.put _ (some 24) _ = _
    simp only [Act.put, sL1, sL2, sL3, Qbu, Qbv]
    rfl
   refine Qcy (by kernel_rfl) ?_
   try go_wp2
   go_roundg k1
   case measure => have := HK1.out; omega
   case rel => exact ⟨(x5_1), (ji5), eR, (by first | rfl | (simp; done) | (simp only [← hji5] <;> (first | rfl | simp)) | (simp [*]; done)), H', ⟨by have := HK1.out; omega⟩, ⟨bU BK301.out⟩, ⟨BU HB.out⟩⟩
def pairset_Has.f (k : Nat) (l0 : List (S47)) (a1_0 a1_1 : Int) : Option (Bool) := (Qa5.f k l0 a1_0 a1_1).bind fun t305 => (if t305 < (l0.length : Int) then (if 0 ≤ t305 then (some (((Qaa l0 t305).f0) == a1_0 && (((Qaa l0 t305).f1) == a1_1))) else (none)) else (some false))
theorem pairset_Has.calls (k : Nat) (A0 : Option Addr) (c0 : Nat) (l0 : List (S47)) (a1_0 a1_1 : Int) (r : Bool) (w : World) (hr0 : Kd.C k47 w A0 l0.length l0) (hc0 : l0.length ≤ c0) (h : pairset_Has.f k l0 a1_0 a1_1 = some r) :
 Calls Tryz.prog 160 #[.slice A0 l0.length c0, .agg #[.int .i64 a1_0, .int .i64 a1_1]] w fun e w' => e = .returned (.bool r) ∧ Below w.heap.size w w' := by
 have hu47 := Tryz.underlying47
 have HR0 := As0 hr0
 have HC0 := As0 hc0
 clear hr0 hc0
 have HB := As0 (Below.refl w.heap.size w)
 have H : ((Qa5.f k l0 a1_0 a1_1).bind fun t305 => (if t305 < (l0.length : Int) then (if 0 ≤ t305 then (some (((Qaa l0 t305).f0) == a1_0 && (((Qaa l0 t305).f1) == a1_1))) else (none)) else (some false))) = some r := h
 clear h
 replace H := Option.bind_eq_some_iff.mp H
 obtain ⟨t305, A30, H⟩ := H
 have A3 := As0 A30
 clear A30
 by_cases c4 : t305 < (l0.length : Int)
 rotate_left
 ·rw [if_neg c4] at H
  have c4b0 := decide_eq_false c4
  clear c4
  obtain rfl := Option.some.inj H
  go_enter Tryz.func160, Tryz.ntmps160
  go_wp2_with (first | ((with_reducible refine gD 3 ?_); refine bY HB.out ?_; intro gb304 w10 hg hb BK304 GW304 HB; clear hb hg; have q11_ := cN2 BK304.out) | (go_at_call 190; (with_reducible refine (Qa5.calls k _ _ l0 a1_0 a1_1 t305 _ ?side1 ?side2 A3.out).mono ?_); (case side1 => exact CU (Kd.C_below HR0.out HB.out)); (case side2 => exact HC0.out); rintro e w12 ⟨rfl, hb⟩; replace BK304 := kB BK304 hb; replace HB := sB HB hb; (try clear hb)))
  repeat (go_quiet (first | ((with_reducible refine gD 3 ?_); refine bY HB.out ?_; intro gb304 w10 hg hb BK304 GW304 HB; clear hb hg; have q11_ := cN2 BK304.out) | (go_at_call 190; (with_reducible refine (Qa5.calls k _ _ l0 a1_0 a1_1 t305 _ ?side1 ?side2 A3.out).mono ?_); (case side1 => exact CU (Kd.C_below HR0.out HB.out)); (case side2 => exact HC0.out); rintro e w12 ⟨rfl, hb⟩; replace BK304 := kB BK304 hb; replace HB := sB HB hb; (try clear hb))); try go_wp2_with (first | ((with_reducible refine gD 3 ?_); refine bY HB.out ?_; intro gb304 w10 hg hb BK304 GW304 HB; clear hb hg; have q11_ := cN2 BK304.out) | (go_at_call 190; (with_reducible refine (Qa5.calls k _ _ l0 a1_0 a1_1 t305 _ ?side1 ?side2 A3.out).mono ?_); (case side1 => exact CU (Kd.C_below HR0.out HB.out)); (case side2 => exact HC0.out); rintro e w12 ⟨rfl, hb⟩; replace BK304 := kB BK304 hb; replace HB := sB HB hb; (try clear hb))))
  go_ret
  exact ⟨oR, BU HB.out⟩
 rw [if_pos c4] at H
 have c4b0 := decide_eq_true c4
 clear c4
 by_cases c5 : 0 ≤ t305
 rotate_left
 ·rw [if_neg c5] at H
  exact absurd H (by simp)
 rw [if_pos c5] at H
 have c5b0 := decide_eq_true c5
 clear c5
 obtain rfl := Option.some.inj H
 go_enter Tryz.func160, Tryz.ntmps160
 go_wp2_with (first | ((with_reducible refine gD 3 ?_); refine bY HB.out ?_; intro gb304 w6 hg hb BK304 GW304 HB; clear hb hg; have q7_ := cN2 BK304.out) | (go_at_call 190; (with_reducible refine (Qa5.calls k _ _ l0 a1_0 a1_1 t305 _ ?side1 ?side2 A3.out).mono ?_); (case side1 => exact CU (Kd.C_below HR0.out HB.out)); (case side2 => exact HC0.out); rintro e w8 ⟨rfl, hb⟩; replace BK304 := kB BK304 hb; replace HB := sB HB hb; (try clear hb); have p306 : 0 ≤ (t305 : Int) := qR; have q306 : t305 < (l0.length : Int) := qR; obtain ⟨ad306, e306, hx306_0, hx306_1⟩ := Qcs HR0.out t305 p306 q306; cases e306; replace hx306_0 := cl HB hx306_0; replace hx306_1 := cl HB hx306_1; replace p306 := eq_true p306; replace q306 := eq_true q306; have q9_ := cN2 BK304.out))
 repeat (go_quiet (first | ((with_reducible refine gD 3 ?_); refine bY HB.out ?_; intro gb304 w6 hg hb BK304 GW304 HB; clear hb hg; have q7_ := cN2 BK304.out) | (go_at_call 190; (with_reducible refine (Qa5.calls k _ _ l0 a1_0 a1_1 t305 _ ?side1 ?side2 A3.out).mono ?_); (case side1 => exact CU (Kd.C_below HR0.out HB.out)); (case side2 => exact HC0.out); rintro e w8 ⟨rfl, hb⟩; replace BK304 := kB BK304 hb; replace HB := sB HB hb; (try clear hb); have p306 : 0 ≤ (t305 : Int) := qR; have q306 : t305 < (l0.length : Int) := qR; obtain ⟨ad306, e306, hx306_0, hx306_1⟩ := Qcs HR0.out t305 p306 q306; cases e306; replace hx306_0 := cl HB hx306_0; replace hx306_1 := cl HB hx306_1; replace p306 := eq_true p306; replace q306 := eq_true q306; have q9_ := cN2 BK304.out)); try go_wp2_with (first | ((with_reducible refine gD 3 ?_); refine bY HB.out ?_; intro gb304 w6 hg hb BK304 GW304 HB; clear hb hg; have q7_ := cN2 BK304.out) | (go_at_call 190; (with_reducible refine (Qa5.calls k _ _ l0 a1_0 a1_1 t305 _ ?side1 ?side2 A3.out).mono ?_); (case side1 => exact CU (Kd.C_below HR0.out HB.out)); (case side2 => exact HC0.out); rintro e w8 ⟨rfl, hb⟩; replace BK304 := kB BK304 hb; replace HB := sB HB hb; (try clear hb); have p306 : 0 ≤ (t305 : Int) := qR; have q306 : t305 < (l0.length : Int) := qR; obtain ⟨ad306, e306, hx306_0, hx306_1⟩ := Qcs HR0.out t305 p306 q306; cases e306; replace hx306_0 := cl HB hx306_0; replace hx306_1 := cl HB hx306_1; replace p306 := eq_true p306; replace q306 := eq_true q306; have q9_ := cN2 BK304.out)))
 go_ret
 exact ⟨oR, BU HB.out⟩
mutual
def Qab.l0 : Nat → List (S47) → Int → List (S47) → Int → Int → Option (Int × Int × Bool)
 | 0, _, _, _, _, _ => none
 | k + 1, x1, x6, x9, x10, x11 => if x11 < x10 then (if 0 ≤ x11 then (if x11 < (x9.length : Int) then (Qab.l1 k x1 x6 x9 x10 x11 ((Qaa x9 x11).f0) ((Qaa x9 x11).f1)) else (none)) else (none)) else (some (0, 0, false))
def Qab.l1 : Nat → List (S47) → Int → List (S47) → Int → Int → Int → Int → Option (Int × Int × Bool)
 | 0, _, _, _, _, _, _, _ => none
 | k + 1, x1, x6, x9, x10, x11, x331000, x331001 => if x6 < (x1.length : Int) then (if 0 ≤ x6 then ((Qa8.f ((Qaa x1 x6).f0) ((Qaa x1 x6).f1) x331000 x331001).bind fun t332 => (Qab.j2 k x1 x6 x9 x10 x11 t332 x331000 x331001)) else (none)) else (Qab.j2 k x1 x6 x9 x10 x11 false x331000 x331001)
def Qab.j2 : Nat → List (S47) → Int → List (S47) → Int → Int → Bool → Int → Int → Option (Int × Int × Bool)
 | 0, _, _, _, _, _, _, _, _ => none
 | k + 1, x1, x6, x9, x10, x11, x26, x331000, x331001 => if x26 = true then (Qab.l1 k x1 (wrap64 (x6 + 1)) x9 x10 x11 x331000 x331001) else (if x6 = (x1.length : Int) then (Qab.j3 k x1 x6 x9 x10 x11 true x331000 x331001) else (if 0 ≤ x6 then (if x6 < (x1.length : Int) then (Qab.j3 k x1 x6 x9 x10 x11 (!(((Qaa x1 x6).f0) == x331000) || (!(((Qaa x1 x6).f1) == x331001))) x331000 x331001) else (none)) else (none)))
def Qab.j3 : Nat → List (S47) → Int → List (S47) → Int → Int → Bool → Int → Int → Option (Int × Int × Bool)
 | 0, _, _, _, _, _, _, _, _ => none
 | k + 1, x1, x6, x9, x10, x11, x40, x331000, x331001 => if x40 = true then (some (x331000, x331001, true)) else (Qab.l0 k x1 x6 x9 x10 (wrap64 (x11 + 1)))
end
def Qab.f (k : Nat) (l0 : List (S47)) (l1 : List (S47)) : Option (Int × Int × Bool) := Qab.l0 k l1 0 l0 (l0.length : Int) 0
def Qab.T5 : Bool × List (List Nat × List Nat) := (true, [([], []), ([], []), ([1], [1]), ([0, 2], [0, 2]), ([3], [3]), ([4], [4]), ([4], [4]), ([5, 6, 4], [4, 5, 6]), ([7, 4], [4, 7]), ([4], [4]), ([8, 9, 4, 4], [4, 8, 9]), ([4, 10], [4, 10])])
def Qab.B5 : List Nat := [0, 0, 2, 7, 15, 31, 31, 127, 255, 31, 1023, 2047]
theorem Qab.tab5 : rtab .any (opsOf Tryz.f67 5) = Qab.T5 := by kernel_rfl
theorem Qab.bits5 : Qcr Qab.T5.2 Qab.B5 = true := by kernel_rfl
def Qab.T7 : Bool × List (List Nat × List Nat) := (true, [([], []), ([], []), ([1], [1]), ([0, 2], [0, 2]), ([3], [3]), ([4], [4]), ([4], [4]), ([5, 6, 4], [4, 5, 6]), ([7, 4], [4, 7]), ([4], [4]), ([8, 9, 4], [4, 8, 9]), ([4, 10], [4, 10])])
def Qab.B7 : List Nat := [0, 0, 2, 7, 15, 31, 31, 127, 255, 31, 1023, 2047]
theorem Qab.tab7 : rtab .any (opsOf Tryz.f67 7) = Qab.T7 := by kernel_rfl
theorem Qab.bits7 : Qcr Qab.T7.2 Qab.B7 = true := by kernel_rfl
theorem Qab.calls (k : Nat) (A0 : Option Addr) (c0 : Nat) (l0 : List (S47)) (A1 : Option Addr) (c1 : Nat) (l1 : List (S47)) (r1 r2 : Int) (r3 : Bool) (w : World) (hr0 : Kd.C k47 w A0 l0.length l0) (hc0 : l0.length ≤ c0) (hr1 : Kd.C k47 w A1 l1.length l1) (hc1 : l1.length ≤ c1) (h : Qab.f k l0 l1 = some (r1, r2, r3)) :
 Calls Tryz.prog 67 #[.slice A0 l0.length c0, .slice A1 l1.length c1] w fun e w' => e = .returned (.tuple #[.agg #[.int .i64 r1, .int .i64 r2], .bool r3]) ∧ Below w.heap.size w w' := by
 have hu47 := Tryz.underlying47
 have HR0 := As0 hr0
 have HC0 := As0 hc0
 clear hr0 hc0
 have HR1 := As0 hr1
 have HC1 := As0 hc1
 clear hr1 hc1
 have HB := As0 (Below.refl w.heap.size w)
 have H : (Qab.l0 k l1 0 l0 (l0.length : Int) 0) = some (r1, r2, r3) := h
 clear h
 have H' := As0 H
 clear H
 go_enter Tryz.func67, Tryz.ntmps67
 go_wp2_with (first | ((with_reducible refine gD 4 ?_); refine bY HB.out ?_; intro gb328 w3 hg hb BK328 GW328 HB; clear hb hg))
 go_loopg [6, 11] k (fun kq v6 v11 w' => ∃ (x6_1 : Int) (x11_1 : Int) (x329000_1 : Int) (x329001_1 : Int), v6 = .int .i64 x6_1 ∧ v11 = .int .i64 x11_1 ∧ Qbk (Qab.l0 kq l1 x6_1 l0 (l0.length : Int) x11_1 = some (r1, r2, r3)) ∧ Qbk (kq ≤ k) ∧ Qbk (w'.heap[gb328]? = some (.cells #[.int .i64 x329000_1, .int .i64 x329001_1] 47 (0, 0))) ∧ Qbk (Below w.heap.size w w'))
 case atStart => exact ⟨(0), (0), (0), (0), eR, eR, H', ⟨Nat.le_refl _⟩, ⟨bU BK328.out⟩, ⟨BU HB.out⟩⟩
 case round =>
  clear H'
  obtain ⟨x6_1, x11_1, x329000_1, x329001_1, rfl, rfl, HA, HK1, BK328, HB⟩ := hrel
  cases gk with
  | zero => exact absurd HA.out (by simp [Qab.l0])
  | succ k1 =>
   have H := HA.out
   clear HA
   simp only [Qab.l0] at H
   by_cases c4 : x11_1 < (l0.length : Int)
   rotate_left
   ·rw [if_neg c4] at H
    have c4b0 := decide_eq_false c4
    clear c4
    simp only [Option.some.injEq, Prod.mk.injEq] at H
    obtain ⟨rfl, rfl, rfl⟩ := H
    have q28_ := cN2 BK328.out
    go_wp2
    refine bodyPost_ret (Qch rfl _ _ gb328 47 #[.int .i64 0, .int .i64 0] (0, 0) _ rfl (kV BK328) Tryz.underlying47 rfl (by kernel_rfl)) rfl ?_
    exact ⟨oR, BU HB.out⟩
   rw [if_pos c4] at H
   have c4b0 := decide_eq_true c4
   clear c4
   by_cases c5 : 0 ≤ x11_1
   rotate_left
   ·rw [if_neg c5] at H
    exact absurd H (by simp)
   rw [if_pos c5] at H
   have c5b0 := decide_eq_true c5
   clear c5
   by_cases c6 : x11_1 < (l0.length : Int)
   rotate_left
   ·rw [if_neg c6] at H
    exact absurd H (by simp)
   rw [if_pos c6] at H
   have c6b0 := decide_eq_true c6
   clear c6
   have H' := As0 H
   clear H
   have p329 : 0 ≤ (x11_1 : Int) := qR
   have q329 : x11_1 < (l0.length : Int) := qR
   obtain ⟨ad329, e329, hx329_0, hx329_1⟩ := Qcs HR0.out x11_1 p329 q329
   cases e329
   replace hx329_0 := cl HB hx329_0
   replace hx329_1 := cl HB hx329_1
   replace p329 := eq_true p329
   replace q329 := eq_true q329
   go_wp2_with (first | ((with_reducible refine gD 8 ?_); refine bY HB.out ?_; intro gb330 w7 hg hb BK330 GW330 HB; have NB328_330 := pL hg BK328; have NB330_328 := pR hg BK328; replace BK328 := kB BK328 hb; clear hb hg; have q9_ := cN2 BK330.out))
   go_loopg [6] k1 (fun kq v6 w' => ∃ (x6_2 : Int), v6 = .int .i64 x6_2 ∧ Qbk (Qab.l1 kq l1 x6_2 l0 (l0.length : Int) x11_1 ((Qaa l0 x11_1).f0) ((Qaa l0 x11_1).f1) = some (r1, r2, r3)) ∧ Qbk (kq ≤ k1) ∧ Qbk (w'.heap[gb328]? = some (.cells #[.int .i64 x329000_1, .int .i64 x329001_1] 47 (0, 0))) ∧ Qbk (w'.heap[gb330]? = some (.cells #[.int .i64 ((Qaa l0 x11_1).f0), .int .i64 ((Qaa l0 x11_1).f1)] 47 (0, 0))) ∧ Qbk (Below w.heap.size w w'))
   case atStart => exact ⟨(x6_1), eR, H', ⟨Nat.le_refl _⟩, ⟨kV BK328⟩, ⟨kV BK330⟩, ⟨BU HB.out⟩⟩
   case round =>
    clear H'
    obtain ⟨x6_2, rfl, HA, HK2, BK328, BK330, HB⟩ := hrel
    cases gk with
    | zero => exact absurd HA.out (by simp [Qab.l1])
    | succ k2 =>
     have H := HA.out
     clear HA
     simp only [Qab.l1] at H
     have HC10 := As0 H
     clear H
     go_upto_region 5 with (fail)
     go_cut [26] (fun v26 wc => ∃ (kq : Nat) (x26_9 : Bool), v26 = .bool x26_9 ∧ Qbk (Qab.j2 kq l1 x6_2 l0 (l0.length : Int) x11_1 x26_9 ((Qaa l0 x11_1).f0) ((Qaa l0 x11_1).f1) = some (r1, r2, r3)) ∧ Qbk (kq ≤ k2) ∧ Qbk (wc.heap[gb328]? = some (.cells #[.int .i64 x329000_1, .int .i64 x329001_1] 47 (0, 0))) ∧ Qbk (wc.heap[gb330]? = some (.cells #[.int .i64 ((Qaa l0 x11_1).f0), .int .i64 ((Qaa l0 x11_1).f1)] 47 (0, 0))) ∧ Qbk (Below w.heap.size w wc))
     case first =>
      have H := HC10.out
      clear HC10
      by_cases c11 : x6_2 < (l1.length : Int)
      rotate_left
      ·rw [if_neg c11] at H
       have c11b0 := decide_eq_false c11
       clear c11
       (first | rw [c11b0] | (simp only [Qbu, Qbv]; rw [c11b0]) | skip)
       have H' := As0 H
       clear H
       try go_wp2
       replace BK328 := As0 (Qbr BK328.out)
       replace BK330 := As0 (Qbr BK330.out)
       replace HB := As0 (bd1 HB.out)
       refine Qcb (n := 12) (S := fun w' => True) (ds := []) (bb 12 0) (by kernel_rfl) rfl rfl trivial (fun hHeld => ?_); refine Qca Qab.tab5 Qab.bits5 (fun HT_ HW_ => ?_)
       generalize wr.drew = w16 at BK328 BK330 HB hHeld ⊢
       refine pv HT_.out 0 15 (bb 12 1) ?_
       refine pv HT_.out 1 16 (bb 12 3) ?_
       refine pv HT_.out 2 17 (bb 12 7) ?_
       refine pv HT_.out 3 18 (bb 12 15) ?_
       refine pv HT_.out 4 19 (bb 12 31) ?_
       refine py HT_.out 5 20 (bb 12 63) ?_
       refine py HT_.out 6 21 (bb 12 127) ?_
       refine py HT_.out 7 22 (bb 12 255) ?_
       refine py HT_.out 8 23 (bb 12 511) ?_
       refine py HT_.out 9 24 (bb 12 1023) ?_
       refine py HT_.out 10 25 (bb 12 2047) ?_
       refine pv HT_.out 11 26 (bb 12 4095) ?_
       refine Qcy (Qco HT_.out (by kernel_rfl)) ?_
       try go_wp2
       go_meet
       case rel => exact ⟨_, (false), eR, H', ⟨by have := HK1.out; have := HK2.out; first | omega | exact Nat.le_refl _⟩, ⟨bU BK328.out⟩, ⟨bU BK330.out⟩, ⟨BU HB.out⟩⟩
      rw [if_pos c11] at H
      have c11b0 := decide_eq_true c11
      clear c11
      (first | rw [c11b0] | (simp only [Qbu, Qbv]; rw [c11b0]) | skip)
      by_cases c12 : 0 ≤ x6_2
      rotate_left
      ·rw [if_neg c12] at H
       exact absurd H (by simp)
      rw [if_pos c12] at H
      have c12b0 := decide_eq_true c12
      clear c12
      replace H := Option.bind_eq_some_iff.mp H
      obtain ⟨t332, A130, H⟩ := H
      have A13 := As0 A130
      clear A130
      have H' := As0 H
      clear H
      try go_wp2
      replace BK328 := As0 (Qbr BK328.out)
      replace BK330 := As0 (Qbr BK330.out)
      replace HB := As0 (bd1 HB.out)
      have p331 : 0 ≤ (x6_2 : Int) := qR
      have q331 : x6_2 < (l1.length : Int) := qR
      obtain ⟨ad331, e331, hx331_0, hx331_1⟩ := Qcs HR1.out x6_2 p331 q331
      have hw331_1 := hx331_1
      have hw331_0 := hx331_0
      cases e331
      replace hx331_0 := cl HB hx331_0
      replace hx331_1 := cl HB hx331_1
      replace p331 := eq_true p331
      replace q331 := eq_true q331
      refine Qcb (n := 12) (S := fun w' => w'.cell? ⟨gb330, 0, none⟩ = some (.int .i64 ((Qaa l0 x11_1).f0)) ∧ w'.cell? ⟨gb330, 1, none⟩ = some (.int .i64 ((Qaa l0 x11_1).f1)) ∧ w'.cell? (ad331.add ((x6_2).toNat * 2)) = some (.int .i64 ((Qaa l1 x6_2).f0)) ∧ w'.cell? ⟨(ad331.add ((x6_2).toNat * 2)).block, (ad331.add ((x6_2).toNat * 2)).off + 1, none⟩ = some (.int .i64 ((Qaa l1 x6_2).f1))) (ds := []) (bb 12 0) (by kernel_rfl) rfl rfl ⟨bc BK330 0, bc BK330 1, (cl HB hw331_0), (cl HB hw331_1)⟩ (fun hHeld => ?_); refine Qca Qab.tab5 Qab.bits5 (fun HT_ HW_ => ?_)
      generalize wr.drew = w14 at BK328 BK330 HB hx331_0 hx331_1 hHeld ⊢
      refine pv HT_.out 0 15 (bb 12 1) ?_
      refine pv HT_.out 1 16 (bb 12 3) ?_
      refine pv HT_.out 2 17 (bb 12 7) ?_
      refine pv HT_.out 3 18 (bb 12 15) ?_
      refine pv HT_.out 4 19 (bb 12 31) ?_
      refine pv HT_.out 5 20 (bb 12 63) ?_
      refine pv HT_.out 6 21 (bb 12 127) ?_
      refine pv HT_.out 7 22 (bb 12 255) ?_
      refine tv hHeld HT_.out HW_.out 8 23 (bb 12 511) ?_
      refine tv hHeld HT_.out HW_.out 9 24 (bb 12 1023) ?_
      refine one_ (i := 10) (N := some 25) (bb 12 2047) rfl rfl (Qcd HT_.out (by kernel_rfl)) (by decide) (fun K hK => ?_)
      refine gG Tryz.func122 #[.agg #[.int .i64 ((Qaa l1 x6_2).f0), .int .i64 ((Qaa l1 x6_2).f1)], .agg #[.int .i64 ((Qaa l0 x11_1).f0), .int .i64 ((Qaa l0 x11_1).f1)]] ?_
      with_reducible refine (Qa8.calls ((Qaa l1 x6_2).f0) ((Qaa l1 x6_2).f1) ((Qaa l0 x11_1).f0) ((Qaa l0 x11_1).f1) t332 _ A13.out).mono ?_
      rintro e w15 ⟨rfl, hb⟩
      refine ⟨_, rfl, ?_⟩
      replace BK328 := kB BK328 hb
      replace BK330 := kB BK330 hb
      replace HB := sB HB hb
      (try clear hb)
      (try clear hb2)
      (try clear hk)
      (try clear hi)
      refine hK.out _ _ ⟨bc BK330 0, bc BK330 1, (cl HB hw331_0), (cl HB hw331_1)⟩ (fun hHeld => ?_)
      clear hK K
      refine Qb1 (a' := ?_) ?_ ?_
      rotate_left
      ·show Act.put _ (some 25) _ = _
       simp only [Act.put, sL1, sL2, sL3, Qbu, Qbv]
       rfl
      refine pv HT_.out 11 26 (bb 12 4095) ?_
      refine Qcy (Qco HT_.out (by kernel_rfl)) ?_
      try go_wp2
      go_meet
      case rel => exact ⟨_, (t332), eR, H', ⟨by have := HK1.out; have := HK2.out; first | omega | exact Nat.le_refl _⟩, ⟨bU BK328.out⟩, ⟨bU BK330.out⟩, ⟨BU HB.out⟩⟩
     case rest =>
      clear HC10
      obtain ⟨kq, x26_9, rfl, HA, HJ9, BK328, BK330, HB⟩ := hcut
      cases kq with
      | zero => exact absurd HA.out (by simp [Qab.j2])
      | succ kj9 =>
       have H := HA.out
       clear HA
       simp only [Qab.j2] at H
       by_cases c17 : x26_9 = true
       ·subst c17
        rw [if_pos rfl] at H
        have H' := As0 H
        clear H
        go_wp2
        go_roundg kj9
        case measure => have := HK1.out; have := HK2.out; have := HJ9.out; omega
        case rel => exact ⟨(wrap64 (x6_2 + 1)), eR, H', ⟨by have := HK1.out; have := HK2.out; have := HJ9.out; omega⟩, ⟨bU BK328.out⟩, ⟨bU BK330.out⟩, ⟨BU HB.out⟩⟩
       replace c17 := Bool.eq_false_iff.mpr c17
       subst c17
       rw [if_neg bF] at H
       have HC18 := As0 H
       clear H
       go_upto_region 7 with (fail)
       go_cut [40] (fun v40 wc => ∃ (kq : Nat) (x40_17 : Bool), v40 = .bool x40_17 ∧ Qbk (Qab.j3 kq l1 x6_2 l0 (l0.length : Int) x11_1 x40_17 ((Qaa l0 x11_1).f0) ((Qaa l0 x11_1).f1) = some (r1, r2, r3)) ∧ Qbk (kq ≤ kj9) ∧ Qbk (wc.heap[gb328]? = some (.cells #[.int .i64 x329000_1, .int .i64 x329001_1] 47 (0, 0))) ∧ Qbk (wc.heap[gb330]? = some (.cells #[.int .i64 ((Qaa l0 x11_1).f0), .int .i64 ((Qaa l0 x11_1).f1)] 47 (0, 0))) ∧ Qbk (Below w.heap.size w wc))
       case first =>
        have H := HC18.out
        clear HC18
        by_cases c19 : x6_2 = (l1.length : Int)
        ·rw [if_pos c19] at H
         have c19b0 : (x6_2 == (l1.length : Int)) = true := beq_iff_eq.mpr c19
         have c19b1 : (x6_2 != (l1.length : Int)) = false := bne_eq_false_iff_eq.mpr c19
         clear c19
         (first | rw [c19b0] | (simp only [Qbu, Qbv]; rw [c19b0]) | skip)
         have H' := As0 H
         clear H
         try go_wp2
         replace BK328 := As0 (Qbr BK328.out)
         replace BK330 := As0 (Qbr BK330.out)
         replace HB := As0 (bd1 HB.out)
         refine Qcb (n := 12) (S := fun w' => True) (ds := []) (bb 12 0) (by kernel_rfl) rfl rfl trivial (fun hHeld => ?_); refine Qca Qab.tab7 Qab.bits7 (fun HT_ HW_ => ?_)
         generalize wc.drew = w20 at BK328 BK330 HB hHeld ⊢
         refine pv HT_.out 0 29 (bb 12 1) ?_
         refine pv HT_.out 1 30 (bb 12 3) ?_
         refine pv HT_.out 2 31 (bb 12 7) ?_
         refine pv HT_.out 3 32 (bb 12 15) ?_
         refine pv HT_.out 4 33 (bb 12 31) ?_
         refine py HT_.out 5 34 (bb 12 63) ?_
         refine py HT_.out 6 35 (bb 12 127) ?_
         refine py HT_.out 7 36 (bb 12 255) ?_
         refine py HT_.out 8 37 (bb 12 511) ?_
         refine py HT_.out 9 38 (bb 12 1023) ?_
         refine py HT_.out 10 39 (bb 12 2047) ?_
         refine pv HT_.out 11 40 (bb 12 4095) ?_
         refine Qcy (Qco HT_.out (by kernel_rfl)) ?_
         try go_wp2
         go_meet
         case rel => exact ⟨_, (true), eR, H', ⟨by have := HK1.out; have := HK2.out; have := HJ9.out; first | omega | exact Nat.le_refl _⟩, ⟨bU BK328.out⟩, ⟨bU BK330.out⟩, ⟨BU HB.out⟩⟩
        rw [if_neg c19] at H
        have c19b0 : (x6_2 == (l1.length : Int)) = false := beq_eq_false_iff_ne.mpr c19
        have c19b1 : (x6_2 != (l1.length : Int)) = true := bne_iff_ne.mpr c19
        (first | rw [c19b0] | (simp only [Qbu, Qbv]; rw [c19b0]) | skip)
        by_cases c21 : 0 ≤ x6_2
        rotate_left
        ·rw [if_neg c21] at H
         exact absurd H (by simp)
        rw [if_pos c21] at H
        have c21b0 := decide_eq_true c21
        clear c21
        by_cases c22 : x6_2 < (l1.length : Int)
        rotate_left
        ·rw [if_neg c22] at H
         exact absurd H (by simp)
        rw [if_pos c22] at H
        have c22b0 := decide_eq_true c22
        clear c22
        have H' := As0 H
        clear H
        try go_wp2
        replace BK328 := As0 (Qbr BK328.out)
        replace BK330 := As0 (Qbr BK330.out)
        replace HB := As0 (bd1 HB.out)
        have p333 : 0 ≤ (x6_2 : Int) := qR
        have q333 : x6_2 < (l1.length : Int) := qR
        obtain ⟨ad333, e333, hx333_0, hx333_1⟩ := Qcs HR1.out x6_2 p333 q333
        have hw333_1 := hx333_1
        have hw333_0 := hx333_0
        cases e333
        replace hx333_0 := cl HB hx333_0
        replace hx333_1 := cl HB hx333_1
        replace p333 := eq_true p333
        replace q333 := eq_true q333
        refine Qcb (n := 12) (S := fun w' => w'.cell? ⟨gb330, 0, none⟩ = some (.int .i64 ((Qaa l0 x11_1).f0)) ∧ w'.cell? ⟨gb330, 1, none⟩ = some (.int .i64 ((Qaa l0 x11_1).f1)) ∧ w'.cell? (ad333.add ((x6_2).toNat * 2)) = some (.int .i64 ((Qaa l1 x6_2).f0)) ∧ w'.cell? ⟨(ad333.add ((x6_2).toNat * 2)).block, (ad333.add ((x6_2).toNat * 2)).off + 1, none⟩ = some (.int .i64 ((Qaa l1 x6_2).f1))) (ds := []) (bb 12 0) (by kernel_rfl) rfl rfl ⟨bc BK330 0, bc BK330 1, (cl HB hw333_0), (cl HB hw333_1)⟩ (fun hHeld => ?_); refine Qca Qab.tab7 Qab.bits7 (fun HT_ HW_ => ?_)
        generalize wc.drew = w23 at BK328 BK330 HB hx333_0 hx333_1 hHeld ⊢
        refine pv HT_.out 0 29 (bb 12 1) ?_
        refine pv HT_.out 1 30 (bb 12 3) ?_
        refine pv HT_.out 2 31 (bb 12 7) ?_
        refine pv HT_.out 3 32 (bb 12 15) ?_
        refine pv HT_.out 4 33 (bb 12 31) ?_
        refine pv HT_.out 5 34 (bb 12 63) ?_
        refine pv HT_.out 6 35 (bb 12 127) ?_
        refine pv HT_.out 7 36 (bb 12 255) ?_
        refine tv hHeld HT_.out HW_.out 8 37 (bb 12 511) ?_
        refine tv hHeld HT_.out HW_.out 9 38 (bb 12 1023) ?_
        refine pv HT_.out 10 39 (bb 12 2047) ?_
        refine pv HT_.out 11 40 (bb 12 4095) ?_
        refine Qcy (Qco HT_.out (by kernel_rfl)) ?_
        try go_wp2
        go_meet
        case rel => exact ⟨_, ((!(((Qaa l1 x6_2).f0) == ((Qaa l0 x11_1).f0)) || (!(((Qaa l1 x6_2).f1) == ((Qaa l0 x11_1).f1))))), eR, H', ⟨by have := HK1.out; have := HK2.out; have := HJ9.out; first | omega | exact Nat.le_refl _⟩, ⟨bU BK328.out⟩, ⟨bU BK330.out⟩, ⟨BU HB.out⟩⟩
       case rest =>
        clear HC18
        obtain ⟨kq, x40_17, rfl, HA, HJ17, BK328, BK330, HB⟩ := hcut
        cases kq with
        | zero => exact absurd HA.out (by simp [Qab.j3])
        | succ kj17 =>
         have H := HA.out
         clear HA
         simp only [Qab.j3] at H
         by_cases c24 : x40_17 = true
         rotate_left
         ·replace c24 := Bool.eq_false_iff.mpr c24
          subst c24
          rw [if_neg bF] at H
          have H' := As0 H
          clear H
          go_wp2
          go_roundg kj17
          case measure => have := HK1.out; have := HK2.out; have := HJ9.out; have := HJ17.out; omega
          case rel => exact ⟨(x6_2), (wrap64 (x11_1 + 1)), (x329000_1), (x329001_1), eR, eR, H', ⟨by have := HK1.out; have := HK2.out; have := HJ9.out; have := HJ17.out; omega⟩, ⟨bU BK328.out⟩, ⟨BU HB.out⟩⟩
         subst c24
         rw [if_pos rfl] at H
         simp only [Option.some.injEq, Prod.mk.injEq] at H
         obtain ⟨rfl, rfl, rfl⟩ := H
         have q26_ := cN2 BK330.out
         have q27_ := cN2 BK328.out
         go_wp2
         refine bodyPost_ret (Qch rfl _ _ gb328 47 #[.int .i64 ((Qaa l0 x11_1).f0), .int .i64 ((Qaa l0 x11_1).f1)] (0, 0) _ rfl (kV BK328) Tryz.underlying47 rfl (by kernel_rfl)) rfl ?_
         exact ⟨oR, BU HB.out⟩
end Go.Proofs.YtchpkjgibloleaaGreat.Z
