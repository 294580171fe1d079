/-
  Two small words for the walks by hand.
-/
import Derived.Test.YtgkmagfajalnhaaTEState
import Derived.Handy
namespace Go.Proofs.Ytgkmagfajalnhaa.E
open Go.RowKit Go.Proofs.YtgkmagfajalnhaaW.PrintWords Go.Proofs.YtgkmagfajalnhaaW.PrintLast Go.Proofs.YtgkmagfajalnhaaW.PrintMore

theorem cell_alloc {w : World} {p : Addr} {v : Value} (h : w.cell? p = some v) (o : Obj) : (w.alloc o).cell? p = some v := by
  have hlt := World.block_lt_of_cell? w _ h
  simpa [World.cell?, Below.heap_alloc w o p.block hlt] using h

theorem blk_drewc {w : World} {p : Addr} {v : Value} (h : w.cell? p = some v) : w.drew.cell? p = some v := h

end Go.Proofs.Ytgkmagfajalnhaa.E
