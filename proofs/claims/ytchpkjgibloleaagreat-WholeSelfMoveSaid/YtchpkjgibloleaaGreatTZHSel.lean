/- WholeSelfMove: inserting a move from a register to itself into an allocated block does not change whether the certificate is accepted, unless there are too many moves. No condition beyond the statement's own. -/
import Derived.Test.YtchpkjgibloleaaGreatTE
namespace Go.Proofs.YtchpkjgibloleaaGreat
theorem wholeSelfMove_holds : Rows.WholeSelfMoveSaid := wholeSelfMove.over fun x0 a1 a2 a3 g g1 g2 g3 => Z.selfm x0 a1 a2 a3 g g1 g2 g3
end Go.Proofs.YtchpkjgibloleaaGreat
#print axioms Go.Proofs.YtchpkjgibloleaaGreat.wholeSelfMove_holds
