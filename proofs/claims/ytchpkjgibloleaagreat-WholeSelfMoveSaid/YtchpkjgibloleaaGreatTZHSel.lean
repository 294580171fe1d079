
import Derived.Test.YtchpkjgibloleaaGreatTE
namespace Go.Proofs.YtchpkjgibloleaaGreat
theorem wholeSelfMove_holds : Rows.WholeSelfMoveSaid := wholeSelfMove.over fun x0 a1 a2 a3 g g1 g2 g3 => Z.selfm x0 a1 a2 a3 g g1 g2 g3
end Go.Proofs.YtchpkjgibloleaaGreat
#print axioms Go.Proofs.YtchpkjgibloleaaGreat.wholeSelfMove_holds
