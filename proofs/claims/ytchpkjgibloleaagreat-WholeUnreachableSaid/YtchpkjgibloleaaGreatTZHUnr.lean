/- WholeUnreachable: adding a block to which no block leads, and which is accepted on its own, keeps an accepted certificate accepted. No condition beyond the statement's own. -/
import Derived.Test.YtchpkjgibloleaaGreatTE
import Derived.Test.YtchpkjgibloleaaGreatTF
namespace Go.Proofs.YtchpkjgibloleaaGreat
theorem wholeUnreachable_holds : Rows.WholeUnreachableSaid := wholeUnreachable.over fun x0 a1 a2 g g1 g2 => Z.unreach x0 a1 a2 g g1 g2
end Go.Proofs.YtchpkjgibloleaaGreat
#print axioms Go.Proofs.YtchpkjgibloleaaGreat.wholeUnreachable_holds
