/- WholeSpareSlot: storing a register in an additional slot anywhere in an allocated block keeps an accepted certificate accepted. No condition beyond the statement's own. -/
import Derived.Test.YtchpkjgibloleaaGreatTE
import Derived.Test.YtchpkjgibloleaaGreatTF
namespace Go.Proofs.YtchpkjgibloleaaGreat
theorem wholeSpareSlot_holds : Rows.WholeSpareSlotSaid := wholeSpareSlot.over fun x0 a1 a2 a3 g g1 g2 g3 => Z.spare x0 a1 a2 a3 g g1 g2 g3
end Go.Proofs.YtchpkjgibloleaaGreat
#print axioms Go.Proofs.YtchpkjgibloleaaGreat.wholeSpareSlot_holds
