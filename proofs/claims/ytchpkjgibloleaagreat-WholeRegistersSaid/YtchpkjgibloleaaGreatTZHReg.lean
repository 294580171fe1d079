/- WholeRegisters: exchanging two source registers that are not arguments, in the source function and in all invariants, changes neither whether a certificate is accepted nor the report. No condition beyond the statement's own. -/
import Derived.Test.YtchpkjgibloleaaGreatTE
namespace Go.Proofs.YtchpkjgibloleaaGreat
theorem wholeRegisters_holds : Rows.WholeRegistersSaid := wholeRegisters.over fun x0 a1 a2 g g1 g2 => Z.regs x0 a1 a2 g g1 g2
end Go.Proofs.YtchpkjgibloleaaGreat
#print axioms Go.Proofs.YtchpkjgibloleaaGreat.wholeRegisters_holds
