/- The name under which this seat's contracts by hand stand. -/
namespace Go.Proofs.Ytecfoepcgammcaa.HandF
set_option linter.unusedVariables false
set_option linter.unusedSimpArgs false
end Go.Proofs.Ytecfoepcgammcaa.HandF
