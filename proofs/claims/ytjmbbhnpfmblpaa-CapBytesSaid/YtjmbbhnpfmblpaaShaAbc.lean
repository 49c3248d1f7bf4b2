import Derived.Test.YtjmbbhnpfmblpaaShaDig
/- SHA-256 of 'abc'. -/
namespace Go.Proofs.Ytjmbbhnpfmblpaa
open Go
set_option maxRecDepth 100000
theorem abc_0 : (digest (absorb HS.init [97, 98, 99]))[0]? = some 186 := by kernel_rfl
theorem abc_1 : (digest (absorb HS.init [97, 98, 99]))[1]? = some 120 := by kernel_rfl
end Go.Proofs.Ytjmbbhnpfmblpaa
