/- Facts on this program's types of strings and bytes. -/
import Derived.Test.YtcahadkkjfijfaaStB
import Derived.Test.YtcahadkkjfijfaaTys
set_option linter.unusedVariables false
set_option linter.unusedSimpArgs false
set_option maxRecDepth 100000
namespace Go.Proofs.Ytcahadkkjfijfaa
open Go.RowKit

theorem tyStr_9 : StrT Try.prog 9 := ⟨Try.underlying9⟩
theorem tyStr_10 : StrT Try.prog 10 := ⟨Try.underlying10⟩
theorem tyStr_11 : StrT Try.prog 11 := ⟨Try.underlying11⟩
theorem tyBy_99 : BySlT Try.prog 99 5 := ⟨Try.underlying99, Try.underlying5, by kernel_rfl⟩

end Go.Proofs.Ytcahadkkjfijfaa
