/- An abstract machine for the model: abstract values, their relation to worlds, and the rules of its walk, each proved sound over the model; no condition. -/
import Derived.Test.YtpakgjmcaefnmaaAM29
set_option linter.unusedSimpArgs false
set_option linter.unusedVariables false
set_option autoImplicit false
namespace Go.AM
open Go Go.RowKit

theorem isF_cons {a b : Ty} {avs : List AV} (h : IsF (.cons a b) avs) : ∃ x y, avs = x ++ y ∧ IsTy a x ∧ IsF b y := by simpa only [IsF] using h
theorem isF_nil {avs : List AV} (h : IsF .nil avs) : avs = [] := by simpa only [IsF] using h
theorem isTy_struct {b : Ty} {avs : List AV} (h : IsTy (.struct b) avs) : IsF b avs := by simpa only [IsTy] using h
theorem isTy_int {k : IntKind} {avs : List AV} (h : IsTy (.int k) avs) : ∃ n, avs = [.v (.int k n)] ∧ (Lit.int k n).wf = true := by simpa only [IsTy] using h
theorem isTy_bool {avs : List AV} (h : IsTy .bool avs) : ∃ b, avs = [.v (.bool b)] := by simpa only [IsTy] using h
abbrev tyB : Ty := .slice 1 (.int .u8)
abbrev tyI : Ty := .int .i64
end Go.AM
