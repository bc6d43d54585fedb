/- Texts put together. -/
import Derived.Test.YtbjcioknfjofkaaGreatQ0a2d1212ff
set_option linter.unusedVariables false
set_option linter.unusedSimpArgs false
namespace Go.Proofs.YtbjcioknfjofkaaGreat
open Go.RowKit
abbrev opC (op:OpD) (vr vn:Value):Array Value :=
 #[.int .i64 op.kind,vr,.int .i64 op.at_,.int .i64 op.n,vn,.int .i64 op.slot,.string op.old,.string op.text]
end Go.Proofs.YtbjcioknfjofkaaGreat
