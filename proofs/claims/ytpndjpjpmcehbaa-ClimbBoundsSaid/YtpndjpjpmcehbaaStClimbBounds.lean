/- The pure statement of the law ClimbBounds: for every input that can be read, the plain function of the law says true. No condition. -/
import Derived.Test.YtpndjpjpmcehbaaPClimbBoundsx3
namespace Go.Proofs.Ytpndjpjpmcehbaa.Pure
open Go.RowKit Go.Proofs.Ytpndjpjpmcehbaa.PClimbBounds Go.Proofs.YtpndjpjpmcehbaaW.PrintWords Go.Proofs.YtpndjpjpmcehbaaW.PrintLast Go.Proofs.YtpndjpjpmcehbaaW.PrintMore
def ClimbBounds.Stmt : Prop := ∀ (l0 : List S40) (a1 : Int), (l0.length * 16 ≤ 140737488351232 ∧ ∀ x_ ∈ l0, ((Lit.int .i64 x_.f0).wf = true ∧ (Lit.int .i64 x_.f1).wf = true)) → (Lit.int .i64 a1).wf = true → ∃ k, skywaylaw2_ClimbBounds.f k l0 a1 = some true
end Go.Proofs.Ytpndjpjpmcehbaa.Pure
