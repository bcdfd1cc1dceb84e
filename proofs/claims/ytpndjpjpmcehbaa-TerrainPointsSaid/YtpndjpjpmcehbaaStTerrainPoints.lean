/- The pure statement of the law TerrainPoints: for every input that can be read, the plain function of the law says true. No condition. -/
import Derived.Test.YtpndjpjpmcehbaaPTerrainPointsx8
namespace Go.Proofs.Ytpndjpjpmcehbaa.Pure
open Go.RowKit Go.Proofs.Ytpndjpjpmcehbaa.PTerrainPoints Go.Proofs.YtpndjpjpmcehbaaW.PrintWords Go.Proofs.YtpndjpjpmcehbaaW.PrintLast Go.Proofs.YtpndjpjpmcehbaaW.PrintMore
def TerrainPoints.Stmt : Prop := ∀ (a0_0 : Int) (a0_1 : Int) (a0_2 : Int) (a0_3 : Int) (a0_4 : Int) (l0_5 : List Int) (a1_0 : Int) (a1_1 : Int) (a2 : Int), (Lit.int .i64 a0_0).wf = true → (Lit.int .i64 a0_1).wf = true → (Lit.int .i64 a0_2).wf = true → (Lit.int .i64 a0_3).wf = true → (Lit.int .i64 a0_4).wf = true → (l0_5.length * 8 ≤ 140737488351232 ∧ ∀ x_ ∈ l0_5, (Lit.int .i64 x_).wf = true) → (Lit.int .i64 a1_0).wf = true → (Lit.int .i64 a1_1).wf = true → (Lit.int .i64 a2).wf = true → ∃ k, skywaylaw2_TerrainPoints.f k a0_0 a0_1 a0_2 a0_3 a0_4 l0_5 a1_0 a1_1 a2 = some true
end Go.Proofs.Ytpndjpjpmcehbaa.Pure
