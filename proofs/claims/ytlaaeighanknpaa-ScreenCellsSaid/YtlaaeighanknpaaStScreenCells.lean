/- The pure statement of the law ScreenCells: for every input that can be read, the plain function of the law says true. No condition. -/
import Derived.Test.YtlaaeighanknpaaPScreenCellsx4
namespace Go.Proofs.Ytlaaeighanknpaa.Pure
open Go.RowKit Go.Proofs.Ytlaaeighanknpaa.PScreenCells Go.Proofs.YtlaaeighanknpaaW.PrintWords Go.Proofs.YtlaaeighanknpaaW.PrintLast Go.Proofs.YtlaaeighanknpaaW.PrintMore
def ScreenCells.Stmt : Prop := ∀ (a0_0 : Int) (a0_1 : Int) (a0_2 : Int) (a0_3 : Int) (a0_4 : Int) (a1_0 : Int) (a1_1 : Int), (Lit.int .i64 a0_0).wf = true → (Lit.int .i64 a0_1).wf = true → (Lit.int .i64 a0_2).wf = true → (Lit.int .i64 a0_3).wf = true → (Lit.int .i64 a0_4).wf = true → (Lit.int .i64 a1_0).wf = true → (Lit.int .i64 a1_1).wf = true → ∃ k, skywaylaw4_ScreenCells.f k a0_0 a0_1 a0_2 a0_3 a0_4 a1_0 a1_1 = some true
end Go.Proofs.Ytlaaeighanknpaa.Pure
