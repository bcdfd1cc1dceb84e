/- The pure statement of the law LabelBoxes: for every input that can be read, the plain function of the law says true. No condition. -/
import Derived.Test.YtlaaeighanknpaaMLabelBoxesx5
namespace Go.Proofs.Ytlaaeighanknpaa.Pure
open Go.RowKit Go.Proofs.Ytlaaeighanknpaa.MLabelBoxes Go.Proofs.YtlaaeighanknpaaW.PrintWords Go.Proofs.YtlaaeighanknpaaW.PrintLast Go.Proofs.YtlaaeighanknpaaW.PrintMore
def LabelBoxes.Stmt : Prop := ∀ (a0_0 : Int) (a0_1 : Int) (a0_2 : Int) (a0_3 : Int) (a1 : Int), (Lit.int .i64 a0_0).wf = true → (Lit.int .i64 a0_1).wf = true → (Lit.int .i64 a0_2).wf = true → (Lit.int .i64 a0_3).wf = true → (Lit.int .i64 a1).wf = true → ∃ k, skywaylaw4_LabelBoxes.f k a0_0 a0_1 a0_2 a0_3 a1 = some true
end Go.Proofs.Ytlaaeighanknpaa.Pure
