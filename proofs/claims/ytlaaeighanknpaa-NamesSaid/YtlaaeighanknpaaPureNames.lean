/- What is proved: the constants of package api that the law names have the values of the document, and ten verbs complete the empty text. No condition. -/
import Derived.Test.YtlaaeighanknpaaPNamesx1
namespace Go.Proofs.Ytlaaeighanknpaa.Pure
open Go.RowKit Go.Proofs.Ytlaaeighanknpaa.PNames Go.Proofs.YtlaaeighanknpaaW.PrintWords Go.Proofs.YtlaaeighanknpaaW.PrintLast

theorem Names : skywaylaw4_Names.Pure := ⟨20, by decide +kernel⟩

end Go.Proofs.Ytlaaeighanknpaa.Pure
