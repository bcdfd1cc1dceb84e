/- What is laid here: the tables of Decode, Read and the comparison of frames. Definitions alone; no condition. -/
import Derived.Test.YtacdahpjmeianaaTwj9
namespace Go.Proofs.YtacdahpjmeianaaWi
open Go Go.Proofs Go.Proofs.YtacdahpjmeianaaEv Go.Proofs.YtacdahpjmeianaaFl
noncomputable def spec66 : SpecV [sS] := fun v => (bp (v.1.size ≤ 140737488355328), [
  (decE v.1 != 0, ansV [sS] v [.ag [.v ⟨false, I⟩, .v ⟨false, I⟩, .con nil0], sI, sI] ((0, 0, (), ()), 0, decE v.1, ()) (same [sS] v)),
  (true, ansV [sS] v [.ag [.v ⟨false, I⟩, .v ⟨false, I⟩, .ow kP], sI, sI] ((rI v.1, tI v.1, (decL v.1, decF v.1), ()), nI v.1 + 2, 0, ()) (same [sS] v))])
def sameP (l m : List P6) : Bool := bif (l.length : Int) != (m.length : Int) then false else sameL l m
noncomputable def J4 : Table :=
  ext 66 (entV [sS] spec66) <| ext 68 (entV [sS] spec66) <|
  ext 117 (entV [rP, rP] (specP [rP, rP] [sB] (fun v => decide (v.1.1.length ≤ 1000)) fun v => (sameP v.1.1 v.2.1.1, ()))) J3
noncomputable def J5 : Table :=
  ext 69 (entV [aF, aF] (specP [aF, aF] [sB] (fun v => decide (v.1.2.2.1.1.length ≤ 1000)) fun v => ((v.1.1 == v.2.1.1) && ((v.1.2.1 == v.2.1.2.1) && sameP v.1.2.2.1.1 v.2.1.2.2.1.1), ()))) J4
end Go.Proofs.YtacdahpjmeianaaWi
