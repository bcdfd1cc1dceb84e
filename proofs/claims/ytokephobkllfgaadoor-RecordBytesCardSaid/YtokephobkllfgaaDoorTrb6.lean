/- What is laid here: the tables of the encodings of records. Definitions alone; no condition. -/
import Derived.Test.YtokephobkllfgaaDoorTrb5
namespace Go.Proofs.YtokephobkllfgaaDoorRb
open Go Go.Proofs Go.Proofs.YtokephobkllfgaaDoorEv
noncomputable def rEn (n t : Int) (k x : ByteArray) : ByteArray := bif entE n t k x == 0 then encW n t k x else ByteArray.mk #[]
noncomputable def prfS (s p : ByteArray) : Bool := Classical.choose (⟨_, rfl⟩ : ∃ b, b = (decide ((s.size : Int) ≥ (p.size : Int)) && decide (s.extract 0 p.size = p)))
theorem prfS_eq (s p : ByteArray) : prfS s p = (decide ((s.size : Int) ≥ (p.size : Int)) && decide (s.extract 0 p.size = p)) := Classical.choose_spec (⟨_, rfl⟩ : ∃ b, b = (decide ((s.size : Int) ≥ (p.size : Int)) && decide (s.extract 0 p.size = p)))
noncomputable def R4 : Table :=
  ext 19 (entV [sE] (specP [sE] [sS, sI] (fun _ => true) fun v => (rEn v.1.1 v.1.2.1 v.1.2.2.1 v.1.2.2.2, entE v.1.1 v.1.2.1 v.1.2.2.1 v.1.2.2.2, ()))) <|
  ext 25 (entV [sE] (specP [sE] [sS] (fun v => bp (entE v.1.1 v.1.2.1 v.1.2.2.1 v.1.2.2.2 = 0)) fun v => (encW v.1.1 v.1.2.1 v.1.2.2.1 v.1.2.2.2, ()))) <|
  ext 38 (entV [sS, sS] (specP [sS, sS] [sB] (fun _ => true) fun v => (prfS v.1 v.2.1, ()))) R3
noncomputable def R5 : Table := ext 20 (entV [sS, sS] (specP [sS, sS] [sB] (fun _ => true) fun v => (prfS v.1 v.2.1, ()))) R4
end Go.Proofs.YtokephobkllfgaaDoorRb
