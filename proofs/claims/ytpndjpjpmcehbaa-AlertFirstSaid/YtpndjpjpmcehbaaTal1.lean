/- What is proved: what the functions on two predicted tracks answer: their separation, one second of both, the first second at which it is lost, over any prediction that answers valid tracks alone. Condition: the prediction's answers without an error are valid. -/
import Derived.Test.YtpndjpjpmcehbaaTal0
namespace Go.Proofs.YtpndjpjpmcehbaaTk
open Go Go.Proofs Go.Proofs.YtpndjpjpmcehbaaEv
set_option maxRecDepth 100000
set_option linter.unusedSimpArgs false
set_option linter.unusedVariables false
noncomputable abbrev l119L (a0 : Int) (a1 : Int) (a2 : Int) (a3 : Int) := evFuncV Try.prog T0 noCuts Try.f119 (killA 0 [sP, sP]) (showA 0 [sP, sP] ((a0, a1), ((a2, a3), ()))).1 (showA 0 [sP, sP] ((a0, a1), ((a2, a3), ()))).2
theorem l119 (a0 : Int) (a1 : Int) (a2 : Int) (a3 : Int) : l119L a0 a1 a2 a3 = (some
  (PV.sc
      (Value.int IntKind.i64
        (IntKind.i64.wrap
          (IntKind.i64.wrap (IntKind.i64.wrap (a0 - a2) * IntKind.i64.wrap (a0 - a2)) +
            IntKind.i64.wrap (IntKind.i64.wrap (a1 - a3) * IntKind.i64.wrap (a1 - a3))))),
    [])) := by kernel_rfl
noncomputable abbrev l49L (a0 : Int) (a1 : Int) (a2 : Int) (a3 : Int) := evFuncV Try.prog T0 noCuts Try.f49 (killA 0 [sP, sP]) (showA 0 [sP, sP] ((a0, a1), ((a2, a3), ()))).1 (showA 0 [sP, sP] ((a0, a1), ((a2, a3), ()))).2
theorem l49 (a0 : Int) (a1 : Int) (a2 : Int) (a3 : Int) : l49L a0 a1 a2 a3 = (some
  (PV.sc
      (Value.int IntKind.i64
        (IntKind.i64.wrap
          (IntKind.i64.wrap (IntKind.i64.wrap (a0 - a2) * IntKind.i64.wrap (a0 - a2)) +
            IntKind.i64.wrap (IntKind.i64.wrap (a1 - a3) * IntKind.i64.wrap (a1 - a3))))),
    [])) := by kernel_rfl
noncomputable abbrev l120L (a0 : Int) (a1 : Int) := evFuncV Try.prog T0 noCuts Try.f120 (killA 0 [sI, sI]) (showA 0 [sI, sI] (a0, (a1, ()))).1 (showA 0 [sI, sI] (a0, (a1, ()))).2
theorem l120 (a0 : Int) (a1 : Int) : l120L a0 a1 = (some (PV.sc (Value.int IntKind.i64 (max (IntKind.i64.wrap (a0 - a1)) (IntKind.i64.wrap (a1 - a0)))), [])) := by kernel_rfl
noncomputable abbrev l50L (a0 : Int) (a1 : Int) := evFuncV Try.prog T0 noCuts Try.f50 (killA 0 [sI, sI]) (showA 0 [sI, sI] (a0, (a1, ()))).1 (showA 0 [sI, sI] (a0, (a1, ()))).2
theorem l50 (a0 : Int) (a1 : Int) : l50L a0 a1 = (bif decide (a0 < a1) then some (PV.sc (Value.int IntKind.i64 (IntKind.i64.wrap (a1 - a0))), [])
else some (PV.sc (Value.int IntKind.i64 (IntKind.i64.wrap (a0 - a1))), [])) := by kernel_rfl
noncomputable abbrev l44L (a0 : Int) (a1 : Int) (a2 : Int) (a3 : Int) := evFuncV Try.prog T0 noCuts Try.f44 (killA 0 [sI, sI, sI, bI]) (showA 0 [sI, sI, sI, bI] (a0, (a1, (a2, (a3, ()))))).1 (showA 0 [sI, sI, sI, bI] (a0, (a1, (a2, (a3, ()))))).2
theorem l44 (a0 : Int) (a1 : Int) (a2 : Int) (a3 : Int) : l44L a0 a1 a2 a3 = (bif decide (a2 < 0) then
  bif a1 == a3 then some (PV.sc (Value.bool (a0 == 0)), [Blk.fix false [PV.sc (Value.int IntKind.i64 a3)]])
  else some (PV.sc (Value.bool false), [Blk.fix false [PV.sc (Value.int IntKind.i64 a3)]])
else
  bif a1 == 0 then some (PV.sc (Value.bool (a0 == a2)), [Blk.fix false [PV.sc (Value.int IntKind.i64 a3)]])
  else some (PV.sc (Value.bool false), [Blk.fix false [PV.sc (Value.int IntKind.i64 a3)]])) := by kernel_rfl
noncomputable abbrev l86L (P : FT → Int → Int → FT × Int) (a0 : FT) (a1 : FT) (a2 : Int) (a3 : Int) (a4 : Int) (a5 : Int) (a6 : Int) := evFuncV Try.prog (T6 P) noCuts Try.f86 (killA 0 [sPr, sP]) (showA 0 [sPr, sP] ((a0, (a1, (a2, (a3, a4)))), ((a5, a6), ()))).1 (showA 0 [sPr, sP] ((a0, (a1, (a2, (a3, a4)))), ((a5, a6), ()))).2
theorem l86 (P : FT → Int → Int → FT × Int) (a0 : FT) (a1 : FT) (a2 : Int) (a3 : Int) (a4 : Int) (a5 : Int) (a6 : Int) : l86L P a0 a1 a2 a3 a4 a5 a6 = (bif
    decide
      (IntKind.i64.wrap
          (IntKind.i64.wrap (a5 - a0.fst.snd.snd.snd.snd.snd.snd.snd.fst) - a1.fst.snd.snd.snd.snd.snd.snd.snd.fst) >
        0) then
  bif
      decide
        (sq a0.fst.snd.snd.snd.fst.fst a0.fst.snd.snd.snd.fst.snd a1.fst.snd.snd.snd.fst.fst
            a1.fst.snd.snd.snd.fst.snd <
          IntKind.i64.wrap
            (IntKind.i64.wrap
                (IntKind.i64.wrap (a5 - a0.fst.snd.snd.snd.snd.snd.snd.snd.fst) -
                  a1.fst.snd.snd.snd.snd.snd.snd.snd.fst) *
              IntKind.i64.wrap
                (IntKind.i64.wrap (a5 - a0.fst.snd.snd.snd.snd.snd.snd.snd.fst) -
                  a1.fst.snd.snd.snd.snd.snd.snd.snd.fst))) then
    some
      (PV.sc
          (Value.bool
            (decide
              (apS a0.fst.snd.snd.snd.snd.snd.fst a1.fst.snd.snd.snd.snd.snd.fst <
                IntKind.i64.wrap (IntKind.i64.wrap (a6 - a2) - a3)))),
        [])
  else some (PV.sc (Value.bool false), [])
else some (PV.sc (Value.bool false), [])) := by kernel_rfl
noncomputable abbrev l87L (P : FT → Int → Int → FT × Int) (a0 : FT) (a1 : FT) (a2 : Int) (a3 : Int) (a4 : Int) (a5 : Int) (a6 : Int) := evFuncV Try.prog (T6 P) noCuts Try.f87 (killA 0 [sPr, sP]) (showA 0 [sPr, sP] ((a0, (a1, (a2, (a3, a4)))), ((a5, a6), ()))).1 (showA 0 [sPr, sP] ((a0, (a1, (a2, (a3, a4)))), ((a5, a6), ()))).2
theorem l87 (P : FT → Int → Int → FT × Int) (a0 : FT) (a1 : FT) (a2 : Int) (a3 : Int) (a4 : Int) (a5 : Int) (a6 : Int) : l87L P a0 a1 a2 a3 a4 a5 a6 = (bif
    decide
      (sq a0.fst.snd.snd.snd.fst.fst a0.fst.snd.snd.snd.fst.snd a1.fst.snd.snd.snd.fst.fst a1.fst.snd.snd.snd.fst.snd <
        IntKind.i64.wrap
          (IntKind.i64.wrap
              (IntKind.i64.wrap (a5 + a0.fst.snd.snd.snd.snd.snd.snd.snd.fst) +
                a1.fst.snd.snd.snd.snd.snd.snd.snd.fst) *
            IntKind.i64.wrap
              (IntKind.i64.wrap (a5 + a0.fst.snd.snd.snd.snd.snd.snd.snd.fst) +
                a1.fst.snd.snd.snd.snd.snd.snd.snd.fst))) then
  some
    (PV.sc
        (Value.bool
          (decide
            (apS a0.fst.snd.snd.snd.snd.snd.fst a1.fst.snd.snd.snd.snd.snd.fst <
              IntKind.i64.wrap (IntKind.i64.wrap (a6 + a2) + a3)))),
      [])
else some (PV.sc (Value.bool false), [])) := by kernel_rfl
noncomputable abbrev l43L (P : FT → Int → Int → FT × Int) (a0 : FT) (a1 : FT) (a2 : Int) (a3 : Int) (a4 : Int) (a5 : Int) := evFuncV Try.prog (T6 P) noCuts Try.f43 (killA 0 [sFT, sFT, sP, sI, sI]) (showA 0 [sFT, sFT, sP, sI, sI] (a0, (a1, ((a2, a3), (a4, (a5, ())))))).1 (showA 0 [sFT, sFT, sP, sI, sI] (a0, (a1, ((a2, a3), (a4, (a5, ())))))).2
theorem l43 (P : FT → Int → Int → FT × Int) (a0 : FT) (a1 : FT) (a2 : Int) (a3 : Int) (a4 : Int) (a5 : Int) : l43L P a0 a1 a2 a3 a4 a5 = (bif
    decide
      (sq a0.fst.snd.snd.snd.fst.fst a0.fst.snd.snd.snd.fst.snd a1.fst.snd.snd.snd.fst.fst a1.fst.snd.snd.snd.fst.snd <
        IntKind.i64.wrap
          (IntKind.i64.wrap
              (a2 +
                IntKind.i64.wrap (a0.fst.snd.snd.snd.snd.snd.snd.snd.fst + a1.fst.snd.snd.snd.snd.snd.snd.snd.fst)) *
            IntKind.i64.wrap
              (a2 +
                IntKind.i64.wrap
                  (a0.fst.snd.snd.snd.snd.snd.snd.snd.fst + a1.fst.snd.snd.snd.snd.snd.snd.snd.fst)))) then
  bif
      decide
        (a2 > IntKind.i64.wrap (a0.fst.snd.snd.snd.snd.snd.snd.snd.fst + a1.fst.snd.snd.snd.snd.snd.snd.snd.fst)) then
    bif
        decide
          (sq a0.fst.snd.snd.snd.fst.fst a0.fst.snd.snd.snd.fst.snd a1.fst.snd.snd.snd.fst.fst
              a1.fst.snd.snd.snd.fst.snd <
            IntKind.i64.wrap
              (IntKind.i64.wrap
                  (a2 -
                    IntKind.i64.wrap
                      (a0.fst.snd.snd.snd.snd.snd.snd.snd.fst + a1.fst.snd.snd.snd.snd.snd.snd.snd.fst)) *
                IntKind.i64.wrap
                  (a2 -
                    IntKind.i64.wrap
                      (a0.fst.snd.snd.snd.snd.snd.snd.snd.fst + a1.fst.snd.snd.snd.snd.snd.snd.snd.fst)))) then
      some
        (PV.tup
            [PV.sc
                (Value.bool
                  (decide
                    (apR a0.fst.snd.snd.snd.snd.snd.fst a1.fst.snd.snd.snd.snd.snd.fst <
                      IntKind.i64.wrap (IntKind.i64.wrap (a3 + a4) + a5)))),
              PV.sc
                (Value.bool
                  (decide
                    (apR a0.fst.snd.snd.snd.snd.snd.fst a1.fst.snd.snd.snd.snd.snd.fst <
                      IntKind.i64.wrap (IntKind.i64.wrap (a3 - a4) - a5))))],
          [])
    else
      some
        (PV.tup
            [PV.sc
                (Value.bool
                  (decide
                    (apR a0.fst.snd.snd.snd.snd.snd.fst a1.fst.snd.snd.snd.snd.snd.fst <
                      IntKind.i64.wrap (IntKind.i64.wrap (a3 + a4) + a5)))),
              PV.sc (Value.bool false)],
          [])
  else
    some
      (PV.tup
          [PV.sc
              (Value.bool
                (decide
                  (apR a0.fst.snd.snd.snd.snd.snd.fst a1.fst.snd.snd.snd.snd.snd.fst <
                    IntKind.i64.wrap (IntKind.i64.wrap (a3 + a4) + a5)))),
            PV.sc (Value.bool false)],
        [])
else
  bif
      decide
        (a2 > IntKind.i64.wrap (a0.fst.snd.snd.snd.snd.snd.snd.snd.fst + a1.fst.snd.snd.snd.snd.snd.snd.snd.fst)) then
    bif
        decide
          (sq a0.fst.snd.snd.snd.fst.fst a0.fst.snd.snd.snd.fst.snd a1.fst.snd.snd.snd.fst.fst
              a1.fst.snd.snd.snd.fst.snd <
            IntKind.i64.wrap
              (IntKind.i64.wrap
                  (a2 -
                    IntKind.i64.wrap
                      (a0.fst.snd.snd.snd.snd.snd.snd.snd.fst + a1.fst.snd.snd.snd.snd.snd.snd.snd.fst)) *
                IntKind.i64.wrap
                  (a2 -
                    IntKind.i64.wrap
                      (a0.fst.snd.snd.snd.snd.snd.snd.snd.fst + a1.fst.snd.snd.snd.snd.snd.snd.snd.fst)))) then
      some
        (PV.tup
            [PV.sc (Value.bool false),
              PV.sc
                (Value.bool
                  (decide
                    (apR a0.fst.snd.snd.snd.snd.snd.fst a1.fst.snd.snd.snd.snd.snd.fst <
                      IntKind.i64.wrap (IntKind.i64.wrap (a3 - a4) - a5))))],
          [])
    else some (PV.tup [PV.sc (Value.bool false), PV.sc (Value.bool false)], [])
  else some (PV.tup [PV.sc (Value.bool false), PV.sc (Value.bool false)], [])) := by kernel_rfl
noncomputable abbrev l84L (P : FT → Int → Int → FT × Int) (a0 : FT) (a1 : FT) (a2 : Int) (a3 : Int) (a4 : Int) (a5 : Int) (a6 : Int) := evFuncV Try.prog (T6 P) noCuts Try.f84 (killA 0 [sFT, sFT, sP, sI, sI, sI]) (showA 0 [sFT, sFT, sP, sI, sI, sI] (a0, (a1, ((a2, a3), (a4, (a5, (a6, ()))))))).1 (showA 0 [sFT, sFT, sP, sI, sI, sI] (a0, (a1, ((a2, a3), (a4, (a5, (a6, ()))))))).2
theorem l84 (P : FT → Int → Int → FT × Int) (a0 : FT) (a1 : FT) (a2 : Int) (a3 : Int) (a4 : Int) (a5 : Int) (a6 : Int) : l84L P a0 a1 a2 a3 a4 a5 a6 = (bif checkE a0 != 0 then some (PV.sc (Value.int IntKind.i64 (checkE a0)), [])
else
  bif checkE a1 != 0 then some (PV.sc (Value.int IntKind.i64 (checkE a1)), [])
  else
    bif decide (a2 < 0) then some (PV.sc (Value.int IntKind.i64 4), [])
    else
      bif decide (a2 > 1000000) then some (PV.sc (Value.int IntKind.i64 4), [])
      else
        bif decide (a3 < 0) then some (PV.sc (Value.int IntKind.i64 4), [])
        else
          bif decide (a3 > 60000) then some (PV.sc (Value.int IntKind.i64 4), [])
          else
            bif decide (a4 < 0) then some (PV.sc (Value.int IntKind.i64 4), [])
            else
              bif decide (a4 > 300) then some (PV.sc (Value.int IntKind.i64 4), [])
              else
                bif decide (a5 < 0) then some (PV.sc (Value.int IntKind.i64 4), [])
                else
                  bif decide (a5 > 20) then some (PV.sc (Value.int IntKind.i64 4), [])
                  else
                    bif decide (a6 < 0) then some (PV.sc (Value.int IntKind.i64 4), [])
                    else
                      bif decide (a6 > 200) then some (PV.sc (Value.int IntKind.i64 4), [])
                      else some (PV.sc (Value.int IntKind.i64 0), [])) := by kernel_rfl
noncomputable abbrev l85L (P : FT → Int → Int → FT × Int) (a0 : FT) (a1 : FT) (a2 : Int) (a3 : Int) (a4 : Int) := evFuncV Try.prog (T6 P) noCuts Try.f85 (killA 0 [sFT, sFT, sI, sI, sI]) (showA 0 [sFT, sFT, sI, sI, sI] (a0, (a1, (a2, (a3, (a4, ())))))).1 (showA 0 [sFT, sFT, sI, sI, sI] (a0, (a1, (a2, (a3, (a4, ())))))).2
theorem l85 (P : FT → Int → Int → FT × Int) (a0 : FT) (a1 : FT) (a2 : Int) (a3 : Int) (a4 : Int) : l85L P a0 a1 a2 a3 a4 = (bif (P a0 a2 a3).snd != 0 then
  some
    (PV.agg
        [PV.sc (Value.int IntKind.i64 (P a0 a2 a3).fst.fst.fst),
          PV.sc (Value.int IntKind.i64 (P a0 a2 a3).fst.fst.snd.fst),
          PV.sc (Value.int IntKind.i64 (P a0 a2 a3).fst.fst.snd.snd.fst),
          PV.sc (Value.int IntKind.i64 (P a0 a2 a3).fst.fst.snd.snd.snd.fst.fst),
          PV.sc (Value.int IntKind.i64 (P a0 a2 a3).fst.fst.snd.snd.snd.fst.snd),
          PV.sc (Value.int IntKind.i64 (P a0 a2 a3).fst.fst.snd.snd.snd.snd.fst.fst),
          PV.sc (Value.int IntKind.i64 (P a0 a2 a3).fst.fst.snd.snd.snd.snd.fst.snd),
          PV.sc (Value.int IntKind.i64 (P a0 a2 a3).fst.fst.snd.snd.snd.snd.snd.fst),
          PV.sc (Value.int IntKind.i64 (P a0 a2 a3).fst.fst.snd.snd.snd.snd.snd.snd.fst),
          PV.sc (Value.int IntKind.i64 (P a0 a2 a3).fst.fst.snd.snd.snd.snd.snd.snd.snd.fst),
          PV.sc (Value.int IntKind.i64 (P a0 a2 a3).fst.fst.snd.snd.snd.snd.snd.snd.snd.snd.fst),
          PV.sc (Value.int IntKind.i64 (P a0 a2 a3).fst.fst.snd.snd.snd.snd.snd.snd.snd.snd.snd.fst),
          PV.sc (Value.int IntKind.i64 (P a0 a2 a3).fst.fst.snd.snd.snd.snd.snd.snd.snd.snd.snd.snd),
          PV.sc (Value.int IntKind.i64 (P a0 a2 a3).fst.snd.fst),
          PV.sc (Value.int IntKind.i64 (P a0 a2 a3).fst.snd.snd.fst),
          PV.sc (Value.int IntKind.i64 (P a0 a2 a3).fst.snd.snd.snd.fst.fst),
          PV.sc (Value.int IntKind.i64 (P a0 a2 a3).fst.snd.snd.snd.fst.snd),
          PV.sc (Value.int IntKind.i64 (P a0 a2 a3).fst.snd.snd.snd.snd.fst),
          PV.sc (Value.int IntKind.i64 (P a0 a2 a3).fst.snd.snd.snd.snd.snd.fst),
          PV.sc (Value.int IntKind.i64 (P a0 a2 a3).fst.snd.snd.snd.snd.snd.snd),
          PV.sc (Value.int IntKind.i64 (P a1 a2 a3).fst.fst.fst),
          PV.sc (Value.int IntKind.i64 (P a1 a2 a3).fst.fst.snd.fst),
          PV.sc (Value.int IntKind.i64 (P a1 a2 a3).fst.fst.snd.snd.fst),
          PV.sc (Value.int IntKind.i64 (P a1 a2 a3).fst.fst.snd.snd.snd.fst.fst),
          PV.sc (Value.int IntKind.i64 (P a1 a2 a3).fst.fst.snd.snd.snd.fst.snd),
          PV.sc (Value.int IntKind.i64 (P a1 a2 a3).fst.fst.snd.snd.snd.snd.fst.fst),
          PV.sc (Value.int IntKind.i64 (P a1 a2 a3).fst.fst.snd.snd.snd.snd.fst.snd),
          PV.sc (Value.int IntKind.i64 (P a1 a2 a3).fst.fst.snd.snd.snd.snd.snd.fst),
          PV.sc (Value.int IntKind.i64 (P a1 a2 a3).fst.fst.snd.snd.snd.snd.snd.snd.fst),
          PV.sc (Value.int IntKind.i64 (P a1 a2 a3).fst.fst.snd.snd.snd.snd.snd.snd.snd.fst),
          PV.sc (Value.int IntKind.i64 (P a1 a2 a3).fst.fst.snd.snd.snd.snd.snd.snd.snd.snd.fst),
          PV.sc (Value.int IntKind.i64 (P a1 a2 a3).fst.fst.snd.snd.snd.snd.snd.snd.snd.snd.snd.fst),
          PV.sc (Value.int IntKind.i64 (P a1 a2 a3).fst.fst.snd.snd.snd.snd.snd.snd.snd.snd.snd.snd),
          PV.sc (Value.int IntKind.i64 (P a1 a2 a3).fst.snd.fst),
          PV.sc (Value.int IntKind.i64 (P a1 a2 a3).fst.snd.snd.fst),
          PV.sc (Value.int IntKind.i64 (P a1 a2 a3).fst.snd.snd.snd.fst.fst),
          PV.sc (Value.int IntKind.i64 (P a1 a2 a3).fst.snd.snd.snd.fst.snd),
          PV.sc (Value.int IntKind.i64 (P a1 a2 a3).fst.snd.snd.snd.snd.fst),
          PV.sc (Value.int IntKind.i64 (P a1 a2 a3).fst.snd.snd.snd.snd.snd.fst),
          PV.sc (Value.int IntKind.i64 (P a1 a2 a3).fst.snd.snd.snd.snd.snd.snd), PV.sc (Value.int IntKind.i64 0),
          PV.sc (Value.int IntKind.i64 0), PV.sc (Value.int IntKind.i64 8)],
      [])
else
  bif (P a1 a2 a3).snd != 0 then
    some
      (PV.agg
          [PV.sc (Value.int IntKind.i64 (P a0 a2 a3).fst.fst.fst),
            PV.sc (Value.int IntKind.i64 (P a0 a2 a3).fst.fst.snd.fst),
            PV.sc (Value.int IntKind.i64 (P a0 a2 a3).fst.fst.snd.snd.fst),
            PV.sc (Value.int IntKind.i64 (P a0 a2 a3).fst.fst.snd.snd.snd.fst.fst),
            PV.sc (Value.int IntKind.i64 (P a0 a2 a3).fst.fst.snd.snd.snd.fst.snd),
            PV.sc (Value.int IntKind.i64 (P a0 a2 a3).fst.fst.snd.snd.snd.snd.fst.fst),
            PV.sc (Value.int IntKind.i64 (P a0 a2 a3).fst.fst.snd.snd.snd.snd.fst.snd),
            PV.sc (Value.int IntKind.i64 (P a0 a2 a3).fst.fst.snd.snd.snd.snd.snd.fst),
            PV.sc (Value.int IntKind.i64 (P a0 a2 a3).fst.fst.snd.snd.snd.snd.snd.snd.fst),
            PV.sc (Value.int IntKind.i64 (P a0 a2 a3).fst.fst.snd.snd.snd.snd.snd.snd.snd.fst),
            PV.sc (Value.int IntKind.i64 (P a0 a2 a3).fst.fst.snd.snd.snd.snd.snd.snd.snd.snd.fst),
            PV.sc (Value.int IntKind.i64 (P a0 a2 a3).fst.fst.snd.snd.snd.snd.snd.snd.snd.snd.snd.fst),
            PV.sc (Value.int IntKind.i64 (P a0 a2 a3).fst.fst.snd.snd.snd.snd.snd.snd.snd.snd.snd.snd),
            PV.sc (Value.int IntKind.i64 (P a0 a2 a3).fst.snd.fst),
            PV.sc (Value.int IntKind.i64 (P a0 a2 a3).fst.snd.snd.fst),
            PV.sc (Value.int IntKind.i64 (P a0 a2 a3).fst.snd.snd.snd.fst.fst),
            PV.sc (Value.int IntKind.i64 (P a0 a2 a3).fst.snd.snd.snd.fst.snd),
            PV.sc (Value.int IntKind.i64 (P a0 a2 a3).fst.snd.snd.snd.snd.fst),
            PV.sc (Value.int IntKind.i64 (P a0 a2 a3).fst.snd.snd.snd.snd.snd.fst),
            PV.sc (Value.int IntKind.i64 (P a0 a2 a3).fst.snd.snd.snd.snd.snd.snd),
            PV.sc (Value.int IntKind.i64 (P a1 a2 a3).fst.fst.fst),
            PV.sc (Value.int IntKind.i64 (P a1 a2 a3).fst.fst.snd.fst),
            PV.sc (Value.int IntKind.i64 (P a1 a2 a3).fst.fst.snd.snd.fst),
            PV.sc (Value.int IntKind.i64 (P a1 a2 a3).fst.fst.snd.snd.snd.fst.fst),
            PV.sc (Value.int IntKind.i64 (P a1 a2 a3).fst.fst.snd.snd.snd.fst.snd),
            PV.sc (Value.int IntKind.i64 (P a1 a2 a3).fst.fst.snd.snd.snd.snd.fst.fst),
            PV.sc (Value.int IntKind.i64 (P a1 a2 a3).fst.fst.snd.snd.snd.snd.fst.snd),
            PV.sc (Value.int IntKind.i64 (P a1 a2 a3).fst.fst.snd.snd.snd.snd.snd.fst),
            PV.sc (Value.int IntKind.i64 (P a1 a2 a3).fst.fst.snd.snd.snd.snd.snd.snd.fst),
            PV.sc (Value.int IntKind.i64 (P a1 a2 a3).fst.fst.snd.snd.snd.snd.snd.snd.snd.fst),
            PV.sc (Value.int IntKind.i64 (P a1 a2 a3).fst.fst.snd.snd.snd.snd.snd.snd.snd.snd.fst),
            PV.sc (Value.int IntKind.i64 (P a1 a2 a3).fst.fst.snd.snd.snd.snd.snd.snd.snd.snd.snd.fst),
            PV.sc (Value.int IntKind.i64 (P a1 a2 a3).fst.fst.snd.snd.snd.snd.snd.snd.snd.snd.snd.snd),
            PV.sc (Value.int IntKind.i64 (P a1 a2 a3).fst.snd.fst),
            PV.sc (Value.int IntKind.i64 (P a1 a2 a3).fst.snd.snd.fst),
            PV.sc (Value.int IntKind.i64 (P a1 a2 a3).fst.snd.snd.snd.fst.fst),
            PV.sc (Value.int IntKind.i64 (P a1 a2 a3).fst.snd.snd.snd.fst.snd),
            PV.sc (Value.int IntKind.i64 (P a1 a2 a3).fst.snd.snd.snd.snd.fst),
            PV.sc (Value.int IntKind.i64 (P a1 a2 a3).fst.snd.snd.snd.snd.snd.fst),
            PV.sc (Value.int IntKind.i64 (P a1 a2 a3).fst.snd.snd.snd.snd.snd.snd), PV.sc (Value.int IntKind.i64 0),
            PV.sc (Value.int IntKind.i64 0), PV.sc (Value.int IntKind.i64 8)],
        [])
  else
    some
      (PV.agg
          [PV.sc (Value.int IntKind.i64 (P a0 a2 a3).fst.fst.fst),
            PV.sc (Value.int IntKind.i64 (P a0 a2 a3).fst.fst.snd.fst),
            PV.sc (Value.int IntKind.i64 (P a0 a2 a3).fst.fst.snd.snd.fst),
            PV.sc (Value.int IntKind.i64 (P a0 a2 a3).fst.fst.snd.snd.snd.fst.fst),
            PV.sc (Value.int IntKind.i64 (P a0 a2 a3).fst.fst.snd.snd.snd.fst.snd),
            PV.sc (Value.int IntKind.i64 (P a0 a2 a3).fst.fst.snd.snd.snd.snd.fst.fst),
            PV.sc (Value.int IntKind.i64 (P a0 a2 a3).fst.fst.snd.snd.snd.snd.fst.snd),
            PV.sc (Value.int IntKind.i64 (P a0 a2 a3).fst.fst.snd.snd.snd.snd.snd.fst),
            PV.sc (Value.int IntKind.i64 (P a0 a2 a3).fst.fst.snd.snd.snd.snd.snd.snd.fst),
            PV.sc (Value.int IntKind.i64 (P a0 a2 a3).fst.fst.snd.snd.snd.snd.snd.snd.snd.fst),
            PV.sc (Value.int IntKind.i64 (P a0 a2 a3).fst.fst.snd.snd.snd.snd.snd.snd.snd.snd.fst),
            PV.sc (Value.int IntKind.i64 (P a0 a2 a3).fst.fst.snd.snd.snd.snd.snd.snd.snd.snd.snd.fst),
            PV.sc (Value.int IntKind.i64 (P a0 a2 a3).fst.fst.snd.snd.snd.snd.snd.snd.snd.snd.snd.snd),
            PV.sc (Value.int IntKind.i64 (P a0 a2 a3).fst.snd.fst),
            PV.sc (Value.int IntKind.i64 (P a0 a2 a3).fst.snd.snd.fst),
            PV.sc (Value.int IntKind.i64 (P a0 a2 a3).fst.snd.snd.snd.fst.fst),
            PV.sc (Value.int IntKind.i64 (P a0 a2 a3).fst.snd.snd.snd.fst.snd),
            PV.sc (Value.int IntKind.i64 (P a0 a2 a3).fst.snd.snd.snd.snd.fst),
            PV.sc (Value.int IntKind.i64 (P a0 a2 a3).fst.snd.snd.snd.snd.snd.fst),
            PV.sc (Value.int IntKind.i64 (P a0 a2 a3).fst.snd.snd.snd.snd.snd.snd),
            PV.sc (Value.int IntKind.i64 (P a1 a2 a3).fst.fst.fst),
            PV.sc (Value.int IntKind.i64 (P a1 a2 a3).fst.fst.snd.fst),
            PV.sc (Value.int IntKind.i64 (P a1 a2 a3).fst.fst.snd.snd.fst),
            PV.sc (Value.int IntKind.i64 (P a1 a2 a3).fst.fst.snd.snd.snd.fst.fst),
            PV.sc (Value.int IntKind.i64 (P a1 a2 a3).fst.fst.snd.snd.snd.fst.snd),
            PV.sc (Value.int IntKind.i64 (P a1 a2 a3).fst.fst.snd.snd.snd.snd.fst.fst),
            PV.sc (Value.int IntKind.i64 (P a1 a2 a3).fst.fst.snd.snd.snd.snd.fst.snd),
            PV.sc (Value.int IntKind.i64 (P a1 a2 a3).fst.fst.snd.snd.snd.snd.snd.fst),
            PV.sc (Value.int IntKind.i64 (P a1 a2 a3).fst.fst.snd.snd.snd.snd.snd.snd.fst),
            PV.sc (Value.int IntKind.i64 (P a1 a2 a3).fst.fst.snd.snd.snd.snd.snd.snd.snd.fst),
            PV.sc (Value.int IntKind.i64 (P a1 a2 a3).fst.fst.snd.snd.snd.snd.snd.snd.snd.snd.fst),
            PV.sc (Value.int IntKind.i64 (P a1 a2 a3).fst.fst.snd.snd.snd.snd.snd.snd.snd.snd.snd.fst),
            PV.sc (Value.int IntKind.i64 (P a1 a2 a3).fst.fst.snd.snd.snd.snd.snd.snd.snd.snd.snd.snd),
            PV.sc (Value.int IntKind.i64 (P a1 a2 a3).fst.snd.fst),
            PV.sc (Value.int IntKind.i64 (P a1 a2 a3).fst.snd.snd.fst),
            PV.sc (Value.int IntKind.i64 (P a1 a2 a3).fst.snd.snd.snd.fst.fst),
            PV.sc (Value.int IntKind.i64 (P a1 a2 a3).fst.snd.snd.snd.fst.snd),
            PV.sc (Value.int IntKind.i64 (P a1 a2 a3).fst.snd.snd.snd.snd.fst),
            PV.sc (Value.int IntKind.i64 (P a1 a2 a3).fst.snd.snd.snd.snd.snd.fst),
            PV.sc (Value.int IntKind.i64 (P a1 a2 a3).fst.snd.snd.snd.snd.snd.snd),
            PV.sc
              (Value.int IntKind.i64
                (IntKind.i64.wrap (100 + IntKind.i64.wrap (a4 * IntKind.i64.wrap (a2 - a0.fst.snd.snd.fst))))),
            PV.sc
              (Value.int IntKind.i64
                (IntKind.i64.wrap (100 + IntKind.i64.wrap (a4 * IntKind.i64.wrap (a2 - a1.fst.snd.snd.fst))))),
            PV.sc (Value.int IntKind.i64 0)],
        [])) := by kernel_rfl
noncomputable abbrev l40lL (P : FT → Int → Int → FT × Int) (a0 : Int) (a1 : Int) (a2 : Int) (a3 : FT) (a4 : FT) (a5 : Int) (a6 : Int) (a7 : Int) (a8 : Int) := evRound Try.prog (T7 P) noCuts 55 (loopOf (codeAt 0 (bodyF Try.f40))) kL muL (killA 0 kL) [3, 4, 5, 6, 7, 8, 15, 16] [12, 13] (cL P true) (a0, (a1, (a2, (a3, (a4, ((a5, a6), (a7, (a8, ()))))))))
theorem l40l (P : FT → Int → Int → FT × Int) (a0 : Int) (a1 : Int) (a2 : Int) (a3 : FT) (a4 : FT) (a5 : Int) (a6 : Int) (a7 : Int) (a8 : Int) : l40lL P a0 a1 a2 a3 a4 a5 a6 a7 a8 = (bif decide (a8 ≤ a0) then
  bif (bif errB P a3 a4 (IntKind.i64.wrap (a7 + a8)) a1 then (8 : Int) else 0) != 0 then
    some
      (Xt.ret, [PV.sc (Value.int IntKind.i64 0), PV.sc (Value.int IntKind.i64 12)],
        [Blk.fix false
            [PV.sc (Value.int IntKind.i64 a3.fst.fst), PV.sc (Value.int IntKind.i64 a3.fst.snd.fst),
              PV.sc (Value.int IntKind.i64 a3.fst.snd.snd.fst),
              PV.sc (Value.int IntKind.i64 a3.fst.snd.snd.snd.fst.fst),
              PV.sc (Value.int IntKind.i64 a3.fst.snd.snd.snd.fst.snd),
              PV.sc (Value.int IntKind.i64 a3.fst.snd.snd.snd.snd.fst.fst),
              PV.sc (Value.int IntKind.i64 a3.fst.snd.snd.snd.snd.fst.snd),
              PV.sc (Value.int IntKind.i64 a3.fst.snd.snd.snd.snd.snd.fst),
              PV.sc (Value.int IntKind.i64 a3.fst.snd.snd.snd.snd.snd.snd.fst),
              PV.sc (Value.int IntKind.i64 a3.fst.snd.snd.snd.snd.snd.snd.snd.fst),
              PV.sc (Value.int IntKind.i64 a3.fst.snd.snd.snd.snd.snd.snd.snd.snd.fst),
              PV.sc (Value.int IntKind.i64 a3.fst.snd.snd.snd.snd.snd.snd.snd.snd.snd.fst),
              PV.sc (Value.int IntKind.i64 a3.fst.snd.snd.snd.snd.snd.snd.snd.snd.snd.snd),
              PV.sc (Value.int IntKind.i64 a3.snd.fst), PV.sc (Value.int IntKind.i64 a3.snd.snd.fst),
              PV.sc (Value.int IntKind.i64 a3.snd.snd.snd.fst.fst),
              PV.sc (Value.int IntKind.i64 a3.snd.snd.snd.fst.snd),
              PV.sc (Value.int IntKind.i64 a3.snd.snd.snd.snd.fst),
              PV.sc (Value.int IntKind.i64 a3.snd.snd.snd.snd.snd.fst),
              PV.sc (Value.int IntKind.i64 a3.snd.snd.snd.snd.snd.snd)],
          Blk.fix false
            [PV.sc (Value.int IntKind.i64 a4.fst.fst), PV.sc (Value.int IntKind.i64 a4.fst.snd.fst),
              PV.sc (Value.int IntKind.i64 a4.fst.snd.snd.fst),
              PV.sc (Value.int IntKind.i64 a4.fst.snd.snd.snd.fst.fst),
              PV.sc (Value.int IntKind.i64 a4.fst.snd.snd.snd.fst.snd),
              PV.sc (Value.int IntKind.i64 a4.fst.snd.snd.snd.snd.fst.fst),
              PV.sc (Value.int IntKind.i64 a4.fst.snd.snd.snd.snd.fst.snd),
              PV.sc (Value.int IntKind.i64 a4.fst.snd.snd.snd.snd.snd.fst),
              PV.sc (Value.int IntKind.i64 a4.fst.snd.snd.snd.snd.snd.snd.fst),
              PV.sc (Value.int IntKind.i64 a4.fst.snd.snd.snd.snd.snd.snd.snd.fst),
              PV.sc (Value.int IntKind.i64 a4.fst.snd.snd.snd.snd.snd.snd.snd.snd.fst),
              PV.sc (Value.int IntKind.i64 a4.fst.snd.snd.snd.snd.snd.snd.snd.snd.snd.fst),
              PV.sc (Value.int IntKind.i64 a4.fst.snd.snd.snd.snd.snd.snd.snd.snd.snd.snd),
              PV.sc (Value.int IntKind.i64 a4.snd.fst), PV.sc (Value.int IntKind.i64 a4.snd.snd.fst),
              PV.sc (Value.int IntKind.i64 a4.snd.snd.snd.fst.fst),
              PV.sc (Value.int IntKind.i64 a4.snd.snd.snd.fst.snd),
              PV.sc (Value.int IntKind.i64 a4.snd.snd.snd.snd.fst),
              PV.sc (Value.int IntKind.i64 a4.snd.snd.snd.snd.snd.fst),
              PV.sc (Value.int IntKind.i64 a4.snd.snd.snd.snd.snd.snd)],
          Blk.fix false [PV.sc (Value.int IntKind.i64 a5), PV.sc (Value.int IntKind.i64 a6)]])
  else
    guardB
      (okB (atS P a3 a4 (IntKind.i64.wrap (a7 + a8)) a1 a2).fst (atS P a3 a4 (IntKind.i64.wrap (a7 + a8)) a1 a2).snd.fst
        a5 a6)
      (bif
          sureB (atS P a3 a4 (IntKind.i64.wrap (a7 + a8)) a1 a2).fst
            (atS P a3 a4 (IntKind.i64.wrap (a7 + a8)) a1 a2).snd.fst a5 a6
            (bif errB P a3 a4 (IntKind.i64.wrap (a7 + a8)) a1 then 0
            else gr a2 (IntKind.i64.wrap (a7 + a8)) (timeOf a3))
            (bif errB P a3 a4 (IntKind.i64.wrap (a7 + a8)) a1 then 0
            else gr a2 (IntKind.i64.wrap (a7 + a8)) (timeOf a4)) then
        some
          (Xt.ret, [PV.sc (Value.int IntKind.i64 a8), PV.sc (Value.int IntKind.i64 0)],
            [Blk.fix false
                [PV.sc (Value.int IntKind.i64 a3.fst.fst), PV.sc (Value.int IntKind.i64 a3.fst.snd.fst),
                  PV.sc (Value.int IntKind.i64 a3.fst.snd.snd.fst),
                  PV.sc (Value.int IntKind.i64 a3.fst.snd.snd.snd.fst.fst),
                  PV.sc (Value.int IntKind.i64 a3.fst.snd.snd.snd.fst.snd),
                  PV.sc (Value.int IntKind.i64 a3.fst.snd.snd.snd.snd.fst.fst),
                  PV.sc (Value.int IntKind.i64 a3.fst.snd.snd.snd.snd.fst.snd),
                  PV.sc (Value.int IntKind.i64 a3.fst.snd.snd.snd.snd.snd.fst),
                  PV.sc (Value.int IntKind.i64 a3.fst.snd.snd.snd.snd.snd.snd.fst),
                  PV.sc (Value.int IntKind.i64 a3.fst.snd.snd.snd.snd.snd.snd.snd.fst),
                  PV.sc (Value.int IntKind.i64 a3.fst.snd.snd.snd.snd.snd.snd.snd.snd.fst),
                  PV.sc (Value.int IntKind.i64 a3.fst.snd.snd.snd.snd.snd.snd.snd.snd.snd.fst),
                  PV.sc (Value.int IntKind.i64 a3.fst.snd.snd.snd.snd.snd.snd.snd.snd.snd.snd),
                  PV.sc (Value.int IntKind.i64 a3.snd.fst), PV.sc (Value.int IntKind.i64 a3.snd.snd.fst),
                  PV.sc (Value.int IntKind.i64 a3.snd.snd.snd.fst.fst),
                  PV.sc (Value.int IntKind.i64 a3.snd.snd.snd.fst.snd),
                  PV.sc (Value.int IntKind.i64 a3.snd.snd.snd.snd.fst),
                  PV.sc (Value.int IntKind.i64 a3.snd.snd.snd.snd.snd.fst),
                  PV.sc (Value.int IntKind.i64 a3.snd.snd.snd.snd.snd.snd)],
              Blk.fix false
                [PV.sc (Value.int IntKind.i64 a4.fst.fst), PV.sc (Value.int IntKind.i64 a4.fst.snd.fst),
                  PV.sc (Value.int IntKind.i64 a4.fst.snd.snd.fst),
                  PV.sc (Value.int IntKind.i64 a4.fst.snd.snd.snd.fst.fst),
                  PV.sc (Value.int IntKind.i64 a4.fst.snd.snd.snd.fst.snd),
                  PV.sc (Value.int IntKind.i64 a4.fst.snd.snd.snd.snd.fst.fst),
                  PV.sc (Value.int IntKind.i64 a4.fst.snd.snd.snd.snd.fst.snd),
                  PV.sc (Value.int IntKind.i64 a4.fst.snd.snd.snd.snd.snd.fst),
                  PV.sc (Value.int IntKind.i64 a4.fst.snd.snd.snd.snd.snd.snd.fst),
                  PV.sc (Value.int IntKind.i64 a4.fst.snd.snd.snd.snd.snd.snd.snd.fst),
                  PV.sc (Value.int IntKind.i64 a4.fst.snd.snd.snd.snd.snd.snd.snd.snd.fst),
                  PV.sc (Value.int IntKind.i64 a4.fst.snd.snd.snd.snd.snd.snd.snd.snd.snd.fst),
                  PV.sc (Value.int IntKind.i64 a4.fst.snd.snd.snd.snd.snd.snd.snd.snd.snd.snd),
                  PV.sc (Value.int IntKind.i64 a4.snd.fst), PV.sc (Value.int IntKind.i64 a4.snd.snd.fst),
                  PV.sc (Value.int IntKind.i64 a4.snd.snd.snd.fst.fst),
                  PV.sc (Value.int IntKind.i64 a4.snd.snd.snd.fst.snd),
                  PV.sc (Value.int IntKind.i64 a4.snd.snd.snd.snd.fst),
                  PV.sc (Value.int IntKind.i64 a4.snd.snd.snd.snd.snd.fst),
                  PV.sc (Value.int IntKind.i64 a4.snd.snd.snd.snd.snd.snd)],
              Blk.fix false [PV.sc (Value.int IntKind.i64 a5), PV.sc (Value.int IntKind.i64 a6)]])
      else
        guardB
          (decide
            (muL (a0, a1, a2, a3, a4, (a5, a6), a7, IntKind.i64.wrap (a8 + 1), PUnit.unit) <
              muL (a0, a1, a2, a3, a4, (a5, a6), a7, a8, ())))
          (guardB (preL a3 a4 a5 a6 a0 (IntKind.i64.wrap (a8 + 1)))
            (bif (goV P true a0 a1 a2 a3 a4 a5 a6 a7 (IntKind.i64.wrap (a8 + 1))).isNone then
              some
                (Xt.exit 0, [PV.undef, PV.undef],
                  [Blk.fix false
                      [PV.sc (Value.int IntKind.i64 a3.fst.fst), PV.sc (Value.int IntKind.i64 a3.fst.snd.fst),
                        PV.sc (Value.int IntKind.i64 a3.fst.snd.snd.fst),
                        PV.sc (Value.int IntKind.i64 a3.fst.snd.snd.snd.fst.fst),
                        PV.sc (Value.int IntKind.i64 a3.fst.snd.snd.snd.fst.snd),
                        PV.sc (Value.int IntKind.i64 a3.fst.snd.snd.snd.snd.fst.fst),
                        PV.sc (Value.int IntKind.i64 a3.fst.snd.snd.snd.snd.fst.snd),
                        PV.sc (Value.int IntKind.i64 a3.fst.snd.snd.snd.snd.snd.fst),
                        PV.sc (Value.int IntKind.i64 a3.fst.snd.snd.snd.snd.snd.snd.fst),
                        PV.sc (Value.int IntKind.i64 a3.fst.snd.snd.snd.snd.snd.snd.snd.fst),
                        PV.sc (Value.int IntKind.i64 a3.fst.snd.snd.snd.snd.snd.snd.snd.snd.fst),
                        PV.sc (Value.int IntKind.i64 a3.fst.snd.snd.snd.snd.snd.snd.snd.snd.snd.fst),
                        PV.sc (Value.int IntKind.i64 a3.fst.snd.snd.snd.snd.snd.snd.snd.snd.snd.snd),
                        PV.sc (Value.int IntKind.i64 a3.snd.fst), PV.sc (Value.int IntKind.i64 a3.snd.snd.fst),
                        PV.sc (Value.int IntKind.i64 a3.snd.snd.snd.fst.fst),
                        PV.sc (Value.int IntKind.i64 a3.snd.snd.snd.fst.snd),
                        PV.sc (Value.int IntKind.i64 a3.snd.snd.snd.snd.fst),
                        PV.sc (Value.int IntKind.i64 a3.snd.snd.snd.snd.snd.fst),
                        PV.sc (Value.int IntKind.i64 a3.snd.snd.snd.snd.snd.snd)],
                    Blk.fix false
                      [PV.sc (Value.int IntKind.i64 a4.fst.fst), PV.sc (Value.int IntKind.i64 a4.fst.snd.fst),
                        PV.sc (Value.int IntKind.i64 a4.fst.snd.snd.fst),
                        PV.sc (Value.int IntKind.i64 a4.fst.snd.snd.snd.fst.fst),
                        PV.sc (Value.int IntKind.i64 a4.fst.snd.snd.snd.fst.snd),
                        PV.sc (Value.int IntKind.i64 a4.fst.snd.snd.snd.snd.fst.fst),
                        PV.sc (Value.int IntKind.i64 a4.fst.snd.snd.snd.snd.fst.snd),
                        PV.sc (Value.int IntKind.i64 a4.fst.snd.snd.snd.snd.snd.fst),
                        PV.sc (Value.int IntKind.i64 a4.fst.snd.snd.snd.snd.snd.snd.fst),
                        PV.sc (Value.int IntKind.i64 a4.fst.snd.snd.snd.snd.snd.snd.snd.fst),
                        PV.sc (Value.int IntKind.i64 a4.fst.snd.snd.snd.snd.snd.snd.snd.snd.fst),
                        PV.sc (Value.int IntKind.i64 a4.fst.snd.snd.snd.snd.snd.snd.snd.snd.snd.fst),
                        PV.sc (Value.int IntKind.i64 a4.fst.snd.snd.snd.snd.snd.snd.snd.snd.snd.snd),
                        PV.sc (Value.int IntKind.i64 a4.snd.fst), PV.sc (Value.int IntKind.i64 a4.snd.snd.fst),
                        PV.sc (Value.int IntKind.i64 a4.snd.snd.snd.fst.fst),
                        PV.sc (Value.int IntKind.i64 a4.snd.snd.snd.fst.snd),
                        PV.sc (Value.int IntKind.i64 a4.snd.snd.snd.snd.fst),
                        PV.sc (Value.int IntKind.i64 a4.snd.snd.snd.snd.snd.fst),
                        PV.sc (Value.int IntKind.i64 a4.snd.snd.snd.snd.snd.snd)],
                    Blk.fix false [PV.sc (Value.int IntKind.i64 a5), PV.sc (Value.int IntKind.i64 a6)]])
            else
              some
                (Xt.ret,
                  [PV.sc
                      (Value.int IntKind.i64
                        ((goV P true a0 a1 a2 a3 a4 a5 a6 a7 (IntKind.i64.wrap (a8 + 1))).getD (0, 0)).fst),
                    PV.sc
                      (Value.int IntKind.i64
                        ((goV P true a0 a1 a2 a3 a4 a5 a6 a7 (IntKind.i64.wrap (a8 + 1))).getD (0, 0)).snd)],
                  [Blk.fix false
                      [PV.sc (Value.int IntKind.i64 a3.fst.fst), PV.sc (Value.int IntKind.i64 a3.fst.snd.fst),
                        PV.sc (Value.int IntKind.i64 a3.fst.snd.snd.fst),
                        PV.sc (Value.int IntKind.i64 a3.fst.snd.snd.snd.fst.fst),
                        PV.sc (Value.int IntKind.i64 a3.fst.snd.snd.snd.fst.snd),
                        PV.sc (Value.int IntKind.i64 a3.fst.snd.snd.snd.snd.fst.fst),
                        PV.sc (Value.int IntKind.i64 a3.fst.snd.snd.snd.snd.fst.snd),
                        PV.sc (Value.int IntKind.i64 a3.fst.snd.snd.snd.snd.snd.fst),
                        PV.sc (Value.int IntKind.i64 a3.fst.snd.snd.snd.snd.snd.snd.fst),
                        PV.sc (Value.int IntKind.i64 a3.fst.snd.snd.snd.snd.snd.snd.snd.fst),
                        PV.sc (Value.int IntKind.i64 a3.fst.snd.snd.snd.snd.snd.snd.snd.snd.fst),
                        PV.sc (Value.int IntKind.i64 a3.fst.snd.snd.snd.snd.snd.snd.snd.snd.snd.fst),
                        PV.sc (Value.int IntKind.i64 a3.fst.snd.snd.snd.snd.snd.snd.snd.snd.snd.snd),
                        PV.sc (Value.int IntKind.i64 a3.snd.fst), PV.sc (Value.int IntKind.i64 a3.snd.snd.fst),
                        PV.sc (Value.int IntKind.i64 a3.snd.snd.snd.fst.fst),
                        PV.sc (Value.int IntKind.i64 a3.snd.snd.snd.fst.snd),
                        PV.sc (Value.int IntKind.i64 a3.snd.snd.snd.snd.fst),
                        PV.sc (Value.int IntKind.i64 a3.snd.snd.snd.snd.snd.fst),
                        PV.sc (Value.int IntKind.i64 a3.snd.snd.snd.snd.snd.snd)],
                    Blk.fix false
                      [PV.sc (Value.int IntKind.i64 a4.fst.fst), PV.sc (Value.int IntKind.i64 a4.fst.snd.fst),
                        PV.sc (Value.int IntKind.i64 a4.fst.snd.snd.fst),
                        PV.sc (Value.int IntKind.i64 a4.fst.snd.snd.snd.fst.fst),
                        PV.sc (Value.int IntKind.i64 a4.fst.snd.snd.snd.fst.snd),
                        PV.sc (Value.int IntKind.i64 a4.fst.snd.snd.snd.snd.fst.fst),
                        PV.sc (Value.int IntKind.i64 a4.fst.snd.snd.snd.snd.fst.snd),
                        PV.sc (Value.int IntKind.i64 a4.fst.snd.snd.snd.snd.snd.fst),
                        PV.sc (Value.int IntKind.i64 a4.fst.snd.snd.snd.snd.snd.snd.fst),
                        PV.sc (Value.int IntKind.i64 a4.fst.snd.snd.snd.snd.snd.snd.snd.fst),
                        PV.sc (Value.int IntKind.i64 a4.fst.snd.snd.snd.snd.snd.snd.snd.snd.fst),
                        PV.sc (Value.int IntKind.i64 a4.fst.snd.snd.snd.snd.snd.snd.snd.snd.snd.fst),
                        PV.sc (Value.int IntKind.i64 a4.fst.snd.snd.snd.snd.snd.snd.snd.snd.snd.snd),
                        PV.sc (Value.int IntKind.i64 a4.snd.fst), PV.sc (Value.int IntKind.i64 a4.snd.snd.fst),
                        PV.sc (Value.int IntKind.i64 a4.snd.snd.snd.fst.fst),
                        PV.sc (Value.int IntKind.i64 a4.snd.snd.snd.fst.snd),
                        PV.sc (Value.int IntKind.i64 a4.snd.snd.snd.snd.fst),
                        PV.sc (Value.int IntKind.i64 a4.snd.snd.snd.snd.snd.fst),
                        PV.sc (Value.int IntKind.i64 a4.snd.snd.snd.snd.snd.snd)],
                    Blk.fix false [PV.sc (Value.int IntKind.i64 a5), PV.sc (Value.int IntKind.i64 a6)]]))))
else
  some
    (Xt.exit 0, [PV.undef, PV.undef],
      [Blk.fix false
          [PV.sc (Value.int IntKind.i64 a3.fst.fst), PV.sc (Value.int IntKind.i64 a3.fst.snd.fst),
            PV.sc (Value.int IntKind.i64 a3.fst.snd.snd.fst), PV.sc (Value.int IntKind.i64 a3.fst.snd.snd.snd.fst.fst),
            PV.sc (Value.int IntKind.i64 a3.fst.snd.snd.snd.fst.snd),
            PV.sc (Value.int IntKind.i64 a3.fst.snd.snd.snd.snd.fst.fst),
            PV.sc (Value.int IntKind.i64 a3.fst.snd.snd.snd.snd.fst.snd),
            PV.sc (Value.int IntKind.i64 a3.fst.snd.snd.snd.snd.snd.fst),
            PV.sc (Value.int IntKind.i64 a3.fst.snd.snd.snd.snd.snd.snd.fst),
            PV.sc (Value.int IntKind.i64 a3.fst.snd.snd.snd.snd.snd.snd.snd.fst),
            PV.sc (Value.int IntKind.i64 a3.fst.snd.snd.snd.snd.snd.snd.snd.snd.fst),
            PV.sc (Value.int IntKind.i64 a3.fst.snd.snd.snd.snd.snd.snd.snd.snd.snd.fst),
            PV.sc (Value.int IntKind.i64 a3.fst.snd.snd.snd.snd.snd.snd.snd.snd.snd.snd),
            PV.sc (Value.int IntKind.i64 a3.snd.fst), PV.sc (Value.int IntKind.i64 a3.snd.snd.fst),
            PV.sc (Value.int IntKind.i64 a3.snd.snd.snd.fst.fst), PV.sc (Value.int IntKind.i64 a3.snd.snd.snd.fst.snd),
            PV.sc (Value.int IntKind.i64 a3.snd.snd.snd.snd.fst),
            PV.sc (Value.int IntKind.i64 a3.snd.snd.snd.snd.snd.fst),
            PV.sc (Value.int IntKind.i64 a3.snd.snd.snd.snd.snd.snd)],
        Blk.fix false
          [PV.sc (Value.int IntKind.i64 a4.fst.fst), PV.sc (Value.int IntKind.i64 a4.fst.snd.fst),
            PV.sc (Value.int IntKind.i64 a4.fst.snd.snd.fst), PV.sc (Value.int IntKind.i64 a4.fst.snd.snd.snd.fst.fst),
            PV.sc (Value.int IntKind.i64 a4.fst.snd.snd.snd.fst.snd),
            PV.sc (Value.int IntKind.i64 a4.fst.snd.snd.snd.snd.fst.fst),
            PV.sc (Value.int IntKind.i64 a4.fst.snd.snd.snd.snd.fst.snd),
            PV.sc (Value.int IntKind.i64 a4.fst.snd.snd.snd.snd.snd.fst),
            PV.sc (Value.int IntKind.i64 a4.fst.snd.snd.snd.snd.snd.snd.fst),
            PV.sc (Value.int IntKind.i64 a4.fst.snd.snd.snd.snd.snd.snd.snd.fst),
            PV.sc (Value.int IntKind.i64 a4.fst.snd.snd.snd.snd.snd.snd.snd.snd.fst),
            PV.sc (Value.int IntKind.i64 a4.fst.snd.snd.snd.snd.snd.snd.snd.snd.snd.fst),
            PV.sc (Value.int IntKind.i64 a4.fst.snd.snd.snd.snd.snd.snd.snd.snd.snd.snd),
            PV.sc (Value.int IntKind.i64 a4.snd.fst), PV.sc (Value.int IntKind.i64 a4.snd.snd.fst),
            PV.sc (Value.int IntKind.i64 a4.snd.snd.snd.fst.fst), PV.sc (Value.int IntKind.i64 a4.snd.snd.snd.fst.snd),
            PV.sc (Value.int IntKind.i64 a4.snd.snd.snd.snd.fst),
            PV.sc (Value.int IntKind.i64 a4.snd.snd.snd.snd.snd.fst),
            PV.sc (Value.int IntKind.i64 a4.snd.snd.snd.snd.snd.snd)],
        Blk.fix false [PV.sc (Value.int IntKind.i64 a5), PV.sc (Value.int IntKind.i64 a6)]])) := by kernel_rfl
noncomputable abbrev l40L (P : FT → Int → Int → FT × Int) (a0 : FT) (a1 : FT) (a2 : Int) (a3 : Int) (a4 : Int) (a5 : Int) (a6 : Int) := evFuncV Try.prog (T7 P) (addCut 0 [3, 4, 5, 6, 7, 8, 15, 16] [12, 13] (entC kL (cL P true)) noCuts) Try.f40 (killA 0 kF) (showA 0 kF (a0, (a1, ((a2, a3), (a4, (a5, (a6, ()))))))).1 (showA 0 kF (a0, (a1, ((a2, a3), (a4, (a5, (a6, ()))))))).2
theorem l40 (P : FT → Int → Int → FT × Int) (a0 : FT) (a1 : FT) (a2 : Int) (a3 : Int) (a4 : Int) (a5 : Int) (a6 : Int) : l40L P a0 a1 a2 a3 a4 a5 a6 = (bif chkS a0 a1 a2 a3 a4 a5 a6 != 0 then
  some (PV.tup [PV.sc (Value.int IntKind.i64 0), PV.sc (Value.int IntKind.i64 (chkS a0 a1 a2 a3 a4 a5 a6))], [])
else
  guardB (preL a0 a1 a2 a3 a4 0)
    (bif (goV P true a4 a5 a6 a0 a1 a2 a3 (max a0.fst.snd.snd.fst a1.fst.snd.snd.fst) 0).isNone then
      some (PV.tup [PV.sc (Value.int IntKind.i64 0), PV.sc (Value.int IntKind.i64 8)], [])
    else
      some
        (PV.tup
            [PV.sc
                (Value.int IntKind.i64
                  ((goV P true a4 a5 a6 a0 a1 a2 a3 (max a0.fst.snd.snd.fst a1.fst.snd.snd.fst) 0).getD (0, 0)).fst),
              PV.sc
                (Value.int IntKind.i64
                  ((goV P true a4 a5 a6 a0 a1 a2 a3 (max a0.fst.snd.snd.fst a1.fst.snd.snd.fst) 0).getD (0, 0)).snd)],
          []))) := by kernel_rfl
noncomputable abbrev l42lL (P : FT → Int → Int → FT × Int) (a0 : Int) (a1 : Int) (a2 : Int) (a3 : FT) (a4 : FT) (a5 : Int) (a6 : Int) (a7 : Int) (a8 : Int) := evRound Try.prog (T7 P) noCuts 55 (loopOf (codeAt 0 (bodyF Try.f42))) kL muL (killA 0 kL) [3, 4, 5, 6, 7, 8, 15, 16] [12, 13] (cL P false) (a0, (a1, (a2, (a3, (a4, ((a5, a6), (a7, (a8, ()))))))))
theorem l42l (P : FT → Int → Int → FT × Int) (a0 : Int) (a1 : Int) (a2 : Int) (a3 : FT) (a4 : FT) (a5 : Int) (a6 : Int) (a7 : Int) (a8 : Int) : l42lL P a0 a1 a2 a3 a4 a5 a6 a7 a8 = (bif decide (a8 ≤ a0) then
  bif (bif errB P a3 a4 (IntKind.i64.wrap (a7 + a8)) a1 then (8 : Int) else 0) != 0 then
    some
      (Xt.ret, [PV.sc (Value.int IntKind.i64 0), PV.sc (Value.int IntKind.i64 12)],
        [Blk.fix false
            [PV.sc (Value.int IntKind.i64 a3.fst.fst), PV.sc (Value.int IntKind.i64 a3.fst.snd.fst),
              PV.sc (Value.int IntKind.i64 a3.fst.snd.snd.fst),
              PV.sc (Value.int IntKind.i64 a3.fst.snd.snd.snd.fst.fst),
              PV.sc (Value.int IntKind.i64 a3.fst.snd.snd.snd.fst.snd),
              PV.sc (Value.int IntKind.i64 a3.fst.snd.snd.snd.snd.fst.fst),
              PV.sc (Value.int IntKind.i64 a3.fst.snd.snd.snd.snd.fst.snd),
              PV.sc (Value.int IntKind.i64 a3.fst.snd.snd.snd.snd.snd.fst),
              PV.sc (Value.int IntKind.i64 a3.fst.snd.snd.snd.snd.snd.snd.fst),
              PV.sc (Value.int IntKind.i64 a3.fst.snd.snd.snd.snd.snd.snd.snd.fst),
              PV.sc (Value.int IntKind.i64 a3.fst.snd.snd.snd.snd.snd.snd.snd.snd.fst),
              PV.sc (Value.int IntKind.i64 a3.fst.snd.snd.snd.snd.snd.snd.snd.snd.snd.fst),
              PV.sc (Value.int IntKind.i64 a3.fst.snd.snd.snd.snd.snd.snd.snd.snd.snd.snd),
              PV.sc (Value.int IntKind.i64 a3.snd.fst), PV.sc (Value.int IntKind.i64 a3.snd.snd.fst),
              PV.sc (Value.int IntKind.i64 a3.snd.snd.snd.fst.fst),
              PV.sc (Value.int IntKind.i64 a3.snd.snd.snd.fst.snd),
              PV.sc (Value.int IntKind.i64 a3.snd.snd.snd.snd.fst),
              PV.sc (Value.int IntKind.i64 a3.snd.snd.snd.snd.snd.fst),
              PV.sc (Value.int IntKind.i64 a3.snd.snd.snd.snd.snd.snd)],
          Blk.fix false
            [PV.sc (Value.int IntKind.i64 a4.fst.fst), PV.sc (Value.int IntKind.i64 a4.fst.snd.fst),
              PV.sc (Value.int IntKind.i64 a4.fst.snd.snd.fst),
              PV.sc (Value.int IntKind.i64 a4.fst.snd.snd.snd.fst.fst),
              PV.sc (Value.int IntKind.i64 a4.fst.snd.snd.snd.fst.snd),
              PV.sc (Value.int IntKind.i64 a4.fst.snd.snd.snd.snd.fst.fst),
              PV.sc (Value.int IntKind.i64 a4.fst.snd.snd.snd.snd.fst.snd),
              PV.sc (Value.int IntKind.i64 a4.fst.snd.snd.snd.snd.snd.fst),
              PV.sc (Value.int IntKind.i64 a4.fst.snd.snd.snd.snd.snd.snd.fst),
              PV.sc (Value.int IntKind.i64 a4.fst.snd.snd.snd.snd.snd.snd.snd.fst),
              PV.sc (Value.int IntKind.i64 a4.fst.snd.snd.snd.snd.snd.snd.snd.snd.fst),
              PV.sc (Value.int IntKind.i64 a4.fst.snd.snd.snd.snd.snd.snd.snd.snd.snd.fst),
              PV.sc (Value.int IntKind.i64 a4.fst.snd.snd.snd.snd.snd.snd.snd.snd.snd.snd),
              PV.sc (Value.int IntKind.i64 a4.snd.fst), PV.sc (Value.int IntKind.i64 a4.snd.snd.fst),
              PV.sc (Value.int IntKind.i64 a4.snd.snd.snd.fst.fst),
              PV.sc (Value.int IntKind.i64 a4.snd.snd.snd.fst.snd),
              PV.sc (Value.int IntKind.i64 a4.snd.snd.snd.snd.fst),
              PV.sc (Value.int IntKind.i64 a4.snd.snd.snd.snd.snd.fst),
              PV.sc (Value.int IntKind.i64 a4.snd.snd.snd.snd.snd.snd)],
          Blk.fix false [PV.sc (Value.int IntKind.i64 a5), PV.sc (Value.int IntKind.i64 a6)]])
  else
    guardB
      (okB (atS P a3 a4 (IntKind.i64.wrap (a7 + a8)) a1 a2).fst (atS P a3 a4 (IntKind.i64.wrap (a7 + a8)) a1 a2).snd.fst
        a5 a6)
      (bif
          closeB (atS P a3 a4 (IntKind.i64.wrap (a7 + a8)) a1 a2).fst
            (atS P a3 a4 (IntKind.i64.wrap (a7 + a8)) a1 a2).snd.fst a5 a6
            (bif errB P a3 a4 (IntKind.i64.wrap (a7 + a8)) a1 then 0
            else gr a2 (IntKind.i64.wrap (a7 + a8)) (timeOf a3))
            (bif errB P a3 a4 (IntKind.i64.wrap (a7 + a8)) a1 then 0
            else gr a2 (IntKind.i64.wrap (a7 + a8)) (timeOf a4)) then
        some
          (Xt.ret, [PV.sc (Value.int IntKind.i64 a8), PV.sc (Value.int IntKind.i64 0)],
            [Blk.fix false
                [PV.sc (Value.int IntKind.i64 a3.fst.fst), PV.sc (Value.int IntKind.i64 a3.fst.snd.fst),
                  PV.sc (Value.int IntKind.i64 a3.fst.snd.snd.fst),
                  PV.sc (Value.int IntKind.i64 a3.fst.snd.snd.snd.fst.fst),
                  PV.sc (Value.int IntKind.i64 a3.fst.snd.snd.snd.fst.snd),
                  PV.sc (Value.int IntKind.i64 a3.fst.snd.snd.snd.snd.fst.fst),
                  PV.sc (Value.int IntKind.i64 a3.fst.snd.snd.snd.snd.fst.snd),
                  PV.sc (Value.int IntKind.i64 a3.fst.snd.snd.snd.snd.snd.fst),
                  PV.sc (Value.int IntKind.i64 a3.fst.snd.snd.snd.snd.snd.snd.fst),
                  PV.sc (Value.int IntKind.i64 a3.fst.snd.snd.snd.snd.snd.snd.snd.fst),
                  PV.sc (Value.int IntKind.i64 a3.fst.snd.snd.snd.snd.snd.snd.snd.snd.fst),
                  PV.sc (Value.int IntKind.i64 a3.fst.snd.snd.snd.snd.snd.snd.snd.snd.snd.fst),
                  PV.sc (Value.int IntKind.i64 a3.fst.snd.snd.snd.snd.snd.snd.snd.snd.snd.snd),
                  PV.sc (Value.int IntKind.i64 a3.snd.fst), PV.sc (Value.int IntKind.i64 a3.snd.snd.fst),
                  PV.sc (Value.int IntKind.i64 a3.snd.snd.snd.fst.fst),
                  PV.sc (Value.int IntKind.i64 a3.snd.snd.snd.fst.snd),
                  PV.sc (Value.int IntKind.i64 a3.snd.snd.snd.snd.fst),
                  PV.sc (Value.int IntKind.i64 a3.snd.snd.snd.snd.snd.fst),
                  PV.sc (Value.int IntKind.i64 a3.snd.snd.snd.snd.snd.snd)],
              Blk.fix false
                [PV.sc (Value.int IntKind.i64 a4.fst.fst), PV.sc (Value.int IntKind.i64 a4.fst.snd.fst),
                  PV.sc (Value.int IntKind.i64 a4.fst.snd.snd.fst),
                  PV.sc (Value.int IntKind.i64 a4.fst.snd.snd.snd.fst.fst),
                  PV.sc (Value.int IntKind.i64 a4.fst.snd.snd.snd.fst.snd),
                  PV.sc (Value.int IntKind.i64 a4.fst.snd.snd.snd.snd.fst.fst),
                  PV.sc (Value.int IntKind.i64 a4.fst.snd.snd.snd.snd.fst.snd),
                  PV.sc (Value.int IntKind.i64 a4.fst.snd.snd.snd.snd.snd.fst),
                  PV.sc (Value.int IntKind.i64 a4.fst.snd.snd.snd.snd.snd.snd.fst),
                  PV.sc (Value.int IntKind.i64 a4.fst.snd.snd.snd.snd.snd.snd.snd.fst),
                  PV.sc (Value.int IntKind.i64 a4.fst.snd.snd.snd.snd.snd.snd.snd.snd.fst),
                  PV.sc (Value.int IntKind.i64 a4.fst.snd.snd.snd.snd.snd.snd.snd.snd.snd.fst),
                  PV.sc (Value.int IntKind.i64 a4.fst.snd.snd.snd.snd.snd.snd.snd.snd.snd.snd),
                  PV.sc (Value.int IntKind.i64 a4.snd.fst), PV.sc (Value.int IntKind.i64 a4.snd.snd.fst),
                  PV.sc (Value.int IntKind.i64 a4.snd.snd.snd.fst.fst),
                  PV.sc (Value.int IntKind.i64 a4.snd.snd.snd.fst.snd),
                  PV.sc (Value.int IntKind.i64 a4.snd.snd.snd.snd.fst),
                  PV.sc (Value.int IntKind.i64 a4.snd.snd.snd.snd.snd.fst),
                  PV.sc (Value.int IntKind.i64 a4.snd.snd.snd.snd.snd.snd)],
              Blk.fix false [PV.sc (Value.int IntKind.i64 a5), PV.sc (Value.int IntKind.i64 a6)]])
      else
        guardB
          (decide
            (muL (a0, a1, a2, a3, a4, (a5, a6), a7, IntKind.i64.wrap (a8 + 1), PUnit.unit) <
              muL (a0, a1, a2, a3, a4, (a5, a6), a7, a8, ())))
          (guardB (preL a3 a4 a5 a6 a0 (IntKind.i64.wrap (a8 + 1)))
            (bif (goV P false a0 a1 a2 a3 a4 a5 a6 a7 (IntKind.i64.wrap (a8 + 1))).isNone then
              some
                (Xt.exit 0, [PV.undef, PV.undef],
                  [Blk.fix false
                      [PV.sc (Value.int IntKind.i64 a3.fst.fst), PV.sc (Value.int IntKind.i64 a3.fst.snd.fst),
                        PV.sc (Value.int IntKind.i64 a3.fst.snd.snd.fst),
                        PV.sc (Value.int IntKind.i64 a3.fst.snd.snd.snd.fst.fst),
                        PV.sc (Value.int IntKind.i64 a3.fst.snd.snd.snd.fst.snd),
                        PV.sc (Value.int IntKind.i64 a3.fst.snd.snd.snd.snd.fst.fst),
                        PV.sc (Value.int IntKind.i64 a3.fst.snd.snd.snd.snd.fst.snd),
                        PV.sc (Value.int IntKind.i64 a3.fst.snd.snd.snd.snd.snd.fst),
                        PV.sc (Value.int IntKind.i64 a3.fst.snd.snd.snd.snd.snd.snd.fst),
                        PV.sc (Value.int IntKind.i64 a3.fst.snd.snd.snd.snd.snd.snd.snd.fst),
                        PV.sc (Value.int IntKind.i64 a3.fst.snd.snd.snd.snd.snd.snd.snd.snd.fst),
                        PV.sc (Value.int IntKind.i64 a3.fst.snd.snd.snd.snd.snd.snd.snd.snd.snd.fst),
                        PV.sc (Value.int IntKind.i64 a3.fst.snd.snd.snd.snd.snd.snd.snd.snd.snd.snd),
                        PV.sc (Value.int IntKind.i64 a3.snd.fst), PV.sc (Value.int IntKind.i64 a3.snd.snd.fst),
                        PV.sc (Value.int IntKind.i64 a3.snd.snd.snd.fst.fst),
                        PV.sc (Value.int IntKind.i64 a3.snd.snd.snd.fst.snd),
                        PV.sc (Value.int IntKind.i64 a3.snd.snd.snd.snd.fst),
                        PV.sc (Value.int IntKind.i64 a3.snd.snd.snd.snd.snd.fst),
                        PV.sc (Value.int IntKind.i64 a3.snd.snd.snd.snd.snd.snd)],
                    Blk.fix false
                      [PV.sc (Value.int IntKind.i64 a4.fst.fst), PV.sc (Value.int IntKind.i64 a4.fst.snd.fst),
                        PV.sc (Value.int IntKind.i64 a4.fst.snd.snd.fst),
                        PV.sc (Value.int IntKind.i64 a4.fst.snd.snd.snd.fst.fst),
                        PV.sc (Value.int IntKind.i64 a4.fst.snd.snd.snd.fst.snd),
                        PV.sc (Value.int IntKind.i64 a4.fst.snd.snd.snd.snd.fst.fst),
                        PV.sc (Value.int IntKind.i64 a4.fst.snd.snd.snd.snd.fst.snd),
                        PV.sc (Value.int IntKind.i64 a4.fst.snd.snd.snd.snd.snd.fst),
                        PV.sc (Value.int IntKind.i64 a4.fst.snd.snd.snd.snd.snd.snd.fst),
                        PV.sc (Value.int IntKind.i64 a4.fst.snd.snd.snd.snd.snd.snd.snd.fst),
                        PV.sc (Value.int IntKind.i64 a4.fst.snd.snd.snd.snd.snd.snd.snd.snd.fst),
                        PV.sc (Value.int IntKind.i64 a4.fst.snd.snd.snd.snd.snd.snd.snd.snd.snd.fst),
                        PV.sc (Value.int IntKind.i64 a4.fst.snd.snd.snd.snd.snd.snd.snd.snd.snd.snd),
                        PV.sc (Value.int IntKind.i64 a4.snd.fst), PV.sc (Value.int IntKind.i64 a4.snd.snd.fst),
                        PV.sc (Value.int IntKind.i64 a4.snd.snd.snd.fst.fst),
                        PV.sc (Value.int IntKind.i64 a4.snd.snd.snd.fst.snd),
                        PV.sc (Value.int IntKind.i64 a4.snd.snd.snd.snd.fst),
                        PV.sc (Value.int IntKind.i64 a4.snd.snd.snd.snd.snd.fst),
                        PV.sc (Value.int IntKind.i64 a4.snd.snd.snd.snd.snd.snd)],
                    Blk.fix false [PV.sc (Value.int IntKind.i64 a5), PV.sc (Value.int IntKind.i64 a6)]])
            else
              some
                (Xt.ret,
                  [PV.sc
                      (Value.int IntKind.i64
                        ((goV P false a0 a1 a2 a3 a4 a5 a6 a7 (IntKind.i64.wrap (a8 + 1))).getD (0, 0)).fst),
                    PV.sc
                      (Value.int IntKind.i64
                        ((goV P false a0 a1 a2 a3 a4 a5 a6 a7 (IntKind.i64.wrap (a8 + 1))).getD (0, 0)).snd)],
                  [Blk.fix false
                      [PV.sc (Value.int IntKind.i64 a3.fst.fst), PV.sc (Value.int IntKind.i64 a3.fst.snd.fst),
                        PV.sc (Value.int IntKind.i64 a3.fst.snd.snd.fst),
                        PV.sc (Value.int IntKind.i64 a3.fst.snd.snd.snd.fst.fst),
                        PV.sc (Value.int IntKind.i64 a3.fst.snd.snd.snd.fst.snd),
                        PV.sc (Value.int IntKind.i64 a3.fst.snd.snd.snd.snd.fst.fst),
                        PV.sc (Value.int IntKind.i64 a3.fst.snd.snd.snd.snd.fst.snd),
                        PV.sc (Value.int IntKind.i64 a3.fst.snd.snd.snd.snd.snd.fst),
                        PV.sc (Value.int IntKind.i64 a3.fst.snd.snd.snd.snd.snd.snd.fst),
                        PV.sc (Value.int IntKind.i64 a3.fst.snd.snd.snd.snd.snd.snd.snd.fst),
                        PV.sc (Value.int IntKind.i64 a3.fst.snd.snd.snd.snd.snd.snd.snd.snd.fst),
                        PV.sc (Value.int IntKind.i64 a3.fst.snd.snd.snd.snd.snd.snd.snd.snd.snd.fst),
                        PV.sc (Value.int IntKind.i64 a3.fst.snd.snd.snd.snd.snd.snd.snd.snd.snd.snd),
                        PV.sc (Value.int IntKind.i64 a3.snd.fst), PV.sc (Value.int IntKind.i64 a3.snd.snd.fst),
                        PV.sc (Value.int IntKind.i64 a3.snd.snd.snd.fst.fst),
                        PV.sc (Value.int IntKind.i64 a3.snd.snd.snd.fst.snd),
                        PV.sc (Value.int IntKind.i64 a3.snd.snd.snd.snd.fst),
                        PV.sc (Value.int IntKind.i64 a3.snd.snd.snd.snd.snd.fst),
                        PV.sc (Value.int IntKind.i64 a3.snd.snd.snd.snd.snd.snd)],
                    Blk.fix false
                      [PV.sc (Value.int IntKind.i64 a4.fst.fst), PV.sc (Value.int IntKind.i64 a4.fst.snd.fst),
                        PV.sc (Value.int IntKind.i64 a4.fst.snd.snd.fst),
                        PV.sc (Value.int IntKind.i64 a4.fst.snd.snd.snd.fst.fst),
                        PV.sc (Value.int IntKind.i64 a4.fst.snd.snd.snd.fst.snd),
                        PV.sc (Value.int IntKind.i64 a4.fst.snd.snd.snd.snd.fst.fst),
                        PV.sc (Value.int IntKind.i64 a4.fst.snd.snd.snd.snd.fst.snd),
                        PV.sc (Value.int IntKind.i64 a4.fst.snd.snd.snd.snd.snd.fst),
                        PV.sc (Value.int IntKind.i64 a4.fst.snd.snd.snd.snd.snd.snd.fst),
                        PV.sc (Value.int IntKind.i64 a4.fst.snd.snd.snd.snd.snd.snd.snd.fst),
                        PV.sc (Value.int IntKind.i64 a4.fst.snd.snd.snd.snd.snd.snd.snd.snd.fst),
                        PV.sc (Value.int IntKind.i64 a4.fst.snd.snd.snd.snd.snd.snd.snd.snd.snd.fst),
                        PV.sc (Value.int IntKind.i64 a4.fst.snd.snd.snd.snd.snd.snd.snd.snd.snd.snd),
                        PV.sc (Value.int IntKind.i64 a4.snd.fst), PV.sc (Value.int IntKind.i64 a4.snd.snd.fst),
                        PV.sc (Value.int IntKind.i64 a4.snd.snd.snd.fst.fst),
                        PV.sc (Value.int IntKind.i64 a4.snd.snd.snd.fst.snd),
                        PV.sc (Value.int IntKind.i64 a4.snd.snd.snd.snd.fst),
                        PV.sc (Value.int IntKind.i64 a4.snd.snd.snd.snd.snd.fst),
                        PV.sc (Value.int IntKind.i64 a4.snd.snd.snd.snd.snd.snd)],
                    Blk.fix false [PV.sc (Value.int IntKind.i64 a5), PV.sc (Value.int IntKind.i64 a6)]]))))
else
  some
    (Xt.exit 0, [PV.undef, PV.undef],
      [Blk.fix false
          [PV.sc (Value.int IntKind.i64 a3.fst.fst), PV.sc (Value.int IntKind.i64 a3.fst.snd.fst),
            PV.sc (Value.int IntKind.i64 a3.fst.snd.snd.fst), PV.sc (Value.int IntKind.i64 a3.fst.snd.snd.snd.fst.fst),
            PV.sc (Value.int IntKind.i64 a3.fst.snd.snd.snd.fst.snd),
            PV.sc (Value.int IntKind.i64 a3.fst.snd.snd.snd.snd.fst.fst),
            PV.sc (Value.int IntKind.i64 a3.fst.snd.snd.snd.snd.fst.snd),
            PV.sc (Value.int IntKind.i64 a3.fst.snd.snd.snd.snd.snd.fst),
            PV.sc (Value.int IntKind.i64 a3.fst.snd.snd.snd.snd.snd.snd.fst),
            PV.sc (Value.int IntKind.i64 a3.fst.snd.snd.snd.snd.snd.snd.snd.fst),
            PV.sc (Value.int IntKind.i64 a3.fst.snd.snd.snd.snd.snd.snd.snd.snd.fst),
            PV.sc (Value.int IntKind.i64 a3.fst.snd.snd.snd.snd.snd.snd.snd.snd.snd.fst),
            PV.sc (Value.int IntKind.i64 a3.fst.snd.snd.snd.snd.snd.snd.snd.snd.snd.snd),
            PV.sc (Value.int IntKind.i64 a3.snd.fst), PV.sc (Value.int IntKind.i64 a3.snd.snd.fst),
            PV.sc (Value.int IntKind.i64 a3.snd.snd.snd.fst.fst), PV.sc (Value.int IntKind.i64 a3.snd.snd.snd.fst.snd),
            PV.sc (Value.int IntKind.i64 a3.snd.snd.snd.snd.fst),
            PV.sc (Value.int IntKind.i64 a3.snd.snd.snd.snd.snd.fst),
            PV.sc (Value.int IntKind.i64 a3.snd.snd.snd.snd.snd.snd)],
        Blk.fix false
          [PV.sc (Value.int IntKind.i64 a4.fst.fst), PV.sc (Value.int IntKind.i64 a4.fst.snd.fst),
            PV.sc (Value.int IntKind.i64 a4.fst.snd.snd.fst), PV.sc (Value.int IntKind.i64 a4.fst.snd.snd.snd.fst.fst),
            PV.sc (Value.int IntKind.i64 a4.fst.snd.snd.snd.fst.snd),
            PV.sc (Value.int IntKind.i64 a4.fst.snd.snd.snd.snd.fst.fst),
            PV.sc (Value.int IntKind.i64 a4.fst.snd.snd.snd.snd.fst.snd),
            PV.sc (Value.int IntKind.i64 a4.fst.snd.snd.snd.snd.snd.fst),
            PV.sc (Value.int IntKind.i64 a4.fst.snd.snd.snd.snd.snd.snd.fst),
            PV.sc (Value.int IntKind.i64 a4.fst.snd.snd.snd.snd.snd.snd.snd.fst),
            PV.sc (Value.int IntKind.i64 a4.fst.snd.snd.snd.snd.snd.snd.snd.snd.fst),
            PV.sc (Value.int IntKind.i64 a4.fst.snd.snd.snd.snd.snd.snd.snd.snd.snd.fst),
            PV.sc (Value.int IntKind.i64 a4.fst.snd.snd.snd.snd.snd.snd.snd.snd.snd.snd),
            PV.sc (Value.int IntKind.i64 a4.snd.fst), PV.sc (Value.int IntKind.i64 a4.snd.snd.fst),
            PV.sc (Value.int IntKind.i64 a4.snd.snd.snd.fst.fst), PV.sc (Value.int IntKind.i64 a4.snd.snd.snd.fst.snd),
            PV.sc (Value.int IntKind.i64 a4.snd.snd.snd.snd.fst),
            PV.sc (Value.int IntKind.i64 a4.snd.snd.snd.snd.snd.fst),
            PV.sc (Value.int IntKind.i64 a4.snd.snd.snd.snd.snd.snd)],
        Blk.fix false [PV.sc (Value.int IntKind.i64 a5), PV.sc (Value.int IntKind.i64 a6)]])) := by kernel_rfl
noncomputable abbrev l42L (P : FT → Int → Int → FT × Int) (a0 : FT) (a1 : FT) (a2 : Int) (a3 : Int) (a4 : Int) (a5 : Int) (a6 : Int) := evFuncV Try.prog (T7 P) (addCut 0 [3, 4, 5, 6, 7, 8, 15, 16] [12, 13] (entC kL (cL P false)) noCuts) Try.f42 (killA 0 kF) (showA 0 kF (a0, (a1, ((a2, a3), (a4, (a5, (a6, ()))))))).1 (showA 0 kF (a0, (a1, ((a2, a3), (a4, (a5, (a6, ()))))))).2
theorem l42 (P : FT → Int → Int → FT × Int) (a0 : FT) (a1 : FT) (a2 : Int) (a3 : Int) (a4 : Int) (a5 : Int) (a6 : Int) : l42L P a0 a1 a2 a3 a4 a5 a6 = (bif chkS a0 a1 a2 a3 a4 a5 a6 != 0 then
  some (PV.tup [PV.sc (Value.int IntKind.i64 0), PV.sc (Value.int IntKind.i64 (chkS a0 a1 a2 a3 a4 a5 a6))], [])
else
  guardB (preL a0 a1 a2 a3 a4 0)
    (bif (goV P false a4 a5 a6 a0 a1 a2 a3 (max a0.fst.snd.snd.fst a1.fst.snd.snd.fst) 0).isNone then
      some (PV.tup [PV.sc (Value.int IntKind.i64 0), PV.sc (Value.int IntKind.i64 8)], [])
    else
      some
        (PV.tup
            [PV.sc
                (Value.int IntKind.i64
                  ((goV P false a4 a5 a6 a0 a1 a2 a3 (max a0.fst.snd.snd.fst a1.fst.snd.snd.fst) 0).getD (0, 0)).fst),
              PV.sc
                (Value.int IntKind.i64
                  ((goV P false a4 a5 a6 a0 a1 a2 a3 (max a0.fst.snd.snd.fst a1.fst.snd.snd.fst) 0).getD (0, 0)).snd)],
          []))) := by kernel_rfl
noncomputable abbrev l8lL (P : FT → Int → Int → FT × Int) (a0 : Int) (a1 : Int) (a2 : Int) (a3 : FT) (a4 : FT) (a5 : Int) (a6 : Int) (a7 : Int) (a8 : Int) (a9 : Int) (a10 : Int) (a11 : Int) := evRound Try.prog (T8 P) noCuts 226 (loopOf (codeAt 0 (bodyF Try.f8))) k8 mu8 (killA 0 k8) [3, 4, 5, 6, 7, 8, 24, 25, 26, 27, 28] [24, 25] (c8 P) (a0, (a1, (a2, (a3, (a4, ((a5, a6), (a7, (a8, ((a9, ()), (a10, (a11, ())))))))))))
theorem l8l (P : FT → Int → Int → FT × Int) (a0 : Int) (a1 : Int) (a2 : Int) (a3 : FT) (a4 : FT) (a5 : Int) (a6 : Int) (a7 : Int) (a8 : Int) (a9 : Int) (a10 : Int) (a11 : Int) : l8lL P a0 a1 a2 a3 a4 a5 a6 a7 a8 a9 a10 a11 = (bif decide (a11 ≤ a0) then
  bif (P a3 (IntKind.i64.wrap (a10 + a11)) a1).snd != 0 then
    some
      (Xt.exit 0, [PV.sc (Value.int IntKind.i64 a7), PV.sc (Value.int IntKind.i64 a8)],
        [Blk.fix false
            [PV.sc (Value.int IntKind.i64 a3.fst.fst), PV.sc (Value.int IntKind.i64 a3.fst.snd.fst),
              PV.sc (Value.int IntKind.i64 a3.fst.snd.snd.fst),
              PV.sc (Value.int IntKind.i64 a3.fst.snd.snd.snd.fst.fst),
              PV.sc (Value.int IntKind.i64 a3.fst.snd.snd.snd.fst.snd),
              PV.sc (Value.int IntKind.i64 a3.fst.snd.snd.snd.snd.fst.fst),
              PV.sc (Value.int IntKind.i64 a3.fst.snd.snd.snd.snd.fst.snd),
              PV.sc (Value.int IntKind.i64 a3.fst.snd.snd.snd.snd.snd.fst),
              PV.sc (Value.int IntKind.i64 a3.fst.snd.snd.snd.snd.snd.snd.fst),
              PV.sc (Value.int IntKind.i64 a3.fst.snd.snd.snd.snd.snd.snd.snd.fst),
              PV.sc (Value.int IntKind.i64 a3.fst.snd.snd.snd.snd.snd.snd.snd.snd.fst),
              PV.sc (Value.int IntKind.i64 a3.fst.snd.snd.snd.snd.snd.snd.snd.snd.snd.fst),
              PV.sc (Value.int IntKind.i64 a3.fst.snd.snd.snd.snd.snd.snd.snd.snd.snd.snd),
              PV.sc (Value.int IntKind.i64 a3.snd.fst), PV.sc (Value.int IntKind.i64 a3.snd.snd.fst),
              PV.sc (Value.int IntKind.i64 a3.snd.snd.snd.fst.fst),
              PV.sc (Value.int IntKind.i64 a3.snd.snd.snd.fst.snd),
              PV.sc (Value.int IntKind.i64 a3.snd.snd.snd.snd.fst),
              PV.sc (Value.int IntKind.i64 a3.snd.snd.snd.snd.snd.fst),
              PV.sc (Value.int IntKind.i64 a3.snd.snd.snd.snd.snd.snd)],
          Blk.fix false
            [PV.sc (Value.int IntKind.i64 a4.fst.fst), PV.sc (Value.int IntKind.i64 a4.fst.snd.fst),
              PV.sc (Value.int IntKind.i64 a4.fst.snd.snd.fst),
              PV.sc (Value.int IntKind.i64 a4.fst.snd.snd.snd.fst.fst),
              PV.sc (Value.int IntKind.i64 a4.fst.snd.snd.snd.fst.snd),
              PV.sc (Value.int IntKind.i64 a4.fst.snd.snd.snd.snd.fst.fst),
              PV.sc (Value.int IntKind.i64 a4.fst.snd.snd.snd.snd.fst.snd),
              PV.sc (Value.int IntKind.i64 a4.fst.snd.snd.snd.snd.snd.fst),
              PV.sc (Value.int IntKind.i64 a4.fst.snd.snd.snd.snd.snd.snd.fst),
              PV.sc (Value.int IntKind.i64 a4.fst.snd.snd.snd.snd.snd.snd.snd.fst),
              PV.sc (Value.int IntKind.i64 a4.fst.snd.snd.snd.snd.snd.snd.snd.snd.fst),
              PV.sc (Value.int IntKind.i64 a4.fst.snd.snd.snd.snd.snd.snd.snd.snd.snd.fst),
              PV.sc (Value.int IntKind.i64 a4.fst.snd.snd.snd.snd.snd.snd.snd.snd.snd.snd),
              PV.sc (Value.int IntKind.i64 a4.snd.fst), PV.sc (Value.int IntKind.i64 a4.snd.snd.fst),
              PV.sc (Value.int IntKind.i64 a4.snd.snd.snd.fst.fst),
              PV.sc (Value.int IntKind.i64 a4.snd.snd.snd.fst.snd),
              PV.sc (Value.int IntKind.i64 a4.snd.snd.snd.snd.fst),
              PV.sc (Value.int IntKind.i64 a4.snd.snd.snd.snd.snd.fst),
              PV.sc (Value.int IntKind.i64 a4.snd.snd.snd.snd.snd.snd)],
          Blk.fix false [PV.sc (Value.int IntKind.i64 a5), PV.sc (Value.int IntKind.i64 a6)],
          Blk.fix true [PV.sc (Value.int IntKind.i64 12)]])
  else
    bif (P a4 (IntKind.i64.wrap (a10 + a11)) a1).snd != 0 then
      some
        (Xt.exit 0, [PV.sc (Value.int IntKind.i64 a7), PV.sc (Value.int IntKind.i64 a8)],
          [Blk.fix false
              [PV.sc (Value.int IntKind.i64 a3.fst.fst), PV.sc (Value.int IntKind.i64 a3.fst.snd.fst),
                PV.sc (Value.int IntKind.i64 a3.fst.snd.snd.fst),
                PV.sc (Value.int IntKind.i64 a3.fst.snd.snd.snd.fst.fst),
                PV.sc (Value.int IntKind.i64 a3.fst.snd.snd.snd.fst.snd),
                PV.sc (Value.int IntKind.i64 a3.fst.snd.snd.snd.snd.fst.fst),
                PV.sc (Value.int IntKind.i64 a3.fst.snd.snd.snd.snd.fst.snd),
                PV.sc (Value.int IntKind.i64 a3.fst.snd.snd.snd.snd.snd.fst),
                PV.sc (Value.int IntKind.i64 a3.fst.snd.snd.snd.snd.snd.snd.fst),
                PV.sc (Value.int IntKind.i64 a3.fst.snd.snd.snd.snd.snd.snd.snd.fst),
                PV.sc (Value.int IntKind.i64 a3.fst.snd.snd.snd.snd.snd.snd.snd.snd.fst),
                PV.sc (Value.int IntKind.i64 a3.fst.snd.snd.snd.snd.snd.snd.snd.snd.snd.fst),
                PV.sc (Value.int IntKind.i64 a3.fst.snd.snd.snd.snd.snd.snd.snd.snd.snd.snd),
                PV.sc (Value.int IntKind.i64 a3.snd.fst), PV.sc (Value.int IntKind.i64 a3.snd.snd.fst),
                PV.sc (Value.int IntKind.i64 a3.snd.snd.snd.fst.fst),
                PV.sc (Value.int IntKind.i64 a3.snd.snd.snd.fst.snd),
                PV.sc (Value.int IntKind.i64 a3.snd.snd.snd.snd.fst),
                PV.sc (Value.int IntKind.i64 a3.snd.snd.snd.snd.snd.fst),
                PV.sc (Value.int IntKind.i64 a3.snd.snd.snd.snd.snd.snd)],
            Blk.fix false
              [PV.sc (Value.int IntKind.i64 a4.fst.fst), PV.sc (Value.int IntKind.i64 a4.fst.snd.fst),
                PV.sc (Value.int IntKind.i64 a4.fst.snd.snd.fst),
                PV.sc (Value.int IntKind.i64 a4.fst.snd.snd.snd.fst.fst),
                PV.sc (Value.int IntKind.i64 a4.fst.snd.snd.snd.fst.snd),
                PV.sc (Value.int IntKind.i64 a4.fst.snd.snd.snd.snd.fst.fst),
                PV.sc (Value.int IntKind.i64 a4.fst.snd.snd.snd.snd.fst.snd),
                PV.sc (Value.int IntKind.i64 a4.fst.snd.snd.snd.snd.snd.fst),
                PV.sc (Value.int IntKind.i64 a4.fst.snd.snd.snd.snd.snd.snd.fst),
                PV.sc (Value.int IntKind.i64 a4.fst.snd.snd.snd.snd.snd.snd.snd.fst),
                PV.sc (Value.int IntKind.i64 a4.fst.snd.snd.snd.snd.snd.snd.snd.snd.fst),
                PV.sc (Value.int IntKind.i64 a4.fst.snd.snd.snd.snd.snd.snd.snd.snd.snd.fst),
                PV.sc (Value.int IntKind.i64 a4.fst.snd.snd.snd.snd.snd.snd.snd.snd.snd.snd),
                PV.sc (Value.int IntKind.i64 a4.snd.fst), PV.sc (Value.int IntKind.i64 a4.snd.snd.fst),
                PV.sc (Value.int IntKind.i64 a4.snd.snd.snd.fst.fst),
                PV.sc (Value.int IntKind.i64 a4.snd.snd.snd.fst.snd),
                PV.sc (Value.int IntKind.i64 a4.snd.snd.snd.snd.fst),
                PV.sc (Value.int IntKind.i64 a4.snd.snd.snd.snd.snd.fst),
                PV.sc (Value.int IntKind.i64 a4.snd.snd.snd.snd.snd.snd)],
            Blk.fix false [PV.sc (Value.int IntKind.i64 a5), PV.sc (Value.int IntKind.i64 a6)],
            Blk.fix true [PV.sc (Value.int IntKind.i64 12)]])
    else
      guardB (okB (P a3 (IntKind.i64.wrap (a10 + a11)) a1).fst (P a4 (IntKind.i64.wrap (a10 + a11)) a1).fst a5 a6)
        (bif
            closeB (P a3 (IntKind.i64.wrap (a10 + a11)) a1).fst (P a4 (IntKind.i64.wrap (a10 + a11)) a1).fst a5 a6
              (IntKind.i64.wrap
                (100 + IntKind.i64.wrap (a2 * IntKind.i64.wrap (IntKind.i64.wrap (a10 + a11) - a3.fst.snd.snd.fst))))
              (IntKind.i64.wrap
                (100 +
                  IntKind.i64.wrap (a2 * IntKind.i64.wrap (IntKind.i64.wrap (a10 + a11) - a4.fst.snd.snd.fst)))) then
          bif decide (a7 < 0) then
            bif
                sureB (P a3 (IntKind.i64.wrap (a10 + a11)) a1).fst (P a4 (IntKind.i64.wrap (a10 + a11)) a1).fst a5 a6
                  (IntKind.i64.wrap
                    (100 +
                      IntKind.i64.wrap (a2 * IntKind.i64.wrap (IntKind.i64.wrap (a10 + a11) - a3.fst.snd.snd.fst))))
                  (IntKind.i64.wrap
                    (100 +
                      IntKind.i64.wrap
                        (a2 * IntKind.i64.wrap (IntKind.i64.wrap (a10 + a11) - a4.fst.snd.snd.fst)))) then
              bif decide (a8 < 0) then
                guardB
                  (decide
                    (mu8
                        (a0, a1, a2, a3, a4, (a5, a6), a11, a11, (a9, PUnit.unit), a10, IntKind.i64.wrap (a11 + 1),
                          PUnit.unit) <
                      mu8 (a0, a1, a2, a3, a4, (a5, a6), a7, a8, (a9, ()), a10, a11, ())))
                  (guardB (preL a3 a4 a5 a6 a0 (IntKind.i64.wrap (a11 + 1)))
                    (some
                      (Xt.exit 0,
                        [PV.sc
                            (Value.int IntKind.i64
                              (scV P a0 a1 a2 a3 a4 a5 a6 a10 (IntKind.i64.wrap (a11 + 1)) (a11, a11, a9)).fst),
                          PV.sc
                            (Value.int IntKind.i64
                              (scV P a0 a1 a2 a3 a4 a5 a6 a10 (IntKind.i64.wrap (a11 + 1)) (a11, a11, a9)).snd.fst)],
                        [Blk.fix false
                            [PV.sc (Value.int IntKind.i64 a3.fst.fst), PV.sc (Value.int IntKind.i64 a3.fst.snd.fst),
                              PV.sc (Value.int IntKind.i64 a3.fst.snd.snd.fst),
                              PV.sc (Value.int IntKind.i64 a3.fst.snd.snd.snd.fst.fst),
                              PV.sc (Value.int IntKind.i64 a3.fst.snd.snd.snd.fst.snd),
                              PV.sc (Value.int IntKind.i64 a3.fst.snd.snd.snd.snd.fst.fst),
                              PV.sc (Value.int IntKind.i64 a3.fst.snd.snd.snd.snd.fst.snd),
                              PV.sc (Value.int IntKind.i64 a3.fst.snd.snd.snd.snd.snd.fst),
                              PV.sc (Value.int IntKind.i64 a3.fst.snd.snd.snd.snd.snd.snd.fst),
                              PV.sc (Value.int IntKind.i64 a3.fst.snd.snd.snd.snd.snd.snd.snd.fst),
                              PV.sc (Value.int IntKind.i64 a3.fst.snd.snd.snd.snd.snd.snd.snd.snd.fst),
                              PV.sc (Value.int IntKind.i64 a3.fst.snd.snd.snd.snd.snd.snd.snd.snd.snd.fst),
                              PV.sc (Value.int IntKind.i64 a3.fst.snd.snd.snd.snd.snd.snd.snd.snd.snd.snd),
                              PV.sc (Value.int IntKind.i64 a3.snd.fst), PV.sc (Value.int IntKind.i64 a3.snd.snd.fst),
                              PV.sc (Value.int IntKind.i64 a3.snd.snd.snd.fst.fst),
                              PV.sc (Value.int IntKind.i64 a3.snd.snd.snd.fst.snd),
                              PV.sc (Value.int IntKind.i64 a3.snd.snd.snd.snd.fst),
                              PV.sc (Value.int IntKind.i64 a3.snd.snd.snd.snd.snd.fst),
                              PV.sc (Value.int IntKind.i64 a3.snd.snd.snd.snd.snd.snd)],
                          Blk.fix false
                            [PV.sc (Value.int IntKind.i64 a4.fst.fst), PV.sc (Value.int IntKind.i64 a4.fst.snd.fst),
                              PV.sc (Value.int IntKind.i64 a4.fst.snd.snd.fst),
                              PV.sc (Value.int IntKind.i64 a4.fst.snd.snd.snd.fst.fst),
                              PV.sc (Value.int IntKind.i64 a4.fst.snd.snd.snd.fst.snd),
                              PV.sc (Value.int IntKind.i64 a4.fst.snd.snd.snd.snd.fst.fst),
                              PV.sc (Value.int IntKind.i64 a4.fst.snd.snd.snd.snd.fst.snd),
                              PV.sc (Value.int IntKind.i64 a4.fst.snd.snd.snd.snd.snd.fst),
                              PV.sc (Value.int IntKind.i64 a4.fst.snd.snd.snd.snd.snd.snd.fst),
                              PV.sc (Value.int IntKind.i64 a4.fst.snd.snd.snd.snd.snd.snd.snd.fst),
                              PV.sc (Value.int IntKind.i64 a4.fst.snd.snd.snd.snd.snd.snd.snd.snd.fst),
                              PV.sc (Value.int IntKind.i64 a4.fst.snd.snd.snd.snd.snd.snd.snd.snd.snd.fst),
                              PV.sc (Value.int IntKind.i64 a4.fst.snd.snd.snd.snd.snd.snd.snd.snd.snd.snd),
                              PV.sc (Value.int IntKind.i64 a4.snd.fst), PV.sc (Value.int IntKind.i64 a4.snd.snd.fst),
                              PV.sc (Value.int IntKind.i64 a4.snd.snd.snd.fst.fst),
                              PV.sc (Value.int IntKind.i64 a4.snd.snd.snd.fst.snd),
                              PV.sc (Value.int IntKind.i64 a4.snd.snd.snd.snd.fst),
                              PV.sc (Value.int IntKind.i64 a4.snd.snd.snd.snd.snd.fst),
                              PV.sc (Value.int IntKind.i64 a4.snd.snd.snd.snd.snd.snd)],
                          Blk.fix false [PV.sc (Value.int IntKind.i64 a5), PV.sc (Value.int IntKind.i64 a6)],
                          Blk.fix true
                            [PV.sc
                                (Value.int IntKind.i64
                                  (scV P a0 a1 a2 a3 a4 a5 a6 a10 (IntKind.i64.wrap (a11 + 1))
                                        (a11, a11, a9)).snd.snd)]])))
              else
                guardB
                  (decide
                    (mu8
                        (a0, a1, a2, a3, a4, (a5, a6), a11, a8, (a9, PUnit.unit), a10, IntKind.i64.wrap (a11 + 1),
                          PUnit.unit) <
                      mu8 (a0, a1, a2, a3, a4, (a5, a6), a7, a8, (a9, ()), a10, a11, ())))
                  (guardB (preL a3 a4 a5 a6 a0 (IntKind.i64.wrap (a11 + 1)))
                    (some
                      (Xt.exit 0,
                        [PV.sc
                            (Value.int IntKind.i64
                              (scV P a0 a1 a2 a3 a4 a5 a6 a10 (IntKind.i64.wrap (a11 + 1)) (a11, a8, a9)).fst),
                          PV.sc
                            (Value.int IntKind.i64
                              (scV P a0 a1 a2 a3 a4 a5 a6 a10 (IntKind.i64.wrap (a11 + 1)) (a11, a8, a9)).snd.fst)],
                        [Blk.fix false
                            [PV.sc (Value.int IntKind.i64 a3.fst.fst), PV.sc (Value.int IntKind.i64 a3.fst.snd.fst),
                              PV.sc (Value.int IntKind.i64 a3.fst.snd.snd.fst),
                              PV.sc (Value.int IntKind.i64 a3.fst.snd.snd.snd.fst.fst),
                              PV.sc (Value.int IntKind.i64 a3.fst.snd.snd.snd.fst.snd),
                              PV.sc (Value.int IntKind.i64 a3.fst.snd.snd.snd.snd.fst.fst),
                              PV.sc (Value.int IntKind.i64 a3.fst.snd.snd.snd.snd.fst.snd),
                              PV.sc (Value.int IntKind.i64 a3.fst.snd.snd.snd.snd.snd.fst),
                              PV.sc (Value.int IntKind.i64 a3.fst.snd.snd.snd.snd.snd.snd.fst),
                              PV.sc (Value.int IntKind.i64 a3.fst.snd.snd.snd.snd.snd.snd.snd.fst),
                              PV.sc (Value.int IntKind.i64 a3.fst.snd.snd.snd.snd.snd.snd.snd.snd.fst),
                              PV.sc (Value.int IntKind.i64 a3.fst.snd.snd.snd.snd.snd.snd.snd.snd.snd.fst),
                              PV.sc (Value.int IntKind.i64 a3.fst.snd.snd.snd.snd.snd.snd.snd.snd.snd.snd),
                              PV.sc (Value.int IntKind.i64 a3.snd.fst), PV.sc (Value.int IntKind.i64 a3.snd.snd.fst),
                              PV.sc (Value.int IntKind.i64 a3.snd.snd.snd.fst.fst),
                              PV.sc (Value.int IntKind.i64 a3.snd.snd.snd.fst.snd),
                              PV.sc (Value.int IntKind.i64 a3.snd.snd.snd.snd.fst),
                              PV.sc (Value.int IntKind.i64 a3.snd.snd.snd.snd.snd.fst),
                              PV.sc (Value.int IntKind.i64 a3.snd.snd.snd.snd.snd.snd)],
                          Blk.fix false
                            [PV.sc (Value.int IntKind.i64 a4.fst.fst), PV.sc (Value.int IntKind.i64 a4.fst.snd.fst),
                              PV.sc (Value.int IntKind.i64 a4.fst.snd.snd.fst),
                              PV.sc (Value.int IntKind.i64 a4.fst.snd.snd.snd.fst.fst),
                              PV.sc (Value.int IntKind.i64 a4.fst.snd.snd.snd.fst.snd),
                              PV.sc (Value.int IntKind.i64 a4.fst.snd.snd.snd.snd.fst.fst),
                              PV.sc (Value.int IntKind.i64 a4.fst.snd.snd.snd.snd.fst.snd),
                              PV.sc (Value.int IntKind.i64 a4.fst.snd.snd.snd.snd.snd.fst),
                              PV.sc (Value.int IntKind.i64 a4.fst.snd.snd.snd.snd.snd.snd.fst),
                              PV.sc (Value.int IntKind.i64 a4.fst.snd.snd.snd.snd.snd.snd.snd.fst),
                              PV.sc (Value.int IntKind.i64 a4.fst.snd.snd.snd.snd.snd.snd.snd.snd.fst),
                              PV.sc (Value.int IntKind.i64 a4.fst.snd.snd.snd.snd.snd.snd.snd.snd.snd.fst),
                              PV.sc (Value.int IntKind.i64 a4.fst.snd.snd.snd.snd.snd.snd.snd.snd.snd.snd),
                              PV.sc (Value.int IntKind.i64 a4.snd.fst), PV.sc (Value.int IntKind.i64 a4.snd.snd.fst),
                              PV.sc (Value.int IntKind.i64 a4.snd.snd.snd.fst.fst),
                              PV.sc (Value.int IntKind.i64 a4.snd.snd.snd.fst.snd),
                              PV.sc (Value.int IntKind.i64 a4.snd.snd.snd.snd.fst),
                              PV.sc (Value.int IntKind.i64 a4.snd.snd.snd.snd.snd.fst),
                              PV.sc (Value.int IntKind.i64 a4.snd.snd.snd.snd.snd.snd)],
                          Blk.fix false [PV.sc (Value.int IntKind.i64 a5), PV.sc (Value.int IntKind.i64 a6)],
                          Blk.fix true
                            [PV.sc
                                (Value.int IntKind.i64
                                  (scV P a0 a1 a2 a3 a4 a5 a6 a10 (IntKind.i64.wrap (a11 + 1))
                                        (a11, a8, a9)).snd.snd)]])))
            else
              guardB
                (decide
                  (mu8
                      (a0, a1, a2, a3, a4, (a5, a6), a11, a8, (a9, PUnit.unit), a10, IntKind.i64.wrap (a11 + 1),
                        PUnit.unit) <
                    mu8 (a0, a1, a2, a3, a4, (a5, a6), a7, a8, (a9, ()), a10, a11, ())))
                (guardB (preL a3 a4 a5 a6 a0 (IntKind.i64.wrap (a11 + 1)))
                  (some
                    (Xt.exit 0,
                      [PV.sc
                          (Value.int IntKind.i64
                            (scV P a0 a1 a2 a3 a4 a5 a6 a10 (IntKind.i64.wrap (a11 + 1)) (a11, a8, a9)).fst),
                        PV.sc
                          (Value.int IntKind.i64
                            (scV P a0 a1 a2 a3 a4 a5 a6 a10 (IntKind.i64.wrap (a11 + 1)) (a11, a8, a9)).snd.fst)],
                      [Blk.fix false
                          [PV.sc (Value.int IntKind.i64 a3.fst.fst), PV.sc (Value.int IntKind.i64 a3.fst.snd.fst),
                            PV.sc (Value.int IntKind.i64 a3.fst.snd.snd.fst),
                            PV.sc (Value.int IntKind.i64 a3.fst.snd.snd.snd.fst.fst),
                            PV.sc (Value.int IntKind.i64 a3.fst.snd.snd.snd.fst.snd),
                            PV.sc (Value.int IntKind.i64 a3.fst.snd.snd.snd.snd.fst.fst),
                            PV.sc (Value.int IntKind.i64 a3.fst.snd.snd.snd.snd.fst.snd),
                            PV.sc (Value.int IntKind.i64 a3.fst.snd.snd.snd.snd.snd.fst),
                            PV.sc (Value.int IntKind.i64 a3.fst.snd.snd.snd.snd.snd.snd.fst),
                            PV.sc (Value.int IntKind.i64 a3.fst.snd.snd.snd.snd.snd.snd.snd.fst),
                            PV.sc (Value.int IntKind.i64 a3.fst.snd.snd.snd.snd.snd.snd.snd.snd.fst),
                            PV.sc (Value.int IntKind.i64 a3.fst.snd.snd.snd.snd.snd.snd.snd.snd.snd.fst),
                            PV.sc (Value.int IntKind.i64 a3.fst.snd.snd.snd.snd.snd.snd.snd.snd.snd.snd),
                            PV.sc (Value.int IntKind.i64 a3.snd.fst), PV.sc (Value.int IntKind.i64 a3.snd.snd.fst),
                            PV.sc (Value.int IntKind.i64 a3.snd.snd.snd.fst.fst),
                            PV.sc (Value.int IntKind.i64 a3.snd.snd.snd.fst.snd),
                            PV.sc (Value.int IntKind.i64 a3.snd.snd.snd.snd.fst),
                            PV.sc (Value.int IntKind.i64 a3.snd.snd.snd.snd.snd.fst),
                            PV.sc (Value.int IntKind.i64 a3.snd.snd.snd.snd.snd.snd)],
                        Blk.fix false
                          [PV.sc (Value.int IntKind.i64 a4.fst.fst), PV.sc (Value.int IntKind.i64 a4.fst.snd.fst),
                            PV.sc (Value.int IntKind.i64 a4.fst.snd.snd.fst),
                            PV.sc (Value.int IntKind.i64 a4.fst.snd.snd.snd.fst.fst),
                            PV.sc (Value.int IntKind.i64 a4.fst.snd.snd.snd.fst.snd),
                            PV.sc (Value.int IntKind.i64 a4.fst.snd.snd.snd.snd.fst.fst),
                            PV.sc (Value.int IntKind.i64 a4.fst.snd.snd.snd.snd.fst.snd),
                            PV.sc (Value.int IntKind.i64 a4.fst.snd.snd.snd.snd.snd.fst),
                            PV.sc (Value.int IntKind.i64 a4.fst.snd.snd.snd.snd.snd.snd.fst),
                            PV.sc (Value.int IntKind.i64 a4.fst.snd.snd.snd.snd.snd.snd.snd.fst),
                            PV.sc (Value.int IntKind.i64 a4.fst.snd.snd.snd.snd.snd.snd.snd.snd.fst),
                            PV.sc (Value.int IntKind.i64 a4.fst.snd.snd.snd.snd.snd.snd.snd.snd.snd.fst),
                            PV.sc (Value.int IntKind.i64 a4.fst.snd.snd.snd.snd.snd.snd.snd.snd.snd.snd),
                            PV.sc (Value.int IntKind.i64 a4.snd.fst), PV.sc (Value.int IntKind.i64 a4.snd.snd.fst),
                            PV.sc (Value.int IntKind.i64 a4.snd.snd.snd.fst.fst),
                            PV.sc (Value.int IntKind.i64 a4.snd.snd.snd.fst.snd),
                            PV.sc (Value.int IntKind.i64 a4.snd.snd.snd.snd.fst),
                            PV.sc (Value.int IntKind.i64 a4.snd.snd.snd.snd.snd.fst),
                            PV.sc (Value.int IntKind.i64 a4.snd.snd.snd.snd.snd.snd)],
                        Blk.fix false [PV.sc (Value.int IntKind.i64 a5), PV.sc (Value.int IntKind.i64 a6)],
                        Blk.fix true
                          [PV.sc
                              (Value.int IntKind.i64
                                (scV P a0 a1 a2 a3 a4 a5 a6 a10 (IntKind.i64.wrap (a11 + 1))
                                      (a11, a8, a9)).snd.snd)]])))
          else
            bif
                sureB (P a3 (IntKind.i64.wrap (a10 + a11)) a1).fst (P a4 (IntKind.i64.wrap (a10 + a11)) a1).fst a5 a6
                  (IntKind.i64.wrap
                    (100 +
                      IntKind.i64.wrap (a2 * IntKind.i64.wrap (IntKind.i64.wrap (a10 + a11) - a3.fst.snd.snd.fst))))
                  (IntKind.i64.wrap
                    (100 +
                      IntKind.i64.wrap
                        (a2 * IntKind.i64.wrap (IntKind.i64.wrap (a10 + a11) - a4.fst.snd.snd.fst)))) then
              bif decide (a8 < 0) then
                guardB
                  (decide
                    (mu8
                        (a0, a1, a2, a3, a4, (a5, a6), a7, a11, (a9, PUnit.unit), a10, IntKind.i64.wrap (a11 + 1),
                          PUnit.unit) <
                      mu8 (a0, a1, a2, a3, a4, (a5, a6), a7, a8, (a9, ()), a10, a11, ())))
                  (guardB (preL a3 a4 a5 a6 a0 (IntKind.i64.wrap (a11 + 1)))
                    (some
                      (Xt.exit 0,
                        [PV.sc
                            (Value.int IntKind.i64
                              (scV P a0 a1 a2 a3 a4 a5 a6 a10 (IntKind.i64.wrap (a11 + 1)) (a7, a11, a9)).fst),
                          PV.sc
                            (Value.int IntKind.i64
                              (scV P a0 a1 a2 a3 a4 a5 a6 a10 (IntKind.i64.wrap (a11 + 1)) (a7, a11, a9)).snd.fst)],
                        [Blk.fix false
                            [PV.sc (Value.int IntKind.i64 a3.fst.fst), PV.sc (Value.int IntKind.i64 a3.fst.snd.fst),
                              PV.sc (Value.int IntKind.i64 a3.fst.snd.snd.fst),
                              PV.sc (Value.int IntKind.i64 a3.fst.snd.snd.snd.fst.fst),
                              PV.sc (Value.int IntKind.i64 a3.fst.snd.snd.snd.fst.snd),
                              PV.sc (Value.int IntKind.i64 a3.fst.snd.snd.snd.snd.fst.fst),
                              PV.sc (Value.int IntKind.i64 a3.fst.snd.snd.snd.snd.fst.snd),
                              PV.sc (Value.int IntKind.i64 a3.fst.snd.snd.snd.snd.snd.fst),
                              PV.sc (Value.int IntKind.i64 a3.fst.snd.snd.snd.snd.snd.snd.fst),
                              PV.sc (Value.int IntKind.i64 a3.fst.snd.snd.snd.snd.snd.snd.snd.fst),
                              PV.sc (Value.int IntKind.i64 a3.fst.snd.snd.snd.snd.snd.snd.snd.snd.fst),
                              PV.sc (Value.int IntKind.i64 a3.fst.snd.snd.snd.snd.snd.snd.snd.snd.snd.fst),
                              PV.sc (Value.int IntKind.i64 a3.fst.snd.snd.snd.snd.snd.snd.snd.snd.snd.snd),
                              PV.sc (Value.int IntKind.i64 a3.snd.fst), PV.sc (Value.int IntKind.i64 a3.snd.snd.fst),
                              PV.sc (Value.int IntKind.i64 a3.snd.snd.snd.fst.fst),
                              PV.sc (Value.int IntKind.i64 a3.snd.snd.snd.fst.snd),
                              PV.sc (Value.int IntKind.i64 a3.snd.snd.snd.snd.fst),
                              PV.sc (Value.int IntKind.i64 a3.snd.snd.snd.snd.snd.fst),
                              PV.sc (Value.int IntKind.i64 a3.snd.snd.snd.snd.snd.snd)],
                          Blk.fix false
                            [PV.sc (Value.int IntKind.i64 a4.fst.fst), PV.sc (Value.int IntKind.i64 a4.fst.snd.fst),
                              PV.sc (Value.int IntKind.i64 a4.fst.snd.snd.fst),
                              PV.sc (Value.int IntKind.i64 a4.fst.snd.snd.snd.fst.fst),
                              PV.sc (Value.int IntKind.i64 a4.fst.snd.snd.snd.fst.snd),
                              PV.sc (Value.int IntKind.i64 a4.fst.snd.snd.snd.snd.fst.fst),
                              PV.sc (Value.int IntKind.i64 a4.fst.snd.snd.snd.snd.fst.snd),
                              PV.sc (Value.int IntKind.i64 a4.fst.snd.snd.snd.snd.snd.fst),
                              PV.sc (Value.int IntKind.i64 a4.fst.snd.snd.snd.snd.snd.snd.fst),
                              PV.sc (Value.int IntKind.i64 a4.fst.snd.snd.snd.snd.snd.snd.snd.fst),
                              PV.sc (Value.int IntKind.i64 a4.fst.snd.snd.snd.snd.snd.snd.snd.snd.fst),
                              PV.sc (Value.int IntKind.i64 a4.fst.snd.snd.snd.snd.snd.snd.snd.snd.snd.fst),
                              PV.sc (Value.int IntKind.i64 a4.fst.snd.snd.snd.snd.snd.snd.snd.snd.snd.snd),
                              PV.sc (Value.int IntKind.i64 a4.snd.fst), PV.sc (Value.int IntKind.i64 a4.snd.snd.fst),
                              PV.sc (Value.int IntKind.i64 a4.snd.snd.snd.fst.fst),
                              PV.sc (Value.int IntKind.i64 a4.snd.snd.snd.fst.snd),
                              PV.sc (Value.int IntKind.i64 a4.snd.snd.snd.snd.fst),
                              PV.sc (Value.int IntKind.i64 a4.snd.snd.snd.snd.snd.fst),
                              PV.sc (Value.int IntKind.i64 a4.snd.snd.snd.snd.snd.snd)],
                          Blk.fix false [PV.sc (Value.int IntKind.i64 a5), PV.sc (Value.int IntKind.i64 a6)],
                          Blk.fix true
                            [PV.sc
                                (Value.int IntKind.i64
                                  (scV P a0 a1 a2 a3 a4 a5 a6 a10 (IntKind.i64.wrap (a11 + 1))
                                        (a7, a11, a9)).snd.snd)]])))
              else
                guardB
                  (decide
                    (mu8
                        (a0, a1, a2, a3, a4, (a5, a6), a7, a8, (a9, PUnit.unit), a10, IntKind.i64.wrap (a11 + 1),
                          PUnit.unit) <
                      mu8 (a0, a1, a2, a3, a4, (a5, a6), a7, a8, (a9, ()), a10, a11, ())))
                  (guardB (preL a3 a4 a5 a6 a0 (IntKind.i64.wrap (a11 + 1)))
                    (some
                      (Xt.exit 0,
                        [PV.sc
                            (Value.int IntKind.i64
                              (scV P a0 a1 a2 a3 a4 a5 a6 a10 (IntKind.i64.wrap (a11 + 1)) (a7, a8, a9)).fst),
                          PV.sc
                            (Value.int IntKind.i64
                              (scV P a0 a1 a2 a3 a4 a5 a6 a10 (IntKind.i64.wrap (a11 + 1)) (a7, a8, a9)).snd.fst)],
                        [Blk.fix false
                            [PV.sc (Value.int IntKind.i64 a3.fst.fst), PV.sc (Value.int IntKind.i64 a3.fst.snd.fst),
                              PV.sc (Value.int IntKind.i64 a3.fst.snd.snd.fst),
                              PV.sc (Value.int IntKind.i64 a3.fst.snd.snd.snd.fst.fst),
                              PV.sc (Value.int IntKind.i64 a3.fst.snd.snd.snd.fst.snd),
                              PV.sc (Value.int IntKind.i64 a3.fst.snd.snd.snd.snd.fst.fst),
                              PV.sc (Value.int IntKind.i64 a3.fst.snd.snd.snd.snd.fst.snd),
                              PV.sc (Value.int IntKind.i64 a3.fst.snd.snd.snd.snd.snd.fst),
                              PV.sc (Value.int IntKind.i64 a3.fst.snd.snd.snd.snd.snd.snd.fst),
                              PV.sc (Value.int IntKind.i64 a3.fst.snd.snd.snd.snd.snd.snd.snd.fst),
                              PV.sc (Value.int IntKind.i64 a3.fst.snd.snd.snd.snd.snd.snd.snd.snd.fst),
                              PV.sc (Value.int IntKind.i64 a3.fst.snd.snd.snd.snd.snd.snd.snd.snd.snd.fst),
                              PV.sc (Value.int IntKind.i64 a3.fst.snd.snd.snd.snd.snd.snd.snd.snd.snd.snd),
                              PV.sc (Value.int IntKind.i64 a3.snd.fst), PV.sc (Value.int IntKind.i64 a3.snd.snd.fst),
                              PV.sc (Value.int IntKind.i64 a3.snd.snd.snd.fst.fst),
                              PV.sc (Value.int IntKind.i64 a3.snd.snd.snd.fst.snd),
                              PV.sc (Value.int IntKind.i64 a3.snd.snd.snd.snd.fst),
                              PV.sc (Value.int IntKind.i64 a3.snd.snd.snd.snd.snd.fst),
                              PV.sc (Value.int IntKind.i64 a3.snd.snd.snd.snd.snd.snd)],
                          Blk.fix false
                            [PV.sc (Value.int IntKind.i64 a4.fst.fst), PV.sc (Value.int IntKind.i64 a4.fst.snd.fst),
                              PV.sc (Value.int IntKind.i64 a4.fst.snd.snd.fst),
                              PV.sc (Value.int IntKind.i64 a4.fst.snd.snd.snd.fst.fst),
                              PV.sc (Value.int IntKind.i64 a4.fst.snd.snd.snd.fst.snd),
                              PV.sc (Value.int IntKind.i64 a4.fst.snd.snd.snd.snd.fst.fst),
                              PV.sc (Value.int IntKind.i64 a4.fst.snd.snd.snd.snd.fst.snd),
                              PV.sc (Value.int IntKind.i64 a4.fst.snd.snd.snd.snd.snd.fst),
                              PV.sc (Value.int IntKind.i64 a4.fst.snd.snd.snd.snd.snd.snd.fst),
                              PV.sc (Value.int IntKind.i64 a4.fst.snd.snd.snd.snd.snd.snd.snd.fst),
                              PV.sc (Value.int IntKind.i64 a4.fst.snd.snd.snd.snd.snd.snd.snd.snd.fst),
                              PV.sc (Value.int IntKind.i64 a4.fst.snd.snd.snd.snd.snd.snd.snd.snd.snd.fst),
                              PV.sc (Value.int IntKind.i64 a4.fst.snd.snd.snd.snd.snd.snd.snd.snd.snd.snd),
                              PV.sc (Value.int IntKind.i64 a4.snd.fst), PV.sc (Value.int IntKind.i64 a4.snd.snd.fst),
                              PV.sc (Value.int IntKind.i64 a4.snd.snd.snd.fst.fst),
                              PV.sc (Value.int IntKind.i64 a4.snd.snd.snd.fst.snd),
                              PV.sc (Value.int IntKind.i64 a4.snd.snd.snd.snd.fst),
                              PV.sc (Value.int IntKind.i64 a4.snd.snd.snd.snd.snd.fst),
                              PV.sc (Value.int IntKind.i64 a4.snd.snd.snd.snd.snd.snd)],
                          Blk.fix false [PV.sc (Value.int IntKind.i64 a5), PV.sc (Value.int IntKind.i64 a6)],
                          Blk.fix true
                            [PV.sc
                                (Value.int IntKind.i64
                                  (scV P a0 a1 a2 a3 a4 a5 a6 a10 (IntKind.i64.wrap (a11 + 1))
                                        (a7, a8, a9)).snd.snd)]])))
            else
              guardB
                (decide
                  (mu8
                      (a0, a1, a2, a3, a4, (a5, a6), a7, a8, (a9, PUnit.unit), a10, IntKind.i64.wrap (a11 + 1),
                        PUnit.unit) <
                    mu8 (a0, a1, a2, a3, a4, (a5, a6), a7, a8, (a9, ()), a10, a11, ())))
                (guardB (preL a3 a4 a5 a6 a0 (IntKind.i64.wrap (a11 + 1)))
                  (some
                    (Xt.exit 0,
                      [PV.sc
                          (Value.int IntKind.i64
                            (scV P a0 a1 a2 a3 a4 a5 a6 a10 (IntKind.i64.wrap (a11 + 1)) (a7, a8, a9)).fst),
                        PV.sc
                          (Value.int IntKind.i64
                            (scV P a0 a1 a2 a3 a4 a5 a6 a10 (IntKind.i64.wrap (a11 + 1)) (a7, a8, a9)).snd.fst)],
                      [Blk.fix false
                          [PV.sc (Value.int IntKind.i64 a3.fst.fst), PV.sc (Value.int IntKind.i64 a3.fst.snd.fst),
                            PV.sc (Value.int IntKind.i64 a3.fst.snd.snd.fst),
                            PV.sc (Value.int IntKind.i64 a3.fst.snd.snd.snd.fst.fst),
                            PV.sc (Value.int IntKind.i64 a3.fst.snd.snd.snd.fst.snd),
                            PV.sc (Value.int IntKind.i64 a3.fst.snd.snd.snd.snd.fst.fst),
                            PV.sc (Value.int IntKind.i64 a3.fst.snd.snd.snd.snd.fst.snd),
                            PV.sc (Value.int IntKind.i64 a3.fst.snd.snd.snd.snd.snd.fst),
                            PV.sc (Value.int IntKind.i64 a3.fst.snd.snd.snd.snd.snd.snd.fst),
                            PV.sc (Value.int IntKind.i64 a3.fst.snd.snd.snd.snd.snd.snd.snd.fst),
                            PV.sc (Value.int IntKind.i64 a3.fst.snd.snd.snd.snd.snd.snd.snd.snd.fst),
                            PV.sc (Value.int IntKind.i64 a3.fst.snd.snd.snd.snd.snd.snd.snd.snd.snd.fst),
                            PV.sc (Value.int IntKind.i64 a3.fst.snd.snd.snd.snd.snd.snd.snd.snd.snd.snd),
                            PV.sc (Value.int IntKind.i64 a3.snd.fst), PV.sc (Value.int IntKind.i64 a3.snd.snd.fst),
                            PV.sc (Value.int IntKind.i64 a3.snd.snd.snd.fst.fst),
                            PV.sc (Value.int IntKind.i64 a3.snd.snd.snd.fst.snd),
                            PV.sc (Value.int IntKind.i64 a3.snd.snd.snd.snd.fst),
                            PV.sc (Value.int IntKind.i64 a3.snd.snd.snd.snd.snd.fst),
                            PV.sc (Value.int IntKind.i64 a3.snd.snd.snd.snd.snd.snd)],
                        Blk.fix false
                          [PV.sc (Value.int IntKind.i64 a4.fst.fst), PV.sc (Value.int IntKind.i64 a4.fst.snd.fst),
                            PV.sc (Value.int IntKind.i64 a4.fst.snd.snd.fst),
                            PV.sc (Value.int IntKind.i64 a4.fst.snd.snd.snd.fst.fst),
                            PV.sc (Value.int IntKind.i64 a4.fst.snd.snd.snd.fst.snd),
                            PV.sc (Value.int IntKind.i64 a4.fst.snd.snd.snd.snd.fst.fst),
                            PV.sc (Value.int IntKind.i64 a4.fst.snd.snd.snd.snd.fst.snd),
                            PV.sc (Value.int IntKind.i64 a4.fst.snd.snd.snd.snd.snd.fst),
                            PV.sc (Value.int IntKind.i64 a4.fst.snd.snd.snd.snd.snd.snd.fst),
                            PV.sc (Value.int IntKind.i64 a4.fst.snd.snd.snd.snd.snd.snd.snd.fst),
                            PV.sc (Value.int IntKind.i64 a4.fst.snd.snd.snd.snd.snd.snd.snd.snd.fst),
                            PV.sc (Value.int IntKind.i64 a4.fst.snd.snd.snd.snd.snd.snd.snd.snd.snd.fst),
                            PV.sc (Value.int IntKind.i64 a4.fst.snd.snd.snd.snd.snd.snd.snd.snd.snd.snd),
                            PV.sc (Value.int IntKind.i64 a4.snd.fst), PV.sc (Value.int IntKind.i64 a4.snd.snd.fst),
                            PV.sc (Value.int IntKind.i64 a4.snd.snd.snd.fst.fst),
                            PV.sc (Value.int IntKind.i64 a4.snd.snd.snd.fst.snd),
                            PV.sc (Value.int IntKind.i64 a4.snd.snd.snd.snd.fst),
                            PV.sc (Value.int IntKind.i64 a4.snd.snd.snd.snd.snd.fst),
                            PV.sc (Value.int IntKind.i64 a4.snd.snd.snd.snd.snd.snd)],
                        Blk.fix false [PV.sc (Value.int IntKind.i64 a5), PV.sc (Value.int IntKind.i64 a6)],
                        Blk.fix true
                          [PV.sc
                              (Value.int IntKind.i64
                                (scV P a0 a1 a2 a3 a4 a5 a6 a10 (IntKind.i64.wrap (a11 + 1)) (a7, a8, a9)).snd.snd)]])))
        else
          bif
              sureB (P a3 (IntKind.i64.wrap (a10 + a11)) a1).fst (P a4 (IntKind.i64.wrap (a10 + a11)) a1).fst a5 a6
                (IntKind.i64.wrap
                  (100 + IntKind.i64.wrap (a2 * IntKind.i64.wrap (IntKind.i64.wrap (a10 + a11) - a3.fst.snd.snd.fst))))
                (IntKind.i64.wrap
                  (100 +
                    IntKind.i64.wrap (a2 * IntKind.i64.wrap (IntKind.i64.wrap (a10 + a11) - a4.fst.snd.snd.fst)))) then
            bif decide (a8 < 0) then
              guardB
                (decide
                  (mu8
                      (a0, a1, a2, a3, a4, (a5, a6), a7, a11, (a9, PUnit.unit), a10, IntKind.i64.wrap (a11 + 1),
                        PUnit.unit) <
                    mu8 (a0, a1, a2, a3, a4, (a5, a6), a7, a8, (a9, ()), a10, a11, ())))
                (guardB (preL a3 a4 a5 a6 a0 (IntKind.i64.wrap (a11 + 1)))
                  (some
                    (Xt.exit 0,
                      [PV.sc
                          (Value.int IntKind.i64
                            (scV P a0 a1 a2 a3 a4 a5 a6 a10 (IntKind.i64.wrap (a11 + 1)) (a7, a11, a9)).fst),
                        PV.sc
                          (Value.int IntKind.i64
                            (scV P a0 a1 a2 a3 a4 a5 a6 a10 (IntKind.i64.wrap (a11 + 1)) (a7, a11, a9)).snd.fst)],
                      [Blk.fix false
                          [PV.sc (Value.int IntKind.i64 a3.fst.fst), PV.sc (Value.int IntKind.i64 a3.fst.snd.fst),
                            PV.sc (Value.int IntKind.i64 a3.fst.snd.snd.fst),
                            PV.sc (Value.int IntKind.i64 a3.fst.snd.snd.snd.fst.fst),
                            PV.sc (Value.int IntKind.i64 a3.fst.snd.snd.snd.fst.snd),
                            PV.sc (Value.int IntKind.i64 a3.fst.snd.snd.snd.snd.fst.fst),
                            PV.sc (Value.int IntKind.i64 a3.fst.snd.snd.snd.snd.fst.snd),
                            PV.sc (Value.int IntKind.i64 a3.fst.snd.snd.snd.snd.snd.fst),
                            PV.sc (Value.int IntKind.i64 a3.fst.snd.snd.snd.snd.snd.snd.fst),
                            PV.sc (Value.int IntKind.i64 a3.fst.snd.snd.snd.snd.snd.snd.snd.fst),
                            PV.sc (Value.int IntKind.i64 a3.fst.snd.snd.snd.snd.snd.snd.snd.snd.fst),
                            PV.sc (Value.int IntKind.i64 a3.fst.snd.snd.snd.snd.snd.snd.snd.snd.snd.fst),
                            PV.sc (Value.int IntKind.i64 a3.fst.snd.snd.snd.snd.snd.snd.snd.snd.snd.snd),
                            PV.sc (Value.int IntKind.i64 a3.snd.fst), PV.sc (Value.int IntKind.i64 a3.snd.snd.fst),
                            PV.sc (Value.int IntKind.i64 a3.snd.snd.snd.fst.fst),
                            PV.sc (Value.int IntKind.i64 a3.snd.snd.snd.fst.snd),
                            PV.sc (Value.int IntKind.i64 a3.snd.snd.snd.snd.fst),
                            PV.sc (Value.int IntKind.i64 a3.snd.snd.snd.snd.snd.fst),
                            PV.sc (Value.int IntKind.i64 a3.snd.snd.snd.snd.snd.snd)],
                        Blk.fix false
                          [PV.sc (Value.int IntKind.i64 a4.fst.fst), PV.sc (Value.int IntKind.i64 a4.fst.snd.fst),
                            PV.sc (Value.int IntKind.i64 a4.fst.snd.snd.fst),
                            PV.sc (Value.int IntKind.i64 a4.fst.snd.snd.snd.fst.fst),
                            PV.sc (Value.int IntKind.i64 a4.fst.snd.snd.snd.fst.snd),
                            PV.sc (Value.int IntKind.i64 a4.fst.snd.snd.snd.snd.fst.fst),
                            PV.sc (Value.int IntKind.i64 a4.fst.snd.snd.snd.snd.fst.snd),
                            PV.sc (Value.int IntKind.i64 a4.fst.snd.snd.snd.snd.snd.fst),
                            PV.sc (Value.int IntKind.i64 a4.fst.snd.snd.snd.snd.snd.snd.fst),
                            PV.sc (Value.int IntKind.i64 a4.fst.snd.snd.snd.snd.snd.snd.snd.fst),
                            PV.sc (Value.int IntKind.i64 a4.fst.snd.snd.snd.snd.snd.snd.snd.snd.fst),
                            PV.sc (Value.int IntKind.i64 a4.fst.snd.snd.snd.snd.snd.snd.snd.snd.snd.fst),
                            PV.sc (Value.int IntKind.i64 a4.fst.snd.snd.snd.snd.snd.snd.snd.snd.snd.snd),
                            PV.sc (Value.int IntKind.i64 a4.snd.fst), PV.sc (Value.int IntKind.i64 a4.snd.snd.fst),
                            PV.sc (Value.int IntKind.i64 a4.snd.snd.snd.fst.fst),
                            PV.sc (Value.int IntKind.i64 a4.snd.snd.snd.fst.snd),
                            PV.sc (Value.int IntKind.i64 a4.snd.snd.snd.snd.fst),
                            PV.sc (Value.int IntKind.i64 a4.snd.snd.snd.snd.snd.fst),
                            PV.sc (Value.int IntKind.i64 a4.snd.snd.snd.snd.snd.snd)],
                        Blk.fix false [PV.sc (Value.int IntKind.i64 a5), PV.sc (Value.int IntKind.i64 a6)],
                        Blk.fix true
                          [PV.sc
                              (Value.int IntKind.i64
                                (scV P a0 a1 a2 a3 a4 a5 a6 a10 (IntKind.i64.wrap (a11 + 1))
                                      (a7, a11, a9)).snd.snd)]])))
            else
              guardB
                (decide
                  (mu8
                      (a0, a1, a2, a3, a4, (a5, a6), a7, a8, (a9, PUnit.unit), a10, IntKind.i64.wrap (a11 + 1),
                        PUnit.unit) <
                    mu8 (a0, a1, a2, a3, a4, (a5, a6), a7, a8, (a9, ()), a10, a11, ())))
                (guardB (preL a3 a4 a5 a6 a0 (IntKind.i64.wrap (a11 + 1)))
                  (some
                    (Xt.exit 0,
                      [PV.sc
                          (Value.int IntKind.i64
                            (scV P a0 a1 a2 a3 a4 a5 a6 a10 (IntKind.i64.wrap (a11 + 1)) (a7, a8, a9)).fst),
                        PV.sc
                          (Value.int IntKind.i64
                            (scV P a0 a1 a2 a3 a4 a5 a6 a10 (IntKind.i64.wrap (a11 + 1)) (a7, a8, a9)).snd.fst)],
                      [Blk.fix false
                          [PV.sc (Value.int IntKind.i64 a3.fst.fst), PV.sc (Value.int IntKind.i64 a3.fst.snd.fst),
                            PV.sc (Value.int IntKind.i64 a3.fst.snd.snd.fst),
                            PV.sc (Value.int IntKind.i64 a3.fst.snd.snd.snd.fst.fst),
                            PV.sc (Value.int IntKind.i64 a3.fst.snd.snd.snd.fst.snd),
                            PV.sc (Value.int IntKind.i64 a3.fst.snd.snd.snd.snd.fst.fst),
                            PV.sc (Value.int IntKind.i64 a3.fst.snd.snd.snd.snd.fst.snd),
                            PV.sc (Value.int IntKind.i64 a3.fst.snd.snd.snd.snd.snd.fst),
                            PV.sc (Value.int IntKind.i64 a3.fst.snd.snd.snd.snd.snd.snd.fst),
                            PV.sc (Value.int IntKind.i64 a3.fst.snd.snd.snd.snd.snd.snd.snd.fst),
                            PV.sc (Value.int IntKind.i64 a3.fst.snd.snd.snd.snd.snd.snd.snd.snd.fst),
                            PV.sc (Value.int IntKind.i64 a3.fst.snd.snd.snd.snd.snd.snd.snd.snd.snd.fst),
                            PV.sc (Value.int IntKind.i64 a3.fst.snd.snd.snd.snd.snd.snd.snd.snd.snd.snd),
                            PV.sc (Value.int IntKind.i64 a3.snd.fst), PV.sc (Value.int IntKind.i64 a3.snd.snd.fst),
                            PV.sc (Value.int IntKind.i64 a3.snd.snd.snd.fst.fst),
                            PV.sc (Value.int IntKind.i64 a3.snd.snd.snd.fst.snd),
                            PV.sc (Value.int IntKind.i64 a3.snd.snd.snd.snd.fst),
                            PV.sc (Value.int IntKind.i64 a3.snd.snd.snd.snd.snd.fst),
                            PV.sc (Value.int IntKind.i64 a3.snd.snd.snd.snd.snd.snd)],
                        Blk.fix false
                          [PV.sc (Value.int IntKind.i64 a4.fst.fst), PV.sc (Value.int IntKind.i64 a4.fst.snd.fst),
                            PV.sc (Value.int IntKind.i64 a4.fst.snd.snd.fst),
                            PV.sc (Value.int IntKind.i64 a4.fst.snd.snd.snd.fst.fst),
                            PV.sc (Value.int IntKind.i64 a4.fst.snd.snd.snd.fst.snd),
                            PV.sc (Value.int IntKind.i64 a4.fst.snd.snd.snd.snd.fst.fst),
                            PV.sc (Value.int IntKind.i64 a4.fst.snd.snd.snd.snd.fst.snd),
                            PV.sc (Value.int IntKind.i64 a4.fst.snd.snd.snd.snd.snd.fst),
                            PV.sc (Value.int IntKind.i64 a4.fst.snd.snd.snd.snd.snd.snd.fst),
                            PV.sc (Value.int IntKind.i64 a4.fst.snd.snd.snd.snd.snd.snd.snd.fst),
                            PV.sc (Value.int IntKind.i64 a4.fst.snd.snd.snd.snd.snd.snd.snd.snd.fst),
                            PV.sc (Value.int IntKind.i64 a4.fst.snd.snd.snd.snd.snd.snd.snd.snd.snd.fst),
                            PV.sc (Value.int IntKind.i64 a4.fst.snd.snd.snd.snd.snd.snd.snd.snd.snd.snd),
                            PV.sc (Value.int IntKind.i64 a4.snd.fst), PV.sc (Value.int IntKind.i64 a4.snd.snd.fst),
                            PV.sc (Value.int IntKind.i64 a4.snd.snd.snd.fst.fst),
                            PV.sc (Value.int IntKind.i64 a4.snd.snd.snd.fst.snd),
                            PV.sc (Value.int IntKind.i64 a4.snd.snd.snd.snd.fst),
                            PV.sc (Value.int IntKind.i64 a4.snd.snd.snd.snd.snd.fst),
                            PV.sc (Value.int IntKind.i64 a4.snd.snd.snd.snd.snd.snd)],
                        Blk.fix false [PV.sc (Value.int IntKind.i64 a5), PV.sc (Value.int IntKind.i64 a6)],
                        Blk.fix true
                          [PV.sc
                              (Value.int IntKind.i64
                                (scV P a0 a1 a2 a3 a4 a5 a6 a10 (IntKind.i64.wrap (a11 + 1)) (a7, a8, a9)).snd.snd)]])))
          else
            guardB
              (decide
                (mu8
                    (a0, a1, a2, a3, a4, (a5, a6), a7, a8, (a9, PUnit.unit), a10, IntKind.i64.wrap (a11 + 1),
                      PUnit.unit) <
                  mu8 (a0, a1, a2, a3, a4, (a5, a6), a7, a8, (a9, ()), a10, a11, ())))
              (guardB (preL a3 a4 a5 a6 a0 (IntKind.i64.wrap (a11 + 1)))
                (some
                  (Xt.exit 0,
                    [PV.sc
                        (Value.int IntKind.i64
                          (scV P a0 a1 a2 a3 a4 a5 a6 a10 (IntKind.i64.wrap (a11 + 1)) (a7, a8, a9)).fst),
                      PV.sc
                        (Value.int IntKind.i64
                          (scV P a0 a1 a2 a3 a4 a5 a6 a10 (IntKind.i64.wrap (a11 + 1)) (a7, a8, a9)).snd.fst)],
                    [Blk.fix false
                        [PV.sc (Value.int IntKind.i64 a3.fst.fst), PV.sc (Value.int IntKind.i64 a3.fst.snd.fst),
                          PV.sc (Value.int IntKind.i64 a3.fst.snd.snd.fst),
                          PV.sc (Value.int IntKind.i64 a3.fst.snd.snd.snd.fst.fst),
                          PV.sc (Value.int IntKind.i64 a3.fst.snd.snd.snd.fst.snd),
                          PV.sc (Value.int IntKind.i64 a3.fst.snd.snd.snd.snd.fst.fst),
                          PV.sc (Value.int IntKind.i64 a3.fst.snd.snd.snd.snd.fst.snd),
                          PV.sc (Value.int IntKind.i64 a3.fst.snd.snd.snd.snd.snd.fst),
                          PV.sc (Value.int IntKind.i64 a3.fst.snd.snd.snd.snd.snd.snd.fst),
                          PV.sc (Value.int IntKind.i64 a3.fst.snd.snd.snd.snd.snd.snd.snd.fst),
                          PV.sc (Value.int IntKind.i64 a3.fst.snd.snd.snd.snd.snd.snd.snd.snd.fst),
                          PV.sc (Value.int IntKind.i64 a3.fst.snd.snd.snd.snd.snd.snd.snd.snd.snd.fst),
                          PV.sc (Value.int IntKind.i64 a3.fst.snd.snd.snd.snd.snd.snd.snd.snd.snd.snd),
                          PV.sc (Value.int IntKind.i64 a3.snd.fst), PV.sc (Value.int IntKind.i64 a3.snd.snd.fst),
                          PV.sc (Value.int IntKind.i64 a3.snd.snd.snd.fst.fst),
                          PV.sc (Value.int IntKind.i64 a3.snd.snd.snd.fst.snd),
                          PV.sc (Value.int IntKind.i64 a3.snd.snd.snd.snd.fst),
                          PV.sc (Value.int IntKind.i64 a3.snd.snd.snd.snd.snd.fst),
                          PV.sc (Value.int IntKind.i64 a3.snd.snd.snd.snd.snd.snd)],
                      Blk.fix false
                        [PV.sc (Value.int IntKind.i64 a4.fst.fst), PV.sc (Value.int IntKind.i64 a4.fst.snd.fst),
                          PV.sc (Value.int IntKind.i64 a4.fst.snd.snd.fst),
                          PV.sc (Value.int IntKind.i64 a4.fst.snd.snd.snd.fst.fst),
                          PV.sc (Value.int IntKind.i64 a4.fst.snd.snd.snd.fst.snd),
                          PV.sc (Value.int IntKind.i64 a4.fst.snd.snd.snd.snd.fst.fst),
                          PV.sc (Value.int IntKind.i64 a4.fst.snd.snd.snd.snd.fst.snd),
                          PV.sc (Value.int IntKind.i64 a4.fst.snd.snd.snd.snd.snd.fst),
                          PV.sc (Value.int IntKind.i64 a4.fst.snd.snd.snd.snd.snd.snd.fst),
                          PV.sc (Value.int IntKind.i64 a4.fst.snd.snd.snd.snd.snd.snd.snd.fst),
                          PV.sc (Value.int IntKind.i64 a4.fst.snd.snd.snd.snd.snd.snd.snd.snd.fst),
                          PV.sc (Value.int IntKind.i64 a4.fst.snd.snd.snd.snd.snd.snd.snd.snd.snd.fst),
                          PV.sc (Value.int IntKind.i64 a4.fst.snd.snd.snd.snd.snd.snd.snd.snd.snd.snd),
                          PV.sc (Value.int IntKind.i64 a4.snd.fst), PV.sc (Value.int IntKind.i64 a4.snd.snd.fst),
                          PV.sc (Value.int IntKind.i64 a4.snd.snd.snd.fst.fst),
                          PV.sc (Value.int IntKind.i64 a4.snd.snd.snd.fst.snd),
                          PV.sc (Value.int IntKind.i64 a4.snd.snd.snd.snd.fst),
                          PV.sc (Value.int IntKind.i64 a4.snd.snd.snd.snd.snd.fst),
                          PV.sc (Value.int IntKind.i64 a4.snd.snd.snd.snd.snd.snd)],
                      Blk.fix false [PV.sc (Value.int IntKind.i64 a5), PV.sc (Value.int IntKind.i64 a6)],
                      Blk.fix true
                        [PV.sc
                            (Value.int IntKind.i64
                              (scV P a0 a1 a2 a3 a4 a5 a6 a10 (IntKind.i64.wrap (a11 + 1)) (a7, a8, a9)).snd.snd)]]))))
else
  some
    (Xt.exit 0, [PV.sc (Value.int IntKind.i64 a7), PV.sc (Value.int IntKind.i64 a8)],
      [Blk.fix false
          [PV.sc (Value.int IntKind.i64 a3.fst.fst), PV.sc (Value.int IntKind.i64 a3.fst.snd.fst),
            PV.sc (Value.int IntKind.i64 a3.fst.snd.snd.fst), PV.sc (Value.int IntKind.i64 a3.fst.snd.snd.snd.fst.fst),
            PV.sc (Value.int IntKind.i64 a3.fst.snd.snd.snd.fst.snd),
            PV.sc (Value.int IntKind.i64 a3.fst.snd.snd.snd.snd.fst.fst),
            PV.sc (Value.int IntKind.i64 a3.fst.snd.snd.snd.snd.fst.snd),
            PV.sc (Value.int IntKind.i64 a3.fst.snd.snd.snd.snd.snd.fst),
            PV.sc (Value.int IntKind.i64 a3.fst.snd.snd.snd.snd.snd.snd.fst),
            PV.sc (Value.int IntKind.i64 a3.fst.snd.snd.snd.snd.snd.snd.snd.fst),
            PV.sc (Value.int IntKind.i64 a3.fst.snd.snd.snd.snd.snd.snd.snd.snd.fst),
            PV.sc (Value.int IntKind.i64 a3.fst.snd.snd.snd.snd.snd.snd.snd.snd.snd.fst),
            PV.sc (Value.int IntKind.i64 a3.fst.snd.snd.snd.snd.snd.snd.snd.snd.snd.snd),
            PV.sc (Value.int IntKind.i64 a3.snd.fst), PV.sc (Value.int IntKind.i64 a3.snd.snd.fst),
            PV.sc (Value.int IntKind.i64 a3.snd.snd.snd.fst.fst), PV.sc (Value.int IntKind.i64 a3.snd.snd.snd.fst.snd),
            PV.sc (Value.int IntKind.i64 a3.snd.snd.snd.snd.fst),
            PV.sc (Value.int IntKind.i64 a3.snd.snd.snd.snd.snd.fst),
            PV.sc (Value.int IntKind.i64 a3.snd.snd.snd.snd.snd.snd)],
        Blk.fix false
          [PV.sc (Value.int IntKind.i64 a4.fst.fst), PV.sc (Value.int IntKind.i64 a4.fst.snd.fst),
            PV.sc (Value.int IntKind.i64 a4.fst.snd.snd.fst), PV.sc (Value.int IntKind.i64 a4.fst.snd.snd.snd.fst.fst),
            PV.sc (Value.int IntKind.i64 a4.fst.snd.snd.snd.fst.snd),
            PV.sc (Value.int IntKind.i64 a4.fst.snd.snd.snd.snd.fst.fst),
            PV.sc (Value.int IntKind.i64 a4.fst.snd.snd.snd.snd.fst.snd),
            PV.sc (Value.int IntKind.i64 a4.fst.snd.snd.snd.snd.snd.fst),
            PV.sc (Value.int IntKind.i64 a4.fst.snd.snd.snd.snd.snd.snd.fst),
            PV.sc (Value.int IntKind.i64 a4.fst.snd.snd.snd.snd.snd.snd.snd.fst),
            PV.sc (Value.int IntKind.i64 a4.fst.snd.snd.snd.snd.snd.snd.snd.snd.fst),
            PV.sc (Value.int IntKind.i64 a4.fst.snd.snd.snd.snd.snd.snd.snd.snd.snd.fst),
            PV.sc (Value.int IntKind.i64 a4.fst.snd.snd.snd.snd.snd.snd.snd.snd.snd.snd),
            PV.sc (Value.int IntKind.i64 a4.snd.fst), PV.sc (Value.int IntKind.i64 a4.snd.snd.fst),
            PV.sc (Value.int IntKind.i64 a4.snd.snd.snd.fst.fst), PV.sc (Value.int IntKind.i64 a4.snd.snd.snd.fst.snd),
            PV.sc (Value.int IntKind.i64 a4.snd.snd.snd.snd.fst),
            PV.sc (Value.int IntKind.i64 a4.snd.snd.snd.snd.snd.fst),
            PV.sc (Value.int IntKind.i64 a4.snd.snd.snd.snd.snd.snd)],
        Blk.fix false [PV.sc (Value.int IntKind.i64 a5), PV.sc (Value.int IntKind.i64 a6)],
        Blk.fix true [PV.sc (Value.int IntKind.i64 a9)]])) := by kernel_rfl
noncomputable abbrev l8L (P : FT → Int → Int → FT × Int) (a0 : FT) (a1 : FT) (a2 : Int) (a3 : Int) (a4 : Int) (a5 : Int) (a6 : Int) := evFuncV Try.prog (T8 P) (addCut 0 [3, 4, 5, 6, 7, 8, 24, 25, 26, 27, 28] [24, 25] (entC k8 (c8 P)) noCuts) Try.f8 (killA 0 kF) (showA 0 kF (a0, (a1, ((a2, a3), (a4, (a5, (a6, ()))))))).1 (showA 0 kF (a0, (a1, ((a2, a3), (a4, (a5, (a6, ()))))))).2
theorem l8 (P : FT → Int → Int → FT × Int) (a0 : FT) (a1 : FT) (a2 : Int) (a3 : Int) (a4 : Int) (a5 : Int) (a6 : Int) : l8L P a0 a1 a2 a3 a4 a5 a6 = (bif
    (fnS P true ((0, 0, 0, (0, 0), (0, 0), 0, 0, 0, 0, 0, 0), 0, 0, (0, 0), 0, 0, 0)
          ((0, 0, 0, (0, 0), (0, 0), 0, 0, 0, 0, 0, 0), 0, 0, (0, 0), 0, 0, 0) 10 1000 3 0 0).snd !=
      0 then
  some (PV.sc (Value.bool false), [])
else
  bif
      (fnS P true ((0, 0, 0, (0, 0), (0, 0), 0, 0, 0, 0, 0, 0), 0, 0, (0, 0), 0, 0, 0)
            ((0, 0, 0, (0, 0), (0, 0), 0, 0, 0, 0, 0, 0), 0, 0, (0, 0), 0, 0, 0) 10 1000 3 0 0).fst !=
        0 then
    some (PV.sc (Value.bool false), [])
  else
    bif
        (fnS P false ((0, 0, 0, (0, 0), (0, 0), 0, 0, 0, 0, 0, 0), 0, 0, (0, 0), 0, 0, 0)
              ((0, 0, 0, (500, 0), (0, 0), 0, 0, 0, 0, 0, 0), 0, 0, (0, 0), 0, 0, 0) 10 1000 1 0 0).snd !=
          8 then
      some (PV.sc (Value.bool false), [])
    else
      bif checkE a0 == 0 then
        bif checkE a1 == 0 then
          bif !inS a2 0 1000000 then
            bif (fnS P false a0 a1 a2 a3 ((refDown a4 1).tmod 41) a5 a6).snd == 4 then
              bif (fnS P true a0 a1 a2 a3 ((refDown a4 1).tmod 41) a5 a6).snd == 4 then
                bif (fnS P false a0 a1 a2 a3 ((refDown a4 1).tmod 41) a5 a6).fst == 0 then
                  some (PV.sc (Value.bool ((fnS P true a0 a1 a2 a3 ((refDown a4 1).tmod 41) a5 a6).fst == 0)), [])
                else some (PV.sc (Value.bool false), [])
              else some (PV.sc (Value.bool false), [])
            else some (PV.sc (Value.bool false), [])
          else
            bif !inS a3 0 60000 then
              bif (fnS P false a0 a1 a2 a3 ((refDown a4 1).tmod 41) a5 a6).snd == 4 then
                bif (fnS P true a0 a1 a2 a3 ((refDown a4 1).tmod 41) a5 a6).snd == 4 then
                  bif (fnS P false a0 a1 a2 a3 ((refDown a4 1).tmod 41) a5 a6).fst == 0 then
                    some (PV.sc (Value.bool ((fnS P true a0 a1 a2 a3 ((refDown a4 1).tmod 41) a5 a6).fst == 0)), [])
                  else some (PV.sc (Value.bool false), [])
                else some (PV.sc (Value.bool false), [])
              else some (PV.sc (Value.bool false), [])
            else
              bif decide ((refDown a4 1).tmod 41 < 0) then
                bif (fnS P false a0 a1 a2 a3 ((refDown a4 1).tmod 41) a5 a6).snd == 4 then
                  bif (fnS P true a0 a1 a2 a3 ((refDown a4 1).tmod 41) a5 a6).snd == 4 then
                    bif (fnS P false a0 a1 a2 a3 ((refDown a4 1).tmod 41) a5 a6).fst == 0 then
                      some (PV.sc (Value.bool ((fnS P true a0 a1 a2 a3 ((refDown a4 1).tmod 41) a5 a6).fst == 0)), [])
                    else some (PV.sc (Value.bool false), [])
                  else some (PV.sc (Value.bool false), [])
                else some (PV.sc (Value.bool false), [])
              else
                bif !inS a5 0 20 then
                  bif (fnS P false a0 a1 a2 a3 ((refDown a4 1).tmod 41) a5 a6).snd == 4 then
                    bif (fnS P true a0 a1 a2 a3 ((refDown a4 1).tmod 41) a5 a6).snd == 4 then
                      bif (fnS P false a0 a1 a2 a3 ((refDown a4 1).tmod 41) a5 a6).fst == 0 then
                        some (PV.sc (Value.bool ((fnS P true a0 a1 a2 a3 ((refDown a4 1).tmod 41) a5 a6).fst == 0)), [])
                      else some (PV.sc (Value.bool false), [])
                    else some (PV.sc (Value.bool false), [])
                  else some (PV.sc (Value.bool false), [])
                else
                  bif !inS a6 0 200 then
                    bif (fnS P false a0 a1 a2 a3 ((refDown a4 1).tmod 41) a5 a6).snd == 4 then
                      bif (fnS P true a0 a1 a2 a3 ((refDown a4 1).tmod 41) a5 a6).snd == 4 then
                        bif (fnS P false a0 a1 a2 a3 ((refDown a4 1).tmod 41) a5 a6).fst == 0 then
                          some
                            (PV.sc (Value.bool ((fnS P true a0 a1 a2 a3 ((refDown a4 1).tmod 41) a5 a6).fst == 0)), [])
                        else some (PV.sc (Value.bool false), [])
                      else some (PV.sc (Value.bool false), [])
                    else some (PV.sc (Value.bool false), [])
                  else
                    bif checkE a1 != 0 then
                      bif (fnS P false a0 a1 a2 a3 ((refDown a4 1).tmod 41) a5 a6).snd == checkE a1 then
                        bif (fnS P true a0 a1 a2 a3 ((refDown a4 1).tmod 41) a5 a6).snd == checkE a1 then
                          bif (fnS P false a0 a1 a2 a3 ((refDown a4 1).tmod 41) a5 a6).fst == 0 then
                            some
                              (PV.sc (Value.bool ((fnS P true a0 a1 a2 a3 ((refDown a4 1).tmod 41) a5 a6).fst == 0)),
                                [])
                          else some (PV.sc (Value.bool false), [])
                        else some (PV.sc (Value.bool false), [])
                      else some (PV.sc (Value.bool false), [])
                    else
                      guardB (preL a0 a1 a2 a3 ((refDown a4 1).tmod 41) 0)
                        (bif
                            toldS (fnS P false a0 a1 a2 a3 ((refDown a4 1).tmod 41) a5 a6).fst
                              (fnS P false a0 a1 a2 a3 ((refDown a4 1).tmod 41) a5 a6).snd
                              (scV P ((refDown a4 1).tmod 41) a5 a6 a0 a1 a2 a3
                                  (max a0.fst.snd.snd.fst a1.fst.snd.snd.fst) 0 (-1, -1, 8)).fst
                              (scV P ((refDown a4 1).tmod 41) a5 a6 a0 a1 a2 a3
                                    (max a0.fst.snd.snd.fst a1.fst.snd.snd.fst) 0 (-1, -1, 8)).snd.snd then
                          some
                            (PV.sc
                                (Value.bool
                                  (toldS (fnS P true a0 a1 a2 a3 ((refDown a4 1).tmod 41) a5 a6).fst
                                    (fnS P true a0 a1 a2 a3 ((refDown a4 1).tmod 41) a5 a6).snd
                                    (scV P ((refDown a4 1).tmod 41) a5 a6 a0 a1 a2 a3
                                          (max a0.fst.snd.snd.fst a1.fst.snd.snd.fst) 0 (-1, -1, 8)).snd.fst
                                    (scV P ((refDown a4 1).tmod 41) a5 a6 a0 a1 a2 a3
                                          (max a0.fst.snd.snd.fst a1.fst.snd.snd.fst) 0 (-1, -1, 8)).snd.snd)),
                              [])
                        else some (PV.sc (Value.bool false), []))
        else
          bif checkE a1 != 0 then
            bif (fnS P false a0 a1 a2 a3 ((refDown a4 1).tmod 41) a5 a6).snd == checkE a1 then
              bif (fnS P true a0 a1 a2 a3 ((refDown a4 1).tmod 41) a5 a6).snd == checkE a1 then
                bif (fnS P false a0 a1 a2 a3 ((refDown a4 1).tmod 41) a5 a6).fst == 0 then
                  some (PV.sc (Value.bool ((fnS P true a0 a1 a2 a3 ((refDown a4 1).tmod 41) a5 a6).fst == 0)), [])
                else some (PV.sc (Value.bool false), [])
              else some (PV.sc (Value.bool false), [])
            else some (PV.sc (Value.bool false), [])
          else
            guardB (preL a0 a1 a2 a3 ((refDown a4 1).tmod 41) 0)
              (bif
                  toldS (fnS P false a0 a1 a2 a3 ((refDown a4 1).tmod 41) a5 a6).fst
                    (fnS P false a0 a1 a2 a3 ((refDown a4 1).tmod 41) a5 a6).snd
                    (scV P ((refDown a4 1).tmod 41) a5 a6 a0 a1 a2 a3 (max a0.fst.snd.snd.fst a1.fst.snd.snd.fst) 0
                        (-1, -1, 8)).fst
                    (scV P ((refDown a4 1).tmod 41) a5 a6 a0 a1 a2 a3 (max a0.fst.snd.snd.fst a1.fst.snd.snd.fst) 0
                          (-1, -1, 8)).snd.snd then
                some
                  (PV.sc
                      (Value.bool
                        (toldS (fnS P true a0 a1 a2 a3 ((refDown a4 1).tmod 41) a5 a6).fst
                          (fnS P true a0 a1 a2 a3 ((refDown a4 1).tmod 41) a5 a6).snd
                          (scV P ((refDown a4 1).tmod 41) a5 a6 a0 a1 a2 a3 (max a0.fst.snd.snd.fst a1.fst.snd.snd.fst)
                                0 (-1, -1, 8)).snd.fst
                          (scV P ((refDown a4 1).tmod 41) a5 a6 a0 a1 a2 a3 (max a0.fst.snd.snd.fst a1.fst.snd.snd.fst)
                                0 (-1, -1, 8)).snd.snd)),
                    [])
              else some (PV.sc (Value.bool false), []))
      else
        bif checkE a0 == 0 then
          bif !inS a2 0 1000000 then
            bif (fnS P false a0 a1 a2 a3 ((refDown a4 1).tmod 41) a5 a6).snd == 4 then
              bif (fnS P true a0 a1 a2 a3 ((refDown a4 1).tmod 41) a5 a6).snd == 4 then
                bif (fnS P false a0 a1 a2 a3 ((refDown a4 1).tmod 41) a5 a6).fst == 0 then
                  some (PV.sc (Value.bool ((fnS P true a0 a1 a2 a3 ((refDown a4 1).tmod 41) a5 a6).fst == 0)), [])
                else some (PV.sc (Value.bool false), [])
              else some (PV.sc (Value.bool false), [])
            else some (PV.sc (Value.bool false), [])
          else
            bif !inS a3 0 60000 then
              bif (fnS P false a0 a1 a2 a3 ((refDown a4 1).tmod 41) a5 a6).snd == 4 then
                bif (fnS P true a0 a1 a2 a3 ((refDown a4 1).tmod 41) a5 a6).snd == 4 then
                  bif (fnS P false a0 a1 a2 a3 ((refDown a4 1).tmod 41) a5 a6).fst == 0 then
                    some (PV.sc (Value.bool ((fnS P true a0 a1 a2 a3 ((refDown a4 1).tmod 41) a5 a6).fst == 0)), [])
                  else some (PV.sc (Value.bool false), [])
                else some (PV.sc (Value.bool false), [])
              else some (PV.sc (Value.bool false), [])
            else
              bif decide ((refDown a4 1).tmod 41 < 0) then
                bif (fnS P false a0 a1 a2 a3 ((refDown a4 1).tmod 41) a5 a6).snd == 4 then
                  bif (fnS P true a0 a1 a2 a3 ((refDown a4 1).tmod 41) a5 a6).snd == 4 then
                    bif (fnS P false a0 a1 a2 a3 ((refDown a4 1).tmod 41) a5 a6).fst == 0 then
                      some (PV.sc (Value.bool ((fnS P true a0 a1 a2 a3 ((refDown a4 1).tmod 41) a5 a6).fst == 0)), [])
                    else some (PV.sc (Value.bool false), [])
                  else some (PV.sc (Value.bool false), [])
                else some (PV.sc (Value.bool false), [])
              else
                bif !inS a5 0 20 then
                  bif (fnS P false a0 a1 a2 a3 ((refDown a4 1).tmod 41) a5 a6).snd == 4 then
                    bif (fnS P true a0 a1 a2 a3 ((refDown a4 1).tmod 41) a5 a6).snd == 4 then
                      bif (fnS P false a0 a1 a2 a3 ((refDown a4 1).tmod 41) a5 a6).fst == 0 then
                        some (PV.sc (Value.bool ((fnS P true a0 a1 a2 a3 ((refDown a4 1).tmod 41) a5 a6).fst == 0)), [])
                      else some (PV.sc (Value.bool false), [])
                    else some (PV.sc (Value.bool false), [])
                  else some (PV.sc (Value.bool false), [])
                else
                  bif !inS a6 0 200 then
                    bif (fnS P false a0 a1 a2 a3 ((refDown a4 1).tmod 41) a5 a6).snd == 4 then
                      bif (fnS P true a0 a1 a2 a3 ((refDown a4 1).tmod 41) a5 a6).snd == 4 then
                        bif (fnS P false a0 a1 a2 a3 ((refDown a4 1).tmod 41) a5 a6).fst == 0 then
                          some
                            (PV.sc (Value.bool ((fnS P true a0 a1 a2 a3 ((refDown a4 1).tmod 41) a5 a6).fst == 0)), [])
                        else some (PV.sc (Value.bool false), [])
                      else some (PV.sc (Value.bool false), [])
                    else some (PV.sc (Value.bool false), [])
                  else
                    bif checkE a0 != 0 then
                      bif (fnS P false a0 a1 a2 a3 ((refDown a4 1).tmod 41) a5 a6).snd == checkE a0 then
                        bif (fnS P true a0 a1 a2 a3 ((refDown a4 1).tmod 41) a5 a6).snd == checkE a0 then
                          bif (fnS P false a0 a1 a2 a3 ((refDown a4 1).tmod 41) a5 a6).fst == 0 then
                            some
                              (PV.sc (Value.bool ((fnS P true a0 a1 a2 a3 ((refDown a4 1).tmod 41) a5 a6).fst == 0)),
                                [])
                          else some (PV.sc (Value.bool false), [])
                        else some (PV.sc (Value.bool false), [])
                      else some (PV.sc (Value.bool false), [])
                    else
                      guardB (preL a0 a1 a2 a3 ((refDown a4 1).tmod 41) 0)
                        (bif
                            toldS (fnS P false a0 a1 a2 a3 ((refDown a4 1).tmod 41) a5 a6).fst
                              (fnS P false a0 a1 a2 a3 ((refDown a4 1).tmod 41) a5 a6).snd
                              (scV P ((refDown a4 1).tmod 41) a5 a6 a0 a1 a2 a3
                                  (max a0.fst.snd.snd.fst a1.fst.snd.snd.fst) 0 (-1, -1, 8)).fst
                              (scV P ((refDown a4 1).tmod 41) a5 a6 a0 a1 a2 a3
                                    (max a0.fst.snd.snd.fst a1.fst.snd.snd.fst) 0 (-1, -1, 8)).snd.snd then
                          some
                            (PV.sc
                                (Value.bool
                                  (toldS (fnS P true a0 a1 a2 a3 ((refDown a4 1).tmod 41) a5 a6).fst
                                    (fnS P true a0 a1 a2 a3 ((refDown a4 1).tmod 41) a5 a6).snd
                                    (scV P ((refDown a4 1).tmod 41) a5 a6 a0 a1 a2 a3
                                          (max a0.fst.snd.snd.fst a1.fst.snd.snd.fst) 0 (-1, -1, 8)).snd.fst
                                    (scV P ((refDown a4 1).tmod 41) a5 a6 a0 a1 a2 a3
                                          (max a0.fst.snd.snd.fst a1.fst.snd.snd.fst) 0 (-1, -1, 8)).snd.snd)),
                              [])
                        else some (PV.sc (Value.bool false), []))
        else
          bif checkE a0 != 0 then
            bif (fnS P false a0 a1 a2 a3 ((refDown a4 1).tmod 41) a5 a6).snd == checkE a0 then
              bif (fnS P true a0 a1 a2 a3 ((refDown a4 1).tmod 41) a5 a6).snd == checkE a0 then
                bif (fnS P false a0 a1 a2 a3 ((refDown a4 1).tmod 41) a5 a6).fst == 0 then
                  some (PV.sc (Value.bool ((fnS P true a0 a1 a2 a3 ((refDown a4 1).tmod 41) a5 a6).fst == 0)), [])
                else some (PV.sc (Value.bool false), [])
              else some (PV.sc (Value.bool false), [])
            else some (PV.sc (Value.bool false), [])
          else
            guardB (preL a0 a1 a2 a3 ((refDown a4 1).tmod 41) 0)
              (bif
                  toldS (fnS P false a0 a1 a2 a3 ((refDown a4 1).tmod 41) a5 a6).fst
                    (fnS P false a0 a1 a2 a3 ((refDown a4 1).tmod 41) a5 a6).snd
                    (scV P ((refDown a4 1).tmod 41) a5 a6 a0 a1 a2 a3 (max a0.fst.snd.snd.fst a1.fst.snd.snd.fst) 0
                        (-1, -1, 8)).fst
                    (scV P ((refDown a4 1).tmod 41) a5 a6 a0 a1 a2 a3 (max a0.fst.snd.snd.fst a1.fst.snd.snd.fst) 0
                          (-1, -1, 8)).snd.snd then
                some
                  (PV.sc
                      (Value.bool
                        (toldS (fnS P true a0 a1 a2 a3 ((refDown a4 1).tmod 41) a5 a6).fst
                          (fnS P true a0 a1 a2 a3 ((refDown a4 1).tmod 41) a5 a6).snd
                          (scV P ((refDown a4 1).tmod 41) a5 a6 a0 a1 a2 a3 (max a0.fst.snd.snd.fst a1.fst.snd.snd.fst)
                                0 (-1, -1, 8)).snd.fst
                          (scV P ((refDown a4 1).tmod 41) a5 a6 a0 a1 a2 a3 (max a0.fst.snd.snd.fst a1.fst.snd.snd.fst)
                                0 (-1, -1, 8)).snd.snd)),
                    [])
              else some (PV.sc (Value.bool false), []))) := by kernel_rfl
theorem ab {a : FT} (h : checkE a = 0) : 0 ≤ R a ∧ R a ≤ 4000000 ∧ 0 ≤ H a ∧ H a ≤ 60000 := by
  obtain ⟨⟨a0, a1, a2, ⟨a3, a4⟩, ⟨a5, a6⟩, a7, a8, a9, a10, a11, a12⟩, a13, a14, ⟨a15, a16⟩, a17, a18, a19⟩ := a
  obtain ⟨hp, _⟩ := checked h
  exact ⟨hp.2.2.2.2.2.2.2.2.1, hp.2.2.2.2.2.2.2.2.2.1, hp.2.2.2.2.2.2.1, hp.2.2.2.2.2.2.2.1⟩
theorem sq_le {n m : Int} (h1 : -m ≤ n) (h2 : n ≤ m) : 0 ≤ n * n ∧ n * n ≤ m * m := by
  have h0 : n.natAbs ≤ m.natAbs := by omega
  have h3 : n.natAbs * n.natAbs ≤ m.natAbs * m.natAbs := Nat.mul_le_mul h0 h0
  have e1 : ((n.natAbs * n.natAbs : Nat) : Int) = n * n := Int.natAbs_mul_self
  have e2 : ((m.natAbs * m.natAbs : Nat) : Int) = m * m := Int.natAbs_mul_self
  omega
theorem near_W {s r q : Int} (h1 : 0 ≤ s) (h2 : s ≤ 1000000) (h3 : 0 ≤ r) (h4 : r ≤ 4000000) (h5 : 0 ≤ q) (h6 : q ≤ 4000000) :
    W (W (s - r) - q) = s - r - q ∧ W ((s - r - q) * (s - r - q)) = (s - r - q) * (s - r - q) ∧ W (W (s + r) + q) = s + r + q ∧ W ((s + r + q) * (s + r + q)) = (s + r + q) * (s + r + q) := by
  have k1 := sq_le (n := s - r - q) (m := 9000000) (by omega) (by omega)
  have k2 := sq_le (n := s + r + q) (m := 9000000) (by omega) (by omega)
  refine ⟨?_, W_id _ (by omega) (by omega), ?_, W_id _ (by omega) (by omega)⟩
  · rw [W_id (s - r) (by omega) (by omega), W_id _ (by omega) (by omega)]
  · rw [W_id (s + r) (by omega) (by omega), W_id _ (by omega) (by omega)]
variable {P : FT → Int → Int → FT × Int}
theorem p86 {a0 a1 : FT} (a2 a3 a4 : Int) {a5 a6 : Int} (h : okB a0 a1 a5 a6 = true) : l86L P a0 a1 a2 a3 a4 a5 a6 = some (.sc (.bool (sureB a0 a1 a5 a6 a2 a3)), []) := by
  obtain ⟨h1, h2, h3, h4, h5, h6⟩ := bp_true.1 h
  have k1 := ab h1; have k2 := ab h2
  obtain ⟨e1, e2, _⟩ := near_W h3 h4 k1.1 k1.2.1 k2.1 k2.2.1
  rw [l86]
  change cond (decide (W (W (a5 - R a0) - R a1) > 0)) (cond (decide (farS a0 a1 < W (W (W (a5 - R a0) - R a1) * W (W (a5 - R a0) - R a1)))) (some (PV.sc (.bool (decide (apS (H a0) (H a1) < W (W (a6 - a2) - a3)))), [])) _) _ = _
  rw [e1, e2]
  unfold sureB
  refine cond_split (fun h => ?_) (fun h => ?_)
  · rw [show decide (0 < a5 - R a0 - R a1) = true from h]
    refine cond_split (fun h => ?_) (fun h => ?_)
    · rw [h]; rfl
    · rw [h]; rfl
  · rw [show decide (0 < a5 - R a0 - R a1) = false from h]; rfl
theorem p87 {a0 a1 : FT} (a2 a3 a4 : Int) {a5 a6 : Int} (h : okB a0 a1 a5 a6 = true) : l87L P a0 a1 a2 a3 a4 a5 a6 = some (.sc (.bool (closeB a0 a1 a5 a6 a2 a3)), []) := by
  obtain ⟨h1, h2, h3, h4, h5, h6⟩ := bp_true.1 h
  have k1 := ab h1; have k2 := ab h2
  obtain ⟨_, _, e1, e2⟩ := near_W h3 h4 k1.1 k1.2.1 k2.1 k2.2.1
  rw [l87]
  change cond (decide (farS a0 a1 < W (W (W (a5 + R a0) + R a1) * W (W (a5 + R a0) + R a1)))) (some (PV.sc (.bool (decide (apS (H a0) (H a1) < W (W (a6 + a2) + a3)))), [])) _ = _
  rw [e1, e2]
  unfold closeB
  refine cond_split (fun h => ?_) (fun h => ?_)
  · rw [h]; rfl
  · rw [h]; rfl
theorem ap_eq {a b : Int} (h1 : 0 ≤ a) (h2 : a ≤ 60000) (h3 : 0 ≤ b) (h4 : b ≤ 60000) : apR a b = apS a b := by
  unfold apR apS
  rw [W_id (b - a) (by omega) (by omega), W_id (a - b) (by omega) (by omega)]
  refine cond_split (fun h => ?_) (fun h => ?_)
  · have := of_decide_eq_true h; omega
  · have := of_decide_eq_false h; omega
theorem p43 {a0 a1 : FT} {a2 a3 : Int} (a4 a5 : Int) (h : okB a0 a1 a2 a3 = true) : l43L P a0 a1 a2 a3 a4 a5 = some (.tup [.sc (.bool (closeB a0 a1 a2 a3 a4 a5)), .sc (.bool (sureB a0 a1 a2 a3 a4 a5))], []) := by
  obtain ⟨h1, h2, h3, h4, h5, h6⟩ := bp_true.1 h
  have k1 := ab h1; have k2 := ab h2
  obtain ⟨_, e1, _, e2⟩ := near_W h3 h4 k1.1 k1.2.1 k2.1 k2.2.1
  have w0 : W (R a0 + R a1) = R a0 + R a1 := W_id _ (by omega) (by omega)
  have w1 : W (a2 + (R a0 + R a1)) = a2 + R a0 + R a1 := by rw [W_id _ (by omega) (by omega)]; omega
  have w2 : W (a2 - (R a0 + R a1)) = a2 - R a0 - R a1 := by rw [W_id _ (by omega) (by omega)]; omega
  have g : decide (a2 > R a0 + R a1) = decide (0 < a2 - R a0 - R a1) := decide_eq_decide.mpr (by omega)
  rw [l43]
  change cond (decide (farS a0 a1 < W (W (a2 + W (R a0 + R a1)) * W (a2 + W (R a0 + R a1)))))
    (cond (decide (a2 > W (R a0 + R a1))) (cond (decide (farS a0 a1 < W (W (a2 - W (R a0 + R a1)) * W (a2 - W (R a0 + R a1))))) (some (PV.tup [PV.sc (.bool (decide (apR (H a0) (H a1) < W (W (a3 + a4) + a5)))), PV.sc (.bool (decide (apR (H a0) (H a1) < W (W (a3 - a4) - a5))))], []))
      (some (PV.tup [PV.sc (.bool (decide (apR (H a0) (H a1) < W (W (a3 + a4) + a5)))), _], []))) (some (PV.tup [PV.sc (.bool (decide (apR (H a0) (H a1) < W (W (a3 + a4) + a5)))), _], [])))
    (cond (decide (a2 > W (R a0 + R a1))) (cond (decide (farS a0 a1 < W (W (a2 - W (R a0 + R a1)) * W (a2 - W (R a0 + R a1))))) (some (PV.tup [_, PV.sc (.bool (decide (apR (H a0) (H a1) < W (W (a3 - a4) - a5))))], [])) _) _) = _
  rw [w0, w1, w2, e1, e2, g, ap_eq k1.2.2.1 k1.2.2.2 k2.2.2.1 k2.2.2.2]
  unfold closeB sureB
  generalize decide (farS a0 a1 < (a2 + R a0 + R a1) * (a2 + R a0 + R a1)) = b1
  generalize decide (0 < a2 - R a0 - R a1) = b2
  generalize decide (farS a0 a1 < (a2 - R a0 - R a1) * (a2 - R a0 - R a1)) = b3
  cases b1 <;> cases b2 <;> cases b3 <;> rfl
theorem p84 (a0 a1 : FT) (a2 a3 a4 a5 a6 : Int) : l84L P a0 a1 a2 a3 a4 a5 a6 = some (.sc (.int .i64 (chkS a0 a1 a2 a3 a4 a5 a6)), []) := by
  rw [l84]; unfold chkS
  refine cond_split (fun h => ?_) (fun h => ?_)
  · rw [show decide (checkE a0 = 0) = false from decide_eq_false (ne_of_bne h)]; rfl
  rw [show decide (checkE a0 = 0) = true from decide_eq_true (eq_of_bne h)]
  refine cond_split (fun h => ?_) (fun h => ?_)
  · rw [show decide (checkE a1 = 0) = false from decide_eq_false (ne_of_bne h)]; rfl
  rw [show decide (checkE a1 = 0) = true from decide_eq_true (eq_of_bne h)]
  repeat (refine cond_split (fun h => by rw [h]; rfl) (fun h => ?_); rw [h])
  rfl
theorem p85 (a0 a1 : FT) (a2 a3 a4 : Int) : l85L P a0 a1 a2 a3 a4 = some ((⟨true, kPr⟩ : Sh).pv (atS P a0 a1 a2 a3 a4), []) := by
  rw [l85]; unfold atS errB
  refine cond_split (fun h => ?_) (fun h => ?_)
  · rw [show decide ((P a0 a2 a3).2 = 0) = false from decide_eq_false (ne_of_bne h)]; rfl
  rw [show decide ((P a0 a2 a3).2 = 0) = true from decide_eq_true (eq_of_bne h)]
  refine cond_split (fun h => ?_) (fun h => ?_)
  · rw [show decide ((P a1 a2 a3).2 = 0) = false from decide_eq_false (ne_of_bne h)]; rfl
  rw [show decide ((P a1 a2 a3).2 = 0) = true from decide_eq_true (eq_of_bne h)]; rfl
theorem go_step {w : Bool} {sec acc cl : Int} {a b : FT} {s0 s1 fr k : Int} (h : k ≤ sec) : goV P w sec acc cl a b s0 s1 fr k = bif errB P a b (W (fr + k)) acc then some (0, 12) else bif tst P w a b s0 s1 (W (fr + k)) acc cl then some (k, 0) else goV P w sec acc cl a b s0 s1 fr (k + 1) := by
  unfold goV
  obtain ⟨d, hd⟩ : ∃ d : Nat, (sec + 1 - k).toNat = d + 1 := ⟨(sec - k).toNat, by omega⟩
  rw [hd, show (sec + 1 - (k + 1)).toNat = d by omega]
  rfl
theorem go_end {w : Bool} {sec acc cl : Int} {a b : FT} {s0 s1 fr k : Int} (h : ¬ k ≤ sec) : goV P w sec acc cl a b s0 s1 fr k = none := by
  unfold goV; rw [show (sec + 1 - k).toNat = 0 by omega]; rfl
theorem sc_step {sec acc cl : Int} {a b : FT} {s0 s1 fr k : Int} {x : Int × Int × Int} (h : k ≤ sec) : scV P sec acc cl a b s0 s1 fr k x = bif errB P a b (W (fr + k)) acc then (x.1, x.2.1, 12) else
    scV P sec acc cl a b s0 s1 fr (k + 1) (bif tst P false a b s0 s1 (W (fr + k)) acc cl && decide (x.1 < 0) then k else x.1, bif tst P true a b s0 s1 (W (fr + k)) acc cl && decide (x.2.1 < 0) then k else x.2.1, x.2.2) := by
  unfold scV
  obtain ⟨d, hd⟩ : ∃ d : Nat, (sec + 1 - k).toNat = d + 1 := ⟨(sec - k).toNat, by omega⟩
  rw [hd, show (sec + 1 - (k + 1)).toNat = d by omega]
  rfl
theorem sc_end {sec acc cl : Int} {a b : FT} {s0 s1 fr k : Int} {x : Int × Int × Int} (h : ¬ k ≤ sec) : scV P sec acc cl a b s0 s1 fr k x = x := by
  unfold scV; rw [show (sec + 1 - k).toNat = 0 by omega]; rfl
def BL (a b : FT) (x y : Int) : List Blk := [.fix false (scs (kFT.vals a)), .fix false (scs (kFT.vals b)), .fix false [.sc (.int .i64 x), .sc (.int .i64 y)]]
theorem err_ok (hP : ∀ a t c, (P a t c).2 = 0 → checkE (P a t c).1 = 0) {a b : FT} {t c s0 s1 : Int} (h : errB P a b t c = false) (h1 : 0 ≤ s0) (h2 : s0 ≤ 1000000) (h3 : 0 ≤ s1) (h4 : s1 ≤ 60000) : okB (P a t c).1 (P b t c).1 s0 s1 = true := by
  unfold errB at h
  simp only [Bool.not_eq_false', Bool.and_eq_true, decide_eq_true_eq] at h
  exact bp_mk ⟨hP _ _ _ h.1, hP _ _ _ h.2, h1, h2, h3, h4⟩
theorem p40l (hP : ∀ a t c, (P a t c).2 = 0 → checkE (P a t c).1 = 0) {a0 : Int} (a1 a2 : Int) {a3 a4 : FT} {a5 a6 : Int} (a7 : Int) {a8 : Int} (h : preL a3 a4 a5 a6 a0 a8 = true) :
    l40lL P a0 a1 a2 a3 a4 a5 a6 a7 a8 = cond (goV P true a0 a1 a2 a3 a4 a5 a6 a7 a8).isNone (some (.exit 0, [.undef, .undef], BL a3 a4 a5 a6))
      (some (.ret, [.sc (.int .i64 ((goV P true a0 a1 a2 a3 a4 a5 a6 a7 a8).getD (0, 0)).1), .sc (.int .i64 ((goV P true a0 a1 a2 a3 a4 a5 a6 a7 a8).getD (0, 0)).2)], BL a3 a4 a5 a6)) := by
  obtain ⟨h1, h2, h3, h4, h5, h6, h7, h8, h9⟩ := bp_true.1 h
  rw [l40l]
  refine cond_split (fun hk => ?_) (fun hk => ?_)
  · have hk := of_decide_eq_true hk
    rw [go_step hk]
    have hw : IntKind.i64.wrap (a8 + 1) = a8 + 1 := W_id _ (by omega) (by omega)
    cases hE : errB P a3 a4 (W (a7 + a8)) a1 with
    | true => rfl
    | false =>
      refine guard_split (err_ok hP hE h3 h4 h5 h6) ?_
      change cond (tst P true a3 a4 a5 a6 (W (a7 + a8)) a1 a2) _ _ = _
      cases tst P true a3 a4 a5 a6 (W (a7 + a8)) a1 a2 with
      | true => rfl
      | false =>
        refine guard_split ?_ (guard_split ?_ ?_)
        · rw [hw]; exact decide_eq_true (show (a0 + 1 - (a8 + 1)).toNat < (a0 + 1 - a8).toNat by omega)
        · rw [hw]; exact bp_mk ⟨h1, h2, h3, h4, h5, h6, by omega, by omega, h9⟩
        · rw [hw]; rfl
  · have hk := of_decide_eq_false hk
    rw [go_end hk]; rfl
theorem p42l (hP : ∀ a t c, (P a t c).2 = 0 → checkE (P a t c).1 = 0) {a0 : Int} (a1 a2 : Int) {a3 a4 : FT} {a5 a6 : Int} (a7 : Int) {a8 : Int} (h : preL a3 a4 a5 a6 a0 a8 = true) :
    l42lL P a0 a1 a2 a3 a4 a5 a6 a7 a8 = cond (goV P false a0 a1 a2 a3 a4 a5 a6 a7 a8).isNone (some (.exit 0, [.undef, .undef], BL a3 a4 a5 a6))
      (some (.ret, [.sc (.int .i64 ((goV P false a0 a1 a2 a3 a4 a5 a6 a7 a8).getD (0, 0)).1), .sc (.int .i64 ((goV P false a0 a1 a2 a3 a4 a5 a6 a7 a8).getD (0, 0)).2)], BL a3 a4 a5 a6)) := by
  obtain ⟨h1, h2, h3, h4, h5, h6, h7, h8, h9⟩ := bp_true.1 h
  rw [l42l]
  refine cond_split (fun hk => ?_) (fun hk => ?_)
  · have hk := of_decide_eq_true hk
    rw [go_step hk]
    have hw : IntKind.i64.wrap (a8 + 1) = a8 + 1 := W_id _ (by omega) (by omega)
    cases hE : errB P a3 a4 (W (a7 + a8)) a1 with
    | true => rfl
    | false =>
      refine guard_split (err_ok hP hE h3 h4 h5 h6) ?_
      change cond (tst P false a3 a4 a5 a6 (W (a7 + a8)) a1 a2) _ _ = _
      cases tst P false a3 a4 a5 a6 (W (a7 + a8)) a1 a2 with
      | true => rfl
      | false =>
        refine guard_split ?_ (guard_split ?_ ?_)
        · rw [hw]; exact decide_eq_true (show (a0 + 1 - (a8 + 1)).toNat < (a0 + 1 - a8).toNat by omega)
        · rw [hw]; exact bp_mk ⟨h1, h2, h3, h4, h5, h6, by omega, by omega, h9⟩
        · rw [hw]; rfl
  · have hk := of_decide_eq_false hk
    rw [go_end hk]; rfl
theorem chk_pre {a b : FT} {s0 s1 sec acc cl : Int} (h : chkS a b s0 s1 sec acc cl = 0) : preL a b s0 s1 sec 0 = true := by
  unfold chkS at h
  by_cases h1 : checkE a = 0
  · rw [decide_eq_true h1] at h
    by_cases h2 : checkE b = 0
    · rw [decide_eq_true h2] at h
      simp only [cond_true] at h
      cases hc : (decide (s0 < 0) || (decide (s0 > 1000000) || (decide (s1 < 0) || (decide (s1 > 60000) || (decide (sec < 0) || (decide (sec > 300) || (decide (acc < 0) || (decide (acc > 20) || (decide (cl < 0) || decide (cl > 200)))))))))) with
      | true => rw [hc] at h; exact absurd h (by decide)
      | false =>
        simp only [Bool.or_eq_false_iff, decide_eq_false_iff_not] at hc
        exact bp_mk ⟨h1, h2, by omega, by omega, by omega, by omega, by omega, by omega, by omega⟩
    · rw [decide_eq_false h2] at h; exact absurd h h2
  · rw [decide_eq_false h1] at h; exact absurd h h1
theorem p40 (a0 a1 : FT) (a2 a3 a4 a5 a6 : Int) : l40L P a0 a1 a2 a3 a4 a5 a6 = some (.tup [.sc (.int .i64 (fnS P true a0 a1 a2 a3 a4 a5 a6).1), .sc (.int .i64 (fnS P true a0 a1 a2 a3 a4 a5 a6).2)], []) := by
  rw [l40]; unfold fnS
  refine cond_split (fun h => ?_) (fun h => ?_)
  · rw [show decide (chkS a0 a1 a2 a3 a4 a5 a6 = 0) = false from decide_eq_false (ne_of_bne h)]; rfl
  have h := eq_of_bne h
  rw [show decide (chkS a0 a1 a2 a3 a4 a5 a6 = 0) = true from decide_eq_true h]
  refine guard_split (chk_pre h) ?_
  change cond (goV P true a4 a5 a6 a0 a1 a2 a3 (frS a0 a1) 0).isNone _ (some (PV.tup [PV.sc (Value.int IntKind.i64 ((goV P true a4 a5 a6 a0 a1 a2 a3 (frS a0 a1) 0).getD (0, 0)).1), PV.sc (Value.int IntKind.i64 ((goV P true a4 a5 a6 a0 a1 a2 a3 (frS a0 a1) 0).getD (0, 0)).2)], [])) = _
  cases goV P true a4 a5 a6 a0 a1 a2 a3 (frS a0 a1) 0 <;> rfl
theorem p42 (a0 a1 : FT) (a2 a3 a4 a5 a6 : Int) : l42L P a0 a1 a2 a3 a4 a5 a6 = some (.tup [.sc (.int .i64 (fnS P false a0 a1 a2 a3 a4 a5 a6).1), .sc (.int .i64 (fnS P false a0 a1 a2 a3 a4 a5 a6).2)], []) := by
  rw [l42]; unfold fnS
  refine cond_split (fun h => ?_) (fun h => ?_)
  · rw [show decide (chkS a0 a1 a2 a3 a4 a5 a6 = 0) = false from decide_eq_false (ne_of_bne h)]; rfl
  have h := eq_of_bne h
  rw [show decide (chkS a0 a1 a2 a3 a4 a5 a6 = 0) = true from decide_eq_true h]
  refine guard_split (chk_pre h) ?_
  change cond (goV P false a4 a5 a6 a0 a1 a2 a3 (frS a0 a1) 0).isNone _ (some (PV.tup [PV.sc (Value.int IntKind.i64 ((goV P false a4 a5 a6 a0 a1 a2 a3 (frS a0 a1) 0).getD (0, 0)).1), PV.sc (Value.int IntKind.i64 ((goV P false a4 a5 a6 a0 a1 a2 a3 (frS a0 a1) 0).getD (0, 0)).2)], [])) = _
  cases goV P false a4 a5 a6 a0 a1 a2 a3 (frS a0 a1) 0 <;> rfl
theorem p44 (a0 a1 a2 a3 : Int) : l44L a0 a1 a2 a3 = some (.sc (.bool (toldS a0 a1 a2 a3)), [.fix false [.sc (.int .i64 a3)]]) := by
  rw [l44]; unfold toldS
  refine cond_split (fun h => ?_) (fun h => ?_)
  · rw [h]
    refine cond_split (fun h => ?_) (fun h => ?_)
    · rw [show decide (a1 = a3) = true from h]; rfl
    · rw [show decide (a1 = a3) = false from h]; rfl
  · rw [h]
    refine cond_split (fun h => ?_) (fun h => ?_)
    · rw [show decide (a1 = 0) = true from h]; rfl
    · rw [show decide (a1 = 0) = false from h]; rfl
theorem p8l (hP : ∀ a t c, (P a t c).2 = 0 → checkE (P a t c).1 = 0) {a0 : Int} (a1 a2 : Int) {a3 a4 : FT} {a5 a6 : Int} (a7 a8 a9 a10 : Int) {a11 : Int} (h : preL a3 a4 a5 a6 a0 a11 = true) :
    l8lL P a0 a1 a2 a3 a4 a5 a6 a7 a8 a9 a10 a11 = some (.exit 0, [.sc (.int .i64 (scV P a0 a1 a2 a3 a4 a5 a6 a10 a11 (a7, a8, a9)).1), .sc (.int .i64 (scV P a0 a1 a2 a3 a4 a5 a6 a10 a11 (a7, a8, a9)).2.1)], BL a3 a4 a5 a6 ++ [.fix true [.sc (.int .i64 (scV P a0 a1 a2 a3 a4 a5 a6 a10 a11 (a7, a8, a9)).2.2)]]) := by
  obtain ⟨h1, h2, h3, h4, h5, h6, h7, h8, h9⟩ := bp_true.1 h
  rw [l8l]
  refine cond_split (fun hk => ?_) (fun hk => ?_)
  · have hk := of_decide_eq_true hk
    have hw : IntKind.i64.wrap (a11 + 1) = a11 + 1 := W_id _ (by omega) (by omega)
    have hmu : ∀ x y z : Int, decide (mu8 (a0, a1, a2, a3, a4, (a5, a6), x, y, (z, ()), a10, a11 + 1, ()) < mu8 (a0, a1, a2, a3, a4, (a5, a6), a7, a8, (a9, ()), a10, a11, ())) = true := fun x y z => decide_eq_true (show (a0 + 1 - (a11 + 1)).toNat < (a0 + 1 - a11).toNat by omega)
    have hpre : preL a3 a4 a5 a6 a0 (a11 + 1) = true := bp_mk ⟨h1, h2, h3, h4, h5, h6, by omega, by omega, h9⟩
    rw [sc_step hk, hw]
    refine cond_split (fun hb => ?_) (fun hb => ?_)
    · rw [show errB P a3 a4 (W (a10 + a11)) a1 = true by unfold errB; rw [show decide ((P a3 (W (a10 + a11)) a1).2 = 0) = false from decide_eq_false (ne_of_bne hb)]; rfl]; rfl
    refine cond_split (fun hc => ?_) (fun hc => ?_)
    · rw [show errB P a3 a4 (W (a10 + a11)) a1 = true by unfold errB; rw [show decide ((P a4 (W (a10 + a11)) a1).2 = 0) = false from decide_eq_false (ne_of_bne hc), Bool.and_false]; rfl]; rfl
    have hE : errB P a3 a4 (W (a10 + a11)) a1 = false := by unfold errB; rw [decide_eq_true (eq_of_bne hb), decide_eq_true (eq_of_bne hc)]; rfl
    rw [hE]
    refine guard_split (err_ok hP hE h3 h4 h5 h6) ?_
    change cond (tst P false a3 a4 a5 a6 (W (a10 + a11)) a1 a2) (cond _ (cond (tst P true a3 a4 a5 a6 (W (a10 + a11)) a1 a2) _ _) (cond (tst P true a3 a4 a5 a6 (W (a10 + a11)) a1 a2) _ _)) (cond (tst P true a3 a4 a5 a6 (W (a10 + a11)) a1 a2) _ _) = _
    generalize tst P false a3 a4 a5 a6 (W (a10 + a11)) a1 a2 = t1
    generalize tst P true a3 a4 a5 a6 (W (a10 + a11)) a1 a2 = t2
    generalize hd1 : decide (a7 < 0) = d1
    generalize hd2 : decide (a8 < 0) = d2
    simp only [hd1, hd2]
    cases t1 <;> cases d1 <;> cases t2 <;> cases d2 <;> exact guard_split (hmu _ _ _) (guard_split hpre rfl)
  · have hk := of_decide_eq_false hk
    rw [sc_end hk]; rfl
end Go.Proofs.YtpndjpjpmcehbaaTk
