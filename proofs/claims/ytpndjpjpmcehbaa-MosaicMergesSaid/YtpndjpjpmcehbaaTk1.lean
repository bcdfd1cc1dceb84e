/- What is proved: the functions that the laws on tracks reach answer what their plain functions say. No condition. -/
import Derived.Test.YtpndjpjpmcehbaaTk0
namespace Go.Proofs.YtpndjpjpmcehbaaTk
open Go Go.Proofs Go.Proofs.YtpndjpjpmcehbaaEv
set_option maxRecDepth 100000
set_option linter.unusedSimpArgs false
set_option linter.unusedVariables false
theorem mixed : Try.prog.follows .mixedOrders = true := by kernel_rfl
noncomputable abbrev p28L (a0 : Int) (a1 : Int) (a2 : Int) := evFuncV Try.prog T0 noCuts Try.f28 (killA 0 [sI, sI, sI]) (showA 0 [sI, sI, sI] (a0, (a1, (a2, ())))).1 (showA 0 [sI, sI, sI] (a0, (a1, (a2, ())))).2
theorem p28 (a0 : Int) (a1 : Int) (a2 : Int) : p28L a0 a1 a2 = (bif decide (a0 ≥ a1) then some (PV.sc (Value.bool (decide (a0 ≤ a2))), []) else some (PV.sc (Value.bool false), [])) := by kernel_rfl
noncomputable abbrev p115L (a0 : Int) (a1 : Int) := evFuncV Try.prog T0 noCuts Try.f115 (killA 0 [sP]) (showA 0 [sP] ((a0, a1), ())).1 (showA 0 [sP] ((a0, a1), ())).2
theorem p115 (a0 : Int) (a1 : Int) : p115L a0 a1 = (bif decide (a0 ≥ -1000000) then
  bif decide (a0 ≤ 1000000) then
    bif decide (a1 ≥ -1000000) then some (PV.sc (Value.bool (decide (a1 ≤ 1000000))), [])
    else some (PV.sc (Value.bool false), [])
  else some (PV.sc (Value.bool false), [])
else some (PV.sc (Value.bool false), [])) := by kernel_rfl
noncomputable abbrev p77L (a0 : Int) := evFuncV Try.prog T0 noCuts Try.f77 (killA 0 [sI]) (showA 0 [sI] (a0, ())).1 (showA 0 [sI] (a0, ())).2
theorem p77 (a0 : Int) : p77L a0 = (bif decide (a0 < -12800) then some (PV.sc (Value.bool true), [])
else some (PV.sc (Value.bool (decide (a0 > 12800))), [])) := by kernel_rfl
noncomputable abbrev p26L (a0 : Int) (a1 : Int) := evFuncV Try.prog T0 noCuts Try.f26 (killA 0 [sI, sI]) (showA 0 [sI, sI] (a0, (a1, ()))).1 (showA 0 [sI, sI] (a0, (a1, ()))).2
theorem p26 (a0 : Int) (a1 : Int) : p26L a0 a1 = (guardB (!decide (a1 = 0))
  (bif decide (IntKind.i64.wrap (IntKind.i64.wrap (a0.tdiv a1) * a1) > a0) then
    some (PV.sc (Value.int IntKind.i64 (IntKind.i64.wrap (IntKind.i64.wrap (a0.tdiv a1) - 1))), [])
  else some (PV.sc (Value.int IntKind.i64 (IntKind.i64.wrap (a0.tdiv a1))), []))) := by kernel_rfl
noncomputable abbrev p70L (a0 : Int) (a1 : Int) := evFuncV Try.prog T0 noCuts Try.f70 (killA 0 [sI, sI]) (showA 0 [sI, sI] (a0, (a1, ()))).1 (showA 0 [sI, sI] (a0, (a1, ()))).2
theorem p70 (a0 : Int) (a1 : Int) : p70L a0 a1 = (bif a1 == 0 then some (PV.tup [PV.sc (Value.int IntKind.i64 0), PV.sc (Value.int IntKind.i64 10)], [])
else
  bif a0 == -9223372036854775808 then
    bif a1 == -1 then some (PV.tup [PV.sc (Value.int IntKind.i64 0), PV.sc (Value.int IntKind.i64 2)], [])
    else
      guardB (!decide (a1 = 0))
        (guardB (!decide (a1 = 0))
          (bif a0.tmod a1 != 0 then
            bif !decide (a0 < 0) == decide (a1 < 0) then
              some
                (PV.tup
                    [PV.sc (Value.int IntKind.i64 (IntKind.i64.wrap (IntKind.i64.wrap (a0.tdiv a1) - 1))),
                      PV.sc (Value.int IntKind.i64 0)],
                  [])
            else
              some
                (PV.tup
                    [PV.sc (Value.int IntKind.i64 (IntKind.i64.wrap (a0.tdiv a1))), PV.sc (Value.int IntKind.i64 0)],
                  [])
          else
            some
              (PV.tup [PV.sc (Value.int IntKind.i64 (IntKind.i64.wrap (a0.tdiv a1))), PV.sc (Value.int IntKind.i64 0)],
                [])))
  else
    guardB (!decide (a1 = 0))
      (guardB (!decide (a1 = 0))
        (bif a0.tmod a1 != 0 then
          bif !decide (a0 < 0) == decide (a1 < 0) then
            some
              (PV.tup
                  [PV.sc (Value.int IntKind.i64 (IntKind.i64.wrap (IntKind.i64.wrap (a0.tdiv a1) - 1))),
                    PV.sc (Value.int IntKind.i64 0)],
                [])
          else
            some
              (PV.tup [PV.sc (Value.int IntKind.i64 (IntKind.i64.wrap (a0.tdiv a1))), PV.sc (Value.int IntKind.i64 0)],
                [])
        else
          some
            (PV.tup [PV.sc (Value.int IntKind.i64 (IntKind.i64.wrap (a0.tdiv a1))), PV.sc (Value.int IntKind.i64 0)],
              [])))) := by kernel_rfl
noncomputable abbrev p73L (a0 : Int) (a1 : Int) (a2 : Int) := evFuncV Try.prog T0 noCuts Try.f73 (killA 0 [sI, sI, sI]) (showA 0 [sI, sI, sI] (a0, (a1, (a2, ())))).1 (showA 0 [sI, sI, sI] (a0, (a1, (a2, ())))).2
theorem p73 (a0 : Int) (a1 : Int) (a2 : Int) : p73L a0 a1 a2 = (some (PV.sc (Value.int IntKind.i64 (max a1 (min a0 a2))), [])) := by kernel_rfl
noncomputable abbrev p75L (a0 : Int) (a1 : Int) (a2 : Int) := evFuncV Try.prog T0 noCuts Try.f75 (killA 0 [sI, sI, sI]) (showA 0 [sI, sI, sI] (a0, (a1, (a2, ())))).1 (showA 0 [sI, sI, sI] (a0, (a1, (a2, ())))).2
theorem p75 (a0 : Int) (a1 : Int) (a2 : Int) : p75L a0 a1 a2 = (bif decide (a0 < a1) then some (PV.sc (Value.int IntKind.i64 a1), [])
else
  bif decide (a0 > a2) then some (PV.sc (Value.int IntKind.i64 a2), []) else some (PV.sc (Value.int IntKind.i64 a0), [])) := by kernel_rfl
noncomputable abbrev p41L := evFuncV Try.prog T0 noCuts Try.f41 (killA 0 []) (showA 0 [] ()).1 (showA 0 [] ()).2
theorem p41 : p41L = (some
  (PV.agg
      [PV.sc (Value.int IntKind.i64 0), PV.sc (Value.int IntKind.i64 0), PV.sc (Value.int IntKind.i64 0),
        PV.sc (Value.int IntKind.i64 0), PV.sc (Value.int IntKind.i64 0), PV.sc (Value.int IntKind.i64 0),
        PV.sc (Value.int IntKind.i64 0), PV.sc (Value.int IntKind.i64 0), PV.sc (Value.int IntKind.i64 0),
        PV.sc (Value.int IntKind.i64 0), PV.sc (Value.int IntKind.i64 0), PV.sc (Value.int IntKind.i64 0),
        PV.sc (Value.int IntKind.i64 0), PV.sc (Value.int IntKind.i64 0), PV.sc (Value.int IntKind.i64 0),
        PV.sc (Value.int IntKind.i64 0), PV.sc (Value.int IntKind.i64 0), PV.sc (Value.int IntKind.i64 0),
        PV.sc (Value.int IntKind.i64 0), PV.sc (Value.int IntKind.i64 0)],
    [])) := by kernel_rfl
noncomputable abbrev p19L (a0 : Int) (a1 : Int) := evFuncV Try.prog T1 noCuts Try.f19 (killA 0 [sP]) (showA 0 [sP] ((a0, a1), ())).1 (showA 0 [sP] ((a0, a1), ())).2
theorem p19 (a0 : Int) (a1 : Int) : p19L a0 a1 = (bif inS a0 (-1000000) 1000000 then some (PV.sc (Value.bool (inS a1 (-1000000) 1000000)), [])
else some (PV.sc (Value.bool false), [])) := by kernel_rfl
noncomputable abbrev p78L (a0 : Int) (a1 : Int) (a2 : Int) (a3 : Int) (a4 : Int) (a5 : Int) := evFuncV Try.prog T1 noCuts Try.f78 (killA 0 [sSpot]) (showA 0 [sSpot] ((a0, ((a1, a2), (a3, (a4, a5)))), ())).1 (showA 0 [sSpot] ((a0, ((a1, a2), (a3, (a4, a5)))), ())).2
theorem p78 (a0 : Int) (a1 : Int) (a2 : Int) (a3 : Int) (a4 : Int) (a5 : Int) : p78L a0 a1 a2 a3 a4 a5 = (bif decide (a0 < 0) then some (PV.sc (Value.int IntKind.i64 4), [])
else
  bif decide (a0 > 200000) then some (PV.sc (Value.int IntKind.i64 4), [])
  else
    bif !placedS a1 a2 then some (PV.sc (Value.int IntKind.i64 4), [])
    else
      bif decide (a3 < 0) then some (PV.sc (Value.int IntKind.i64 4), [])
      else
        bif decide (a3 > 60000) then some (PV.sc (Value.int IntKind.i64 4), [])
        else
          bif decide (a4 < -1) then some (PV.sc (Value.int IntKind.i64 4), [])
          else
            bif decide (a4 > 4095) then some (PV.sc (Value.int IntKind.i64 4), [])
            else
              bif decide (a5 < 0) then some (PV.sc (Value.int IntKind.i64 4), [])
              else
                bif decide (a5 > 1000000) then some (PV.sc (Value.int IntKind.i64 4), [])
                else some (PV.sc (Value.int IntKind.i64 0), [])) := by kernel_rfl
noncomputable abbrev p27L (a0 : Int) (a1 : Int) := evFuncV Try.prog T1 noCuts Try.f27 (killA 0 [sI, sI]) (showA 0 [sI, sI] (a0, (a1, ()))).1 (showA 0 [sI, sI] (a0, (a1, ()))).2
theorem p27 (a0 : Int) (a1 : Int) : p27L a0 a1 = (guardB (nz a1)
  (some (PV.sc (Value.int IntKind.i64 (IntKind.i64.wrap (0 - refDown (IntKind.i64.wrap (0 - a0)) a1))), []))) := by kernel_rfl
noncomputable abbrev p71L (a0 : Int) (a1 : Int) := evFuncV Try.prog T1 noCuts Try.f71 (killA 0 [sI, sI]) (showA 0 [sI, sI] (a0, (a1, ()))).1 (showA 0 [sI, sI] (a0, (a1, ()))).2
theorem p71 (a0 : Int) (a1 : Int) : p71L a0 a1 = (guardB (nz a1)
  (bif (divDown a0 a1).snd == 0 then
    guardB (!decide (a1 = 0))
      (bif a0.tmod a1 != 0 then
        some
          (PV.tup
              [PV.sc (Value.int IntKind.i64 (IntKind.i64.wrap ((divDown a0 a1).fst + 1))),
                PV.sc (Value.int IntKind.i64 (divDown a0 a1).snd)],
            [])
      else
        some
          (PV.tup
              [PV.sc (Value.int IntKind.i64 (divDown a0 a1).fst), PV.sc (Value.int IntKind.i64 (divDown a0 a1).snd)],
            []))
  else
    some
      (PV.tup [PV.sc (Value.int IntKind.i64 (divDown a0 a1).fst), PV.sc (Value.int IntKind.i64 (divDown a0 a1).snd)],
        []))) := by kernel_rfl
noncomputable abbrev p72L (a0 : Int) (a1 : Int) := evFuncV Try.prog T1 noCuts Try.f72 (killA 0 [sI, sI]) (showA 0 [sI, sI] (a0, (a1, ()))).1 (showA 0 [sI, sI] (a0, (a1, ()))).2
theorem p72 (a0 : Int) (a1 : Int) : p72L a0 a1 = (guardB (nz a1) (some (PV.sc (Value.int IntKind.i64 (divDown a0 a1).fst), []))) := by kernel_rfl
noncomputable abbrev p66L (a0 : Int) (a1 : Int) (a2 : Int) (a3 : Int) (a4 : Int) (a5 : Int) := evFuncV Try.prog T2 noCuts Try.f66 (killA 0 [sSpot]) (showA 0 [sSpot] ((a0, ((a1, a2), (a3, (a4, a5)))), ())).1 (showA 0 [sSpot] ((a0, ((a1, a2), (a3, (a4, a5)))), ())).2
theorem p66 (a0 : Int) (a1 : Int) (a2 : Int) (a3 : Int) (a4 : Int) (a5 : Int) : p66L a0 a1 a2 a3 a4 a5 = (bif inS a0 0 200000 then
  bif placedS a1 a2 then
    bif inS a3 0 60000 then
      bif inS a4 (-1) 4095 then
        bif inS a5 0 1000000 then some (PV.sc (Value.int IntKind.i64 0), [])
        else some (PV.sc (Value.int IntKind.i64 4), [])
      else some (PV.sc (Value.int IntKind.i64 4), [])
    else some (PV.sc (Value.int IntKind.i64 4), [])
  else some (PV.sc (Value.int IntKind.i64 4), [])
else some (PV.sc (Value.int IntKind.i64 4), [])) := by kernel_rfl
noncomputable abbrev p47L (a0 : Int) (a1 : Int) (a2 : Int) (a3 : Int) (a4 : Int) (a5 : Int) (a6 : Int) (a7 : Int) (a8 : Int) (a9 : Int) (a10 : Int) (a11 : Int) (a12 : Int) := evFuncV Try.prog T2 noCuts Try.f47 (killA 0 [sTrack]) (showA 0 [sTrack] ((a0, (a1, (a2, ((a3, a4), ((a5, a6), (a7, (a8, (a9, (a10, (a11, a12)))))))))), ())).1 (showA 0 [sTrack] ((a0, (a1, (a2, ((a3, a4), ((a5, a6), (a7, (a8, (a9, (a10, (a11, a12)))))))))), ())).2
theorem p47 (a0 : Int) (a1 : Int) (a2 : Int) (a3 : Int) (a4 : Int) (a5 : Int) (a6 : Int) (a7 : Int) (a8 : Int) (a9 : Int) (a10 : Int) (a11 : Int) (a12 : Int) : p47L a0 a1 a2 a3 a4 a5 a6 a7 a8 a9 a10 a11 a12 = (bif inS a2 0 200000 then
  bif placedS a3 a4 then
    bif inS a7 0 60000 then
      bif inS a9 0 4000000 then
        bif inS a10 (-1) 4095 then some (PV.sc (Value.int IntKind.i64 0), [])
        else some (PV.sc (Value.int IntKind.i64 4), [])
      else some (PV.sc (Value.int IntKind.i64 4), [])
    else some (PV.sc (Value.int IntKind.i64 4), [])
  else some (PV.sc (Value.int IntKind.i64 4), [])
else some (PV.sc (Value.int IntKind.i64 4), [])) := by kernel_rfl
noncomputable abbrev p32L (a0 : Int) (a1 : Int) (a2 : Int) (a3 : Int) (a4 : Int) (a5 : Int) (a6 : Int) (a7 : Int) (a8 : Int) (a9 : Int) (a10 : Int) (a11 : Int) (a12 : Int) (a13 : Int) (a14 : Int) (a15 : Int) (a16 : Int) (a17 : Int) (a18 : Int) (a19 : Int) := evFuncV Try.prog T2 noCuts Try.f32 (killA 0 [sFT]) (showA 0 [sFT] (((a0, (a1, (a2, ((a3, a4), ((a5, a6), (a7, (a8, (a9, (a10, (a11, a12)))))))))), (a13, (a14, ((a15, a16), (a17, (a18, a19)))))), ())).1 (showA 0 [sFT] (((a0, (a1, (a2, ((a3, a4), ((a5, a6), (a7, (a8, (a9, (a10, (a11, a12)))))))))), (a13, (a14, ((a15, a16), (a17, (a18, a19)))))), ())).2
theorem p32 (a0 : Int) (a1 : Int) (a2 : Int) (a3 : Int) (a4 : Int) (a5 : Int) (a6 : Int) (a7 : Int) (a8 : Int) (a9 : Int) (a10 : Int) (a11 : Int) (a12 : Int) (a13 : Int) (a14 : Int) (a15 : Int) (a16 : Int) (a17 : Int) (a18 : Int) (a19 : Int) : p32L a0 a1 a2 a3 a4 a5 a6 a7 a8 a9 a10 a11 a12 a13 a14 a15 a16 a17 a18 a19 = (bif decide (a2 < 0) then some (PV.sc (Value.int IntKind.i64 4), [])
else
  bif decide (a2 > 200000) then some (PV.sc (Value.int IntKind.i64 4), [])
  else
    bif decide (a3 < -1000000) then some (PV.sc (Value.int IntKind.i64 4), [])
    else
      bif decide (a3 > 1000000) then some (PV.sc (Value.int IntKind.i64 4), [])
      else
        bif decide (a4 < -1000000) then some (PV.sc (Value.int IntKind.i64 4), [])
        else
          bif decide (a4 > 1000000) then some (PV.sc (Value.int IntKind.i64 4), [])
          else
            bif c1S a5 then some (PV.sc (Value.int IntKind.i64 4), [])
            else
              bif c1S a6 then some (PV.sc (Value.int IntKind.i64 4), [])
              else
                bif decide (a7 < 0) then some (PV.sc (Value.int IntKind.i64 4), [])
                else
                  bif decide (a7 > 60000) then some (PV.sc (Value.int IntKind.i64 4), [])
                  else
                    bif decide (a8 < -3200) then some (PV.sc (Value.int IntKind.i64 4), [])
                    else
                      bif decide (a8 > 3200) then some (PV.sc (Value.int IntKind.i64 4), [])
                      else
                        bif decide (a9 < 0) then some (PV.sc (Value.int IntKind.i64 4), [])
                        else
                          bif decide (a9 > 4000000) then some (PV.sc (Value.int IntKind.i64 4), [])
                          else
                            bif decide (a10 < -1) then some (PV.sc (Value.int IntKind.i64 4), [])
                            else
                              bif decide (a10 > 4095) then some (PV.sc (Value.int IntKind.i64 4), [])
                              else
                                bif decide (a13 < 0) then some (PV.sc (Value.int IntKind.i64 4), [])
                                else
                                  bif decide (a13 > 409600) then some (PV.sc (Value.int IntKind.i64 4), [])
                                  else
                                    bif decide (a0 < 0) then some (PV.sc (Value.int IntKind.i64 4), [])
                                    else
                                      bif decide (a11 < 0) then some (PV.sc (Value.int IntKind.i64 4), [])
                                      else
                                        bif decide (a12 < 0) then some (PV.sc (Value.int IntKind.i64 4), [])
                                        else
                                          bif decide (a1 < 0) then some (PV.sc (Value.int IntKind.i64 1), [])
                                          else
                                            bif decide (a1 > 2) then some (PV.sc (Value.int IntKind.i64 1), [])
                                            else
                                              bif spotE a14 a15 a16 a17 a18 a19 != 0 then
                                                some (PV.sc (Value.int IntKind.i64 (spotE a14 a15 a16 a17 a18 a19)), [])
                                              else
                                                bif decide (a14 > a2) then some (PV.sc (Value.int IntKind.i64 12), [])
                                                else some (PV.sc (Value.int IntKind.i64 0), [])) := by kernel_rfl
noncomputable abbrev p74L (a0 : Int) (a1 : Int) := evFuncV Try.prog T2 noCuts Try.f74 (killA 0 [sI, sI]) (showA 0 [sI, sI] (a0, (a1, ()))).1 (showA 0 [sI, sI] (a0, (a1, ()))).2
theorem p74 (a0 : Int) (a1 : Int) : p74L a0 a1 = (guardB (nz a1)
  (some
    (PV.sc
        (Value.int IntKind.i64
          (if (divDown a0 a1).snd = 0 ∧ a0.tmod a1 ≠ 0 then W ((divDown a0 a1).fst + 1) else (divDown a0 a1).fst)),
      []))) := by kernel_rfl
noncomputable abbrev p76L (a0 : Int) (a1 : Int) (a2 : Int) := evFuncV Try.prog T2 noCuts Try.f76 (killA 0 [sI, sI, sI]) (showA 0 [sI, sI, sI] (a0, (a1, (a2, ())))).1 (showA 0 [sI, sI, sI] (a0, (a1, (a2, ())))).2
theorem p76 (a0 : Int) (a1 : Int) (a2 : Int) : p76L a0 a1 a2 = (bif a2 == 0 then some (PV.sc (Value.int IntKind.i64 0), [])
else
  some
    (PV.sc
        (Value.int IntKind.i64
          (IntKind.i64.wrap
            (IntKind.i64.wrap
                (refUp (IntKind.i64.wrap (a0 * a2)) 16 + refUp (IntKind.i64.wrap (IntKind.i64.wrap (a1 * a2) * a2)) 2) +
              2))),
      [])) := by kernel_rfl
noncomputable abbrev p33L (a0 : Int) (a1 : Int) (a2 : Int) (a3 : Int) (a4 : Int) (a5 : Int) (a6 : Int) (a7 : Int) (a8 : Int) (a9 : Int) (a10 : Int) (a11 : Int) (a12 : Int) (a13 : Int) (a14 : Int) (a15 : Int) (a16 : Int) (a17 : Int) (a18 : Int) (a19 : Int) := evFuncV Try.prog T3 noCuts Try.f33 (killA 0 [sFT]) (showA 0 [sFT] (((a0, (a1, (a2, ((a3, a4), ((a5, a6), (a7, (a8, (a9, (a10, (a11, a12)))))))))), (a13, (a14, ((a15, a16), (a17, (a18, a19)))))), ())).1 (showA 0 [sFT] (((a0, (a1, (a2, ((a3, a4), ((a5, a6), (a7, (a8, (a9, (a10, (a11, a12)))))))))), (a13, (a14, ((a15, a16), (a17, (a18, a19)))))), ())).2
theorem p33 (a0 : Int) (a1 : Int) (a2 : Int) (a3 : Int) (a4 : Int) (a5 : Int) (a6 : Int) (a7 : Int) (a8 : Int) (a9 : Int) (a10 : Int) (a11 : Int) (a12 : Int) (a13 : Int) (a14 : Int) (a15 : Int) (a16 : Int) (a17 : Int) (a18 : Int) (a19 : Int) : p33L a0 a1 a2 a3 a4 a5 a6 a7 a8 a9 a10 a11 a12 a13 a14 a15 a16 a17 a18 a19 = (bif partE a2 a3 a4 a7 a9 a10 != 0 then some (PV.sc (Value.int IntKind.i64 (partE a2 a3 a4 a7 a9 a10)), [])
else
  bif !inS a5 (-12800) 12800 then some (PV.sc (Value.int IntKind.i64 4), [])
  else
    bif !inS a6 (-12800) 12800 then some (PV.sc (Value.int IntKind.i64 4), [])
    else
      bif !inS a8 (-3200) 3200 then some (PV.sc (Value.int IntKind.i64 4), [])
      else
        bif !inS a13 0 409600 then some (PV.sc (Value.int IntKind.i64 4), [])
        else
          bif decide (a0 < 0) then some (PV.sc (Value.int IntKind.i64 4), [])
          else
            bif decide (a11 < 0) then some (PV.sc (Value.int IntKind.i64 4), [])
            else
              bif decide (a12 < 0) then some (PV.sc (Value.int IntKind.i64 4), [])
              else
                bif !inS a1 0 2 then some (PV.sc (Value.int IntKind.i64 1), [])
                else
                  bif spotE a14 a15 a16 a17 a18 a19 != 0 then
                    some (PV.sc (Value.int IntKind.i64 (spotE a14 a15 a16 a17 a18 a19)), [])
                  else
                    bif decide (a14 > a2) then some (PV.sc (Value.int IntKind.i64 12), [])
                    else some (PV.sc (Value.int IntKind.i64 0), [])) := by kernel_rfl
noncomputable abbrev p30L (a0 : Int) (a1 : Int) (a2 : Int) (a3 : Int) (a4 : Int) (a5 : Int) (a6 : Int) (a7 : Int) (a8 : Int) (a9 : Int) (a10 : Int) (a11 : Int) (a12 : Int) (a13 : Int) (a14 : Int) (a15 : Int) (a16 : Int) (a17 : Int) (a18 : Int) (a19 : Int) (a20 : Int) (a21 : Int) := evFuncV Try.prog T3 noCuts Try.f30 (killA 0 [sFT, sI, sI]) (showA 0 [sFT, sI, sI] (((a0, (a1, (a2, ((a3, a4), ((a5, a6), (a7, (a8, (a9, (a10, (a11, a12)))))))))), (a13, (a14, ((a15, a16), (a17, (a18, a19)))))), (a20, (a21, ())))).1 (showA 0 [sFT, sI, sI] (((a0, (a1, (a2, ((a3, a4), ((a5, a6), (a7, (a8, (a9, (a10, (a11, a12)))))))))), (a13, (a14, ((a15, a16), (a17, (a18, a19)))))), (a20, (a21, ())))).2
theorem p30 (a0 : Int) (a1 : Int) (a2 : Int) (a3 : Int) (a4 : Int) (a5 : Int) (a6 : Int) (a7 : Int) (a8 : Int) (a9 : Int) (a10 : Int) (a11 : Int) (a12 : Int) (a13 : Int) (a14 : Int) (a15 : Int) (a16 : Int) (a17 : Int) (a18 : Int) (a19 : Int) (a20 : Int) (a21 : Int) : p30L a0 a1 a2 a3 a4 a5 a6 a7 a8 a9 a10 a11 a12 a13 a14 a15 a16 a17 a18 a19 a20 a21 = (bif checkE ((a0, a1, a2, (a3, a4), (a5, a6), a7, a8, a9, a10, a11, a12), a13, a14, (a15, a16), a17, a18, a19) != 0 then
  some
    (PV.tup
        [PV.agg
            [PV.sc (Value.int IntKind.i64 0), PV.sc (Value.int IntKind.i64 0), PV.sc (Value.int IntKind.i64 0),
              PV.sc (Value.int IntKind.i64 0), PV.sc (Value.int IntKind.i64 0), PV.sc (Value.int IntKind.i64 0),
              PV.sc (Value.int IntKind.i64 0), PV.sc (Value.int IntKind.i64 0), PV.sc (Value.int IntKind.i64 0),
              PV.sc (Value.int IntKind.i64 0), PV.sc (Value.int IntKind.i64 0), PV.sc (Value.int IntKind.i64 0),
              PV.sc (Value.int IntKind.i64 0), PV.sc (Value.int IntKind.i64 0), PV.sc (Value.int IntKind.i64 0),
              PV.sc (Value.int IntKind.i64 0), PV.sc (Value.int IntKind.i64 0), PV.sc (Value.int IntKind.i64 0),
              PV.sc (Value.int IntKind.i64 0), PV.sc (Value.int IntKind.i64 0)],
          PV.sc
            (Value.int IntKind.i64
              (checkE
                ((a0, a1, a2, (a3, a4), (a5, a6), a7, a8, a9, a10, a11, a12), a13, a14, (a15, a16), a17, a18, a19)))],
      [])
else
  bif decide (a20 < 0) then
    some
      (PV.tup
          [PV.agg
              [PV.sc (Value.int IntKind.i64 0), PV.sc (Value.int IntKind.i64 0), PV.sc (Value.int IntKind.i64 0),
                PV.sc (Value.int IntKind.i64 0), PV.sc (Value.int IntKind.i64 0), PV.sc (Value.int IntKind.i64 0),
                PV.sc (Value.int IntKind.i64 0), PV.sc (Value.int IntKind.i64 0), PV.sc (Value.int IntKind.i64 0),
                PV.sc (Value.int IntKind.i64 0), PV.sc (Value.int IntKind.i64 0), PV.sc (Value.int IntKind.i64 0),
                PV.sc (Value.int IntKind.i64 0), PV.sc (Value.int IntKind.i64 0), PV.sc (Value.int IntKind.i64 0),
                PV.sc (Value.int IntKind.i64 0), PV.sc (Value.int IntKind.i64 0), PV.sc (Value.int IntKind.i64 0),
                PV.sc (Value.int IntKind.i64 0), PV.sc (Value.int IntKind.i64 0)],
            PV.sc (Value.int IntKind.i64 4)],
        [])
  else
    bif decide (a20 > 200000) then
      some
        (PV.tup
            [PV.agg
                [PV.sc (Value.int IntKind.i64 0), PV.sc (Value.int IntKind.i64 0), PV.sc (Value.int IntKind.i64 0),
                  PV.sc (Value.int IntKind.i64 0), PV.sc (Value.int IntKind.i64 0), PV.sc (Value.int IntKind.i64 0),
                  PV.sc (Value.int IntKind.i64 0), PV.sc (Value.int IntKind.i64 0), PV.sc (Value.int IntKind.i64 0),
                  PV.sc (Value.int IntKind.i64 0), PV.sc (Value.int IntKind.i64 0), PV.sc (Value.int IntKind.i64 0),
                  PV.sc (Value.int IntKind.i64 0), PV.sc (Value.int IntKind.i64 0), PV.sc (Value.int IntKind.i64 0),
                  PV.sc (Value.int IntKind.i64 0), PV.sc (Value.int IntKind.i64 0), PV.sc (Value.int IntKind.i64 0),
                  PV.sc (Value.int IntKind.i64 0), PV.sc (Value.int IntKind.i64 0)],
              PV.sc (Value.int IntKind.i64 4)],
          [])
    else
      bif decide (a21 < 0) then
        some
          (PV.tup
              [PV.agg
                  [PV.sc (Value.int IntKind.i64 0), PV.sc (Value.int IntKind.i64 0), PV.sc (Value.int IntKind.i64 0),
                    PV.sc (Value.int IntKind.i64 0), PV.sc (Value.int IntKind.i64 0), PV.sc (Value.int IntKind.i64 0),
                    PV.sc (Value.int IntKind.i64 0), PV.sc (Value.int IntKind.i64 0), PV.sc (Value.int IntKind.i64 0),
                    PV.sc (Value.int IntKind.i64 0), PV.sc (Value.int IntKind.i64 0), PV.sc (Value.int IntKind.i64 0),
                    PV.sc (Value.int IntKind.i64 0), PV.sc (Value.int IntKind.i64 0), PV.sc (Value.int IntKind.i64 0),
                    PV.sc (Value.int IntKind.i64 0), PV.sc (Value.int IntKind.i64 0), PV.sc (Value.int IntKind.i64 0),
                    PV.sc (Value.int IntKind.i64 0), PV.sc (Value.int IntKind.i64 0)],
                PV.sc (Value.int IntKind.i64 4)],
            [])
      else
        bif decide (a21 > 20) then
          some
            (PV.tup
                [PV.agg
                    [PV.sc (Value.int IntKind.i64 0), PV.sc (Value.int IntKind.i64 0), PV.sc (Value.int IntKind.i64 0),
                      PV.sc (Value.int IntKind.i64 0), PV.sc (Value.int IntKind.i64 0), PV.sc (Value.int IntKind.i64 0),
                      PV.sc (Value.int IntKind.i64 0), PV.sc (Value.int IntKind.i64 0), PV.sc (Value.int IntKind.i64 0),
                      PV.sc (Value.int IntKind.i64 0), PV.sc (Value.int IntKind.i64 0), PV.sc (Value.int IntKind.i64 0),
                      PV.sc (Value.int IntKind.i64 0), PV.sc (Value.int IntKind.i64 0), PV.sc (Value.int IntKind.i64 0),
                      PV.sc (Value.int IntKind.i64 0), PV.sc (Value.int IntKind.i64 0), PV.sc (Value.int IntKind.i64 0),
                      PV.sc (Value.int IntKind.i64 0), PV.sc (Value.int IntKind.i64 0)],
                  PV.sc (Value.int IntKind.i64 4)],
              [])
        else
          bif decide (IntKind.i64.wrap (a20 - a2) < 0) then
            some
              (PV.tup
                  [PV.agg
                      [PV.sc (Value.int IntKind.i64 0), PV.sc (Value.int IntKind.i64 0),
                        PV.sc (Value.int IntKind.i64 0), PV.sc (Value.int IntKind.i64 0),
                        PV.sc (Value.int IntKind.i64 0), PV.sc (Value.int IntKind.i64 0),
                        PV.sc (Value.int IntKind.i64 0), PV.sc (Value.int IntKind.i64 0),
                        PV.sc (Value.int IntKind.i64 0), PV.sc (Value.int IntKind.i64 0),
                        PV.sc (Value.int IntKind.i64 0), PV.sc (Value.int IntKind.i64 0),
                        PV.sc (Value.int IntKind.i64 0), PV.sc (Value.int IntKind.i64 0),
                        PV.sc (Value.int IntKind.i64 0), PV.sc (Value.int IntKind.i64 0),
                        PV.sc (Value.int IntKind.i64 0), PV.sc (Value.int IntKind.i64 0),
                        PV.sc (Value.int IntKind.i64 0), PV.sc (Value.int IntKind.i64 0)],
                    PV.sc (Value.int IntKind.i64 12)],
                [])
          else
            bif decide (IntKind.i64.wrap (a20 - a2) > 600) then
              some
                (PV.tup
                    [PV.agg
                        [PV.sc (Value.int IntKind.i64 0), PV.sc (Value.int IntKind.i64 0),
                          PV.sc (Value.int IntKind.i64 0), PV.sc (Value.int IntKind.i64 0),
                          PV.sc (Value.int IntKind.i64 0), PV.sc (Value.int IntKind.i64 0),
                          PV.sc (Value.int IntKind.i64 0), PV.sc (Value.int IntKind.i64 0),
                          PV.sc (Value.int IntKind.i64 0), PV.sc (Value.int IntKind.i64 0),
                          PV.sc (Value.int IntKind.i64 0), PV.sc (Value.int IntKind.i64 0),
                          PV.sc (Value.int IntKind.i64 0), PV.sc (Value.int IntKind.i64 0),
                          PV.sc (Value.int IntKind.i64 0), PV.sc (Value.int IntKind.i64 0),
                          PV.sc (Value.int IntKind.i64 0), PV.sc (Value.int IntKind.i64 0),
                          PV.sc (Value.int IntKind.i64 0), PV.sc (Value.int IntKind.i64 0)],
                      PV.sc (Value.int IntKind.i64 12)],
                  [])
            else
              bif IntKind.i64.wrap (a20 - a2) == 0 then
                some
                  (PV.tup
                      [PV.agg
                          [PV.sc (Value.int IntKind.i64 a0), PV.sc (Value.int IntKind.i64 a1),
                            PV.sc (Value.int IntKind.i64 a2), PV.sc (Value.int IntKind.i64 a3),
                            PV.sc (Value.int IntKind.i64 a4), PV.sc (Value.int IntKind.i64 a5),
                            PV.sc (Value.int IntKind.i64 a6), PV.sc (Value.int IntKind.i64 a7),
                            PV.sc (Value.int IntKind.i64 a8), PV.sc (Value.int IntKind.i64 a9),
                            PV.sc (Value.int IntKind.i64 a10), PV.sc (Value.int IntKind.i64 a11),
                            PV.sc (Value.int IntKind.i64 a12), PV.sc (Value.int IntKind.i64 a13),
                            PV.sc (Value.int IntKind.i64 a14), PV.sc (Value.int IntKind.i64 a15),
                            PV.sc (Value.int IntKind.i64 a16), PV.sc (Value.int IntKind.i64 a17),
                            PV.sc (Value.int IntKind.i64 a18), PV.sc (Value.int IntKind.i64 a19)],
                        PV.sc (Value.int IntKind.i64 0)],
                    [])
              else
                bif
                    checkE
                        ((a0, a1, a20,
                            (IntKind.i64.wrap
                                (a3 + (divDown (IntKind.i64.wrap (a5 * IntKind.i64.wrap (a20 - a2))) 16).fst),
                              IntKind.i64.wrap
                                (a4 + (divDown (IntKind.i64.wrap (a6 * IntKind.i64.wrap (a20 - a2))) 16).fst)),
                            (a5, a6),
                            betweenS
                              (IntKind.i64.wrap
                                (a7 + (divDown (IntKind.i64.wrap (a8 * IntKind.i64.wrap (a20 - a2))) 16).fst))
                              0 60000,
                            a8,
                            IntKind.i64.wrap
                              (a9 +
                                IntKind.i64.wrap
                                  (IntKind.i64.wrap
                                      ((if
                                            (divDown (IntKind.i64.wrap (a13 * IntKind.i64.wrap (a20 - a2))) 16).snd =
                                                0 ∧
                                              (IntKind.i64.wrap (a13 * IntKind.i64.wrap (a20 - a2))).tmod 16 ≠ 0 then
                                          W
                                            ((divDown (IntKind.i64.wrap (a13 * IntKind.i64.wrap (a20 - a2))) 16).fst +
                                              1)
                                        else (divDown (IntKind.i64.wrap (a13 * IntKind.i64.wrap (a20 - a2))) 16).fst) +
                                        if
                                            (divDown
                                                    (IntKind.i64.wrap
                                                      (IntKind.i64.wrap (a21 * IntKind.i64.wrap (a20 - a2)) *
                                                        IntKind.i64.wrap (a20 - a2)))
                                                    2).snd =
                                                0 ∧
                                              (IntKind.i64.wrap
                                                      (IntKind.i64.wrap (a21 * IntKind.i64.wrap (a20 - a2)) *
                                                        IntKind.i64.wrap (a20 - a2))).tmod
                                                  2 ≠
                                                0 then
                                          W
                                            ((divDown
                                                  (IntKind.i64.wrap
                                                    (IntKind.i64.wrap (a21 * IntKind.i64.wrap (a20 - a2)) *
                                                      IntKind.i64.wrap (a20 - a2)))
                                                  2).fst +
                                              1)
                                        else
                                          (divDown
                                              (IntKind.i64.wrap
                                                (IntKind.i64.wrap (a21 * IntKind.i64.wrap (a20 - a2)) *
                                                  IntKind.i64.wrap (a20 - a2)))
                                              2).fst) +
                                    2)),
                            a10, a11, a12),
                          IntKind.i64.wrap
                            (a13 + IntKind.i64.wrap (IntKind.i64.wrap (16 * a21) * IntKind.i64.wrap (a20 - a2))),
                          a14, (a15, a16), a17, a18, a19) !=
                      0 then
                  some
                    (PV.tup
                        [PV.agg
                            [PV.sc (Value.int IntKind.i64 0), PV.sc (Value.int IntKind.i64 0),
                              PV.sc (Value.int IntKind.i64 0), PV.sc (Value.int IntKind.i64 0),
                              PV.sc (Value.int IntKind.i64 0), PV.sc (Value.int IntKind.i64 0),
                              PV.sc (Value.int IntKind.i64 0), PV.sc (Value.int IntKind.i64 0),
                              PV.sc (Value.int IntKind.i64 0), PV.sc (Value.int IntKind.i64 0),
                              PV.sc (Value.int IntKind.i64 0), PV.sc (Value.int IntKind.i64 0),
                              PV.sc (Value.int IntKind.i64 0), PV.sc (Value.int IntKind.i64 0),
                              PV.sc (Value.int IntKind.i64 0), PV.sc (Value.int IntKind.i64 0),
                              PV.sc (Value.int IntKind.i64 0), PV.sc (Value.int IntKind.i64 0),
                              PV.sc (Value.int IntKind.i64 0), PV.sc (Value.int IntKind.i64 0)],
                          PV.sc (Value.int IntKind.i64 8)],
                      [])
                else
                  some
                    (PV.tup
                        [PV.agg
                            [PV.sc (Value.int IntKind.i64 a0), PV.sc (Value.int IntKind.i64 a1),
                              PV.sc (Value.int IntKind.i64 a20),
                              PV.sc
                                (Value.int IntKind.i64
                                  (IntKind.i64.wrap
                                    (a3 + (divDown (IntKind.i64.wrap (a5 * IntKind.i64.wrap (a20 - a2))) 16).fst))),
                              PV.sc
                                (Value.int IntKind.i64
                                  (IntKind.i64.wrap
                                    (a4 + (divDown (IntKind.i64.wrap (a6 * IntKind.i64.wrap (a20 - a2))) 16).fst))),
                              PV.sc (Value.int IntKind.i64 a5), PV.sc (Value.int IntKind.i64 a6),
                              PV.sc
                                (Value.int IntKind.i64
                                  (betweenS
                                    (IntKind.i64.wrap
                                      (a7 + (divDown (IntKind.i64.wrap (a8 * IntKind.i64.wrap (a20 - a2))) 16).fst))
                                    0 60000)),
                              PV.sc (Value.int IntKind.i64 a8),
                              PV.sc
                                (Value.int IntKind.i64
                                  (IntKind.i64.wrap
                                    (a9 +
                                      IntKind.i64.wrap
                                        (IntKind.i64.wrap
                                            ((if
                                                  (divDown (IntKind.i64.wrap (a13 * IntKind.i64.wrap (a20 - a2)))
                                                          16).snd =
                                                      0 ∧
                                                    (IntKind.i64.wrap (a13 * IntKind.i64.wrap (a20 - a2))).tmod 16 ≠
                                                      0 then
                                                W
                                                  ((divDown (IntKind.i64.wrap (a13 * IntKind.i64.wrap (a20 - a2)))
                                                        16).fst +
                                                    1)
                                              else
                                                (divDown (IntKind.i64.wrap (a13 * IntKind.i64.wrap (a20 - a2)))
                                                    16).fst) +
                                              if
                                                  (divDown
                                                          (IntKind.i64.wrap
                                                            (IntKind.i64.wrap (a21 * IntKind.i64.wrap (a20 - a2)) *
                                                              IntKind.i64.wrap (a20 - a2)))
                                                          2).snd =
                                                      0 ∧
                                                    (IntKind.i64.wrap
                                                            (IntKind.i64.wrap (a21 * IntKind.i64.wrap (a20 - a2)) *
                                                              IntKind.i64.wrap (a20 - a2))).tmod
                                                        2 ≠
                                                      0 then
                                                W
                                                  ((divDown
                                                        (IntKind.i64.wrap
                                                          (IntKind.i64.wrap (a21 * IntKind.i64.wrap (a20 - a2)) *
                                                            IntKind.i64.wrap (a20 - a2)))
                                                        2).fst +
                                                    1)
                                              else
                                                (divDown
                                                    (IntKind.i64.wrap
                                                      (IntKind.i64.wrap (a21 * IntKind.i64.wrap (a20 - a2)) *
                                                        IntKind.i64.wrap (a20 - a2)))
                                                    2).fst) +
                                          2)))),
                              PV.sc (Value.int IntKind.i64 a10), PV.sc (Value.int IntKind.i64 a11),
                              PV.sc (Value.int IntKind.i64 a12),
                              PV.sc
                                (Value.int IntKind.i64
                                  (IntKind.i64.wrap
                                    (a13 +
                                      IntKind.i64.wrap (IntKind.i64.wrap (16 * a21) * IntKind.i64.wrap (a20 - a2))))),
                              PV.sc (Value.int IntKind.i64 a14), PV.sc (Value.int IntKind.i64 a15),
                              PV.sc (Value.int IntKind.i64 a16), PV.sc (Value.int IntKind.i64 a17),
                              PV.sc (Value.int IntKind.i64 a18), PV.sc (Value.int IntKind.i64 a19)],
                          PV.sc (Value.int IntKind.i64 0)],
                      [])) := by kernel_rfl
noncomputable abbrev p31L (a0 : Int) (a1 : Int) (a2 : Int) (a3 : Int) (a4 : Int) (a5 : Int) (a6 : Int) (a7 : Int) (a8 : Int) (a9 : Int) (a10 : Int) (a11 : Int) (a12 : Int) (a13 : Int) (a14 : Int) (a15 : Int) (a16 : Int) (a17 : Int) (a18 : Int) (a19 : Int) (a20 : Int) (a21 : Int) := evFuncV Try.prog T4 noCuts Try.f31 (killA 0 [sFT, sI, sI]) (showA 0 [sFT, sI, sI] (((a0, (a1, (a2, ((a3, a4), ((a5, a6), (a7, (a8, (a9, (a10, (a11, a12)))))))))), (a13, (a14, ((a15, a16), (a17, (a18, a19)))))), (a20, (a21, ())))).1 (showA 0 [sFT, sI, sI] (((a0, (a1, (a2, ((a3, a4), ((a5, a6), (a7, (a8, (a9, (a10, (a11, a12)))))))))), (a13, (a14, ((a15, a16), (a17, (a18, a19)))))), (a20, (a21, ())))).2
theorem p31 (a0 : Int) (a1 : Int) (a2 : Int) (a3 : Int) (a4 : Int) (a5 : Int) (a6 : Int) (a7 : Int) (a8 : Int) (a9 : Int) (a10 : Int) (a11 : Int) (a12 : Int) (a13 : Int) (a14 : Int) (a15 : Int) (a16 : Int) (a17 : Int) (a18 : Int) (a19 : Int) (a20 : Int) (a21 : Int) : p31L a0 a1 a2 a3 a4 a5 a6 a7 a8 a9 a10 a11 a12 a13 a14 a15 a16 a17 a18 a19 a20 a21 = (bif checkE ((a0, a1, a2, (a3, a4), (a5, a6), a7, a8, a9, a10, a11, a12), a13, a14, (a15, a16), a17, a18, a19) != 0 then
  some
    (PV.tup
        [PV.agg
            [PV.sc (Value.int IntKind.i64 0), PV.sc (Value.int IntKind.i64 0), PV.sc (Value.int IntKind.i64 0),
              PV.sc (Value.int IntKind.i64 0), PV.sc (Value.int IntKind.i64 0), PV.sc (Value.int IntKind.i64 0),
              PV.sc (Value.int IntKind.i64 0), PV.sc (Value.int IntKind.i64 0), PV.sc (Value.int IntKind.i64 0),
              PV.sc (Value.int IntKind.i64 0), PV.sc (Value.int IntKind.i64 0), PV.sc (Value.int IntKind.i64 0),
              PV.sc (Value.int IntKind.i64 0), PV.sc (Value.int IntKind.i64 0), PV.sc (Value.int IntKind.i64 0),
              PV.sc (Value.int IntKind.i64 0), PV.sc (Value.int IntKind.i64 0), PV.sc (Value.int IntKind.i64 0),
              PV.sc (Value.int IntKind.i64 0), PV.sc (Value.int IntKind.i64 0)],
          PV.sc
            (Value.int IntKind.i64
              (checkE
                ((a0, a1, a2, (a3, a4), (a5, a6), a7, a8, a9, a10, a11, a12), a13, a14, (a15, a16), a17, a18, a19)))],
      [])
else
  bif !inS a20 0 200000 then
    some
      (PV.tup
          [PV.agg
              [PV.sc (Value.int IntKind.i64 0), PV.sc (Value.int IntKind.i64 0), PV.sc (Value.int IntKind.i64 0),
                PV.sc (Value.int IntKind.i64 0), PV.sc (Value.int IntKind.i64 0), PV.sc (Value.int IntKind.i64 0),
                PV.sc (Value.int IntKind.i64 0), PV.sc (Value.int IntKind.i64 0), PV.sc (Value.int IntKind.i64 0),
                PV.sc (Value.int IntKind.i64 0), PV.sc (Value.int IntKind.i64 0), PV.sc (Value.int IntKind.i64 0),
                PV.sc (Value.int IntKind.i64 0), PV.sc (Value.int IntKind.i64 0), PV.sc (Value.int IntKind.i64 0),
                PV.sc (Value.int IntKind.i64 0), PV.sc (Value.int IntKind.i64 0), PV.sc (Value.int IntKind.i64 0),
                PV.sc (Value.int IntKind.i64 0), PV.sc (Value.int IntKind.i64 0)],
            PV.sc (Value.int IntKind.i64 4)],
        [])
  else
    bif !inS a21 0 20 then
      some
        (PV.tup
            [PV.agg
                [PV.sc (Value.int IntKind.i64 0), PV.sc (Value.int IntKind.i64 0), PV.sc (Value.int IntKind.i64 0),
                  PV.sc (Value.int IntKind.i64 0), PV.sc (Value.int IntKind.i64 0), PV.sc (Value.int IntKind.i64 0),
                  PV.sc (Value.int IntKind.i64 0), PV.sc (Value.int IntKind.i64 0), PV.sc (Value.int IntKind.i64 0),
                  PV.sc (Value.int IntKind.i64 0), PV.sc (Value.int IntKind.i64 0), PV.sc (Value.int IntKind.i64 0),
                  PV.sc (Value.int IntKind.i64 0), PV.sc (Value.int IntKind.i64 0), PV.sc (Value.int IntKind.i64 0),
                  PV.sc (Value.int IntKind.i64 0), PV.sc (Value.int IntKind.i64 0), PV.sc (Value.int IntKind.i64 0),
                  PV.sc (Value.int IntKind.i64 0), PV.sc (Value.int IntKind.i64 0)],
              PV.sc (Value.int IntKind.i64 4)],
          [])
    else
      bif !inS (IntKind.i64.wrap (a20 - a2)) 0 600 then
        some
          (PV.tup
              [PV.agg
                  [PV.sc (Value.int IntKind.i64 0), PV.sc (Value.int IntKind.i64 0), PV.sc (Value.int IntKind.i64 0),
                    PV.sc (Value.int IntKind.i64 0), PV.sc (Value.int IntKind.i64 0), PV.sc (Value.int IntKind.i64 0),
                    PV.sc (Value.int IntKind.i64 0), PV.sc (Value.int IntKind.i64 0), PV.sc (Value.int IntKind.i64 0),
                    PV.sc (Value.int IntKind.i64 0), PV.sc (Value.int IntKind.i64 0), PV.sc (Value.int IntKind.i64 0),
                    PV.sc (Value.int IntKind.i64 0), PV.sc (Value.int IntKind.i64 0), PV.sc (Value.int IntKind.i64 0),
                    PV.sc (Value.int IntKind.i64 0), PV.sc (Value.int IntKind.i64 0), PV.sc (Value.int IntKind.i64 0),
                    PV.sc (Value.int IntKind.i64 0), PV.sc (Value.int IntKind.i64 0)],
                PV.sc (Value.int IntKind.i64 12)],
            [])
      else
        bif
            checkE
                ((a0, a1, a20,
                    (IntKind.i64.wrap (a3 + refDown (IntKind.i64.wrap (a5 * IntKind.i64.wrap (a20 - a2))) 16),
                      IntKind.i64.wrap (a4 + refDown (IntKind.i64.wrap (a6 * IntKind.i64.wrap (a20 - a2))) 16)),
                    (a5, a6),
                    clampS (IntKind.i64.wrap (a7 + refDown (IntKind.i64.wrap (a8 * IntKind.i64.wrap (a20 - a2))) 16)) 0
                      60000,
                    a8, IntKind.i64.wrap (a9 + grownS a13 a21 (IntKind.i64.wrap (a20 - a2))), a10, a11, a12),
                  IntKind.i64.wrap (a13 + IntKind.i64.wrap (IntKind.i64.wrap (16 * a21) * IntKind.i64.wrap (a20 - a2))),
                  a14, (a15, a16), a17, a18, a19) !=
              0 then
          some
            (PV.tup
                [PV.agg
                    [PV.sc (Value.int IntKind.i64 0), PV.sc (Value.int IntKind.i64 0), PV.sc (Value.int IntKind.i64 0),
                      PV.sc (Value.int IntKind.i64 0), PV.sc (Value.int IntKind.i64 0), PV.sc (Value.int IntKind.i64 0),
                      PV.sc (Value.int IntKind.i64 0), PV.sc (Value.int IntKind.i64 0), PV.sc (Value.int IntKind.i64 0),
                      PV.sc (Value.int IntKind.i64 0), PV.sc (Value.int IntKind.i64 0), PV.sc (Value.int IntKind.i64 0),
                      PV.sc (Value.int IntKind.i64 0), PV.sc (Value.int IntKind.i64 0), PV.sc (Value.int IntKind.i64 0),
                      PV.sc (Value.int IntKind.i64 0), PV.sc (Value.int IntKind.i64 0), PV.sc (Value.int IntKind.i64 0),
                      PV.sc (Value.int IntKind.i64 0), PV.sc (Value.int IntKind.i64 0)],
                  PV.sc (Value.int IntKind.i64 8)],
              [])
        else
          some
            (PV.tup
                [PV.agg
                    [PV.sc (Value.int IntKind.i64 a0), PV.sc (Value.int IntKind.i64 a1),
                      PV.sc (Value.int IntKind.i64 a20),
                      PV.sc
                        (Value.int IntKind.i64
                          (IntKind.i64.wrap (a3 + refDown (IntKind.i64.wrap (a5 * IntKind.i64.wrap (a20 - a2))) 16))),
                      PV.sc
                        (Value.int IntKind.i64
                          (IntKind.i64.wrap (a4 + refDown (IntKind.i64.wrap (a6 * IntKind.i64.wrap (a20 - a2))) 16))),
                      PV.sc (Value.int IntKind.i64 a5), PV.sc (Value.int IntKind.i64 a6),
                      PV.sc
                        (Value.int IntKind.i64
                          (clampS
                            (IntKind.i64.wrap (a7 + refDown (IntKind.i64.wrap (a8 * IntKind.i64.wrap (a20 - a2))) 16)) 0
                            60000)),
                      PV.sc (Value.int IntKind.i64 a8),
                      PV.sc
                        (Value.int IntKind.i64 (IntKind.i64.wrap (a9 + grownS a13 a21 (IntKind.i64.wrap (a20 - a2))))),
                      PV.sc (Value.int IntKind.i64 a10), PV.sc (Value.int IntKind.i64 a11),
                      PV.sc (Value.int IntKind.i64 a12),
                      PV.sc
                        (Value.int IntKind.i64
                          (IntKind.i64.wrap
                            (a13 + IntKind.i64.wrap (IntKind.i64.wrap (16 * a21) * IntKind.i64.wrap (a20 - a2))))),
                      PV.sc (Value.int IntKind.i64 a14), PV.sc (Value.int IntKind.i64 a15),
                      PV.sc (Value.int IntKind.i64 a16), PV.sc (Value.int IntKind.i64 a17),
                      PV.sc (Value.int IntKind.i64 a18), PV.sc (Value.int IntKind.i64 a19)],
                  PV.sc (Value.int IntKind.i64 0)],
              [])) := by kernel_rfl
theorem int_eq {a b : Int} (h : a = b) : some (PV.sc (Value.int .i64 a), ([] : List Blk)) = some (PV.sc (Value.int .i64 b), []) := by rw [h]
theorem spotE_pos {t x y h c e : Int} (k : spotOk t x y h c e) : spotE t x y h c e = 0 := if_pos k
theorem spotE_neg {t x y h c e : Int} (k : ¬ spotOk t x y h c e) : spotE t x y h c e = 4 := if_neg k
theorem partE_pos {t x y h r c : Int} (k : partOk t x y h r c) : partE t x y h r c = 0 := if_pos k
theorem partE_neg {t x y h r c : Int} (k : ¬ partOk t x y h r c) : partE t x y h r c = 4 := if_neg k
theorem e28 : EntOK Try.prog 28 (entV [sI, sI, sI] (specP [sI, sI, sI] [sB] (fun _ => true) fun v => (inS v.1 v.2.1 v.2.2.1, ()))) := by
  refine entV_ok Try.call28 (liftV (T0_ok _) mixed Try.func28 rfl (noCuts_ok _) (by decide) fun v _ => ((p28 v.1 v.2.1 v.2.2.1).trans ?_))
  show _ = some (PV.sc (Value.bool (inS v.1 v.2.1 v.2.2.1)), [])
  generalize v.1 = a, v.2.1 = b, v.2.2.1 = c
  unfold inS
  refine cond_split (fun h => ?_) (fun h => ?_)
  all_goals (simp only [decide_eq_true_eq, decide_eq_false_iff_not] at h)
  · congr 4; exact decide_eq_decide.mpr (by omega)
  · congr 4; symm; rw [decide_eq_false_iff_not]; omega
theorem e115 : EntOK Try.prog 115 (entV [sP] (specP [sP] [sB] (fun _ => true) fun v => (placedS v.1.1 v.1.2, ()))) := by
  refine entV_ok Try.call115 (liftV (T0_ok _) mixed Try.func115 rfl (noCuts_ok _) (by decide) fun v _ => ((p115 v.1.1 v.1.2).trans ?_))
  show _ = some (PV.sc (Value.bool (placedS v.1.1 v.1.2)), [])
  generalize v.1.1 = a, v.1.2 = b
  unfold placedS
  repeat' (first | refine cond_split (fun h => ?_) (fun h => ?_))
  all_goals (simp only [decide_eq_true_eq, decide_eq_false_iff_not] at *)
  all_goals first | (congr 4; exact decide_eq_decide.mpr (by omega)) | (congr 4; symm; rw [decide_eq_false_iff_not]; omega)
theorem e77 : EntOK Try.prog 77 (entV [sI] (specP [sI] [sB] (fun _ => true) fun v => (c1S v.1, ()))) := by
  refine entV_ok Try.call77 (liftV (T0_ok _) mixed Try.func77 rfl (noCuts_ok _) (by decide) fun v _ => ((p77 v.1).trans ?_))
  show _ = some (PV.sc (Value.bool (c1S v.1)), [])
  generalize v.1 = a
  unfold c1S
  refine cond_split (fun h => ?_) (fun h => ?_)
  all_goals (simp only [decide_eq_true_eq, decide_eq_false_iff_not] at h)
  · congr 4; symm; rw [decide_eq_true_eq]; omega
  · congr 4; exact decide_eq_decide.mpr (by omega)
theorem cond_if {α : Type} {c : Prop} [Decidable c] {x y : α} : (bif decide c then x else y) = if c then x else y := by
  by_cases h : c <;> simp [h]
theorem some_int {c : Prop} [Decidable c] {x y : Int} : (if c then some (PV.sc (Value.int .i64 x), ([] : List Blk)) else some (PV.sc (Value.int .i64 y), [])) = some (PV.sc (Value.int .i64 (if c then x else y)), []) := by
  split <;> rfl
theorem e26 : EntOK Try.prog 26 (entV [sI, sI] (specP [sI, sI] [sI] (fun v => nz v.2.1) fun v => (refDown v.1 v.2.1, ()))) := by
  refine entV_ok Try.call26 (liftV (T0_ok _) mixed Try.func26 rfl (noCuts_ok _) (by decide) fun v hv => ((p26 v.1 v.2.1).trans ?_))
  refine guard_split hv ?_
  rw [cond_if, some_int]; rfl
theorem e70 : EntOK Try.prog 70 (entV [sI, sI] (specP [sI, sI] [sI, sI] (fun v => nz v.2.1) fun v => ((divDown v.1 v.2.1).1, (divDown v.1 v.2.1).2, ()))) := by
  refine entV_ok Try.call70 (liftV (T0_ok _) mixed Try.func70 rfl (noCuts_ok _) (by decide) fun v hv => ((p70 v.1 v.2.1).trans ?_))
  show _ = some (PV.tup [PV.sc (Value.int .i64 (divDown v.1 v.2.1).1), PV.sc (Value.int .i64 (divDown v.1 v.2.1).2)], [])
  replace hv : nz v.2.1 = true := hv
  revert hv
  generalize v.1 = a, v.2.1 = b
  intro hv
  have hb : ¬ b = 0 := by simpa [nz] using hv
  have hg : (!decide (b = 0)) = true := hv
  have hb' : (b == 0) = false := by simpa using hb
  rw [hb']
  unfold divDown
  simp only [cond_false, guardB, hg, cond_true]
  repeat' (refine cond_split (fun h => ?_) (fun h => ?_))
  all_goals (simp only [beq_iff_eq, beq_eq_false_iff_ne, bne_iff_ne, bne_eq_false_iff_eq, ne_eq, Bool.not_eq_eq_eq_not] at *)
  all_goals simp_all
theorem between_max (n l h : Int) : max l (min n h) = betweenS n l h := by
  unfold betweenS
  repeat' split
  all_goals omega
theorem e73 : EntOK Try.prog 73 (entV [sI, sI, sI] (specP [sI, sI, sI] [sI] (fun _ => true) fun v => (betweenS v.1 v.2.1 v.2.2.1, ()))) :=
  entV_ok Try.call73 (liftV (T0_ok _) mixed Try.func73 rfl (noCuts_ok _) (by decide) fun v _ => ((p73 v.1 v.2.1 v.2.2.1).trans (int_eq (between_max v.1 v.2.1 v.2.2.1))))
theorem e75 : EntOK Try.prog 75 (entV [sI, sI, sI] (specP [sI, sI, sI] [sI] (fun _ => true) fun v => (clampS v.1 v.2.1 v.2.2.1, ()))) := by
  refine entV_ok Try.call75 (liftV (T0_ok _) mixed Try.func75 rfl (noCuts_ok _) (by decide) fun v _ => ((p75 v.1 v.2.1 v.2.2.1).trans ?_))
  rw [cond_if, cond_if, some_int, some_int]; rfl
theorem e41 : EntOK Try.prog 41 (entV [] (specP [] [sFT] (fun _ => true) fun _ => (zeroFT, ()))) :=
  entV_ok Try.call41 (liftV (T0_ok _) mixed Try.func41 rfl (noCuts_ok _) (by decide) fun v _ => (p41.trans rfl))
theorem T1_ok : TableOK Try.prog T1 := ext_ok e28 (ext_ok e115 (ext_ok e77 (ext_ok e26 (ext_ok e70 (ext_ok e73 (ext_ok e75 (ext_ok e41 (T0_ok _))))))))
theorem e19 : EntOK Try.prog 19 (entV [sP] (specP [sP] [sB] (fun _ => true) fun v => (placedS v.1.1 v.1.2, ()))) := by
  refine entV_ok Try.call19 (liftV T1_ok mixed Try.func19 rfl (kill := []) (noCuts_ok _) (by decide) ?_)
  rintro ⟨⟨a, b⟩, ⟨⟩⟩ _
  refine ((p19 a b).trans ?_)
  show _ = some (PV.sc (Value.bool (placedS a b)), [])
  unfold placedS inS
  refine cond_split (fun h => ?_) (fun h => ?_)
  all_goals (simp only [decide_eq_true_eq, decide_eq_false_iff_not] at *)
  · congr 4; exact decide_eq_decide.mpr (by omega)
  · congr 4; symm; rw [decide_eq_false_iff_not]; omega
theorem e78 : EntOK Try.prog 78 (entV [sSpot] (specP [sSpot] [sI] (fun _ => true) fun v => (spotE v.1.1 v.1.2.1.1 v.1.2.1.2 v.1.2.2.1 v.1.2.2.2.1 v.1.2.2.2.2, ()))) := by
  refine entV_ok Try.call78 (liftV T1_ok mixed Try.func78 rfl (kill := []) (noCuts_ok _) (by decide) ?_)
  rintro ⟨⟨a0, ⟨a1, a2⟩, a3, a4, a5⟩, ⟨⟩⟩ _
  refine ((p78 a0 a1 a2 a3 a4 a5).trans ?_)
  show _ = some (PV.sc (Value.int .i64 (spotE a0 a1 a2 a3 a4 a5)), [])
  unfold spotE placedS
  repeat' (refine cond_split (fun h => ?_) (fun h => ?_))
  all_goals (simp only [decide_eq_true_eq, decide_eq_false_iff_not, Bool.not_eq_true', Bool.not_eq_false'] at *)
  all_goals (refine int_eq ?_; split <;> first | rfl | (exfalso; omega))
theorem e27 : EntOK Try.prog 27 (entV [sI, sI] (specP [sI, sI] [sI] (fun v => nz v.2.1) fun v => (refUp v.1 v.2.1, ()))) :=
  entV_ok Try.call27 (liftV T1_ok mixed Try.func27 rfl (noCuts_ok _) (by decide) fun v hv => ((p27 v.1 v.2.1).trans (guard_split hv rfl)))
theorem e72 : EntOK Try.prog 72 (entV [sI, sI] (specP [sI, sI] [sI] (fun v => nz v.2.1) fun v => ((divDown v.1 v.2.1).1, ()))) :=
  entV_ok Try.call72 (liftV T1_ok mixed Try.func72 rfl (noCuts_ok _) (by decide) fun v hv => ((p72 v.1 v.2.1).trans (guard_split hv rfl)))
theorem e71 : EntOK Try.prog 71 (entV [sI, sI] (specP [sI, sI] [sI, sI] (fun v => nz v.2.1) fun v => ((divUp v.1 v.2.1).1, (divUp v.1 v.2.1).2, ()))) := by
  refine entV_ok Try.call71 (liftV T1_ok mixed Try.func71 rfl (noCuts_ok _) (by decide) fun v hv => ((p71 v.1 v.2.1).trans (guard_split hv ?_)))
  show _ = some (PV.tup [PV.sc (Value.int .i64 (divUp v.1 v.2.1).1), PV.sc (Value.int .i64 (divUp v.1 v.2.1).2)], [])
  replace hv : nz v.2.1 = true := hv
  revert hv
  generalize v.1 = a, v.2.1 = b
  intro hv
  have hg : (!decide (b = 0)) = true := hv
  unfold divUp
  simp only [guardB, hg, cond_true]
  repeat' (refine cond_split (fun h => ?_) (fun h => ?_))
  all_goals (simp only [beq_iff_eq, beq_eq_false_iff_ne, bne_iff_ne, bne_eq_false_iff_eq, ne_eq] at *)
  all_goals simp_all
theorem T2_ok : TableOK Try.prog T2 := ext_ok e19 (ext_ok e78 (ext_ok e27 (ext_ok e71 (ext_ok e72 T1_ok))))
theorem e66 : EntOK Try.prog 66 (entV [sSpot] (specP [sSpot] [sI] (fun _ => true) fun v => (spotE v.1.1 v.1.2.1.1 v.1.2.1.2 v.1.2.2.1 v.1.2.2.2.1 v.1.2.2.2.2, ()))) := by
  refine entV_ok Try.call66 (liftV T2_ok mixed Try.func66 rfl (kill := []) (noCuts_ok _) (by decide) ?_)
  rintro ⟨⟨a0, ⟨a1, a2⟩, a3, a4, a5⟩, ⟨⟩⟩ _
  refine ((p66 a0 a1 a2 a3 a4 a5).trans ?_)
  show _ = some (PV.sc (Value.int .i64 (spotE a0 a1 a2 a3 a4 a5)), [])
  unfold spotE placedS inS
  repeat' (refine cond_split (fun h => ?_) (fun h => ?_))
  all_goals (simp only [decide_eq_true_eq, decide_eq_false_iff_not, Bool.not_eq_true', Bool.not_eq_false'] at *)
  all_goals (refine int_eq ?_; split <;> first | rfl | (exfalso; omega))
theorem e47 : EntOK Try.prog 47 (entV [sTrack] (specP [sTrack] [sI] (fun _ => true) fun v => (partE v.1.2.2.1 v.1.2.2.2.1.1 v.1.2.2.2.1.2 v.1.2.2.2.2.2.1 v.1.2.2.2.2.2.2.2.1 v.1.2.2.2.2.2.2.2.2.1, ()))) := by
  refine entV_ok Try.call47 (liftV T2_ok mixed Try.func47 rfl (kill := []) (noCuts_ok _) (by decide) ?_)
  rintro ⟨⟨a0, a1, a2, ⟨a3, a4⟩, ⟨a5, a6⟩, a7, a8, a9, a10, a11, a12⟩, ⟨⟩⟩ _
  refine ((p47 a0 a1 a2 a3 a4 a5 a6 a7 a8 a9 a10 a11 a12).trans ?_)
  show _ = some (PV.sc (Value.int .i64 (partE a2 a3 a4 a7 a9 a10)), [])
  unfold partE placedS inS
  repeat' (refine cond_split (fun h => ?_) (fun h => ?_))
  all_goals (simp only [decide_eq_true_eq, decide_eq_false_iff_not, Bool.not_eq_true', Bool.not_eq_false'] at *)
  all_goals (refine int_eq ?_; split <;> first | rfl | (exfalso; omega))
theorem e32 : EntOK Try.prog 32 (entV [sFT] (specP [sFT] [sI] (fun _ => true) fun v => (checkE v.1, ()))) := by
  refine entV_ok Try.call32 (liftV T2_ok mixed Try.func32 rfl (kill := []) (noCuts_ok _) (by decide) ?_)
  rintro ⟨⟨⟨a0, a1, a2, ⟨a3, a4⟩, ⟨a5, a6⟩, a7, a8, a9, a10, a11, a12⟩, a13, a14, ⟨a15, a16⟩, a17, a18, a19⟩, ⟨⟩⟩ _
  refine ((p32 a0 a1 a2 a3 a4 a5 a6 a7 a8 a9 a10 a11 a12 a13 a14 a15 a16 a17 a18 a19).trans ?_)
  show _ = some (PV.sc (Value.int .i64 (checkS a0 a1 a2 a3 a4 a5 a6 a7 a8 a9 a10 a11 a12 a13 a14 a15 a16 a17 a18 a19)), [])
  unfold c1S checkS
  by_cases hs : spotOk a14 a15 a16 a17 a18 a19
  · rw [spotE_pos hs, show ((0 : Int) != 0) = false from rfl]
    repeat' (refine cond_split (fun h => ?_) (fun h => ?_))
    all_goals (simp only [decide_eq_true_eq, decide_eq_false_iff_not, reduceCtorEq] at *)
    all_goals (refine int_eq ?_; unfold partOk restOk spotOk at *; repeat' split)
    all_goals first | rfl | (exfalso; omega)
  · rw [spotE_neg hs, show ((4 : Int) != 0) = true from rfl]
    repeat' (refine cond_split (fun h => ?_) (fun h => ?_))
    all_goals (simp only [decide_eq_true_eq, decide_eq_false_iff_not, reduceCtorEq] at *)
    all_goals (refine int_eq ?_; unfold partOk restOk spotOk at *; repeat' split)
    all_goals first | rfl | (exfalso; omega)
theorem e74 : EntOK Try.prog 74 (entV [sI, sI] (specP [sI, sI] [sI] (fun v => nz v.2.1) fun v => ((divUp v.1 v.2.1).1, ()))) :=
  entV_ok Try.call74 (liftV T2_ok mixed Try.func74 rfl (noCuts_ok _) (by decide) fun v hv => ((p74 v.1 v.2.1).trans (guard_split hv rfl)))
theorem e76 : EntOK Try.prog 76 (entV [sI, sI, sI] (specP [sI, sI, sI] [sI] (fun _ => true) fun v => (grownS v.1 v.2.1 v.2.2.1, ()))) := by
  refine entV_ok Try.call76 (liftV T2_ok mixed Try.func76 rfl (noCuts_ok _) (by decide) fun v _ => ((p76 v.1 v.2.1 v.2.2.1).trans ?_))
  show _ = some (PV.sc (Value.int .i64 (grownS v.1 v.2.1 v.2.2.1)), [])
  generalize v.1 = a, v.2.1 = b, v.2.2.1 = d
  unfold grownS
  refine cond_split (fun h => ?_) (fun h => ?_)
  · rw [if_pos (by simpa using h)]
  · rw [if_neg (by simpa using h)]
theorem T3_ok : TableOK Try.prog T3 := ext_ok e66 (ext_ok e47 (ext_ok e32 (ext_ok e74 (ext_ok e76 T2_ok))))
theorem e33 : EntOK Try.prog 33 (entV [sFT] (specP [sFT] [sI] (fun _ => true) fun v => (checkE v.1, ()))) := by
  refine entV_ok Try.call33 (liftV T3_ok mixed Try.func33 rfl (kill := []) (noCuts_ok _) (by decide) ?_)
  rintro ⟨⟨⟨a0, a1, a2, ⟨a3, a4⟩, ⟨a5, a6⟩, a7, a8, a9, a10, a11, a12⟩, a13, a14, ⟨a15, a16⟩, a17, a18, a19⟩, ⟨⟩⟩ _
  refine ((p33 a0 a1 a2 a3 a4 a5 a6 a7 a8 a9 a10 a11 a12 a13 a14 a15 a16 a17 a18 a19).trans ?_)
  show _ = some (PV.sc (Value.int .i64 (checkS a0 a1 a2 a3 a4 a5 a6 a7 a8 a9 a10 a11 a12 a13 a14 a15 a16 a17 a18 a19)), [])
  unfold inS checkS
  by_cases hp : partOk a2 a3 a4 a7 a9 a10
  · rw [partE_pos hp, show ((0 : Int) != 0) = false from rfl]
    by_cases hs : spotOk a14 a15 a16 a17 a18 a19
    · rw [spotE_pos hs, show ((0 : Int) != 0) = false from rfl]
      repeat' (refine cond_split (fun h => ?_) (fun h => ?_))
      all_goals (simp only [decide_eq_true_eq, decide_eq_false_iff_not, Bool.not_eq_true', Bool.not_eq_false', reduceCtorEq] at *)
      all_goals (refine int_eq ?_; unfold partOk restOk spotOk at *; repeat' split)
      all_goals first | rfl | (exfalso; omega)
    · rw [spotE_neg hs, show ((4 : Int) != 0) = true from rfl]
      repeat' (refine cond_split (fun h => ?_) (fun h => ?_))
      all_goals (simp only [decide_eq_true_eq, decide_eq_false_iff_not, Bool.not_eq_true', Bool.not_eq_false', reduceCtorEq] at *)
      all_goals (refine int_eq ?_; unfold partOk restOk spotOk at *; repeat' split)
      all_goals first | rfl | (exfalso; omega)
  · rw [partE_neg hp]
    refine cond_split (fun h => ?_) (fun h => absurd h (by decide))
    refine int_eq ?_; rw [if_neg (fun k => hp k.1)]
end Go.Proofs.YtpndjpjpmcehbaaTk
