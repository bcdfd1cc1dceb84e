/- What is laid here: what the costs of one track and one flight are. Definitions alone; no condition. -/
import Derived.Test.YtpndjpjpmcehbaaTtu1
namespace Go.Proofs.YtpndjpjpmcehbaaTu
open Go Go.Proofs Go.Proofs.YtpndjpjpmcehbaaEv Go.Proofs.YtpndjpjpmcehbaaTk
def costE (t : Tr) (l : List TN) (c : Int) : Int := if chkC l c = 0 then trE t else chkC l c
def dist (t : Tr) (l : List TN) : Int := W ((sqr (X (AtS l (tT t)).1) (Y (AtS l (tT t)).1) (tX t) (tY t)).tdiv 10000)
def costV (t : Tr) (l : List TN) (c : Int) : Int :=
  bif (fitsS t l).1 && (decide (tC t < 0) || (tC t == c)) then (bif decide (tC t < 0) then W (dist t l + 1048576) else dist t l) else -1
def sp45 : SpecV k45 := fun v => match v with
  | (([t], tn), lv, ([c], cn), u) => (true, [
      (decide (costE t lv.1.1 c = 0), (.tup [.sl 4 0 1 1 1 false false, .sc (.int .i64 0)], (showA 0 k45 (([t], tn), lv, ([c], cn), u)).2 ++ [.fix true [.sl 5 0 1 1 1 false false], .row true I [costV t lv.1.1 c]])),
      (true, (.tup [.sc (.slice none 0 0), .sc (.int .i64 (costE t lv.1.1 c))], (showA 0 k45 (([t], tn), lv, ([c], cn), u)).2))])
  | _ => (false, [])
noncomputable def TU8 : Table := ext 45 (entV k45 sp45) TU7
end Go.Proofs.YtpndjpjpmcehbaaTu
