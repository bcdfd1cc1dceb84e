/- What is laid here: the plain functions that the law FilterUpdates reaches, further ones. Definitions alone; no condition. -/
import Derived.Test.YtpndjpjpmcehbaaTft2
namespace Go.Proofs.YtpndjpjpmcehbaaFt
open Go Go.Proofs Go.Proofs.YtpndjpjpmcehbaaEv
def farS (ax ay bx b : Int) : Int := W (W (W (ax - bx) * W (ax - bx)) + W (W (ay - b) * W (ay - b)))
def mixS (a b g : Int) : Int := W (a + dnI (W (W (b - a) * g)) 256)
def mixedS (a b g : Int) : Int := refDown (W (W (a * W (256 - g)) + W (b * g))) 256
def upI (a b : Int) : Int := (divUp a b).1
def beginS (t x y h c e : Int) : kFT.den × Int := if spotE t x y h c e ≠ 0 then (zeroFT, spotE t x y h c e) else (((0, 0, t, (x, y), (0, 0), h, 0, e, c, 1, 0), 6400, t, (x, y), h, c, e), 0)
/-- A track after a spot, where it lies near enough. -/
def updF (dn up : Int → Int → Int) (cl mx : Int → Int → Int → Int) (cd : Int → Int → Int) : kFT.den → (lt lx ly lh le t x y h c e a pl sp : Int) → kFT.den
  | ((i, s, tp, (px, py), (u, v), _, _, r, co, n, _), sl, _), lt, lx, ly, lh, le, t, x, y, h, c, e, a, pl, sp =>
    ((i, s, tp, (mx px x pl, mx py y pl), (mx u (dn (W (16 * W (x - lx))) (W (t - lt))) sp, mx v (dn (W (16 * W (y - ly))) (W (t - lt))) sp), h, cl (dn (W (16 * W (h - lh))) (W (t - lt))) (-3200) 3200,
      W (up (W (W (W (256 - pl) * r) + W (pl * e))) 256 + 2), cd c co, W (n + 1), 0), W (up (W (W (W (256 - sp) * sl) + W (sp * W (W (up (W (16 * W (e + le))) (W (t - lt)) + W (W (16 * a) * W (t - lt))) + 2)))) 256 + 2), t, (x, y), h, c, e)
def updG (pr : kFT.den → Int → Int → kFT.den × Int) (dn up : Int → Int → Int) (cl mx : Int → Int → Int → Int) (cd : Int → Int → Int) (f : kFT.den) (lt lx ly lh le t x y h c e a pl sp : Int) : kFT.den × Int :=
  if checkE f ≠ 0 then (zeroFT, checkE f) else if spotE t x y h c e ≠ 0 then (zeroFT, spotE t x y h c e) else if pl < 0 ∨ 256 < pl ∨ sp < 0 ∨ 256 < sp then (zeroFT, 4) else if W (t - lt) ≤ 0 then (zeroFT, 12) else
  if (pr f t a).2 ≠ 0 then (zeroFT, (pr f t a).2) else
  if farS (pr f t a).1.1.2.2.2.1.1 (pr f t a).1.1.2.2.2.1.2 x y > W (W ((pr f t a).1.1.2.2.2.2.2.2.2.1 + e) * W ((pr f t a).1.1.2.2.2.2.2.2.2.1 + e)) then (zeroFT, 8) else
  if checkE (updF dn up cl mx cd (pr f t a).1 lt lx ly lh le t x y h c e a pl sp) ≠ 0 then (zeroFT, 8) else (updF dn up cl mx cd (pr f t a).1 lt lx ly lh le t x y h c e a pl sp, 0)
def cdI (c co : Int) : Int := if c ≥ 0 then c else co
def cdR (c co : Int) : Int := if c ≠ -1 then c else co
def updI := updG predictS dnI upI betweenS mixS cdI
def updR := updG predictedS refDown refUp clampS mixedS cdR
def T6 : Table :=
  ext 37 (entK [sSpot] [sFT, sI] (fun _ => true) fun v => ((beginS v.1.1 v.1.2.1.1 v.1.2.1.2 v.1.2.2.1 v.1.2.2.2.1 v.1.2.2.2.2).1, (beginS v.1.1 v.1.2.1.1 v.1.2.1.2 v.1.2.2.1 v.1.2.2.2.1 v.1.2.2.2.2).2, ())) <|
  ext 49 (entK [sP, sP] [sI] (fun _ => true) fun v => (farS v.1.1 v.1.2 v.2.1.1 v.2.1.2, ())) <|
  ext 81 (entK [sP, sP] [sI] (fun _ => true) fun v => (farS v.1.1 v.1.2 v.2.1.1 v.2.1.2, ())) <|
  ext 82 (entK [sI, sI, sI] [sI] (fun _ => true) fun v => (mixS v.1 v.2.1 v.2.2.1, ())) <|
  ext 83 (entK [sI, sI, sI] [sI] (fun _ => true) fun v => (mixedS v.1 v.2.1 v.2.2.1, ())) T5
def updA (g : kFT.den → Int → Int → Int → Int → Int → Int → Int → Int → Int → Int → Int → Int → Int → Int → kFT.den × Int) (v : dens [sFT, sSpot, sI, sI, sI]) : kFT.den × Int :=
  g v.1 v.1.2.2.1 v.1.2.2.2.1.1 v.1.2.2.2.1.2 v.1.2.2.2.2.1 v.1.2.2.2.2.2.2 v.2.1.1 v.2.1.2.1.1 v.2.1.2.1.2 v.2.1.2.2.1 v.2.1.2.2.2.1 v.2.1.2.2.2.2 v.2.2.1 v.2.2.2.1 v.2.2.2.2.1
def T7 : Table :=
  ext 38 (entK [sFT, sSpot, sI, sI, sI] [sFT, sI] (fun _ => true) fun v => ((updA updI v).1, (updA updI v).2, ())) <|
  ext 39 (entK [sFT, sSpot, sI, sI, sI] [sFT, sI] (fun _ => true) fun v => ((updA updR v).1, (updA updR v).2, ())) T6
end Go.Proofs.YtpndjpjpmcehbaaFt
