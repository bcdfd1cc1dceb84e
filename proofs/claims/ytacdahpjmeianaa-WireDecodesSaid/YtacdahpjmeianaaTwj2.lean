/- What is proved: the tables by which a float's bits are read. No condition. -/
import Derived.Test.YtacdahpjmeianaaTwj1
namespace Go.Proofs.YtacdahpjmeianaaWi
open Go Go.Proofs Go.Proofs.YtacdahpjmeianaaEv Go.Proofs.YtacdahpjmeianaaFl
noncomputable def J1 : Table :=
  ext 94 e94G <|
  ext 113 (entV [sS, sI, sI] (specP [sS, sI, sI] [sU] (fun v => bp (okG v.1 v.2.1 v.2.2.1)) fun v => (getN v.1 v.2.1 v.2.2.1, ()))) <|
  ext 115 (entV [sS] (specP [sS] [sI] (fun v => decide (v.1.size ≤ 7)) fun v => (numS v.1, ()))) <|
  ext 146 (entV [sU] (specP [sU] [sB] (fun v => bp (okU v.1)) fun v => (pFin v.1, ()))) <|
  ext 147 (entV [sU] (specP [sU] [sB, sI, sU] (fun v => bp (okU v.1)) fun v => (pNeg v.1, pExp v.1, pMan v.1, ()))) <|
  ext 148 (entV [sU] (specP [sU] [sI] (fun _ => true) fun v => (lenN v.1, ()))) W4
theorem J1_ok : TableOK Try.prog J1 :=
  ext_ok e94_ok <|
  ext_ok (entV_ok Try.call113 (liftV F0_ok mixed Try.func113 (show Try.f113.body = some (bodyF Try.f113) from rfl) (cut_cons (by kernel_rfl) in113 (noCuts_ok _)) (by decide) fun v h => p113 v.1 v.2.1 v.2.2.1 (bp_true.1 h))) <|
  ext_ok (entV_ok Try.call115 (liftV F0_ok mixed Try.func115 (show Try.f115.body = some (bodyF Try.f115) from rfl) (cut_cons (by kernel_rfl) in115 (noCuts_ok _)) (by decide) fun v h => p115 v.1 (of_decide_eq_true h))) <|
  ext_ok (entV_ok Try.call146 (liftV F0_ok mixed Try.func146 (show Try.f146.body = some (bodyF Try.f146) from rfl) (noCuts_ok _) (by decide) fun v h => p146 v.1 (bp_true.1 h))) <|
  ext_ok (entV_ok Try.call147 (liftV F0_ok mixed Try.func147 (show Try.f147.body = some (bodyF Try.f147) from rfl) (noCuts_ok _) (by decide) fun v h => p147 v.1 (bp_true.1 h))) <|
  ext_ok (entV_ok Try.call148 (liftV F0_ok mixed Try.func148 (show Try.f148.body = some (bodyF Try.f148) from rfl) (noCuts_ok _) (by decide) fun v _ => p148 v.1)) W4_ok
end Go.Proofs.YtacdahpjmeianaaWi
