import Derived.Test.YtmehfnikecmiiaaZModuleBackUpto3
set_option linter.unusedVariables false
set_option linter.unusedSimpArgs false
namespace Go.Proofs.Ytmehfnikecmiiaa.X
open Go.RowKit Go.Proofs.YtmehfnikecmiiaaW.PrintWords Go.Proofs.YtmehfnikecmiiaaW.PrintLast Go.Proofs.YtmehfnikecmiiaaW.PrintMore Go.Proofs.YtmehfnikecmiiaaW
attribute [local go_sem] qBF qBE qBY qBX qA9 qA8 qBI qBH
theorem eqA52 (d:Nat) (w:World) (x0 y0:Int) (x1 y1:Int) (x2 y2:Int) (x3 y3:ByteArray) :
  (Op.equalIn (d+2) 52 (.agg #[.int .i64 x0,.int .i64 x1,.int .i64 x2,.string x3]) (.agg #[.int .i64 y0,.int .i64 y1,.int .i64 y2,.string y3])).run Try.prog w=.ok (x0 == y0 && (x1 == y1 && (x2 == y2 && (x3.toList == y3.toList)))) w:=by
 refine eqA_of Try.underlying52 (by kernel_rfl) ?_
 refine eqf_cons (by rfl) (by go_simp;rfl) (by go_simp;rfl) (by go_simp) ?_
 refine eqf_cons (by rfl) (by go_simp;rfl) (by go_simp;rfl) (by go_simp) ?_
 refine eqf_cons (by rfl) (by go_simp;rfl) (by go_simp;rfl) (by go_simp) ?_
 exact eqf_last (by rfl) (by go_simp;rfl) (by go_simp;rfl) (by go_simp)
theorem eqA56 (d:Nat) (w:World) (x0 y0:ByteArray) (x1 y1:Int) :
  (Op.equalIn (d+2) 56 (.agg #[.string x0,.int .i64 x1]) (.agg #[.string y0,.int .i64 y1])).run Try.prog w=.ok (x0.toList == y0.toList && (x1 == y1)) w:=by
 refine eqA_of Try.underlying56 (by kernel_rfl) ?_
 refine eqf_cons (by rfl) (by go_simp;rfl) (by go_simp;rfl) (by go_simp) ?_
 exact eqf_last (by rfl) (by go_simp;rfl) (by go_simp;rfl) (by go_simp)
end Go.Proofs.Ytmehfnikecmiiaa.X
