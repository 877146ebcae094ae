/- The law DetTells: the package answers as the document does. -/
import Derived.Test.YtfkdflhijfkjoaaTells
import Derived.Test.YtfkdflhijfkjoaaRefB
namespace Go.Proofs.Ytfkdflhijfkjoaa.Pure
set_option linter.unusedVariables false
open Go.RowKit Go.Proofs.Ytfkdflhijfkjoaa.P Go.Proofs.Ytfkdflhijfkjoaa.A Go.Proofs.YtfkdflhijfkjoaaW.PrintWords Go.Proofs.YtfkdflhijfkjoaaW.PrintLast Go.Proofs.YtfkdflhijfkjoaaW.PrintMore
theorem DetTells (x0 x1 x2 x3 x4 x5 x6 x7 a1 a2 a3 a4 : Int) (h0 : (Lit.int .i64 x0).wf = true) (h1 : (Lit.int .i64 x1).wf = true) (h2 : (Lit.int .i64 x2).wf = true) (h3 : (Lit.int .i64 x3).wf = true) (u4 : (Lit.int .i64 x4).wf = true) (u5 : (Lit.int .i64 x5).wf = true) (u6 : (Lit.int .i64 x6).wf = true) (u7 : (Lit.int .i64 x7).wf = true) (w1 : (Lit.int .i64 a1).wf = true) (w2 : (Lit.int .i64 a2).wf = true) (w3 : (Lit.int .i64 a3).wf = true) (w4 : (Lit.int .i64 a4).wf = true) :
    ∃ k, mooringslaw08_DetTells.f k x0 x1 x2 x3 x4 x5 x6 x7 a1 a2 a3 a4 = some true := by
  obtain ⟨s0, s1, R, E, B, F, H⟩ := facts (x0 := x0) (x1 := x1) (x2 := x2) (x3 := x3) u4 u5 u6 u7
  refine ⟨200, ?_⟩
  obtain ⟨y, hy, _⟩ := base_ok H 199 a1
  obtain ⟨z, hz, _⟩ := block_ok H 199 a2 a4
  obtain ⟨q, hq, cq⟩ := who_ok H 198 a2 a3
  obtain ⟨t, ht, ct⟩ := which_ok H 197 a2 a3
  have ry : mooringsref08_Base.f 200 x0 x1 x2 x3 x4 x5 x6 x7 a1 = some y := by rw [← hy]; exact rbase H h0 h2 156 199 a1
  have rz : mooringsref08_Block.f 200 x0 x1 x2 x3 x4 x5 x6 x7 a2 a4 = some z := by rw [← hz]; exact rblock H h0 h2 157 199 a2 a4
  have rf : mooringsref08_Fit.f 200 x0 x1 x2 x3 x4 x5 x6 x7 = some F := rfit H h0 h2 157
  have rq : mooringsref08_Who.f 200 x0 x1 x2 x3 x4 x5 x6 x7 a2 a3 = some q := by
    unfold mooringsref08_Who.f
    refine rwho H h0 h2 cq 32 76 0 (by omega) (by omega) (fun c => ?_)
    have l := who_lin (nums H c.1) c
    omega
  have rr : mooringsref08_Ratio.f 199 x0 x1 x2 x3 x4 x5 x6 x7 = some R := rratio H 159
  have re : mooringsref08_Each.f 199 x0 x1 x2 x3 x4 x5 x6 x7 = some E := reach H h0 h2 156
  have rb : mooringsref08_Blocks.f 199 x0 x1 x2 x3 x4 x5 x6 x7 = some B := rblocks H h0 h2 156
  have rt : mooringsref08_Which.f 199 x0 x1 x2 x3 x4 x5 x6 x7 a2 a3 = some t := by
    unfold mooringsref08_Which.f
    refine rwhich H h0 h2 ct 8 123 0 (by omega) (by omega) (fun c => ?_)
    have l := which_lin (nums H c.1) c
    omega
  unfold mooringslaw08_DetTells.f mooringslaw08_awake.f
  rw [hy, ry, hz, rz, rf, H.fit, hq, rq]
  simp only [Option.bind_some, beq_self_eq_true, bne_self_eq_false, Bool.not_true, Bool.or_false, Bool.false_eq_true, if_true, if_false]
  rw [mooringslaw08_DetTells.j0, if_neg (by decide), H.ratio, rr, H.each, re, H.blocks, rb, ht, rt]
  simp only [Option.bind_some, beq_self_eq_true, if_true]
end Go.Proofs.Ytfkdflhijfkjoaa.Pure
