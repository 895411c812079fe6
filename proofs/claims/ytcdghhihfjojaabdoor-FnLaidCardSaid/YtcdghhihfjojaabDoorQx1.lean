/- Plain Lean functions with the same answers as the Go functions of this seat, and a proof for each that the Go code comes to just these answers; no condition. Written by a program of this session (the kit's printer, turned). -/
import Derived.Test.YtcdghhihfjojaabDoorQx0
namespace Go.Proofs.YtcdghhihfjojaabDoor.Q
open Go.RowKit Go.Proofs.YtcdghhihfjojaabDoorW.PrintWords Go.Proofs.YtcdghhihfjojaabDoorW.PrintLast Go.Proofs.YtcdghhihfjojaabDoorW.PrintMore Go.Proofs.YtcdghhihfjojaabDoorW.PrintFlt
attribute [local go_sem] cmp_lss cmp_leq cmp_gtr cmp_geq cmp_eql cmp_neq flt_l flt_r fgt_l fgt_r feq_l feq_r fne_l fne_r ord_lt ord_gt ord_eq ord_ne conv_int conv_flt foi_fold run_store_flt
attribute [local go_sem] max2_int min2_int max_two min_two max_three min_three max_four min_four   -- for this text's walks alone
set_option linter.unusedVariables false
set_option linter.unusedSimpArgs false

theorem eqA25 (d : Nat) (w : World) (x0 y0 : Int) (x1 y1 : Int) (x2 y2 : Int) (x3 y3 : ByteArray) (x4 y4 : ByteArray) (x5 y5 : Int) :
  (Op.equalIn (d + 2) 25 (.agg #[.int .i64 x0, .int .i64 x1, .int .i64 x2, .string x3, .string x4, .int .i64 x5]) (.agg #[.int .i64 y0, .int .i64 y1, .int .i64 y2, .string y3, .string y4, .int .i64 y5])).run Tryd.prog w = .ok (x0 == y0 && (x1 == y1 && (x2 == y2 && (x3.toList == y3.toList && (x4.toList == y4.toList && (x5 == y5)))))) w := by
 refine eqA_of Tryd.underlying25 (by kernel_rfl) ?_
 refine eqf_cons (by rfl) (by go_simp; rfl) (by go_simp; rfl) (by go_simp) ?_
 refine eqf_cons (by rfl) (by go_simp; rfl) (by go_simp; rfl) (by go_simp) ?_
 refine eqf_cons (by rfl) (by go_simp; rfl) (by go_simp; rfl) (by go_simp) ?_
 refine eqf_cons (by rfl) (by go_simp; rfl) (by go_simp; rfl) (by go_simp) ?_
 refine eqf_cons (by rfl) (by go_simp; rfl) (by go_simp; rfl) (by go_simp) ?_
 exact eqf_last (by rfl) (by go_simp; rfl) (by go_simp; rfl) (by go_simp)
end Go.Proofs.YtcdghhihfjojaabDoor.Q
