/- Plain Lean functions with the same answers as the Go functions of this seat, and a proof for each that the Go code comes to just these answers; no condition. Written by a program of this session (the kit's printer, turned). -/
import Derived.Test.YtaophbkedbphnabQx0
import Derived.Test.YtaophbkedbphnabQx10
namespace Go.Proofs.Ytaophbkedbphnab.Q
open Go.RowKit Go.Proofs.YtaophbkedbphnabW.PrintWords Go.Proofs.YtaophbkedbphnabW.PrintLast Go.Proofs.YtaophbkedbphnabW.PrintMore Go.Proofs.YtaophbkedbphnabW.PrintFlt
attribute [local go_sem] cmp_lss cmp_leq cmp_gtr cmp_geq cmp_eql cmp_neq flt_l flt_r fgt_l fgt_r feq_l feq_r fne_l fne_r ord_lt ord_gt ord_eq ord_ne conv_int foi_fold run_store_flt
attribute [local go_sem] max2_int min2_int max_two min_two max_three min_three max_four min_four   -- for this text's walks alone
set_option linter.unusedVariables false
set_option linter.unusedSimpArgs false

/-! ### spec_Turn: function 84 -/
def spec_Turn.f (a0 : Int) : Option (Nat × Nat) := (spec_l3Sine.f (wrap64 ((Int.tmod a0 36) + 9))).bind fun t166 => ((spec_l3Sine.f a0).bind fun t168 => (some (t166, t168)))
set_option maxHeartbeats 8000000 in
set_option maxRecDepth 100000 in
theorem spec_Turn.calls (a0 : Int) (r1 : Nat) (r2 : Nat) (w : World) (h : spec_Turn.f a0 = some (r1, r2)) :
  Calls Try.prog 84 #[.int .i64 a0] w fun e w' => ∃ q0_ q1_ : Nat, e = .returned (.agg #[.float .f64 (un q0_ r1), .float .f64 (un q1_ r2)]) ∧ Below w.heap.size w w' := by
 have hu36 := Try.underlying36
 have HB := Aside0.mk (Below.refl w.heap.size w)
 have H : ((spec_l3Sine.f (wrap64 ((Int.tmod a0 36) + 9))).bind fun t166 => ((spec_l3Sine.f a0).bind fun t168 => (some (t166, t168)))) = some (r1, r2) := h
 clear h
 replace H := Option.bind_eq_some_iff.mp H
 obtain ⟨t166, A20, H⟩ := H
 replace H : ((spec_l3Sine.f a0).bind fun t168 => (some (t166, t168))) = some (r1, r2) := H
 have A2 := Aside0.mk A20
 clear A20
 replace H := Option.bind_eq_some_iff.mp H
 obtain ⟨t168, A30, H⟩ := H
 replace H : (some (t166, t168)) = some (r1, r2) := H
 have A3 := Aside0.mk A30
 clear A30
 simp only [Option.some.injEq, Prod.mk.injEq] at H
 obtain ⟨rfl, rfl⟩ := H
 go_enter Try.func84, Try.ntmps84
 go_wp2_with (first | ((with_reducible refine gate_dst (N := 2) rfl ?_); refine box_event ?hg (N := 2) ?hd (cs := #[.float .f64 0, .float .f64 0]) (t := 36) ?hr ?_; (case hd => rfl); (case hg => rfl); (case hr => first | (go_simp; done) | (go_simp; rfl)); intro gb165 hg w4 hbox hb; have n0_ := Aside0.mk (below_step (by repeat (first | (with_reducible first | exact HB.out | apply below_alloc | apply pw_below_drewN | apply below_drew1) | exact HB.out)) hb); have n1_ := Aside0.mk (hbox); have n2_ := Aside0.mk ((by rw [hg]; exact (below_size (by repeat (first | (with_reducible first | exact HB.out | apply below_alloc | apply pw_below_drewN | apply below_drew1) | exact HB.out))) : w.heap.size ≤ gb165)); have n3_ := Aside0.mk ((by rw [hg]; exact (below_size (by repeat (first | (with_reducible first | exact HB.out | apply below_alloc | apply pw_below_drewN | apply below_drew1) | exact HB.out))) : w.heap.size ≤ gb165)); clear HB; have HB := n0_; have BK165 := n1_; have GW165 := n2_; have GE165 := n3_; clear n0_ n1_ n2_ n3_; clear hb hbox hg) | ((with_reducible refine gate_callee (f := 89) rfl ?_); refine goesL_ (some 6) rfl rfl Try.func89 (by kernel_rfl) rfl #[.int .i64 (wrap64 ((Int.tmod a0 36) + 9))] rfl (by (try simp only [List.map_toArray, List.map_cons, List.map_nil]); first | done | rfl | (simp only [List.length_drop, List.length_take]; rfl)) ?_; (with_reducible refine (spec_l3Sine.calls (wrap64 ((Int.tmod a0 36) + 9)) t166 _ A2.out).mono ?_); rintro e w5 ⟨pr167, rfl, hb⟩; refine ⟨_, rfl, ?_⟩; have n0_ := Aside0.mk (blk_below (g := gb165) (o := .cells #[.float .f64 0, .float .f64 0] 36 (0, 0)) (by (with_reducible repeat (first | refine blk_drewN ?_ _ | refine blk_drew ?_ | refine blk_alloc ?_ _)); exact BK165.out) hb); have n1_ := Aside0.mk (below_step (by repeat (first | (with_reducible first | exact HB.out | apply below_alloc | apply pw_below_drewN | apply below_drew1 | refine below_set ?_ GE165.out) | exact HB.out)) hb); clear BK165; clear HB; have BK165 := n0_; have HB := n1_; clear n0_ n1_; (try clear hb); (try clear hb2); (try clear hk); (try clear hi)) | ((with_reducible refine gate_callee (f := 89) rfl ?_); refine goesL_ (some 8) rfl rfl Try.func89 (by kernel_rfl) rfl #[.int .i64 a0] rfl (by (try simp only [List.map_toArray, List.map_cons, List.map_nil]); first | done | rfl | (simp only [List.length_drop, List.length_take]; rfl)) ?_; (with_reducible refine (spec_l3Sine.calls a0 t168 _ A3.out).mono ?_); rintro e w6 ⟨pr169, rfl, hb⟩; refine ⟨_, rfl, ?_⟩; have n0_ := Aside0.mk (blk_below (g := gb165) (o := .cells #[.float .f64 0, .float .f64 0] 36 (0, 0)) (by (with_reducible repeat (first | refine blk_drewN ?_ _ | refine blk_drew ?_ | refine blk_alloc ?_ _)); exact BK165.out) hb); have n1_ := Aside0.mk (below_step (by repeat (first | (with_reducible first | exact HB.out | apply below_alloc | apply pw_below_drewN | apply below_drew1 | refine below_set ?_ GE165.out) | exact HB.out)) hb); clear BK165; clear HB; have BK165 := n0_; have HB := n1_; clear n0_ n1_; (try clear hb); (try clear hb2); (try clear hk); (try clear hi); have hcz7_0 : w6.cell? ⟨gb165, 0, none⟩ = some (.float .f64 0) := (blk_cell BK165.out 0).trans rfl; have hcz7_1 : w6.cell? ⟨gb165, 1, none⟩ = some (.float .f64 0) := (blk_cell BK165.out 1).trans rfl; have hfz7_0 := blk_frozen BK165.out 0; have hfz7_1 := blk_frozen BK165.out 1))
 refine bodyPost_ret (results_cell_row rfl _ _ gb165 36 #[.float .f64 (un pr167 t166), .float .f64 (un pr169 t168)] (0, 0) _ rfl (by (with_reducible repeat (first | refine blk_drewN ?_ _ | refine blk_drew ?_ | refine blk_alloc ?_ _)); refine blk_put (cs := #[.float .f64 (un pr167 t166), .float .f64 0]) ?_ 1 _ rfl; (with_reducible repeat (first | refine blk_drewN ?_ _ | refine blk_drew ?_ | refine blk_alloc ?_ _)); refine blk_put (cs := #[.float .f64 0, .float .f64 0]) ?_ 0 _ rfl; (with_reducible repeat (first | refine blk_drewN ?_ _ | refine blk_drew ?_ | refine blk_alloc ?_ _)); exact BK165.out) Try.underlying36 rfl (by kernel_rfl)) rfl ?_
 first | (exact ⟨pr167, pr169, by first | rfl | (simp [errW_none, errW_some] <;> rfl) | (simp [*, errW_none, errW_some] <;> rfl), by repeat (first | (with_reducible first | exact HB.out | apply below_alloc | apply pw_below_drewN | apply below_drew1 | refine below_set ?_ GE165.out) | exact HB.out)⟩) | (exact ⟨⟨pr167, pr169, by first | rfl | (simp [errW_none, errW_some] <;> rfl) | (simp [*, errW_none, errW_some] <;> rfl)⟩, by repeat (first | (with_reducible first | exact HB.out | apply below_alloc | apply pw_below_drewN | apply below_drew1 | refine below_set ?_ GE165.out) | exact HB.out)⟩)

end Go.Proofs.Ytaophbkedbphnab.Q
