/- Plain Lean functions with the same answers as the Go functions of this seat, and a proof for each that the Go code comes to just these answers; no condition. Written by a program of this session (the kit's printer, turned). -/
import Derived.Test.YtaophbkedbphnabQx0
import Derived.Test.YtaophbkedbphnabQx2
import Derived.Test.YtaophbkedbphnabQx12
namespace Go.Proofs.Ytaophbkedbphnab.Q
open Go.RowKit Go.Proofs.YtaophbkedbphnabW.PrintWords Go.Proofs.YtaophbkedbphnabW.PrintLast Go.Proofs.YtaophbkedbphnabW.PrintMore Go.Proofs.YtaophbkedbphnabW.PrintFlt
attribute [local go_sem] cmp_lss cmp_leq cmp_gtr cmp_geq cmp_eql cmp_neq flt_l flt_r fgt_l fgt_r feq_l feq_r fne_l fne_r ord_lt ord_gt ord_eq ord_ne conv_int foi_fold run_store_flt
attribute [local go_sem] max2_int min2_int max_two min_two max_three min_three max_four min_four   -- for this text's walks alone
set_option linter.unusedVariables false
set_option linter.unusedSimpArgs false

/-! ### spec_DrawAddPair: function 48 -/
def spec_DrawAddPair.f (k : Nat) (l0 : List Int) : Option (Nat × Nat × Nat × Nat) := (spec_l1Open.f l0).bind fun bt187 => ((spec_l1Rd_pair.f k bt187.1 bt187.2).bind fun bt190 => ((spec_l1Rd_pair.f k bt187.1 bt190.2.2).bind fun bt196 => (some (bt190.1, bt190.2.1, bt196.1, bt196.2.1))))
theorem spec_DrawAddPair.mono : ∀ a0 k, LeO (spec_DrawAddPair.f k a0) (spec_DrawAddPair.f (k + 1) a0) := by
 intro a0 k
 unfold spec_DrawAddPair.f
 repeat' first
   | (with_reducible exact spec_l1Rd_pair.mono _ _ _)
   | (with_reducible exact LeO.refl _)
   | (with_reducible exact LeO.none _)
   | (with_reducible refine LeO.ite ?_ ?_)
   | (with_reducible refine LeO.bind ?_ (fun _ => ?_))
   | exact spec_l1Rd_pair.mono _ _ _
   | exact LeO.none _
   | refine LeO.ite ?_ ?_
   | refine LeO.bind ?_ (fun _ => ?_)
set_option maxHeartbeats 8000000 in
set_option maxRecDepth 100000 in
theorem spec_DrawAddPair.calls (k : Nat) (A0 : Option Addr) (c0 : Nat) (l0 : List Int) (r1 : Nat) (r2 : Nat) (r3 : Nat) (r4 : Nat) (w : World) (hr0 : Kd.C (Kd.int .u8) w A0 l0.length l0) (hc0 : l0.length ≤ c0) (h : spec_DrawAddPair.f k l0 = some (r1, r2, r3, r4)) :
  Calls Try.prog 48 #[.slice A0 l0.length c0] w fun e w' => ∃ q0_ q1_ q2_ q3_ : Nat, e = .returned (.tuple #[.agg #[.float .f64 (un q0_ r1), .float .f64 (un q1_ r2)], .agg #[.float .f64 (un q2_ r3), .float .f64 (un q3_ r4)]]) ∧ Below w.heap.size w w' := by
 have hu36 := Try.underlying36
 have HR0 := Aside0.mk hr0
 have HC0 := Aside0.mk hc0
 clear hr0 hc0
 have HB := Aside0.mk (Below.refl w.heap.size w)
 have H : ((spec_l1Open.f l0).bind fun bt187 => ((spec_l1Rd_pair.f k bt187.1 bt187.2).bind fun bt190 => ((spec_l1Rd_pair.f k bt187.1 bt190.2.2).bind fun bt196 => (some (bt190.1, bt190.2.1, bt196.1, bt196.2.1))))) = some (r1, r2, r3, r4) := h
 clear h
 replace H := Option.bind_eq_some_iff.mp H
 obtain ⟨⟨t187, t188⟩, A20, H⟩ := H
 replace H : ((spec_l1Rd_pair.f k t187 t188).bind fun bt190 => ((spec_l1Rd_pair.f k t187 bt190.2.2).bind fun bt196 => (some (bt190.1, bt190.2.1, bt196.1, bt196.2.1)))) = some (r1, r2, r3, r4) := H
 have A2 := Aside0.mk A20
 clear A20
 replace H := Option.bind_eq_some_iff.mp H
 obtain ⟨⟨t190, t192, t194⟩, A30, H⟩ := H
 replace H : ((spec_l1Rd_pair.f k t187 t194).bind fun bt196 => (some (t190, t192, bt196.1, bt196.2.1))) = some (r1, r2, r3, r4) := H
 have A3 := Aside0.mk A30
 clear A30
 replace H := Option.bind_eq_some_iff.mp H
 obtain ⟨⟨t196, t198, t200⟩, A40, H⟩ := H
 replace H : (some (t190, t192, t196, t198)) = some (r1, r2, r3, r4) := H
 have A4 := Aside0.mk A40
 clear A40
 simp only [Option.some.injEq, Prod.mk.injEq] at H
 obtain ⟨rfl, rfl, rfl, rfl⟩ := H
 go_enter Try.func48, Try.ntmps48
 try go_wp2_with (first | ((with_reducible refine gate_dst (N := 2) rfl ?_); refine box_event ?hg (N := 2) ?hd (cs := #[.float .f64 0, .float .f64 0]) (t := 36) ?hr ?_; (case hd => rfl); (case hg => rfl); (case hr => first | (go_simp; done) | (go_simp; rfl)); intro gb185 hg w5 hbox hb; have n0_ := Aside0.mk (below_step (by repeat (first | (with_reducible first | exact HB.out | apply below_alloc | apply pw_below_drewN | apply below_drew1) | exact HB.out)) hb); have n1_ := Aside0.mk (hbox); have n2_ := Aside0.mk ((by rw [hg]; exact (below_size (by repeat (first | (with_reducible first | exact HB.out | apply below_alloc | apply pw_below_drewN | apply below_drew1) | exact HB.out))) : w.heap.size ≤ gb185)); have n3_ := Aside0.mk ((by rw [hg]; exact (below_size (by repeat (first | (with_reducible first | exact HB.out | apply below_alloc | apply pw_below_drewN | apply below_drew1) | exact HB.out))) : w.heap.size ≤ gb185)); clear HB; have HB := n0_; have BK185 := n1_; have GW185 := n2_; have GE185 := n3_; clear n0_ n1_ n2_ n3_; clear hb hbox hg) | ((with_reducible refine gate_dst (N := 3) rfl ?_); refine box_event ?hg (N := 3) ?hd (cs := #[.float .f64 0, .float .f64 0]) (t := 36) ?hr ?_; (case hd => rfl); (case hg => rfl); (case hr => first | (go_simp; done) | (go_simp; rfl)); intro gb186 hg w6 hbox hb; have n0_ := Aside0.mk (blk_below (g := gb185) (o := .cells #[.float .f64 0, .float .f64 0] 36 (0, 0)) (by (with_reducible repeat (first | refine blk_drewN ?_ _ | refine blk_drew ?_ | refine blk_alloc ?_ _)); exact BK185.out) hb); have n1_ := Aside0.mk (below_step (by repeat (first | (with_reducible first | exact HB.out | apply below_alloc | apply pw_below_drewN | apply below_drew1 | refine below_set ?_ GE185.out) | exact HB.out)) hb); have n2_ := Aside0.mk (hbox); have n3_ := Aside0.mk ((by rw [hg]; exact (below_size (by repeat (first | (with_reducible first | exact HB.out | apply below_alloc | apply pw_below_drewN | apply below_drew1 | refine below_set ?_ GE185.out) | exact HB.out))) : w.heap.size ≤ gb186)); have n4_ := Aside0.mk ((by rw [hg]; exact (below_size (by repeat (first | (with_reducible first | exact HB.out | apply below_alloc | apply pw_below_drewN | apply below_drew1 | refine below_set ?_ GE185.out) | exact HB.out))) : w.heap.size ≤ gb186)); have n5_ := Aside0.mk ((by rw [hg]; exact Nat.ne_of_lt (blk_lt (g := gb185) (o := .cells #[.float .f64 0, .float .f64 0] 36 (0, 0)) (by (with_reducible repeat (first | refine blk_drewN ?_ _ | refine blk_drew ?_ | refine blk_alloc ?_ _)); exact BK185.out)) : gb185 ≠ gb186)); have n6_ := Aside0.mk ((by rw [hg]; exact Nat.ne_of_gt (blk_lt (g := gb185) (o := .cells #[.float .f64 0, .float .f64 0] 36 (0, 0)) (by (with_reducible repeat (first | refine blk_drewN ?_ _ | refine blk_drew ?_ | refine blk_alloc ?_ _)); exact BK185.out)) : gb186 ≠ gb185)); clear BK185; clear HB; have BK185 := n0_; have HB := n1_; have BK186 := n2_; have GW186 := n3_; have GE186 := n4_; have NB185_186 := n5_; have NB186_185 := n6_; clear n0_ n1_ n2_ n3_ n4_ n5_ n6_; clear hb hbox hg) | ((with_reducible refine gate_callee (f := 50) rfl ?_); refine goesL_ (some 7) rfl rfl Try.func50 (by kernel_rfl) rfl #[.slice A0 l0.length c0] rfl (by (try simp only [List.map_toArray, List.map_cons, List.map_nil]); first | done | rfl | (simp only [List.length_drop, List.length_take]; rfl)) ?_; (with_reducible refine (spec_l1Open.calls _ _ l0 t187 t188 w _ ?side1 ?side2 ?side3 A2.out).mono ?_); (case side1 => repeat (first | (with_reducible first | exact HB.out | apply below_alloc | apply pw_below_drewN | apply below_drew1 | refine below_set ?_ GE185.out | refine below_set ?_ GE186.out) | exact HB.out)); (case side2 => exact HR0.out); (case side3 => exact HC0.out); rintro e w7 ⟨g189, rfl, hi, hb, hb2⟩; refine ⟨_, rfl, ?_⟩; have n0_ := Aside0.mk (blk_below (g := gb185) (o := .cells #[.float .f64 0, .float .f64 0] 36 (0, 0)) (by (with_reducible repeat (first | refine blk_drewN ?_ _ | refine blk_drew ?_ | refine blk_alloc ?_ _)); exact BK185.out) hb2); have n1_ := Aside0.mk (blk_below (g := gb186) (o := .cells #[.float .f64 0, .float .f64 0] 36 (0, 0)) (by (with_reducible repeat (first | refine blk_drewN ?_ _ | refine blk_drew ?_ | refine blk_alloc ?_ _)); exact BK186.out) hb2); have n2_ := Aside0.mk (hb); have n3_ := Aside0.mk (hi); have n4_ := Aside0.mk (IsS89.ne_blk hi (blk_below (g := gb185) (o := .cells #[.float .f64 0, .float .f64 0] 36 (0, 0)) (by (with_reducible repeat (first | refine blk_drewN ?_ _ | refine blk_drew ?_ | refine blk_alloc ?_ _)); exact BK185.out) hb2) (by decide)); have n5_ := Aside0.mk (Ne.symm (IsS89.ne_blk hi (blk_below (g := gb185) (o := .cells #[.float .f64 0, .float .f64 0] 36 (0, 0)) (by (with_reducible repeat (first | refine blk_drewN ?_ _ | refine blk_drew ?_ | refine blk_alloc ?_ _)); exact BK185.out) hb2) (by decide))); have n6_ := Aside0.mk (IsS89.ne_blk hi (blk_below (g := gb186) (o := .cells #[.float .f64 0, .float .f64 0] 36 (0, 0)) (by (with_reducible repeat (first | refine blk_drewN ?_ _ | refine blk_drew ?_ | refine blk_alloc ?_ _)); exact BK186.out) hb2) (by decide)); have n7_ := Aside0.mk (Ne.symm (IsS89.ne_blk hi (blk_below (g := gb186) (o := .cells #[.float .f64 0, .float .f64 0] 36 (0, 0)) (by (with_reducible repeat (first | refine blk_drewN ?_ _ | refine blk_drew ?_ | refine blk_alloc ?_ _)); exact BK186.out) hb2) (by decide))); clear BK185; clear BK186; clear HB; have BK185 := n0_; have BK186 := n1_; have HB := n2_; have HI189 := n3_; have NB189_185 := n4_; have NB185_189 := n5_; have NB189_186 := n6_; have NB186_189 := n7_; clear n0_ n1_ n2_ n3_ n4_ n5_ n6_ n7_; (try clear hb); (try clear hb2); (try clear hk); (try clear hi)) | ((with_reducible refine gate_callee (f := 74) rfl ?_); refine goesL_ (some 9) rfl rfl Try.func74 (by kernel_rfl) rfl #[.pointer (some ⟨g189, 0, none⟩)] rfl (by (try simp only [List.map_toArray, List.map_cons, List.map_nil]); first | done | rfl | (simp only [List.length_drop, List.length_take]; rfl)) ?_; (with_reducible refine (spec_l1Rd_pair.calls k g189 t187 t188 t190 t192 t194 w _ ?side1 ?side2 A3.out).mono ?_); (case side1 => repeat (first | (with_reducible first | exact HI189.out | apply IsS89.alloc | apply IsS89.drewN | apply IsS89.drew | apply IsS89.set_1 | apply IsS89.far (hne := NB189_185.out) | apply IsS89.far (hne := NB189_186.out)) | exact HI189.out)); (case side2 => repeat (first | (with_reducible first | exact HB.out | apply below_alloc | apply pw_below_drewN | apply below_drew1 | refine below_set ?_ (IsS89.ge HI189.out) | refine below_set ?_ GE185.out | refine below_set ?_ GE186.out) | exact HB.out)); rintro e w8 ⟨pr191, pr193, rfl, hi, hb, hk⟩; refine ⟨_, rfl, ?_⟩; have n0_ := Aside0.mk (KeepBut.blk hk (g' := gb185) (o := .cells #[.float .f64 0, .float .f64 0] 36 (0, 0)) (by (with_reducible repeat (first | refine blk_drewN ?_ _ | refine blk_drew ?_ | refine blk_alloc ?_ _)); exact BK185.out) NB185_189.out (by simp)); have n1_ := Aside0.mk (KeepBut.blk hk (g' := gb186) (o := .cells #[.float .f64 0, .float .f64 0] 36 (0, 0)) (by (with_reducible repeat (first | refine blk_drewN ?_ _ | refine blk_drew ?_ | refine blk_alloc ?_ _)); exact BK186.out) NB186_189.out (by simp)); have n2_ := Aside0.mk (hb); have n3_ := Aside0.mk (hi); clear BK185; clear BK186; clear HB; clear HI189; have BK185 := n0_; have BK186 := n1_; have HB := n2_; have HI189 := n3_; clear n0_ n1_ n2_ n3_; (try clear hb); (try clear hb2); (try clear hk); (try clear hi)) | ((with_reducible refine gate_dst (N := 5) rfl ?_); refine box_event ?hg (N := 5) ?hd (cs := #[.float .f64 0, .float .f64 0]) (t := 36) ?hr ?_; (case hd => rfl); (case hg => rfl); (case hr => first | (go_simp; done) | (go_simp; rfl)); intro gb195 hg w9 hbox hb; have n0_ := Aside0.mk (blk_below (g := gb185) (o := .cells #[.float .f64 0, .float .f64 0] 36 (0, 0)) (by (with_reducible repeat (first | refine blk_drewN ?_ _ | refine blk_drew ?_ | refine blk_alloc ?_ _)); exact BK185.out) hb); have n1_ := Aside0.mk (blk_below (g := gb186) (o := .cells #[.float .f64 0, .float .f64 0] 36 (0, 0)) (by (with_reducible repeat (first | refine blk_drewN ?_ _ | refine blk_drew ?_ | refine blk_alloc ?_ _)); exact BK186.out) hb); have n2_ := Aside0.mk (IsS89.below (by repeat (first | (with_reducible first | exact HI189.out | apply IsS89.alloc | apply IsS89.drewN | apply IsS89.drew | apply IsS89.set_1 | apply IsS89.far (hne := NB189_185.out) | apply IsS89.far (hne := NB189_186.out)) | exact HI189.out)) hb); have n3_ := Aside0.mk (below_step (by repeat (first | (with_reducible first | exact HB.out | apply below_alloc | apply pw_below_drewN | apply below_drew1 | refine below_set ?_ (IsS89.ge HI189.out) | refine below_set ?_ GE185.out | refine below_set ?_ GE186.out) | exact HB.out)) hb); have n4_ := Aside0.mk (hbox); have n5_ := Aside0.mk ((by rw [hg]; exact (below_size (by repeat (first | (with_reducible first | exact HB.out | apply below_alloc | apply pw_below_drewN | apply below_drew1 | refine below_set ?_ (IsS89.ge HI189.out) | refine below_set ?_ GE185.out | refine below_set ?_ GE186.out) | exact HB.out))) : w.heap.size ≤ gb195)); have n6_ := Aside0.mk ((by rw [hg]; exact (below_size (by repeat (first | (with_reducible first | exact HB.out | apply below_alloc | apply pw_below_drewN | apply below_drew1 | refine below_set ?_ (IsS89.ge HI189.out) | refine below_set ?_ GE185.out | refine below_set ?_ GE186.out) | exact HB.out))) : w.heap.size ≤ gb195)); have n7_ := Aside0.mk ((by rw [hg]; exact Nat.ne_of_lt (blk_lt (g := gb185) (o := .cells #[.float .f64 0, .float .f64 0] 36 (0, 0)) (by (with_reducible repeat (first | refine blk_drewN ?_ _ | refine blk_drew ?_ | refine blk_alloc ?_ _)); exact BK185.out)) : gb185 ≠ gb195)); have n8_ := Aside0.mk ((by rw [hg]; exact Nat.ne_of_gt (blk_lt (g := gb185) (o := .cells #[.float .f64 0, .float .f64 0] 36 (0, 0)) (by (with_reducible repeat (first | refine blk_drewN ?_ _ | refine blk_drew ?_ | refine blk_alloc ?_ _)); exact BK185.out)) : gb195 ≠ gb185)); have n9_ := Aside0.mk ((by rw [hg]; exact Nat.ne_of_lt (blk_lt (g := gb186) (o := .cells #[.float .f64 0, .float .f64 0] 36 (0, 0)) (by (with_reducible repeat (first | refine blk_drewN ?_ _ | refine blk_drew ?_ | refine blk_alloc ?_ _)); exact BK186.out)) : gb186 ≠ gb195)); have n10_ := Aside0.mk ((by rw [hg]; exact Nat.ne_of_gt (blk_lt (g := gb186) (o := .cells #[.float .f64 0, .float .f64 0] 36 (0, 0)) (by (with_reducible repeat (first | refine blk_drewN ?_ _ | refine blk_drew ?_ | refine blk_alloc ?_ _)); exact BK186.out)) : gb195 ≠ gb186)); have n11_ := Aside0.mk ((by rw [hg]; exact Nat.ne_of_lt (IsS89.lt (show IsS89 w _ g189 t187 t194 from by repeat (first | (with_reducible first | exact HI189.out | apply IsS89.alloc | apply IsS89.drewN | apply IsS89.drew | apply IsS89.set_1 | apply IsS89.far (hne := NB189_185.out) | apply IsS89.far (hne := NB189_186.out)) | exact HI189.out))) : g189 ≠ gb195)); have n12_ := Aside0.mk ((by rw [hg]; exact Nat.ne_of_gt (IsS89.lt (show IsS89 w _ g189 t187 t194 from by repeat (first | (with_reducible first | exact HI189.out | apply IsS89.alloc | apply IsS89.drewN | apply IsS89.drew | apply IsS89.set_1 | apply IsS89.far (hne := NB189_185.out) | apply IsS89.far (hne := NB189_186.out)) | exact HI189.out))) : gb195 ≠ g189)); clear BK185; clear BK186; clear HI189; clear HB; have BK185 := n0_; have BK186 := n1_; have HI189 := n2_; have HB := n3_; have BK195 := n4_; have GW195 := n5_; have GE195 := n6_; have NB185_195 := n7_; have NB195_185 := n8_; have NB186_195 := n9_; have NB195_186 := n10_; have NB189_195 := n11_; have NB195_189 := n12_; clear n0_ n1_ n2_ n3_ n4_ n5_ n6_ n7_ n8_ n9_ n10_ n11_ n12_; clear hb hbox hg; have hnb10 := NB195_185.out; have hnc10 := NB185_195.out; have hnb11 := NB195_186.out; have hnc11 := NB186_195.out; have hnb12 := NB195_189.out; have hnc12 := NB189_195.out; have hcz13_0 : w9.cell? ⟨gb195, 0, none⟩ = some (.float .f64 0) := (blk_cell BK195.out 0).trans rfl; have hcz13_1 : w9.cell? ⟨gb195, 1, none⟩ = some (.float .f64 0) := (blk_cell BK195.out 1).trans rfl; have hfz13_0 := blk_frozen BK195.out 0; have hfz13_1 := blk_frozen BK195.out 1))
 have n0_ : Aside0 (((w9.setCell ⟨gb195, 0, none⟩ (.float .f64 (un pr191 t190))).setCell ⟨gb195, 1, none⟩ (.float .f64 (un pr193 t192))).heap[gb185]? = some (.cells #[.float .f64 0, .float .f64 0] 36 (0, 0))) := ⟨by (with_reducible repeat (first | refine blk_drewN ?_ _ | refine blk_drew ?_ | refine blk_alloc ?_ _)); refine blk_far ?_ NB185_195.out _; (with_reducible repeat (first | refine blk_drewN ?_ _ | refine blk_drew ?_ | refine blk_alloc ?_ _)); refine blk_far ?_ NB185_195.out _; (with_reducible repeat (first | refine blk_drewN ?_ _ | refine blk_drew ?_ | refine blk_alloc ?_ _)); exact BK185.out⟩
 have n1_ : Aside0 (((w9.setCell ⟨gb195, 0, none⟩ (.float .f64 (un pr191 t190))).setCell ⟨gb195, 1, none⟩ (.float .f64 (un pr193 t192))).heap[gb186]? = some (.cells #[.float .f64 0, .float .f64 0] 36 (0, 0))) := ⟨by (with_reducible repeat (first | refine blk_drewN ?_ _ | refine blk_drew ?_ | refine blk_alloc ?_ _)); refine blk_far ?_ NB186_195.out _; (with_reducible repeat (first | refine blk_drewN ?_ _ | refine blk_drew ?_ | refine blk_alloc ?_ _)); refine blk_far ?_ NB186_195.out _; (with_reducible repeat (first | refine blk_drewN ?_ _ | refine blk_drew ?_ | refine blk_alloc ?_ _)); exact BK186.out⟩
 have n2_ : Aside0 (((w9.setCell ⟨gb195, 0, none⟩ (.float .f64 (un pr191 t190))).setCell ⟨gb195, 1, none⟩ (.float .f64 (un pr193 t192))).heap[gb195]? = some (.cells #[.float .f64 (un pr191 t190), .float .f64 (un pr193 t192)] 36 (0, 0))) := ⟨by (with_reducible repeat (first | refine blk_drewN ?_ _ | refine blk_drew ?_ | refine blk_alloc ?_ _)); refine blk_put (cs := #[.float .f64 (un pr191 t190), .float .f64 0]) ?_ 1 _ rfl; (with_reducible repeat (first | refine blk_drewN ?_ _ | refine blk_drew ?_ | refine blk_alloc ?_ _)); refine blk_put (cs := #[.float .f64 0, .float .f64 0]) ?_ 0 _ rfl; (with_reducible repeat (first | refine blk_drewN ?_ _ | refine blk_drew ?_ | refine blk_alloc ?_ _)); exact BK195.out⟩
 have n3_ : Aside0 (IsS89 w ((w9.setCell ⟨gb195, 0, none⟩ (.float .f64 (un pr191 t190))).setCell ⟨gb195, 1, none⟩ (.float .f64 (un pr193 t192))) g189 t187 t194) := ⟨by repeat (first | (with_reducible first | exact HI189.out | apply IsS89.alloc | apply IsS89.drewN | apply IsS89.drew | apply IsS89.set_1 | apply IsS89.far (hne := NB189_185.out) | apply IsS89.far (hne := NB189_186.out) | apply IsS89.far (hne := NB189_195.out)) | exact HI189.out)⟩
 have n4_ : Aside0 (Below w.heap.size w ((w9.setCell ⟨gb195, 0, none⟩ (.float .f64 (un pr191 t190))).setCell ⟨gb195, 1, none⟩ (.float .f64 (un pr193 t192)))) := ⟨by repeat (first | (with_reducible first | exact HB.out | apply below_alloc | apply pw_below_drewN | apply below_drew1 | refine below_set ?_ (IsS89.ge HI189.out) | refine below_set ?_ GE185.out | refine below_set ?_ GE186.out | refine below_set ?_ GE195.out) | exact HB.out)⟩
 (try clear BK185)
 (try clear BK186)
 (try clear BK195)
 (try clear HI189)
 (try clear HB)
 generalize ((w9.setCell ⟨gb195, 0, none⟩ (.float .f64 (un pr191 t190))).setCell ⟨gb195, 1, none⟩ (.float .f64 (un pr193 t192))) = w14 at n0_ n1_ n2_ n3_ n4_ ⊢
 have BK185 := n0_
 have BK186 := n1_
 have BK195 := n2_
 have HI189 := n3_
 have HB := n4_
 clear n0_ n1_ n2_ n3_ n4_
 have n0_ := Aside0.mk (blk_drew BK185.out)
 have n1_ := Aside0.mk (blk_drew BK186.out)
 have n2_ := Aside0.mk (blk_drew BK195.out)
 have n3_ := Aside0.mk (IsS89.drew HI189.out)
 have n4_ := Aside0.mk (below_drew1 HB.out)
 clear BK185
 clear BK186
 clear BK195
 clear HI189
 clear HB
 have BK185 := n0_
 have BK186 := n1_
 have BK195 := n2_
 have HI189 := n3_
 have HB := n4_
 clear n0_ n1_ n2_ n3_ n4_
 refine start_ (n := 5) (S := fun w' => w'.cell? ⟨gb195, 0, none⟩ = some (.float .f64 (un pr191 t190)) ∧ w'.cell? ⟨gb195, 1, none⟩ = some (.float .f64 (un pr193 t192))) (ds := []) #[false, false, false, false, false] (by kernel_rfl) rfl rfl ⟨(blk_cell BK195.out 0).trans rfl, (blk_cell BK195.out 1).trans rfl⟩ (fun hHeld => ?_)
 generalize w14.drew = w15 at BK185 BK186 BK195 HI189 HB hHeld ⊢
 refine pure_ (i := 1) (N := some 11) (v := ?_) (a' := ?_) #[false, true, false, false, false] rfl rfl (by kernel_rfl) (fun _ _ _ h => h) (Or.inl ⟨by rfl, ?_⟩) ?_ ?_
 rotate_left
 ·intro w'
  go_simp
  with_reducible rfl
 rotate_left
 ·simp only [Act.put, sqA, sqZ, sqS, i64_w, i32_w]
  rfl
 refine take_ (i := 0) (N := some 10) (v := ?_) (a' := ?_) #[true, true, false, false, false] rfl rfl (by kernel_rfl) (fun _ _ _ h => h) (Or.inl ⟨by rfl, ?_⟩) hHeld ?_ ?_
 rotate_left
 ·rintro w' ⟨s0, s1⟩
  go_simp
  with_reducible rfl
 rotate_left
 ·simp only [Act.put, sqA, sqZ, sqS, i64_w, i32_w]
  rfl
 refine one_ (i := 2) (N := some 12) #[true, true, true, false, false] rfl rfl (by kernel_rfl) (by decide) (fun K hK => ?_)
 refine goes_ Try.func74 (by kernel_rfl) rfl #[.pointer (some ⟨g189, 0, none⟩)] (by rfl) rfl rfl (by (try simp only [List.map_toArray, List.map_cons, List.map_nil]); first | done | rfl | (simp only [List.length_drop, List.length_take]; rfl)) ?_
 with_reducible refine (spec_l1Rd_pair.calls k g189 t187 t194 t196 t198 t200 w _ ?side1 ?side2 A4.out).mono ?_
 (case side1 => repeat (first | (with_reducible first | exact HI189.out | apply IsS89.alloc | apply IsS89.drewN | apply IsS89.drew | apply IsS89.set_1 | apply IsS89.far (hne := NB189_185.out) | apply IsS89.far (hne := NB189_186.out) | apply IsS89.far (hne := NB189_195.out)) | exact HI189.out))
 (case side2 => repeat (first | (with_reducible first | exact HB.out | apply below_alloc | apply pw_below_drewN | apply below_drew1 | refine below_set ?_ (IsS89.ge HI189.out) | refine below_set ?_ GE185.out | refine below_set ?_ GE186.out | refine below_set ?_ GE195.out) | exact HB.out))
 rintro e w16 ⟨pr197, pr199, rfl, hi, hb, hk⟩
 refine ⟨_, rfl, ?_⟩
 have n0_ := Aside0.mk (KeepBut.blk hk (g' := gb185) (o := .cells #[.float .f64 0, .float .f64 0] 36 (0, 0)) (by (with_reducible repeat (first | refine blk_drewN ?_ _ | refine blk_drew ?_ | refine blk_alloc ?_ _)); exact BK185.out) NB185_189.out (by simp))
 have n1_ := Aside0.mk (KeepBut.blk hk (g' := gb186) (o := .cells #[.float .f64 0, .float .f64 0] 36 (0, 0)) (by (with_reducible repeat (first | refine blk_drewN ?_ _ | refine blk_drew ?_ | refine blk_alloc ?_ _)); exact BK186.out) NB186_189.out (by simp))
 have n2_ := Aside0.mk (KeepBut.blk hk (g' := gb195) (o := .cells #[.float .f64 (un pr191 t190), .float .f64 (un pr193 t192)] 36 (0, 0)) (by (with_reducible repeat (first | refine blk_drewN ?_ _ | refine blk_drew ?_ | refine blk_alloc ?_ _)); exact BK195.out) NB195_189.out (by simp))
 have n3_ := Aside0.mk (hb)
 have n4_ := Aside0.mk (hi)
 clear BK185
 clear BK186
 clear BK195
 clear HB
 clear HI189
 have BK185 := n0_
 have BK186 := n1_
 have BK195 := n2_
 have HB := n3_
 have HI189 := n4_
 clear n0_ n1_ n2_ n3_ n4_
 (try clear hb)
 (try clear hb2)
 (try clear hk)
 (try clear hi)
 refine hK.out _ _ ⟨(blk_cell BK195.out 0).trans rfl, (blk_cell BK195.out 1).trans rfl⟩ (fun hHeld => ?_)
 clear hK K
 refine norm_ (a' := ?_) ?_ ?_
 rotate_left
 ·show Act.put _ (some 12) _ = _
  simp only [Act.put, sqA, sqZ, sqS, i64_w, i32_w]
  rfl
 refine one_ (i := 3) (N := none) #[true, true, true, true, false] rfl rfl (by kernel_rfl) (by decide) (fun K hK => ?_)
 have hs17 : w16.cell? ⟨gb185, 0, none⟩ = some (.float .f64 0) := (blk_cell BK185.out 0).trans rfl
 have hfs17 := blk_frozen BK185.out 0
 have hns17_1 := NB186_185.out
 have hns17_2 := NB195_185.out
 have hms17_1 := NB185_186.out
 have hms17_2 := NB185_195.out
 have hs18 : w16.cell? ⟨gb185, 1, none⟩ = some (.float .f64 0) := (blk_cell BK185.out 1).trans rfl
 have hfs18 := blk_frozen BK185.out 1
 have hns18_1 := NB186_185.out
 have hns18_2 := NB195_185.out
 have hms18_1 := NB185_186.out
 have hms18_2 := NB185_195.out
 refine skip_ (w1 := ?_) (by rfl) rfl ?_ ?_
 rotate_left
 ·go_simp
  rfl
 refine hK.out _ _ ⟨((cell_far (p := ⟨gb185, _, none⟩) NB195_185.out _).trans (((cell_far (p := ⟨gb185, _, none⟩) NB195_185.out _).trans (hHeld.1)))), ((cell_far (p := ⟨gb185, _, none⟩) NB195_185.out _).trans (((cell_far (p := ⟨gb185, _, none⟩) NB195_185.out _).trans (hHeld.2))))⟩ (fun hHeld => ?_)
 clear hK K
 refine one_ (i := 4) (N := none) #[true, true, true, true, true] rfl rfl (by kernel_rfl) (by decide) (fun K hK => ?_)
 have hs19 : w16.cell? ⟨gb186, 0, none⟩ = some (.float .f64 0) := (blk_cell BK186.out 0).trans rfl
 have hfs19 := blk_frozen BK186.out 0
 have hns19_0 := NB185_186.out
 have hns19_2 := NB195_186.out
 have hms19_0 := NB186_185.out
 have hms19_2 := NB186_195.out
 have hs20 : w16.cell? ⟨gb186, 1, none⟩ = some (.float .f64 0) := (blk_cell BK186.out 1).trans rfl
 have hfs20 := blk_frozen BK186.out 1
 have hns20_0 := NB185_186.out
 have hns20_2 := NB195_186.out
 have hms20_0 := NB186_185.out
 have hms20_2 := NB186_195.out
 refine skip_ (w1 := ?_) (by rfl) rfl ?_ ?_
 rotate_left
 ·go_simp
  rfl
 refine hK.out _ _ ⟨((cell_far (p := ⟨gb186, _, none⟩) NB195_186.out _).trans (((cell_far (p := ⟨gb186, _, none⟩) NB195_186.out _).trans (hHeld.1)))), ((cell_far (p := ⟨gb186, _, none⟩) NB195_186.out _).trans (((cell_far (p := ⟨gb186, _, none⟩) NB195_186.out _).trans (hHeld.2))))⟩ (fun hHeld => ?_)
 clear hK K
 refine done_ (by kernel_rfl) ?_
 try go_wp2
 refine bodyPost_ret (results_cc rfl _ _ gb185 gb186 36 36 #[.float .f64 (un pr191 t190), .float .f64 (un pr193 t192)] #[.float .f64 (un pr197 t196), .float .f64 (un pr199 t198)] (0, 0) (0, 0) _ _ rfl (by (with_reducible repeat (first | refine blk_drewN ?_ _ | refine blk_drew ?_ | refine blk_alloc ?_ _)); refine blk_far ?_ NB185_186.out _; (with_reducible repeat (first | refine blk_drewN ?_ _ | refine blk_drew ?_ | refine blk_alloc ?_ _)); refine blk_far ?_ NB185_186.out _; (with_reducible repeat (first | refine blk_drewN ?_ _ | refine blk_drew ?_ | refine blk_alloc ?_ _)); refine blk_put (cs := #[.float .f64 (un pr191 t190), .float .f64 0]) ?_ 1 _ rfl; (with_reducible repeat (first | refine blk_drewN ?_ _ | refine blk_drew ?_ | refine blk_alloc ?_ _)); refine blk_put (cs := #[.float .f64 0, .float .f64 0]) ?_ 0 _ rfl; (with_reducible repeat (first | refine blk_drewN ?_ _ | refine blk_drew ?_ | refine blk_alloc ?_ _)); exact BK185.out) Try.underlying36 rfl (by kernel_rfl) rfl (by (with_reducible repeat (first | refine blk_drewN ?_ _ | refine blk_drew ?_ | refine blk_alloc ?_ _)); refine blk_put (cs := #[.float .f64 (un pr197 t196), .float .f64 0]) ?_ 1 _ rfl; (with_reducible repeat (first | refine blk_drewN ?_ _ | refine blk_drew ?_ | refine blk_alloc ?_ _)); refine blk_put (cs := #[.float .f64 0, .float .f64 0]) ?_ 0 _ rfl; (with_reducible repeat (first | refine blk_drewN ?_ _ | refine blk_drew ?_ | refine blk_alloc ?_ _)); refine blk_far ?_ NB186_185.out _; (with_reducible repeat (first | refine blk_drewN ?_ _ | refine blk_drew ?_ | refine blk_alloc ?_ _)); refine blk_far ?_ NB186_185.out _; (with_reducible repeat (first | refine blk_drewN ?_ _ | refine blk_drew ?_ | refine blk_alloc ?_ _)); exact BK186.out) Try.underlying36 rfl (by kernel_rfl)) rfl ?_
 first | (exact ⟨pr191, pr193, pr197, pr199, by first | rfl | (simp [errW_none, errW_some] <;> rfl) | (simp [*, errW_none, errW_some] <;> rfl), by repeat (first | (with_reducible first | exact HB.out | apply below_alloc | apply pw_below_drewN | apply below_drew1 | refine below_set ?_ (IsS89.ge HI189.out) | refine below_set ?_ GE185.out | refine below_set ?_ GE186.out | refine below_set ?_ GE195.out) | exact HB.out)⟩) | (exact ⟨⟨pr191, pr193, pr197, pr199, by first | rfl | (simp [errW_none, errW_some] <;> rfl) | (simp [*, errW_none, errW_some] <;> rfl)⟩, by repeat (first | (with_reducible first | exact HB.out | apply below_alloc | apply pw_below_drewN | apply below_drew1 | refine below_set ?_ (IsS89.ge HI189.out) | refine below_set ?_ GE185.out | refine below_set ?_ GE186.out | refine below_set ?_ GE195.out) | exact HB.out)⟩)

end Go.Proofs.Ytaophbkedbphnab.Q
