/- Plain Lean functions with the same answers as the Go functions of this seat, and a proof for each that the Go code comes to just these answers; no condition. Written by a program of this session (the kit's printer, turned). -/
import Derived.Test.YtaophbkedbphnabQx0
import Derived.Test.YtaophbkedbphnabQx6
import Derived.Test.YtaophbkedbphnabQx7
namespace Go.Proofs.Ytaophbkedbphnab.Q
open Go.RowKit Go.Proofs.YtaophbkedbphnabW.PrintWords Go.Proofs.YtaophbkedbphnabW.PrintLast Go.Proofs.YtaophbkedbphnabW.PrintMore Go.Proofs.YtaophbkedbphnabW.PrintFlt
attribute [local go_sem] cmp_lss cmp_leq cmp_gtr cmp_geq cmp_eql cmp_neq flt_l flt_r fgt_l fgt_r feq_l feq_r fne_l fne_r ord_lt ord_gt ord_eq ord_ne conv_int conv_flt foi_fold run_store_flt
attribute [local go_sem] max2_int min2_int max_two min_two max_three min_three max_four min_four   -- for this text's walks alone
set_option linter.unusedVariables false
set_option linter.unusedSimpArgs false

/-! ### spec_l5WindOk: function 65 -/
def spec_l5WindOk.f (k : Nat) (a0_0 : Int) (a0_1 : Nat) (a0_2 : Nat) (a0_3 : Nat) (a0_4 : Int) (a0_5 : Nat) (a0_6 : Nat) (a0_7 : Nat) (a0_8 : Int) (a0_9 : Int) : Option (Bool) := if a0_4 = (-1) then (some (fne a0_5 a0_5)) else ((spec_l5Is.f k a0_5 0 99).bind fun bt120 => (if bt120.2 = true then ((spec_l2In.f a0_4 0 36).bind fun t122 => (if t122 = true then (some ((bt120.1 == 0) == (a0_4 == 0))) else (some false))) else (some false)))
theorem spec_l5WindOk.mono : ∀ a0 a1 a2 a3 a4 a5 a6 a7 a8 a9 k, LeO (spec_l5WindOk.f k a0 a1 a2 a3 a4 a5 a6 a7 a8 a9) (spec_l5WindOk.f (k + 1) a0 a1 a2 a3 a4 a5 a6 a7 a8 a9) := by
 intro a0 a1 a2 a3 a4 a5 a6 a7 a8 a9 k
 unfold spec_l5WindOk.f
 repeat' first
   | (with_reducible exact spec_l5Is.mono _ _ _ _)
   | (with_reducible exact LeO.refl _)
   | (with_reducible exact LeO.none _)
   | (with_reducible refine LeO.ite ?_ ?_)
   | (with_reducible refine LeO.bind ?_ (fun _ => ?_))
   | exact spec_l5Is.mono _ _ _ _
   | exact LeO.none _
   | refine LeO.ite ?_ ?_
   | refine LeO.bind ?_ (fun _ => ?_)
set_option maxHeartbeats 8000000 in
set_option maxRecDepth 100000 in
theorem spec_l5WindOk.calls (k : Nat) (a0_0 : Int) (pa0_1 : Nat) (a0_1 : Nat) (pa0_2 : Nat) (a0_2 : Nat) (pa0_3 : Nat) (a0_3 : Nat) (a0_4 : Int) (pa0_5 : Nat) (a0_5 : Nat) (pa0_6 : Nat) (a0_6 : Nat) (pa0_7 : Nat) (a0_7 : Nat) (a0_8 : Int) (a0_9 : Int) (r : Bool) (w : World) (h : spec_l5WindOk.f k a0_0 a0_1 a0_2 a0_3 a0_4 a0_5 a0_6 a0_7 a0_8 a0_9 = some r) :
  Calls Try.prog 65 #[.agg #[.int .i64 a0_0, .float .f64 (un pa0_1 a0_1), .float .f64 (un pa0_2 a0_2), .float .f64 (un pa0_3 a0_3), .int .i64 a0_4, .float .f64 (un pa0_5 a0_5), .float .f64 (un pa0_6 a0_6), .float .f64 (un pa0_7 a0_7), .int .i64 a0_8, .int .i64 a0_9]] w fun e w' => e = .returned (.bool r) ∧ Below w.heap.size w w' := by
 have hu60 := Try.underlying60
 have HB := Aside0.mk (Below.refl w.heap.size w)
 have H : (if a0_4 = (-1) then (some (fne a0_5 a0_5)) else ((spec_l5Is.f k a0_5 0 99).bind fun bt120 => (if bt120.2 = true then ((spec_l2In.f a0_4 0 36).bind fun t122 => (if t122 = true then (some ((bt120.1 == 0) == (a0_4 == 0))) else (some false))) else (some false)))) = some r := h
 clear h
 by_cases c2 : a0_4 = (-1)
 ·rw [if_pos c2] at H
  have c2b0 : (a0_4 == (-1)) = true := beq_iff_eq.mpr c2
  have c2b1 : (a0_4 != (-1)) = false := bne_eq_false_iff_eq.mpr c2
  clear c2
  obtain rfl := Option.some.inj H
  go_enter Try.func65, Try.ntmps65
  go_wp2_with (first | ((with_reducible refine gate_dst (N := 1) rfl ?_); refine box_event ?hg (N := 1) ?hd (cs := #[.int .i64 a0_0, .float .f64 (un pa0_1 a0_1), .float .f64 (un pa0_2 a0_2), .float .f64 (un pa0_3 a0_3), .int .i64 a0_4, .float .f64 (un pa0_5 a0_5), .float .f64 (un pa0_6 a0_6), .float .f64 (un pa0_7 a0_7), .int .i64 a0_8, .int .i64 a0_9]) (t := 60) ?hr ?_; (case hd => rfl); (case hg => rfl); (case hr => first | (go_simp; done) | (go_simp; rfl)); intro gb119 hg w3 hbox hb; have n0_ := Aside0.mk (below_step (by repeat (first | (with_reducible first | exact HB.out | apply below_alloc | apply pw_below_drewN | apply below_drew1) | exact HB.out)) hb); have n1_ := Aside0.mk (hbox); have n2_ := Aside0.mk ((by rw [hg]; exact (below_size (by repeat (first | (with_reducible first | exact HB.out | apply below_alloc | apply pw_below_drewN | apply below_drew1) | exact HB.out))) : w.heap.size ≤ gb119)); have n3_ := Aside0.mk ((by rw [hg]; exact (below_size (by repeat (first | (with_reducible first | exact HB.out | apply below_alloc | apply pw_below_drewN | apply below_drew1) | exact HB.out))) : w.heap.size ≤ gb119)); clear HB; have HB := n0_; have BK119 := n1_; have GW119 := n2_; have GE119 := n3_; clear n0_ n1_ n2_ n3_; clear hb hbox hg; have hcz4_0 : w3.cell? ⟨gb119, 0, none⟩ = some (.int .i64 a0_0) := (blk_cell BK119.out 0).trans rfl; have hcz4_1 : w3.cell? ⟨gb119, 1, none⟩ = some (.float .f64 (un pa0_1 a0_1)) := (blk_cell BK119.out 1).trans rfl; have hcz4_2 : w3.cell? ⟨gb119, 2, none⟩ = some (.float .f64 (un pa0_2 a0_2)) := (blk_cell BK119.out 2).trans rfl; have hcz4_3 : w3.cell? ⟨gb119, 3, none⟩ = some (.float .f64 (un pa0_3 a0_3)) := (blk_cell BK119.out 3).trans rfl; have hcz4_4 : w3.cell? ⟨gb119, 4, none⟩ = some (.int .i64 a0_4) := (blk_cell BK119.out 4).trans rfl; have hcz4_5 : w3.cell? ⟨gb119, 5, none⟩ = some (.float .f64 (un pa0_5 a0_5)) := (blk_cell BK119.out 5).trans rfl; have hcz4_6 : w3.cell? ⟨gb119, 6, none⟩ = some (.float .f64 (un pa0_6 a0_6)) := (blk_cell BK119.out 6).trans rfl; have hcz4_7 : w3.cell? ⟨gb119, 7, none⟩ = some (.float .f64 (un pa0_7 a0_7)) := (blk_cell BK119.out 7).trans rfl; have hcz4_8 : w3.cell? ⟨gb119, 8, none⟩ = some (.int .i64 a0_8) := (blk_cell BK119.out 8).trans rfl; have hcz4_9 : w3.cell? ⟨gb119, 9, none⟩ = some (.int .i64 a0_9) := (blk_cell BK119.out 9).trans rfl; have hfz4_0 := blk_frozen BK119.out 0; have hfz4_1 := blk_frozen BK119.out 1; have hfz4_2 := blk_frozen BK119.out 2; have hfz4_3 := blk_frozen BK119.out 3; have hfz4_4 := blk_frozen BK119.out 4; have hfz4_5 := blk_frozen BK119.out 5; have hfz4_6 := blk_frozen BK119.out 6; have hfz4_7 := blk_frozen BK119.out 7; have hfz4_8 := blk_frozen BK119.out 8; have hfz4_9 := blk_frozen BK119.out 9))
  go_ret
  exact ⟨by first | rfl | (simp [errW_none, errW_some] <;> rfl) | (simp [*, errW_none, errW_some] <;> rfl), by repeat (first | (with_reducible first | exact HB.out | apply below_alloc | apply pw_below_drewN | apply below_drew1 | refine below_set ?_ GE119.out) | exact HB.out)⟩
 ·rw [if_neg c2] at H
  have c2b0 : (a0_4 == (-1)) = false := beq_eq_false_iff_ne.mpr c2
  have c2b1 : (a0_4 != (-1)) = true := bne_iff_ne.mpr c2
  replace H := Option.bind_eq_some_iff.mp H
  obtain ⟨⟨t120, t121⟩, A50, H⟩ := H
  replace H : (if t121 = true then ((spec_l2In.f a0_4 0 36).bind fun t122 => (if t122 = true then (some ((t120 == 0) == (a0_4 == 0))) else (some false))) else (some false)) = some r := H
  have A5 := Aside0.mk A50
  clear A50
  by_cases c6 : t121 = true
  ·subst c6
   have H1 : ((spec_l2In.f a0_4 0 36).bind fun t122 => (if t122 = true then (some ((t120 == 0) == (a0_4 == 0))) else (some false))) = some r := by rw [if_pos rfl] at H; exact H
   clear H
   have H := H1
   clear H1
   replace H := Option.bind_eq_some_iff.mp H
   obtain ⟨t122, A70, H⟩ := H
   replace H : (if t122 = true then (some ((t120 == 0) == (a0_4 == 0))) else (some false)) = some r := H
   have A7 := Aside0.mk A70
   clear A70
   by_cases c8 : t122 = true
   ·subst c8
    have H1 : (some ((t120 == 0) == (a0_4 == 0))) = some r := by rw [if_pos rfl] at H; exact H
    clear H
    have H := H1
    clear H1
    obtain rfl := Option.some.inj H
    go_enter Try.func65, Try.ntmps65
    go_wp2_with (first | ((with_reducible refine gate_dst (N := 1) rfl ?_); refine box_event ?hg (N := 1) ?hd (cs := #[.int .i64 a0_0, .float .f64 (un pa0_1 a0_1), .float .f64 (un pa0_2 a0_2), .float .f64 (un pa0_3 a0_3), .int .i64 a0_4, .float .f64 (un pa0_5 a0_5), .float .f64 (un pa0_6 a0_6), .float .f64 (un pa0_7 a0_7), .int .i64 a0_8, .int .i64 a0_9]) (t := 60) ?hr ?_; (case hd => rfl); (case hg => rfl); (case hr => first | (go_simp; done) | (go_simp; rfl)); intro gb119 hg w9 hbox hb; have n0_ := Aside0.mk (below_step (by repeat (first | (with_reducible first | exact HB.out | apply below_alloc | apply pw_below_drewN | apply below_drew1) | exact HB.out)) hb); have n1_ := Aside0.mk (hbox); have n2_ := Aside0.mk ((by rw [hg]; exact (below_size (by repeat (first | (with_reducible first | exact HB.out | apply below_alloc | apply pw_below_drewN | apply below_drew1) | exact HB.out))) : w.heap.size ≤ gb119)); have n3_ := Aside0.mk ((by rw [hg]; exact (below_size (by repeat (first | (with_reducible first | exact HB.out | apply below_alloc | apply pw_below_drewN | apply below_drew1) | exact HB.out))) : w.heap.size ≤ gb119)); clear HB; have HB := n0_; have BK119 := n1_; have GW119 := n2_; have GE119 := n3_; clear n0_ n1_ n2_ n3_; clear hb hbox hg; have hcz10_0 : w9.cell? ⟨gb119, 0, none⟩ = some (.int .i64 a0_0) := (blk_cell BK119.out 0).trans rfl; have hcz10_1 : w9.cell? ⟨gb119, 1, none⟩ = some (.float .f64 (un pa0_1 a0_1)) := (blk_cell BK119.out 1).trans rfl; have hcz10_2 : w9.cell? ⟨gb119, 2, none⟩ = some (.float .f64 (un pa0_2 a0_2)) := (blk_cell BK119.out 2).trans rfl; have hcz10_3 : w9.cell? ⟨gb119, 3, none⟩ = some (.float .f64 (un pa0_3 a0_3)) := (blk_cell BK119.out 3).trans rfl; have hcz10_4 : w9.cell? ⟨gb119, 4, none⟩ = some (.int .i64 a0_4) := (blk_cell BK119.out 4).trans rfl; have hcz10_5 : w9.cell? ⟨gb119, 5, none⟩ = some (.float .f64 (un pa0_5 a0_5)) := (blk_cell BK119.out 5).trans rfl; have hcz10_6 : w9.cell? ⟨gb119, 6, none⟩ = some (.float .f64 (un pa0_6 a0_6)) := (blk_cell BK119.out 6).trans rfl; have hcz10_7 : w9.cell? ⟨gb119, 7, none⟩ = some (.float .f64 (un pa0_7 a0_7)) := (blk_cell BK119.out 7).trans rfl; have hcz10_8 : w9.cell? ⟨gb119, 8, none⟩ = some (.int .i64 a0_8) := (blk_cell BK119.out 8).trans rfl; have hcz10_9 : w9.cell? ⟨gb119, 9, none⟩ = some (.int .i64 a0_9) := (blk_cell BK119.out 9).trans rfl; have hfz10_0 := blk_frozen BK119.out 0; have hfz10_1 := blk_frozen BK119.out 1; have hfz10_2 := blk_frozen BK119.out 2; have hfz10_3 := blk_frozen BK119.out 3; have hfz10_4 := blk_frozen BK119.out 4; have hfz10_5 := blk_frozen BK119.out 5; have hfz10_6 := blk_frozen BK119.out 6; have hfz10_7 := blk_frozen BK119.out 7; have hfz10_8 := blk_frozen BK119.out 8; have hfz10_9 := blk_frozen BK119.out 9) | ((with_reducible refine gate_callee (f := 62) rfl ?_); refine goesL_ (some 16) rfl rfl Try.func62 (by kernel_rfl) rfl #[.float .f64 (un pa0_5 a0_5), .int .i64 0, .int .i64 99] rfl (by (try simp only [List.map_toArray, List.map_cons, List.map_nil]); first | done | rfl | (simp only [List.length_drop, List.length_take]; rfl)) ?_; (with_reducible refine (spec_l5Is.calls k pa0_5 a0_5 0 99 t120 true _ A5.out).mono ?_); rintro e w' ⟨rfl, ⟨nd, rfl⟩⟩; refine ⟨_, rfl, ?_⟩) | (go_at_call 63; (with_reducible refine (spec_l2In.calls a0_4 0 36 true _ A7.out).mono ?_); rintro e w' ⟨rfl, ⟨nd, rfl⟩⟩))
    go_ret
    exact ⟨by first | rfl | (simp [errW_none, errW_some] <;> rfl) | (simp [*, errW_none, errW_some] <;> rfl), by repeat (first | (with_reducible first | exact HB.out | apply below_alloc | apply pw_below_drewN | apply below_drew1 | refine below_set ?_ GE119.out) | exact HB.out)⟩
   ·replace c8 := Bool.eq_false_iff.mpr c8
    subst c8
    have H1 : (some false) = some r := by rw [if_neg (show ¬ (false = true) by decide)] at H; exact H
    clear H
    have H := H1
    clear H1
    obtain rfl := Option.some.inj H
    go_enter Try.func65, Try.ntmps65
    go_wp2_with (first | ((with_reducible refine gate_dst (N := 1) rfl ?_); refine box_event ?hg (N := 1) ?hd (cs := #[.int .i64 a0_0, .float .f64 (un pa0_1 a0_1), .float .f64 (un pa0_2 a0_2), .float .f64 (un pa0_3 a0_3), .int .i64 a0_4, .float .f64 (un pa0_5 a0_5), .float .f64 (un pa0_6 a0_6), .float .f64 (un pa0_7 a0_7), .int .i64 a0_8, .int .i64 a0_9]) (t := 60) ?hr ?_; (case hd => rfl); (case hg => rfl); (case hr => first | (go_simp; done) | (go_simp; rfl)); intro gb119 hg w11 hbox hb; have n0_ := Aside0.mk (below_step (by repeat (first | (with_reducible first | exact HB.out | apply below_alloc | apply pw_below_drewN | apply below_drew1) | exact HB.out)) hb); have n1_ := Aside0.mk (hbox); have n2_ := Aside0.mk ((by rw [hg]; exact (below_size (by repeat (first | (with_reducible first | exact HB.out | apply below_alloc | apply pw_below_drewN | apply below_drew1) | exact HB.out))) : w.heap.size ≤ gb119)); have n3_ := Aside0.mk ((by rw [hg]; exact (below_size (by repeat (first | (with_reducible first | exact HB.out | apply below_alloc | apply pw_below_drewN | apply below_drew1) | exact HB.out))) : w.heap.size ≤ gb119)); clear HB; have HB := n0_; have BK119 := n1_; have GW119 := n2_; have GE119 := n3_; clear n0_ n1_ n2_ n3_; clear hb hbox hg; have hcz12_0 : w11.cell? ⟨gb119, 0, none⟩ = some (.int .i64 a0_0) := (blk_cell BK119.out 0).trans rfl; have hcz12_1 : w11.cell? ⟨gb119, 1, none⟩ = some (.float .f64 (un pa0_1 a0_1)) := (blk_cell BK119.out 1).trans rfl; have hcz12_2 : w11.cell? ⟨gb119, 2, none⟩ = some (.float .f64 (un pa0_2 a0_2)) := (blk_cell BK119.out 2).trans rfl; have hcz12_3 : w11.cell? ⟨gb119, 3, none⟩ = some (.float .f64 (un pa0_3 a0_3)) := (blk_cell BK119.out 3).trans rfl; have hcz12_4 : w11.cell? ⟨gb119, 4, none⟩ = some (.int .i64 a0_4) := (blk_cell BK119.out 4).trans rfl; have hcz12_5 : w11.cell? ⟨gb119, 5, none⟩ = some (.float .f64 (un pa0_5 a0_5)) := (blk_cell BK119.out 5).trans rfl; have hcz12_6 : w11.cell? ⟨gb119, 6, none⟩ = some (.float .f64 (un pa0_6 a0_6)) := (blk_cell BK119.out 6).trans rfl; have hcz12_7 : w11.cell? ⟨gb119, 7, none⟩ = some (.float .f64 (un pa0_7 a0_7)) := (blk_cell BK119.out 7).trans rfl; have hcz12_8 : w11.cell? ⟨gb119, 8, none⟩ = some (.int .i64 a0_8) := (blk_cell BK119.out 8).trans rfl; have hcz12_9 : w11.cell? ⟨gb119, 9, none⟩ = some (.int .i64 a0_9) := (blk_cell BK119.out 9).trans rfl; have hfz12_0 := blk_frozen BK119.out 0; have hfz12_1 := blk_frozen BK119.out 1; have hfz12_2 := blk_frozen BK119.out 2; have hfz12_3 := blk_frozen BK119.out 3; have hfz12_4 := blk_frozen BK119.out 4; have hfz12_5 := blk_frozen BK119.out 5; have hfz12_6 := blk_frozen BK119.out 6; have hfz12_7 := blk_frozen BK119.out 7; have hfz12_8 := blk_frozen BK119.out 8; have hfz12_9 := blk_frozen BK119.out 9) | ((with_reducible refine gate_callee (f := 62) rfl ?_); refine goesL_ (some 16) rfl rfl Try.func62 (by kernel_rfl) rfl #[.float .f64 (un pa0_5 a0_5), .int .i64 0, .int .i64 99] rfl (by (try simp only [List.map_toArray, List.map_cons, List.map_nil]); first | done | rfl | (simp only [List.length_drop, List.length_take]; rfl)) ?_; (with_reducible refine (spec_l5Is.calls k pa0_5 a0_5 0 99 t120 true _ A5.out).mono ?_); rintro e w' ⟨rfl, ⟨nd, rfl⟩⟩; refine ⟨_, rfl, ?_⟩) | (go_at_call 63; (with_reducible refine (spec_l2In.calls a0_4 0 36 false _ A7.out).mono ?_); rintro e w' ⟨rfl, ⟨nd, rfl⟩⟩))
    go_ret
    exact ⟨by first | rfl | (simp [errW_none, errW_some] <;> rfl) | (simp [*, errW_none, errW_some] <;> rfl), by repeat (first | (with_reducible first | exact HB.out | apply below_alloc | apply pw_below_drewN | apply below_drew1 | refine below_set ?_ GE119.out) | exact HB.out)⟩
  ·replace c6 := Bool.eq_false_iff.mpr c6
   subst c6
   have H1 : (some false) = some r := by rw [if_neg (show ¬ (false = true) by decide)] at H; exact H
   clear H
   have H := H1
   clear H1
   obtain rfl := Option.some.inj H
   go_enter Try.func65, Try.ntmps65
   go_wp2_with (first | ((with_reducible refine gate_dst (N := 1) rfl ?_); refine box_event ?hg (N := 1) ?hd (cs := #[.int .i64 a0_0, .float .f64 (un pa0_1 a0_1), .float .f64 (un pa0_2 a0_2), .float .f64 (un pa0_3 a0_3), .int .i64 a0_4, .float .f64 (un pa0_5 a0_5), .float .f64 (un pa0_6 a0_6), .float .f64 (un pa0_7 a0_7), .int .i64 a0_8, .int .i64 a0_9]) (t := 60) ?hr ?_; (case hd => rfl); (case hg => rfl); (case hr => first | (go_simp; done) | (go_simp; rfl)); intro gb119 hg w13 hbox hb; have n0_ := Aside0.mk (below_step (by repeat (first | (with_reducible first | exact HB.out | apply below_alloc | apply pw_below_drewN | apply below_drew1) | exact HB.out)) hb); have n1_ := Aside0.mk (hbox); have n2_ := Aside0.mk ((by rw [hg]; exact (below_size (by repeat (first | (with_reducible first | exact HB.out | apply below_alloc | apply pw_below_drewN | apply below_drew1) | exact HB.out))) : w.heap.size ≤ gb119)); have n3_ := Aside0.mk ((by rw [hg]; exact (below_size (by repeat (first | (with_reducible first | exact HB.out | apply below_alloc | apply pw_below_drewN | apply below_drew1) | exact HB.out))) : w.heap.size ≤ gb119)); clear HB; have HB := n0_; have BK119 := n1_; have GW119 := n2_; have GE119 := n3_; clear n0_ n1_ n2_ n3_; clear hb hbox hg; have hcz14_0 : w13.cell? ⟨gb119, 0, none⟩ = some (.int .i64 a0_0) := (blk_cell BK119.out 0).trans rfl; have hcz14_1 : w13.cell? ⟨gb119, 1, none⟩ = some (.float .f64 (un pa0_1 a0_1)) := (blk_cell BK119.out 1).trans rfl; have hcz14_2 : w13.cell? ⟨gb119, 2, none⟩ = some (.float .f64 (un pa0_2 a0_2)) := (blk_cell BK119.out 2).trans rfl; have hcz14_3 : w13.cell? ⟨gb119, 3, none⟩ = some (.float .f64 (un pa0_3 a0_3)) := (blk_cell BK119.out 3).trans rfl; have hcz14_4 : w13.cell? ⟨gb119, 4, none⟩ = some (.int .i64 a0_4) := (blk_cell BK119.out 4).trans rfl; have hcz14_5 : w13.cell? ⟨gb119, 5, none⟩ = some (.float .f64 (un pa0_5 a0_5)) := (blk_cell BK119.out 5).trans rfl; have hcz14_6 : w13.cell? ⟨gb119, 6, none⟩ = some (.float .f64 (un pa0_6 a0_6)) := (blk_cell BK119.out 6).trans rfl; have hcz14_7 : w13.cell? ⟨gb119, 7, none⟩ = some (.float .f64 (un pa0_7 a0_7)) := (blk_cell BK119.out 7).trans rfl; have hcz14_8 : w13.cell? ⟨gb119, 8, none⟩ = some (.int .i64 a0_8) := (blk_cell BK119.out 8).trans rfl; have hcz14_9 : w13.cell? ⟨gb119, 9, none⟩ = some (.int .i64 a0_9) := (blk_cell BK119.out 9).trans rfl; have hfz14_0 := blk_frozen BK119.out 0; have hfz14_1 := blk_frozen BK119.out 1; have hfz14_2 := blk_frozen BK119.out 2; have hfz14_3 := blk_frozen BK119.out 3; have hfz14_4 := blk_frozen BK119.out 4; have hfz14_5 := blk_frozen BK119.out 5; have hfz14_6 := blk_frozen BK119.out 6; have hfz14_7 := blk_frozen BK119.out 7; have hfz14_8 := blk_frozen BK119.out 8; have hfz14_9 := blk_frozen BK119.out 9) | ((with_reducible refine gate_callee (f := 62) rfl ?_); refine goesL_ (some 16) rfl rfl Try.func62 (by kernel_rfl) rfl #[.float .f64 (un pa0_5 a0_5), .int .i64 0, .int .i64 99] rfl (by (try simp only [List.map_toArray, List.map_cons, List.map_nil]); first | done | rfl | (simp only [List.length_drop, List.length_take]; rfl)) ?_; (with_reducible refine (spec_l5Is.calls k pa0_5 a0_5 0 99 t120 false _ A5.out).mono ?_); rintro e w' ⟨rfl, ⟨nd, rfl⟩⟩; refine ⟨_, rfl, ?_⟩))
   go_ret
   exact ⟨by first | rfl | (simp [errW_none, errW_some] <;> rfl) | (simp [*, errW_none, errW_some] <;> rfl), by repeat (first | (with_reducible first | exact HB.out | apply below_alloc | apply pw_below_drewN | apply below_drew1 | refine below_set ?_ GE119.out) | exact HB.out)⟩

end Go.Proofs.Ytaophbkedbphnab.Q
