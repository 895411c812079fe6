/- Plain Lean functions with the same answers as the Go functions of this seat, and a proof for each that the Go code comes to just these answers; no condition. Written by a program of this session (the kit's printer, turned). -/
import Derived.Test.YtcdghhihfjojaabDoorQx0
import Derived.Test.YtcdghhihfjojaabDoorQx2
import Derived.Test.YtcdghhihfjojaabDoorQx3
import Derived.Test.YtcdghhihfjojaabDoorQx4
import Derived.Test.YtcdghhihfjojaabDoorQx5
namespace Go.Proofs.YtcdghhihfjojaabDoor.Q
open Go.RowKit Go.Proofs.YtcdghhihfjojaabDoorW.PrintWords Go.Proofs.YtcdghhihfjojaabDoorW.PrintLast Go.Proofs.YtcdghhihfjojaabDoorW.PrintMore Go.Proofs.YtcdghhihfjojaabDoorW.PrintFlt
attribute [local go_sem] cmp_lss cmp_leq cmp_gtr cmp_geq cmp_eql cmp_neq flt_l flt_r fgt_l fgt_r feq_l feq_r fne_l fne_r ord_lt ord_gt ord_eq ord_ne conv_int conv_flt foi_fold run_store_flt
attribute [local go_sem] max2_int min2_int max_two min_two max_three min_three max_four min_four   -- for this text's walks alone
set_option linter.unusedVariables false
set_option linter.unusedSimpArgs false

/-! ### spec_SkyOk: function 12 -/
def spec_SkyOk.f (k : Nat) (a0_0 : Int) (a0_1 : Int) (a0_2 : Int) (a0_3 : ByteArray) (a0_4 : ByteArray) (a0_5 : Int) : Option (Bool) := (spec_l21WindOk.f k a0_0 a0_1 a0_2 a0_3 a0_4 a0_5).bind fun t111 => (if t111 = true then ((spec_l2In.f a0_2 (-1) 9999).bind fun t112 => (if t112 = true then ((spec_l21WeatherOk.f a0_3).bind fun t113 => (if t113 = true then ((spec_l21CloudOk.f k a0_0 a0_1 a0_2 a0_3 a0_4 a0_5).bind fun t114 => (some t114)) else (some false))) else (some false))) else (some false))
theorem spec_SkyOk.mono : ∀ a0 a1 a2 a3 a4 a5 k, LeO (spec_SkyOk.f k a0 a1 a2 a3 a4 a5) (spec_SkyOk.f (k + 1) a0 a1 a2 a3 a4 a5) := by
 intro a0 a1 a2 a3 a4 a5 k
 unfold spec_SkyOk.f
 repeat' first
   | (with_reducible exact spec_l21CloudOk.mono _ _ _ _ _ _ _)
   | (with_reducible exact spec_l21WindOk.mono _ _ _ _ _ _ _)
   | (with_reducible exact LeO.refl _)
   | (with_reducible exact LeO.none _)
   | (with_reducible refine LeO.ite ?_ ?_)
   | (with_reducible refine LeO.bind ?_ (fun _ => ?_))
   | exact spec_l21CloudOk.mono _ _ _ _ _ _ _
   | exact spec_l21WindOk.mono _ _ _ _ _ _ _
   | exact LeO.none _
   | refine LeO.ite ?_ ?_
   | refine LeO.bind ?_ (fun _ => ?_)
set_option maxHeartbeats 8000000 in
set_option maxRecDepth 100000 in
theorem spec_SkyOk.calls (k : Nat) (a0_0 : Int) (a0_1 : Int) (a0_2 : Int) (a0_3 : ByteArray) (a0_4 : ByteArray) (a0_5 : Int) (r : Bool) (w : World) (h : spec_SkyOk.f k a0_0 a0_1 a0_2 a0_3 a0_4 a0_5 = some r) :
  Calls Tryd.prog 12 #[.agg #[.int .i64 a0_0, .int .i64 a0_1, .int .i64 a0_2, .string a0_3, .string a0_4, .int .i64 a0_5]] w fun e w' => e = .returned (.bool r) ∧ Below w.heap.size w w' := by
 have hu25 := Tryd.underlying25
 have HB := A0 (Below.refl w.heap.size w)
 have H : ((spec_l21WindOk.f k a0_0 a0_1 a0_2 a0_3 a0_4 a0_5).bind fun t111 => (if t111 = true then ((spec_l2In.f a0_2 (-1) 9999).bind fun t112 => (if t112 = true then ((spec_l21WeatherOk.f a0_3).bind fun t113 => (if t113 = true then ((spec_l21CloudOk.f k a0_0 a0_1 a0_2 a0_3 a0_4 a0_5).bind fun t114 => (some t114)) else (some false))) else (some false))) else (some false))) = some r := h
 clear h
 replace H := Option.bind_eq_some_iff.mp H
 obtain ⟨t111, A20, H⟩ := H
 replace H : (if t111 = true then ((spec_l2In.f a0_2 (-1) 9999).bind fun t112 => (if t112 = true then ((spec_l21WeatherOk.f a0_3).bind fun t113 => (if t113 = true then ((spec_l21CloudOk.f k a0_0 a0_1 a0_2 a0_3 a0_4 a0_5).bind fun t114 => (some t114)) else (some false))) else (some false))) else (some false)) = some r := H
 have A2 := Aside0.mk A20
 clear A20
 by_cases c3 : t111 = true
 ·subst c3
  have H1 : ((spec_l2In.f a0_2 (-1) 9999).bind fun t112 => (if t112 = true then ((spec_l21WeatherOk.f a0_3).bind fun t113 => (if t113 = true then ((spec_l21CloudOk.f k a0_0 a0_1 a0_2 a0_3 a0_4 a0_5).bind fun t114 => (some t114)) else (some false))) else (some false))) = some r := by rw [if_pos rfl] at H; exact H
  clear H
  have H := H1
  clear H1
  replace H := Option.bind_eq_some_iff.mp H
  obtain ⟨t112, A40, H⟩ := H
  replace H : (if t112 = true then ((spec_l21WeatherOk.f a0_3).bind fun t113 => (if t113 = true then ((spec_l21CloudOk.f k a0_0 a0_1 a0_2 a0_3 a0_4 a0_5).bind fun t114 => (some t114)) else (some false))) else (some false)) = some r := H
  have A4 := Aside0.mk A40
  clear A40
  by_cases c5 : t112 = true
  ·subst c5
   have H1 : ((spec_l21WeatherOk.f a0_3).bind fun t113 => (if t113 = true then ((spec_l21CloudOk.f k a0_0 a0_1 a0_2 a0_3 a0_4 a0_5).bind fun t114 => (some t114)) else (some false))) = some r := by rw [if_pos rfl] at H; exact H
   clear H
   have H := H1
   clear H1
   replace H := Option.bind_eq_some_iff.mp H
   obtain ⟨t113, A60, H⟩ := H
   replace H : (if t113 = true then ((spec_l21CloudOk.f k a0_0 a0_1 a0_2 a0_3 a0_4 a0_5).bind fun t114 => (some t114)) else (some false)) = some r := H
   have A6 := Aside0.mk A60
   clear A60
   by_cases c7 : t113 = true
   ·subst c7
    have H1 : ((spec_l21CloudOk.f k a0_0 a0_1 a0_2 a0_3 a0_4 a0_5).bind fun t114 => (some t114)) = some r := by rw [if_pos rfl] at H; exact H
    clear H
    have H := H1
    clear H1
    replace H := Option.bind_eq_some_iff.mp H
    obtain ⟨t114, A80, H⟩ := H
    replace H : (some t114) = some r := H
    have A8 := Aside0.mk A80
    clear A80
    obtain rfl := Option.some.inj H
    go_enter Tryd.func12, Tryd.ntmps12
    go_wp2_with (first | ((with_reducible refine gate_dst (N := 1) rfl ?_); refine box_event ?hg (N := 1) ?hd (cs := #[.int .i64 a0_0, .int .i64 a0_1, .int .i64 a0_2, .string a0_3, .string a0_4, .int .i64 a0_5]) (t := 25) ?hr ?_; (case hd => rfl); (case hg => rfl); (case hr => first | (go_simp; done) | (go_simp; rfl)); intro gb110 hg w9 hbox hb; have n0_ := A0 (below_step (by repeat (first | (with_reducible first | exact HB.out | apply wA | apply wN | apply wD) | exact HB.out)) hb); have n1_ := A0 (hbox); have n2_ := A0 ((by rw [hg]; exact (below_size (by repeat (first | (with_reducible first | exact HB.out | apply wA | apply wN | apply wD) | exact HB.out))) : w.heap.size ≤ gb110)); have n3_ := A0 ((by rw [hg]; exact (below_size (by repeat (first | (with_reducible first | exact HB.out | apply wA | apply wN | apply wD) | exact HB.out))) : w.heap.size ≤ gb110)); clear HB; have HB := n0_; have BK110 := n1_; have GW110 := n2_; have GE110 := n3_; clear n0_ n1_ n2_ n3_; clear hb hbox hg; have hcz10_0 : w9.cell? ⟨gb110, 0, none⟩ = some (.int .i64 a0_0) := bC BK110.out 0 rfl; have hcz10_1 : w9.cell? ⟨gb110, 1, none⟩ = some (.int .i64 a0_1) := bC BK110.out 1 rfl; have hcz10_2 : w9.cell? ⟨gb110, 2, none⟩ = some (.int .i64 a0_2) := bC BK110.out 2 rfl; have hcz10_3 : w9.cell? ⟨gb110, 3, none⟩ = some (.string a0_3) := bC BK110.out 3 rfl; have hcz10_4 : w9.cell? ⟨gb110, 4, none⟩ = some (.string a0_4) := bC BK110.out 4 rfl; have hcz10_5 : w9.cell? ⟨gb110, 5, none⟩ = some (.int .i64 a0_5) := bC BK110.out 5 rfl; have hfz10_0 := blk_frozen BK110.out 0; have hfz10_1 := blk_frozen BK110.out 1; have hfz10_2 := blk_frozen BK110.out 2; have hfz10_3 := blk_frozen BK110.out 3; have hfz10_4 := blk_frozen BK110.out 4; have hfz10_5 := blk_frozen BK110.out 5) | ((with_reducible refine gate_callee (f := 18) rfl ?_); refine goesL_ (some 4) rfl rfl Tryd.func18 (by kernel_rfl) rfl #[.agg #[.int .i64 a0_0, .int .i64 a0_1, .int .i64 a0_2, .string a0_3, .string a0_4, .int .i64 a0_5]] rfl (by (try simp only [lM, lC, lN]); first | done | rfl | (simp only [lD, lT]; rfl)) ?_; (with_reducible refine (spec_l21WindOk.calls k a0_0 a0_1 a0_2 a0_3 a0_4 a0_5 true _ A2.out).mono ?_); rintro e w11 ⟨rfl, hb⟩; refine ⟨_, rfl, ?_⟩; have n0_ := A0 (blk_below (g := gb110) (o := .cells #[.int .i64 a0_0, .int .i64 a0_1, .int .i64 a0_2, .string a0_3, .string a0_4, .int .i64 a0_5] 25 (0, 0)) (by (with_reducible repeat (first | refine bN ?_ _ | refine bD ?_ | refine bA ?_ _)); exact BK110.out) hb); have n1_ := A0 (below_step (by repeat (first | (with_reducible first | exact HB.out | apply wA | apply wN | apply wD | refine bS ?_ GE110.out) | exact HB.out)) hb); clear BK110; clear HB; have BK110 := n0_; have HB := n1_; clear n0_ n1_; (try clear hb); (try clear hb2); (try clear hk); (try clear hi); have hcz12_0 : w11.cell? ⟨gb110, 0, none⟩ = some (.int .i64 a0_0) := bC BK110.out 0 rfl; have hcz12_1 : w11.cell? ⟨gb110, 1, none⟩ = some (.int .i64 a0_1) := bC BK110.out 1 rfl; have hcz12_2 : w11.cell? ⟨gb110, 2, none⟩ = some (.int .i64 a0_2) := bC BK110.out 2 rfl; have hcz12_3 : w11.cell? ⟨gb110, 3, none⟩ = some (.string a0_3) := bC BK110.out 3 rfl; have hcz12_4 : w11.cell? ⟨gb110, 4, none⟩ = some (.string a0_4) := bC BK110.out 4 rfl; have hcz12_5 : w11.cell? ⟨gb110, 5, none⟩ = some (.int .i64 a0_5) := bC BK110.out 5 rfl; have hfz12_0 := blk_frozen BK110.out 0; have hfz12_1 := blk_frozen BK110.out 1; have hfz12_2 := blk_frozen BK110.out 2; have hfz12_3 := blk_frozen BK110.out 3; have hfz12_4 := blk_frozen BK110.out 4; have hfz12_5 := blk_frozen BK110.out 5) | (go_at_call 19; (with_reducible refine (spec_l2In.calls a0_2 (-1) 9999 true _ A4.out).mono ?_); rintro e w' ⟨rfl, ⟨nd, rfl⟩⟩) | (go_at_call 20; (with_reducible refine (spec_l21WeatherOk.calls a0_3 true _ A6.out).mono ?_); rintro e w' ⟨rfl, ⟨nd, rfl⟩⟩) | (go_at_call 21; (with_reducible refine (spec_l21CloudOk.calls k a0_0 a0_1 a0_2 a0_3 a0_4 a0_5 t114 _ A8.out).mono ?_); rintro e w13 ⟨rfl, hb⟩; have n0_ := A0 (blk_below (g := gb110) (o := .cells #[.int .i64 a0_0, .int .i64 a0_1, .int .i64 a0_2, .string a0_3, .string a0_4, .int .i64 a0_5] 25 (0, 0)) (by (with_reducible repeat (first | refine bN ?_ _ | refine bD ?_ | refine bA ?_ _)); exact BK110.out) hb); have n1_ := A0 (below_step (by repeat (first | (with_reducible first | exact HB.out | apply wA | apply wN | apply wD | refine bS ?_ GE110.out) | exact HB.out)) hb); clear BK110; clear HB; have BK110 := n0_; have HB := n1_; clear n0_ n1_; (try clear hb); (try clear hb2); (try clear hk); (try clear hi)))
    go_ret
    exact ⟨by first | rfl | (simp [errW_none, errW_some] <;> rfl) | (simp [*, errW_none, errW_some] <;> rfl), by repeat (first | (with_reducible first | exact HB.out | apply wA | apply wN | apply wD | refine bS ?_ GE110.out) | exact HB.out)⟩
   ·replace c7 := Bool.eq_false_iff.mpr c7
    subst c7
    have H1 : (some false) = some r := by rw [if_neg (show ¬ (false = true) by decide)] at H; exact H
    clear H
    have H := H1
    clear H1
    obtain rfl := Option.some.inj H
    go_enter Tryd.func12, Tryd.ntmps12
    go_wp2_with (first | ((with_reducible refine gate_dst (N := 1) rfl ?_); refine box_event ?hg (N := 1) ?hd (cs := #[.int .i64 a0_0, .int .i64 a0_1, .int .i64 a0_2, .string a0_3, .string a0_4, .int .i64 a0_5]) (t := 25) ?hr ?_; (case hd => rfl); (case hg => rfl); (case hr => first | (go_simp; done) | (go_simp; rfl)); intro gb110 hg w14 hbox hb; have n0_ := A0 (below_step (by repeat (first | (with_reducible first | exact HB.out | apply wA | apply wN | apply wD) | exact HB.out)) hb); have n1_ := A0 (hbox); have n2_ := A0 ((by rw [hg]; exact (below_size (by repeat (first | (with_reducible first | exact HB.out | apply wA | apply wN | apply wD) | exact HB.out))) : w.heap.size ≤ gb110)); have n3_ := A0 ((by rw [hg]; exact (below_size (by repeat (first | (with_reducible first | exact HB.out | apply wA | apply wN | apply wD) | exact HB.out))) : w.heap.size ≤ gb110)); clear HB; have HB := n0_; have BK110 := n1_; have GW110 := n2_; have GE110 := n3_; clear n0_ n1_ n2_ n3_; clear hb hbox hg; have hcz15_0 : w14.cell? ⟨gb110, 0, none⟩ = some (.int .i64 a0_0) := bC BK110.out 0 rfl; have hcz15_1 : w14.cell? ⟨gb110, 1, none⟩ = some (.int .i64 a0_1) := bC BK110.out 1 rfl; have hcz15_2 : w14.cell? ⟨gb110, 2, none⟩ = some (.int .i64 a0_2) := bC BK110.out 2 rfl; have hcz15_3 : w14.cell? ⟨gb110, 3, none⟩ = some (.string a0_3) := bC BK110.out 3 rfl; have hcz15_4 : w14.cell? ⟨gb110, 4, none⟩ = some (.string a0_4) := bC BK110.out 4 rfl; have hcz15_5 : w14.cell? ⟨gb110, 5, none⟩ = some (.int .i64 a0_5) := bC BK110.out 5 rfl; have hfz15_0 := blk_frozen BK110.out 0; have hfz15_1 := blk_frozen BK110.out 1; have hfz15_2 := blk_frozen BK110.out 2; have hfz15_3 := blk_frozen BK110.out 3; have hfz15_4 := blk_frozen BK110.out 4; have hfz15_5 := blk_frozen BK110.out 5) | ((with_reducible refine gate_callee (f := 18) rfl ?_); refine goesL_ (some 4) rfl rfl Tryd.func18 (by kernel_rfl) rfl #[.agg #[.int .i64 a0_0, .int .i64 a0_1, .int .i64 a0_2, .string a0_3, .string a0_4, .int .i64 a0_5]] rfl (by (try simp only [lM, lC, lN]); first | done | rfl | (simp only [lD, lT]; rfl)) ?_; (with_reducible refine (spec_l21WindOk.calls k a0_0 a0_1 a0_2 a0_3 a0_4 a0_5 true _ A2.out).mono ?_); rintro e w16 ⟨rfl, hb⟩; refine ⟨_, rfl, ?_⟩; have n0_ := A0 (blk_below (g := gb110) (o := .cells #[.int .i64 a0_0, .int .i64 a0_1, .int .i64 a0_2, .string a0_3, .string a0_4, .int .i64 a0_5] 25 (0, 0)) (by (with_reducible repeat (first | refine bN ?_ _ | refine bD ?_ | refine bA ?_ _)); exact BK110.out) hb); have n1_ := A0 (below_step (by repeat (first | (with_reducible first | exact HB.out | apply wA | apply wN | apply wD | refine bS ?_ GE110.out) | exact HB.out)) hb); clear BK110; clear HB; have BK110 := n0_; have HB := n1_; clear n0_ n1_; (try clear hb); (try clear hb2); (try clear hk); (try clear hi); have hcz17_0 : w16.cell? ⟨gb110, 0, none⟩ = some (.int .i64 a0_0) := bC BK110.out 0 rfl; have hcz17_1 : w16.cell? ⟨gb110, 1, none⟩ = some (.int .i64 a0_1) := bC BK110.out 1 rfl; have hcz17_2 : w16.cell? ⟨gb110, 2, none⟩ = some (.int .i64 a0_2) := bC BK110.out 2 rfl; have hcz17_3 : w16.cell? ⟨gb110, 3, none⟩ = some (.string a0_3) := bC BK110.out 3 rfl; have hcz17_4 : w16.cell? ⟨gb110, 4, none⟩ = some (.string a0_4) := bC BK110.out 4 rfl; have hcz17_5 : w16.cell? ⟨gb110, 5, none⟩ = some (.int .i64 a0_5) := bC BK110.out 5 rfl; have hfz17_0 := blk_frozen BK110.out 0; have hfz17_1 := blk_frozen BK110.out 1; have hfz17_2 := blk_frozen BK110.out 2; have hfz17_3 := blk_frozen BK110.out 3; have hfz17_4 := blk_frozen BK110.out 4; have hfz17_5 := blk_frozen BK110.out 5) | (go_at_call 19; (with_reducible refine (spec_l2In.calls a0_2 (-1) 9999 true _ A4.out).mono ?_); rintro e w' ⟨rfl, ⟨nd, rfl⟩⟩) | (go_at_call 20; (with_reducible refine (spec_l21WeatherOk.calls a0_3 false _ A6.out).mono ?_); rintro e w' ⟨rfl, ⟨nd, rfl⟩⟩))
    go_ret
    exact ⟨by first | rfl | (simp [errW_none, errW_some] <;> rfl) | (simp [*, errW_none, errW_some] <;> rfl), by repeat (first | (with_reducible first | exact HB.out | apply wA | apply wN | apply wD | refine bS ?_ GE110.out) | exact HB.out)⟩
  ·replace c5 := Bool.eq_false_iff.mpr c5
   subst c5
   have H1 : (some false) = some r := by rw [if_neg (show ¬ (false = true) by decide)] at H; exact H
   clear H
   have H := H1
   clear H1
   obtain rfl := Option.some.inj H
   go_enter Tryd.func12, Tryd.ntmps12
   go_wp2_with (first | ((with_reducible refine gate_dst (N := 1) rfl ?_); refine box_event ?hg (N := 1) ?hd (cs := #[.int .i64 a0_0, .int .i64 a0_1, .int .i64 a0_2, .string a0_3, .string a0_4, .int .i64 a0_5]) (t := 25) ?hr ?_; (case hd => rfl); (case hg => rfl); (case hr => first | (go_simp; done) | (go_simp; rfl)); intro gb110 hg w18 hbox hb; have n0_ := A0 (below_step (by repeat (first | (with_reducible first | exact HB.out | apply wA | apply wN | apply wD) | exact HB.out)) hb); have n1_ := A0 (hbox); have n2_ := A0 ((by rw [hg]; exact (below_size (by repeat (first | (with_reducible first | exact HB.out | apply wA | apply wN | apply wD) | exact HB.out))) : w.heap.size ≤ gb110)); have n3_ := A0 ((by rw [hg]; exact (below_size (by repeat (first | (with_reducible first | exact HB.out | apply wA | apply wN | apply wD) | exact HB.out))) : w.heap.size ≤ gb110)); clear HB; have HB := n0_; have BK110 := n1_; have GW110 := n2_; have GE110 := n3_; clear n0_ n1_ n2_ n3_; clear hb hbox hg; have hcz19_0 : w18.cell? ⟨gb110, 0, none⟩ = some (.int .i64 a0_0) := bC BK110.out 0 rfl; have hcz19_1 : w18.cell? ⟨gb110, 1, none⟩ = some (.int .i64 a0_1) := bC BK110.out 1 rfl; have hcz19_2 : w18.cell? ⟨gb110, 2, none⟩ = some (.int .i64 a0_2) := bC BK110.out 2 rfl; have hcz19_3 : w18.cell? ⟨gb110, 3, none⟩ = some (.string a0_3) := bC BK110.out 3 rfl; have hcz19_4 : w18.cell? ⟨gb110, 4, none⟩ = some (.string a0_4) := bC BK110.out 4 rfl; have hcz19_5 : w18.cell? ⟨gb110, 5, none⟩ = some (.int .i64 a0_5) := bC BK110.out 5 rfl; have hfz19_0 := blk_frozen BK110.out 0; have hfz19_1 := blk_frozen BK110.out 1; have hfz19_2 := blk_frozen BK110.out 2; have hfz19_3 := blk_frozen BK110.out 3; have hfz19_4 := blk_frozen BK110.out 4; have hfz19_5 := blk_frozen BK110.out 5) | ((with_reducible refine gate_callee (f := 18) rfl ?_); refine goesL_ (some 4) rfl rfl Tryd.func18 (by kernel_rfl) rfl #[.agg #[.int .i64 a0_0, .int .i64 a0_1, .int .i64 a0_2, .string a0_3, .string a0_4, .int .i64 a0_5]] rfl (by (try simp only [lM, lC, lN]); first | done | rfl | (simp only [lD, lT]; rfl)) ?_; (with_reducible refine (spec_l21WindOk.calls k a0_0 a0_1 a0_2 a0_3 a0_4 a0_5 true _ A2.out).mono ?_); rintro e w20 ⟨rfl, hb⟩; refine ⟨_, rfl, ?_⟩; have n0_ := A0 (blk_below (g := gb110) (o := .cells #[.int .i64 a0_0, .int .i64 a0_1, .int .i64 a0_2, .string a0_3, .string a0_4, .int .i64 a0_5] 25 (0, 0)) (by (with_reducible repeat (first | refine bN ?_ _ | refine bD ?_ | refine bA ?_ _)); exact BK110.out) hb); have n1_ := A0 (below_step (by repeat (first | (with_reducible first | exact HB.out | apply wA | apply wN | apply wD | refine bS ?_ GE110.out) | exact HB.out)) hb); clear BK110; clear HB; have BK110 := n0_; have HB := n1_; clear n0_ n1_; (try clear hb); (try clear hb2); (try clear hk); (try clear hi); have hcz21_0 : w20.cell? ⟨gb110, 0, none⟩ = some (.int .i64 a0_0) := bC BK110.out 0 rfl; have hcz21_1 : w20.cell? ⟨gb110, 1, none⟩ = some (.int .i64 a0_1) := bC BK110.out 1 rfl; have hcz21_2 : w20.cell? ⟨gb110, 2, none⟩ = some (.int .i64 a0_2) := bC BK110.out 2 rfl; have hcz21_3 : w20.cell? ⟨gb110, 3, none⟩ = some (.string a0_3) := bC BK110.out 3 rfl; have hcz21_4 : w20.cell? ⟨gb110, 4, none⟩ = some (.string a0_4) := bC BK110.out 4 rfl; have hcz21_5 : w20.cell? ⟨gb110, 5, none⟩ = some (.int .i64 a0_5) := bC BK110.out 5 rfl; have hfz21_0 := blk_frozen BK110.out 0; have hfz21_1 := blk_frozen BK110.out 1; have hfz21_2 := blk_frozen BK110.out 2; have hfz21_3 := blk_frozen BK110.out 3; have hfz21_4 := blk_frozen BK110.out 4; have hfz21_5 := blk_frozen BK110.out 5) | (go_at_call 19; (with_reducible refine (spec_l2In.calls a0_2 (-1) 9999 false _ A4.out).mono ?_); rintro e w' ⟨rfl, ⟨nd, rfl⟩⟩))
   go_ret
   exact ⟨by first | rfl | (simp [errW_none, errW_some] <;> rfl) | (simp [*, errW_none, errW_some] <;> rfl), by repeat (first | (with_reducible first | exact HB.out | apply wA | apply wN | apply wD | refine bS ?_ GE110.out) | exact HB.out)⟩
 ·replace c3 := Bool.eq_false_iff.mpr c3
  subst c3
  have H1 : (some false) = some r := by rw [if_neg (show ¬ (false = true) by decide)] at H; exact H
  clear H
  have H := H1
  clear H1
  obtain rfl := Option.some.inj H
  go_enter Tryd.func12, Tryd.ntmps12
  go_wp2_with (first | ((with_reducible refine gate_dst (N := 1) rfl ?_); refine box_event ?hg (N := 1) ?hd (cs := #[.int .i64 a0_0, .int .i64 a0_1, .int .i64 a0_2, .string a0_3, .string a0_4, .int .i64 a0_5]) (t := 25) ?hr ?_; (case hd => rfl); (case hg => rfl); (case hr => first | (go_simp; done) | (go_simp; rfl)); intro gb110 hg w22 hbox hb; have n0_ := A0 (below_step (by repeat (first | (with_reducible first | exact HB.out | apply wA | apply wN | apply wD) | exact HB.out)) hb); have n1_ := A0 (hbox); have n2_ := A0 ((by rw [hg]; exact (below_size (by repeat (first | (with_reducible first | exact HB.out | apply wA | apply wN | apply wD) | exact HB.out))) : w.heap.size ≤ gb110)); have n3_ := A0 ((by rw [hg]; exact (below_size (by repeat (first | (with_reducible first | exact HB.out | apply wA | apply wN | apply wD) | exact HB.out))) : w.heap.size ≤ gb110)); clear HB; have HB := n0_; have BK110 := n1_; have GW110 := n2_; have GE110 := n3_; clear n0_ n1_ n2_ n3_; clear hb hbox hg; have hcz23_0 : w22.cell? ⟨gb110, 0, none⟩ = some (.int .i64 a0_0) := bC BK110.out 0 rfl; have hcz23_1 : w22.cell? ⟨gb110, 1, none⟩ = some (.int .i64 a0_1) := bC BK110.out 1 rfl; have hcz23_2 : w22.cell? ⟨gb110, 2, none⟩ = some (.int .i64 a0_2) := bC BK110.out 2 rfl; have hcz23_3 : w22.cell? ⟨gb110, 3, none⟩ = some (.string a0_3) := bC BK110.out 3 rfl; have hcz23_4 : w22.cell? ⟨gb110, 4, none⟩ = some (.string a0_4) := bC BK110.out 4 rfl; have hcz23_5 : w22.cell? ⟨gb110, 5, none⟩ = some (.int .i64 a0_5) := bC BK110.out 5 rfl; have hfz23_0 := blk_frozen BK110.out 0; have hfz23_1 := blk_frozen BK110.out 1; have hfz23_2 := blk_frozen BK110.out 2; have hfz23_3 := blk_frozen BK110.out 3; have hfz23_4 := blk_frozen BK110.out 4; have hfz23_5 := blk_frozen BK110.out 5) | ((with_reducible refine gate_callee (f := 18) rfl ?_); refine goesL_ (some 4) rfl rfl Tryd.func18 (by kernel_rfl) rfl #[.agg #[.int .i64 a0_0, .int .i64 a0_1, .int .i64 a0_2, .string a0_3, .string a0_4, .int .i64 a0_5]] rfl (by (try simp only [lM, lC, lN]); first | done | rfl | (simp only [lD, lT]; rfl)) ?_; (with_reducible refine (spec_l21WindOk.calls k a0_0 a0_1 a0_2 a0_3 a0_4 a0_5 false _ A2.out).mono ?_); rintro e w24 ⟨rfl, hb⟩; refine ⟨_, rfl, ?_⟩; have n0_ := A0 (blk_below (g := gb110) (o := .cells #[.int .i64 a0_0, .int .i64 a0_1, .int .i64 a0_2, .string a0_3, .string a0_4, .int .i64 a0_5] 25 (0, 0)) (by (with_reducible repeat (first | refine bN ?_ _ | refine bD ?_ | refine bA ?_ _)); exact BK110.out) hb); have n1_ := A0 (below_step (by repeat (first | (with_reducible first | exact HB.out | apply wA | apply wN | apply wD | refine bS ?_ GE110.out) | exact HB.out)) hb); clear BK110; clear HB; have BK110 := n0_; have HB := n1_; clear n0_ n1_; (try clear hb); (try clear hb2); (try clear hk); (try clear hi)))
  go_ret
  exact ⟨by first | rfl | (simp [errW_none, errW_some] <;> rfl) | (simp [*, errW_none, errW_some] <;> rfl), by repeat (first | (with_reducible first | exact HB.out | apply wA | apply wN | apply wD | refine bS ?_ GE110.out) | exact HB.out)⟩

end Go.Proofs.YtcdghhihfjojaabDoor.Q
