/- Plain Lean functions with the same answers as the Go functions of this seat, and a proof for each that the Go code comes to just these answers; no condition. Written by a program of this session (the kit's printer, turned). -/
import Derived.Test.YtcdghhihfjojaabDoorQx0
import Derived.Test.YtcdghhihfjojaabDoorQx1
import Derived.Test.YtcdghhihfjojaabDoorQx7
import Derived.Test.YtcdghhihfjojaabDoorQx8
import Derived.Test.YtcdghhihfjojaabDoorQx14
import Derived.Test.YtcdghhihfjojaabDoorQx15
namespace Go.Proofs.YtcdghhihfjojaabDoor.Q
open Go.RowKit Go.Proofs.YtcdghhihfjojaabDoorW.PrintWords Go.Proofs.YtcdghhihfjojaabDoorW.PrintLast Go.Proofs.YtcdghhihfjojaabDoorW.PrintMore Go.Proofs.YtcdghhihfjojaabDoorW.PrintFlt
attribute [local go_sem] cmp_lss cmp_leq cmp_gtr cmp_geq cmp_eql cmp_neq flt_l flt_r fgt_l fgt_r feq_l feq_r fne_l fne_r ord_lt ord_gt ord_eq ord_ne conv_int foi_fold run_store_flt
attribute [local go_sem] max2_int min2_int max_two min_two max_three min_three max_four min_four   -- for this text's walks alone
set_option linter.unusedVariables false
set_option linter.unusedSimpArgs false

/-! ### laws_FnExactLaid: function 3 -/
def laws_FnExactLaid.f (k : Nat) (a0_0 : Int) (a0_1 : Int) (a0_2 : Int) (a0_3 : ByteArray) (a0_4 : ByteArray) (a0_5 : Int) (a1_0 : Int) (a1_1 : Int) (a1_2 : Int) (a1_3 : ByteArray) (a1_4 : ByteArray) (a1_5 : Int) (l2 : List (List ByteArray)) (l3 : List (List ByteArray)) : Option (Bool) := (laws_szSky.f a0_0 a0_1 a0_2 a0_3 a0_4 a0_5 1048576).bind fun t152 => (if t152 < 0 then (some true) else ((laws_szSky.f a1_0 a1_1 a1_2 a1_3 a1_4 a1_5 t152).bind fun t153 => (if t153 < 0 then (some true) else ((laws_toSky.f a0_0 a0_1 a0_2 a0_3 a0_4 a0_5).bind fun bt154 => ((laws_toSky.f a1_0 a1_1 a1_2 a1_3 a1_4 a1_5).bind fun bt160 => ((spec_Laid.f k bt154.1 bt154.2.1 bt154.2.2.1 bt154.2.2.2.1 bt154.2.2.2.2.1 bt154.2.2.2.2.2 bt160.1 bt160.2.1 bt160.2.2.1 bt160.2.2.2.1 bt160.2.2.2.2.1 bt160.2.2.2.2.2).bind fun bt166 => ((laws_toSky.f a0_0 a0_1 a0_2 a0_3 a0_4 a0_5).bind fun bt173 => ((laws_toSky.f a1_0 a1_1 a1_2 a1_3 a1_4 a1_5).bind fun bt179 => ((impl_Laid.f k bt173.1 bt173.2.1 bt173.2.2.1 bt173.2.2.2.1 bt173.2.2.2.2.1 bt173.2.2.2.2.2 bt179.1 bt179.2.1 bt179.2.2.1 bt179.2.2.2.1 bt179.2.2.2.2.1 bt179.2.2.2.2.2 l2 l3).bind fun bt185 => ((laws_eqSky.f bt185.1 bt185.2.1 bt185.2.2.1 bt185.2.2.2.1 bt185.2.2.2.2.1 bt185.2.2.2.2.2 bt166.1 bt166.2.1 bt166.2.2.1 bt166.2.2.2.1 bt166.2.2.2.2.1 bt166.2.2.2.2.2).bind fun t192 => (if t192 = true then (some true) else (some false))))))))))))
theorem laws_FnExactLaid.mono : ∀ a0 a1 a2 a3 a4 a5 a6 a7 a8 a9 a10 a11 a12 a13 k, LeO (laws_FnExactLaid.f k a0 a1 a2 a3 a4 a5 a6 a7 a8 a9 a10 a11 a12 a13) (laws_FnExactLaid.f (k + 1) a0 a1 a2 a3 a4 a5 a6 a7 a8 a9 a10 a11 a12 a13) := by
 intro a0 a1 a2 a3 a4 a5 a6 a7 a8 a9 a10 a11 a12 a13 k
 unfold laws_FnExactLaid.f
 repeat' first
   | (with_reducible exact impl_Laid.mono _ _ _ _ _ _ _ _ _ _ _ _ _ _ _)
   | (with_reducible exact spec_Laid.mono _ _ _ _ _ _ _ _ _ _ _ _ _)
   | (with_reducible exact LeO.refl _)
   | (with_reducible exact LeO.none _)
   | (with_reducible refine LeO.ite ?_ ?_)
   | (with_reducible refine LeO.bind ?_ (fun _ => ?_))
   | exact impl_Laid.mono _ _ _ _ _ _ _ _ _ _ _ _ _ _ _
   | exact spec_Laid.mono _ _ _ _ _ _ _ _ _ _ _ _ _
   | exact LeO.none _
   | refine LeO.ite ?_ ?_
   | refine LeO.bind ?_ (fun _ => ?_)
set_option maxHeartbeats 8000000 in
set_option maxRecDepth 100000 in
theorem laws_FnExactLaid.calls (k : Nat) (a0_0 : Int) (a0_1 : Int) (a0_2 : Int) (a0_3 : ByteArray) (a0_4 : ByteArray) (a0_5 : Int) (a1_0 : Int) (a1_1 : Int) (a1_2 : Int) (a1_3 : ByteArray) (a1_4 : ByteArray) (a1_5 : Int) (l2 : List (List ByteArray)) (l3 : List (List ByteArray)) (r : Bool) (w : World) (hr2 : Kd.C (Kd.slice 9 Kd.string) w (some ⟨0, 0, none⟩) l2.length l2) (hc2 : l2.length ≤ l2.length) (hr3 : Kd.C (Kd.slice 9 Kd.string) w (some ⟨1, 0, none⟩) l3.length l3) (hc3 : l3.length ≤ l3.length) (h : laws_FnExactLaid.f k a0_0 a0_1 a0_2 a0_3 a0_4 a0_5 a1_0 a1_1 a1_2 a1_3 a1_4 a1_5 l2 l3 = some r) :
  Calls Tryd.prog 3 #[.agg #[.int .i64 a0_0, .int .i64 a0_1, .int .i64 a0_2, .string a0_3, .string a0_4, .int .i64 a0_5], .agg #[.int .i64 a1_0, .int .i64 a1_1, .int .i64 a1_2, .string a1_3, .string a1_4, .int .i64 a1_5]] w fun e w' => e = .returned (.bool r) ∧ Below w.heap.size w w' := by
 have hu23 := Tryd.underlying23
 have hu25 := Tryd.underlying25
 have HR2 := Aside0.mk hr2
 have HC2 := Aside0.mk hc2
 clear hr2 hc2
 have HR3 := Aside0.mk hr3
 have HC3 := Aside0.mk hc3
 clear hr3 hc3
 have HB := A0 (Below.refl w.heap.size w)
 have H : ((laws_szSky.f a0_0 a0_1 a0_2 a0_3 a0_4 a0_5 1048576).bind fun t152 => (if t152 < 0 then (some true) else ((laws_szSky.f a1_0 a1_1 a1_2 a1_3 a1_4 a1_5 t152).bind fun t153 => (if t153 < 0 then (some true) else ((laws_toSky.f a0_0 a0_1 a0_2 a0_3 a0_4 a0_5).bind fun bt154 => ((laws_toSky.f a1_0 a1_1 a1_2 a1_3 a1_4 a1_5).bind fun bt160 => ((spec_Laid.f k bt154.1 bt154.2.1 bt154.2.2.1 bt154.2.2.2.1 bt154.2.2.2.2.1 bt154.2.2.2.2.2 bt160.1 bt160.2.1 bt160.2.2.1 bt160.2.2.2.1 bt160.2.2.2.2.1 bt160.2.2.2.2.2).bind fun bt166 => ((laws_toSky.f a0_0 a0_1 a0_2 a0_3 a0_4 a0_5).bind fun bt173 => ((laws_toSky.f a1_0 a1_1 a1_2 a1_3 a1_4 a1_5).bind fun bt179 => ((impl_Laid.f k bt173.1 bt173.2.1 bt173.2.2.1 bt173.2.2.2.1 bt173.2.2.2.2.1 bt173.2.2.2.2.2 bt179.1 bt179.2.1 bt179.2.2.1 bt179.2.2.2.1 bt179.2.2.2.2.1 bt179.2.2.2.2.2 l2 l3).bind fun bt185 => ((laws_eqSky.f bt185.1 bt185.2.1 bt185.2.2.1 bt185.2.2.2.1 bt185.2.2.2.2.1 bt185.2.2.2.2.2 bt166.1 bt166.2.1 bt166.2.2.1 bt166.2.2.2.1 bt166.2.2.2.2.1 bt166.2.2.2.2.2).bind fun t192 => (if t192 = true then (some true) else (some false))))))))))))) = some r := h
 clear h
 replace H := Option.bind_eq_some_iff.mp H
 obtain ⟨t152, A50, H⟩ := H
 replace H : (if t152 < 0 then (some true) else ((laws_szSky.f a1_0 a1_1 a1_2 a1_3 a1_4 a1_5 t152).bind fun t153 => (if t153 < 0 then (some true) else ((laws_toSky.f a0_0 a0_1 a0_2 a0_3 a0_4 a0_5).bind fun bt154 => ((laws_toSky.f a1_0 a1_1 a1_2 a1_3 a1_4 a1_5).bind fun bt160 => ((spec_Laid.f k bt154.1 bt154.2.1 bt154.2.2.1 bt154.2.2.2.1 bt154.2.2.2.2.1 bt154.2.2.2.2.2 bt160.1 bt160.2.1 bt160.2.2.1 bt160.2.2.2.1 bt160.2.2.2.2.1 bt160.2.2.2.2.2).bind fun bt166 => ((laws_toSky.f a0_0 a0_1 a0_2 a0_3 a0_4 a0_5).bind fun bt173 => ((laws_toSky.f a1_0 a1_1 a1_2 a1_3 a1_4 a1_5).bind fun bt179 => ((impl_Laid.f k bt173.1 bt173.2.1 bt173.2.2.1 bt173.2.2.2.1 bt173.2.2.2.2.1 bt173.2.2.2.2.2 bt179.1 bt179.2.1 bt179.2.2.1 bt179.2.2.2.1 bt179.2.2.2.2.1 bt179.2.2.2.2.2 l2 l3).bind fun bt185 => ((laws_eqSky.f bt185.1 bt185.2.1 bt185.2.2.1 bt185.2.2.2.1 bt185.2.2.2.2.1 bt185.2.2.2.2.2 bt166.1 bt166.2.1 bt166.2.2.1 bt166.2.2.2.1 bt166.2.2.2.2.1 bt166.2.2.2.2.2).bind fun t192 => (if t192 = true then (some true) else (some false)))))))))))) = some r := H
 have A5 := Aside0.mk A50
 clear A50
 by_cases c6 : t152 < 0
 ·rw [if_pos c6] at H
  have c6b0 : decide (t152 < 0) = true := decide_eq_true c6
  clear c6
  obtain rfl := Option.some.inj H
  go_enter Tryd.func3, Tryd.ntmps3
  go_wp2_with (first | ((with_reducible refine gate_dst (N := 2) rfl ?_); refine box_event ?hg (N := 2) ?hd (cs := #[.int .i64 a0_0, .int .i64 a0_1, .int .i64 a0_2, .string a0_3, .string a0_4, .int .i64 a0_5]) (t := 23) ?hr ?_; (case hd => rfl); (case hg => rfl); (case hr => first | (go_simp; done) | (go_simp; rfl)); intro gb150 hg w7 hbox hb; have n0_ := A0 (below_step (by repeat (first | (with_reducible first | exact HB.out | apply wA | apply wN | apply wD) | exact HB.out)) hb); have n1_ := A0 (hbox); have n2_ := A0 ((by rw [hg]; exact (below_size (by repeat (first | (with_reducible first | exact HB.out | apply wA | apply wN | apply wD) | exact HB.out))) : w.heap.size ≤ gb150)); have n3_ := A0 ((by rw [hg]; exact (below_size (by repeat (first | (with_reducible first | exact HB.out | apply wA | apply wN | apply wD) | exact HB.out))) : w.heap.size ≤ gb150)); clear HB; have HB := n0_; have BK150 := n1_; have GW150 := n2_; have GE150 := n3_; clear n0_ n1_ n2_ n3_; clear hb hbox hg) | ((with_reducible refine gate_dst (N := 3) rfl ?_); refine box_event ?hg (N := 3) ?hd (cs := #[.int .i64 a1_0, .int .i64 a1_1, .int .i64 a1_2, .string a1_3, .string a1_4, .int .i64 a1_5]) (t := 23) ?hr ?_; (case hd => rfl); (case hg => rfl); (case hr => first | (go_simp; done) | (go_simp; rfl)); intro gb151 hg w8 hbox hb; have n0_ := A0 (blk_below (g := gb150) (o := .cells #[.int .i64 a0_0, .int .i64 a0_1, .int .i64 a0_2, .string a0_3, .string a0_4, .int .i64 a0_5] 23 (0, 0)) (by (with_reducible repeat (first | refine bN ?_ _ | refine bD ?_ | refine bA ?_ _)); exact BK150.out) hb); have n1_ := A0 (below_step (by repeat (first | (with_reducible first | exact HB.out | apply wA | apply wN | apply wD | refine bS ?_ GE150.out) | exact HB.out)) hb); have n2_ := A0 (hbox); have n3_ := A0 ((by rw [hg]; exact (below_size (by repeat (first | (with_reducible first | exact HB.out | apply wA | apply wN | apply wD | refine bS ?_ GE150.out) | exact HB.out))) : w.heap.size ≤ gb151)); have n4_ := A0 ((by rw [hg]; exact (below_size (by repeat (first | (with_reducible first | exact HB.out | apply wA | apply wN | apply wD | refine bS ?_ GE150.out) | exact HB.out))) : w.heap.size ≤ gb151)); have n5_ := A0 ((by rw [hg]; exact Nat.ne_of_lt (blk_lt (g := gb150) (o := .cells #[.int .i64 a0_0, .int .i64 a0_1, .int .i64 a0_2, .string a0_3, .string a0_4, .int .i64 a0_5] 23 (0, 0)) (by (with_reducible repeat (first | refine bN ?_ _ | refine bD ?_ | refine bA ?_ _)); exact BK150.out)) : gb150 ≠ gb151)); have n6_ := A0 ((by rw [hg]; exact Nat.ne_of_gt (blk_lt (g := gb150) (o := .cells #[.int .i64 a0_0, .int .i64 a0_1, .int .i64 a0_2, .string a0_3, .string a0_4, .int .i64 a0_5] 23 (0, 0)) (by (with_reducible repeat (first | refine bN ?_ _ | refine bD ?_ | refine bA ?_ _)); exact BK150.out)) : gb151 ≠ gb150)); clear BK150; clear HB; have BK150 := n0_; have HB := n1_; have BK151 := n2_; have GW151 := n3_; have GE151 := n4_; have NB150_151 := n5_; have NB151_150 := n6_; clear n0_ n1_ n2_ n3_ n4_ n5_ n6_; clear hb hbox hg; have hnb9 := NB150_151.out; have hnc9 := NB151_150.out; have hcz10_0 : w8.cell? ⟨gb150, 0, none⟩ = some (.int .i64 a0_0) := bC BK150.out 0 rfl; have hcz10_1 : w8.cell? ⟨gb150, 1, none⟩ = some (.int .i64 a0_1) := bC BK150.out 1 rfl; have hcz10_2 : w8.cell? ⟨gb150, 2, none⟩ = some (.int .i64 a0_2) := bC BK150.out 2 rfl; have hcz10_3 : w8.cell? ⟨gb150, 3, none⟩ = some (.string a0_3) := bC BK150.out 3 rfl; have hcz10_4 : w8.cell? ⟨gb150, 4, none⟩ = some (.string a0_4) := bC BK150.out 4 rfl; have hcz10_5 : w8.cell? ⟨gb150, 5, none⟩ = some (.int .i64 a0_5) := bC BK150.out 5 rfl; have hfz10_0 := blk_frozen BK150.out 0; have hfz10_1 := blk_frozen BK150.out 1; have hfz10_2 := blk_frozen BK150.out 2; have hfz10_3 := blk_frozen BK150.out 3; have hfz10_4 := blk_frozen BK150.out 4; have hfz10_5 := blk_frozen BK150.out 5) | ((with_reducible refine gate_callee (f := 5) rfl ?_); refine goesL_ (some 10) rfl rfl Tryd.func5 (by kernel_rfl) rfl #[.agg #[.int .i64 a0_0, .int .i64 a0_1, .int .i64 a0_2, .string a0_3, .string a0_4, .int .i64 a0_5], .int .i64 1048576] rfl (by (try simp only [lM, lC, lN]); first | done | rfl | (simp only [lD, lT]; rfl)) ?_; (with_reducible refine (laws_szSky.calls a0_0 a0_1 a0_2 a0_3 a0_4 a0_5 1048576 t152 _ A5.out).mono ?_); rintro e w11 ⟨rfl, hb⟩; refine ⟨_, rfl, ?_⟩; have n0_ := A0 (blk_below (g := gb150) (o := .cells #[.int .i64 a0_0, .int .i64 a0_1, .int .i64 a0_2, .string a0_3, .string a0_4, .int .i64 a0_5] 23 (0, 0)) (by (with_reducible repeat (first | refine bN ?_ _ | refine bD ?_ | refine bA ?_ _)); exact BK150.out) hb); have n1_ := A0 (blk_below (g := gb151) (o := .cells #[.int .i64 a1_0, .int .i64 a1_1, .int .i64 a1_2, .string a1_3, .string a1_4, .int .i64 a1_5] 23 (0, 0)) (by (with_reducible repeat (first | refine bN ?_ _ | refine bD ?_ | refine bA ?_ _)); exact BK151.out) hb); have n2_ := A0 (below_step (by repeat (first | (with_reducible first | exact HB.out | apply wA | apply wN | apply wD | refine bS ?_ GE150.out | refine bS ?_ GE151.out) | exact HB.out)) hb); clear BK150; clear BK151; clear HB; have BK150 := n0_; have BK151 := n1_; have HB := n2_; clear n0_ n1_ n2_; (try clear hb); (try clear hb2); (try clear hk); (try clear hi)))
  go_ret
  exact ⟨by first | rfl | (simp [errW_none, errW_some] <;> rfl) | (simp [*, errW_none, errW_some] <;> rfl), by repeat (first | (with_reducible first | exact HB.out | apply wA | apply wN | apply wD | refine bS ?_ GE150.out | refine bS ?_ GE151.out) | exact HB.out)⟩
 ·rw [if_neg c6] at H
  have c6b0 : decide (t152 < 0) = false := decide_eq_false c6
  clear c6
  replace H := Option.bind_eq_some_iff.mp H
  obtain ⟨t153, A120, H⟩ := H
  replace H : (if t153 < 0 then (some true) else ((laws_toSky.f a0_0 a0_1 a0_2 a0_3 a0_4 a0_5).bind fun bt154 => ((laws_toSky.f a1_0 a1_1 a1_2 a1_3 a1_4 a1_5).bind fun bt160 => ((spec_Laid.f k bt154.1 bt154.2.1 bt154.2.2.1 bt154.2.2.2.1 bt154.2.2.2.2.1 bt154.2.2.2.2.2 bt160.1 bt160.2.1 bt160.2.2.1 bt160.2.2.2.1 bt160.2.2.2.2.1 bt160.2.2.2.2.2).bind fun bt166 => ((laws_toSky.f a0_0 a0_1 a0_2 a0_3 a0_4 a0_5).bind fun bt173 => ((laws_toSky.f a1_0 a1_1 a1_2 a1_3 a1_4 a1_5).bind fun bt179 => ((impl_Laid.f k bt173.1 bt173.2.1 bt173.2.2.1 bt173.2.2.2.1 bt173.2.2.2.2.1 bt173.2.2.2.2.2 bt179.1 bt179.2.1 bt179.2.2.1 bt179.2.2.2.1 bt179.2.2.2.2.1 bt179.2.2.2.2.2 l2 l3).bind fun bt185 => ((laws_eqSky.f bt185.1 bt185.2.1 bt185.2.2.1 bt185.2.2.2.1 bt185.2.2.2.2.1 bt185.2.2.2.2.2 bt166.1 bt166.2.1 bt166.2.2.1 bt166.2.2.2.1 bt166.2.2.2.2.1 bt166.2.2.2.2.2).bind fun t192 => (if t192 = true then (some true) else (some false)))))))))) = some r := H
  have A12 := Aside0.mk A120
  clear A120
  by_cases c13 : t153 < 0
  ·rw [if_pos c13] at H
   have c13b0 : decide (t153 < 0) = true := decide_eq_true c13
   clear c13
   obtain rfl := Option.some.inj H
   go_enter Tryd.func3, Tryd.ntmps3
   go_wp2_with (first | ((with_reducible refine gate_dst (N := 2) rfl ?_); refine box_event ?hg (N := 2) ?hd (cs := #[.int .i64 a0_0, .int .i64 a0_1, .int .i64 a0_2, .string a0_3, .string a0_4, .int .i64 a0_5]) (t := 23) ?hr ?_; (case hd => rfl); (case hg => rfl); (case hr => first | (go_simp; done) | (go_simp; rfl)); intro gb150 hg w14 hbox hb; have n0_ := A0 (below_step (by repeat (first | (with_reducible first | exact HB.out | apply wA | apply wN | apply wD) | exact HB.out)) hb); have n1_ := A0 (hbox); have n2_ := A0 ((by rw [hg]; exact (below_size (by repeat (first | (with_reducible first | exact HB.out | apply wA | apply wN | apply wD) | exact HB.out))) : w.heap.size ≤ gb150)); have n3_ := A0 ((by rw [hg]; exact (below_size (by repeat (first | (with_reducible first | exact HB.out | apply wA | apply wN | apply wD) | exact HB.out))) : w.heap.size ≤ gb150)); clear HB; have HB := n0_; have BK150 := n1_; have GW150 := n2_; have GE150 := n3_; clear n0_ n1_ n2_ n3_; clear hb hbox hg) | ((with_reducible refine gate_dst (N := 3) rfl ?_); refine box_event ?hg (N := 3) ?hd (cs := #[.int .i64 a1_0, .int .i64 a1_1, .int .i64 a1_2, .string a1_3, .string a1_4, .int .i64 a1_5]) (t := 23) ?hr ?_; (case hd => rfl); (case hg => rfl); (case hr => first | (go_simp; done) | (go_simp; rfl)); intro gb151 hg w15 hbox hb; have n0_ := A0 (blk_below (g := gb150) (o := .cells #[.int .i64 a0_0, .int .i64 a0_1, .int .i64 a0_2, .string a0_3, .string a0_4, .int .i64 a0_5] 23 (0, 0)) (by (with_reducible repeat (first | refine bN ?_ _ | refine bD ?_ | refine bA ?_ _)); exact BK150.out) hb); have n1_ := A0 (below_step (by repeat (first | (with_reducible first | exact HB.out | apply wA | apply wN | apply wD | refine bS ?_ GE150.out) | exact HB.out)) hb); have n2_ := A0 (hbox); have n3_ := A0 ((by rw [hg]; exact (below_size (by repeat (first | (with_reducible first | exact HB.out | apply wA | apply wN | apply wD | refine bS ?_ GE150.out) | exact HB.out))) : w.heap.size ≤ gb151)); have n4_ := A0 ((by rw [hg]; exact (below_size (by repeat (first | (with_reducible first | exact HB.out | apply wA | apply wN | apply wD | refine bS ?_ GE150.out) | exact HB.out))) : w.heap.size ≤ gb151)); have n5_ := A0 ((by rw [hg]; exact Nat.ne_of_lt (blk_lt (g := gb150) (o := .cells #[.int .i64 a0_0, .int .i64 a0_1, .int .i64 a0_2, .string a0_3, .string a0_4, .int .i64 a0_5] 23 (0, 0)) (by (with_reducible repeat (first | refine bN ?_ _ | refine bD ?_ | refine bA ?_ _)); exact BK150.out)) : gb150 ≠ gb151)); have n6_ := A0 ((by rw [hg]; exact Nat.ne_of_gt (blk_lt (g := gb150) (o := .cells #[.int .i64 a0_0, .int .i64 a0_1, .int .i64 a0_2, .string a0_3, .string a0_4, .int .i64 a0_5] 23 (0, 0)) (by (with_reducible repeat (first | refine bN ?_ _ | refine bD ?_ | refine bA ?_ _)); exact BK150.out)) : gb151 ≠ gb150)); clear BK150; clear HB; have BK150 := n0_; have HB := n1_; have BK151 := n2_; have GW151 := n3_; have GE151 := n4_; have NB150_151 := n5_; have NB151_150 := n6_; clear n0_ n1_ n2_ n3_ n4_ n5_ n6_; clear hb hbox hg; have hnb16 := NB150_151.out; have hnc16 := NB151_150.out; have hcz17_0 : w15.cell? ⟨gb150, 0, none⟩ = some (.int .i64 a0_0) := bC BK150.out 0 rfl; have hcz17_1 : w15.cell? ⟨gb150, 1, none⟩ = some (.int .i64 a0_1) := bC BK150.out 1 rfl; have hcz17_2 : w15.cell? ⟨gb150, 2, none⟩ = some (.int .i64 a0_2) := bC BK150.out 2 rfl; have hcz17_3 : w15.cell? ⟨gb150, 3, none⟩ = some (.string a0_3) := bC BK150.out 3 rfl; have hcz17_4 : w15.cell? ⟨gb150, 4, none⟩ = some (.string a0_4) := bC BK150.out 4 rfl; have hcz17_5 : w15.cell? ⟨gb150, 5, none⟩ = some (.int .i64 a0_5) := bC BK150.out 5 rfl; have hfz17_0 := blk_frozen BK150.out 0; have hfz17_1 := blk_frozen BK150.out 1; have hfz17_2 := blk_frozen BK150.out 2; have hfz17_3 := blk_frozen BK150.out 3; have hfz17_4 := blk_frozen BK150.out 4; have hfz17_5 := blk_frozen BK150.out 5) | ((with_reducible refine gate_callee (f := 5) rfl ?_); refine goesL_ (some 10) rfl rfl Tryd.func5 (by kernel_rfl) rfl #[.agg #[.int .i64 a0_0, .int .i64 a0_1, .int .i64 a0_2, .string a0_3, .string a0_4, .int .i64 a0_5], .int .i64 1048576] rfl (by (try simp only [lM, lC, lN]); first | done | rfl | (simp only [lD, lT]; rfl)) ?_; (with_reducible refine (laws_szSky.calls a0_0 a0_1 a0_2 a0_3 a0_4 a0_5 1048576 t152 _ A5.out).mono ?_); rintro e w18 ⟨rfl, hb⟩; refine ⟨_, rfl, ?_⟩; have n0_ := A0 (blk_below (g := gb150) (o := .cells #[.int .i64 a0_0, .int .i64 a0_1, .int .i64 a0_2, .string a0_3, .string a0_4, .int .i64 a0_5] 23 (0, 0)) (by (with_reducible repeat (first | refine bN ?_ _ | refine bD ?_ | refine bA ?_ _)); exact BK150.out) hb); have n1_ := A0 (blk_below (g := gb151) (o := .cells #[.int .i64 a1_0, .int .i64 a1_1, .int .i64 a1_2, .string a1_3, .string a1_4, .int .i64 a1_5] 23 (0, 0)) (by (with_reducible repeat (first | refine bN ?_ _ | refine bD ?_ | refine bA ?_ _)); exact BK151.out) hb); have n2_ := A0 (below_step (by repeat (first | (with_reducible first | exact HB.out | apply wA | apply wN | apply wD | refine bS ?_ GE150.out | refine bS ?_ GE151.out) | exact HB.out)) hb); clear BK150; clear BK151; clear HB; have BK150 := n0_; have BK151 := n1_; have HB := n2_; clear n0_ n1_ n2_; (try clear hb); (try clear hb2); (try clear hk); (try clear hi); have hcz19_0 : w18.cell? ⟨gb151, 0, none⟩ = some (.int .i64 a1_0) := bC BK151.out 0 rfl; have hcz19_1 : w18.cell? ⟨gb151, 1, none⟩ = some (.int .i64 a1_1) := bC BK151.out 1 rfl; have hcz19_2 : w18.cell? ⟨gb151, 2, none⟩ = some (.int .i64 a1_2) := bC BK151.out 2 rfl; have hcz19_3 : w18.cell? ⟨gb151, 3, none⟩ = some (.string a1_3) := bC BK151.out 3 rfl; have hcz19_4 : w18.cell? ⟨gb151, 4, none⟩ = some (.string a1_4) := bC BK151.out 4 rfl; have hcz19_5 : w18.cell? ⟨gb151, 5, none⟩ = some (.int .i64 a1_5) := bC BK151.out 5 rfl; have hfz19_0 := blk_frozen BK151.out 0; have hfz19_1 := blk_frozen BK151.out 1; have hfz19_2 := blk_frozen BK151.out 2; have hfz19_3 := blk_frozen BK151.out 3; have hfz19_4 := blk_frozen BK151.out 4; have hfz19_5 := blk_frozen BK151.out 5) | ((with_reducible refine gate_callee (f := 5) rfl ?_); refine goesL_ (some 15) rfl rfl Tryd.func5 (by kernel_rfl) rfl #[.agg #[.int .i64 a1_0, .int .i64 a1_1, .int .i64 a1_2, .string a1_3, .string a1_4, .int .i64 a1_5], .int .i64 t152] rfl (by (try simp only [lM, lC, lN]); first | done | rfl | (simp only [lD, lT]; rfl)) ?_; (with_reducible refine (laws_szSky.calls a1_0 a1_1 a1_2 a1_3 a1_4 a1_5 t152 t153 _ A12.out).mono ?_); rintro e w20 ⟨rfl, hb⟩; refine ⟨_, rfl, ?_⟩; have n0_ := A0 (blk_below (g := gb150) (o := .cells #[.int .i64 a0_0, .int .i64 a0_1, .int .i64 a0_2, .string a0_3, .string a0_4, .int .i64 a0_5] 23 (0, 0)) (by (with_reducible repeat (first | refine bN ?_ _ | refine bD ?_ | refine bA ?_ _)); exact BK150.out) hb); have n1_ := A0 (blk_below (g := gb151) (o := .cells #[.int .i64 a1_0, .int .i64 a1_1, .int .i64 a1_2, .string a1_3, .string a1_4, .int .i64 a1_5] 23 (0, 0)) (by (with_reducible repeat (first | refine bN ?_ _ | refine bD ?_ | refine bA ?_ _)); exact BK151.out) hb); have n2_ := A0 (below_step (by repeat (first | (with_reducible first | exact HB.out | apply wA | apply wN | apply wD | refine bS ?_ GE150.out | refine bS ?_ GE151.out) | exact HB.out)) hb); clear BK150; clear BK151; clear HB; have BK150 := n0_; have BK151 := n1_; have HB := n2_; clear n0_ n1_ n2_; (try clear hb); (try clear hb2); (try clear hk); (try clear hi)))
   go_ret
   exact ⟨by first | rfl | (simp [errW_none, errW_some] <;> rfl) | (simp [*, errW_none, errW_some] <;> rfl), by repeat (first | (with_reducible first | exact HB.out | apply wA | apply wN | apply wD | refine bS ?_ GE150.out | refine bS ?_ GE151.out) | exact HB.out)⟩
  ·rw [if_neg c13] at H
   have c13b0 : decide (t153 < 0) = false := decide_eq_false c13
   clear c13
   replace H := Option.bind_eq_some_iff.mp H
   obtain ⟨⟨t154, t155, t156, t157, t158, t159⟩, A210, H⟩ := H
   replace H : ((laws_toSky.f a1_0 a1_1 a1_2 a1_3 a1_4 a1_5).bind fun bt160 => ((spec_Laid.f k t154 t155 t156 t157 t158 t159 bt160.1 bt160.2.1 bt160.2.2.1 bt160.2.2.2.1 bt160.2.2.2.2.1 bt160.2.2.2.2.2).bind fun bt166 => ((laws_toSky.f a0_0 a0_1 a0_2 a0_3 a0_4 a0_5).bind fun bt173 => ((laws_toSky.f a1_0 a1_1 a1_2 a1_3 a1_4 a1_5).bind fun bt179 => ((impl_Laid.f k bt173.1 bt173.2.1 bt173.2.2.1 bt173.2.2.2.1 bt173.2.2.2.2.1 bt173.2.2.2.2.2 bt179.1 bt179.2.1 bt179.2.2.1 bt179.2.2.2.1 bt179.2.2.2.2.1 bt179.2.2.2.2.2 l2 l3).bind fun bt185 => ((laws_eqSky.f bt185.1 bt185.2.1 bt185.2.2.1 bt185.2.2.2.1 bt185.2.2.2.2.1 bt185.2.2.2.2.2 bt166.1 bt166.2.1 bt166.2.2.1 bt166.2.2.2.1 bt166.2.2.2.2.1 bt166.2.2.2.2.2).bind fun t192 => (if t192 = true then (some true) else (some false)))))))) = some r := H
   have A21 := Aside0.mk A210
   clear A210
   replace H := Option.bind_eq_some_iff.mp H
   obtain ⟨⟨t160, t161, t162, t163, t164, t165⟩, A220, H⟩ := H
   replace H : ((spec_Laid.f k t154 t155 t156 t157 t158 t159 t160 t161 t162 t163 t164 t165).bind fun bt166 => ((laws_toSky.f a0_0 a0_1 a0_2 a0_3 a0_4 a0_5).bind fun bt173 => ((laws_toSky.f a1_0 a1_1 a1_2 a1_3 a1_4 a1_5).bind fun bt179 => ((impl_Laid.f k bt173.1 bt173.2.1 bt173.2.2.1 bt173.2.2.2.1 bt173.2.2.2.2.1 bt173.2.2.2.2.2 bt179.1 bt179.2.1 bt179.2.2.1 bt179.2.2.2.1 bt179.2.2.2.2.1 bt179.2.2.2.2.2 l2 l3).bind fun bt185 => ((laws_eqSky.f bt185.1 bt185.2.1 bt185.2.2.1 bt185.2.2.2.1 bt185.2.2.2.2.1 bt185.2.2.2.2.2 bt166.1 bt166.2.1 bt166.2.2.1 bt166.2.2.2.1 bt166.2.2.2.2.1 bt166.2.2.2.2.2).bind fun t192 => (if t192 = true then (some true) else (some false))))))) = some r := H
   have A22 := Aside0.mk A220
   clear A220
   replace H := Option.bind_eq_some_iff.mp H
   obtain ⟨⟨t166, t167, t168, t169, t170, t171⟩, A230, H⟩ := H
   replace H : ((laws_toSky.f a0_0 a0_1 a0_2 a0_3 a0_4 a0_5).bind fun bt173 => ((laws_toSky.f a1_0 a1_1 a1_2 a1_3 a1_4 a1_5).bind fun bt179 => ((impl_Laid.f k bt173.1 bt173.2.1 bt173.2.2.1 bt173.2.2.2.1 bt173.2.2.2.2.1 bt173.2.2.2.2.2 bt179.1 bt179.2.1 bt179.2.2.1 bt179.2.2.2.1 bt179.2.2.2.2.1 bt179.2.2.2.2.2 l2 l3).bind fun bt185 => ((laws_eqSky.f bt185.1 bt185.2.1 bt185.2.2.1 bt185.2.2.2.1 bt185.2.2.2.2.1 bt185.2.2.2.2.2 t166 t167 t168 t169 t170 t171).bind fun t192 => (if t192 = true then (some true) else (some false)))))) = some r := H
   have A23 := Aside0.mk A230
   clear A230
   replace H := Option.bind_eq_some_iff.mp H
   obtain ⟨⟨t173, t174, t175, t176, t177, t178⟩, A240, H⟩ := H
   replace H : ((laws_toSky.f a1_0 a1_1 a1_2 a1_3 a1_4 a1_5).bind fun bt179 => ((impl_Laid.f k t173 t174 t175 t176 t177 t178 bt179.1 bt179.2.1 bt179.2.2.1 bt179.2.2.2.1 bt179.2.2.2.2.1 bt179.2.2.2.2.2 l2 l3).bind fun bt185 => ((laws_eqSky.f bt185.1 bt185.2.1 bt185.2.2.1 bt185.2.2.2.1 bt185.2.2.2.2.1 bt185.2.2.2.2.2 t166 t167 t168 t169 t170 t171).bind fun t192 => (if t192 = true then (some true) else (some false))))) = some r := H
   have A24 := Aside0.mk A240
   clear A240
   replace H := Option.bind_eq_some_iff.mp H
   obtain ⟨⟨t179, t180, t181, t182, t183, t184⟩, A250, H⟩ := H
   replace H : ((impl_Laid.f k t173 t174 t175 t176 t177 t178 t179 t180 t181 t182 t183 t184 l2 l3).bind fun bt185 => ((laws_eqSky.f bt185.1 bt185.2.1 bt185.2.2.1 bt185.2.2.2.1 bt185.2.2.2.2.1 bt185.2.2.2.2.2 t166 t167 t168 t169 t170 t171).bind fun t192 => (if t192 = true then (some true) else (some false)))) = some r := H
   have A25 := Aside0.mk A250
   clear A250
   replace H := Option.bind_eq_some_iff.mp H
   obtain ⟨⟨t185, t186, t187, t188, t189, t190⟩, A260, H⟩ := H
   replace H : ((laws_eqSky.f t185 t186 t187 t188 t189 t190 t166 t167 t168 t169 t170 t171).bind fun t192 => (if t192 = true then (some true) else (some false))) = some r := H
   have A26 := Aside0.mk A260
   clear A260
   replace H := Option.bind_eq_some_iff.mp H
   obtain ⟨t192, A270, H⟩ := H
   replace H : (if t192 = true then (some true) else (some false)) = some r := H
   have A27 := Aside0.mk A270
   clear A270
   by_cases c28 : t192 = true
   ·subst c28
    have H1 : (some true) = some r := by rw [if_pos rfl] at H; exact H
    clear H
    have H := H1
    clear H1
    obtain rfl := Option.some.inj H
    go_enter Tryd.func3, Tryd.ntmps3
    try go_wp2_with (first | ((with_reducible refine gate_dst (N := 2) rfl ?_); refine box_event ?hg (N := 2) ?hd (cs := #[.int .i64 a0_0, .int .i64 a0_1, .int .i64 a0_2, .string a0_3, .string a0_4, .int .i64 a0_5]) (t := 23) ?hr ?_; (case hd => rfl); (case hg => rfl); (case hr => first | (go_simp; done) | (go_simp; rfl)); intro gb150 hg w29 hbox hb; have n0_ := A0 (below_step (by repeat (first | (with_reducible first | exact HB.out | apply wA | apply wN | apply wD) | exact HB.out)) hb); have n1_ := A0 (hbox); have n2_ := A0 ((by rw [hg]; exact (below_size (by repeat (first | (with_reducible first | exact HB.out | apply wA | apply wN | apply wD) | exact HB.out))) : w.heap.size ≤ gb150)); have n3_ := A0 ((by rw [hg]; exact (below_size (by repeat (first | (with_reducible first | exact HB.out | apply wA | apply wN | apply wD) | exact HB.out))) : w.heap.size ≤ gb150)); clear HB; have HB := n0_; have BK150 := n1_; have GW150 := n2_; have GE150 := n3_; clear n0_ n1_ n2_ n3_; clear hb hbox hg) | ((with_reducible refine gate_dst (N := 3) rfl ?_); refine box_event ?hg (N := 3) ?hd (cs := #[.int .i64 a1_0, .int .i64 a1_1, .int .i64 a1_2, .string a1_3, .string a1_4, .int .i64 a1_5]) (t := 23) ?hr ?_; (case hd => rfl); (case hg => rfl); (case hr => first | (go_simp; done) | (go_simp; rfl)); intro gb151 hg w30 hbox hb; have n0_ := A0 (blk_below (g := gb150) (o := .cells #[.int .i64 a0_0, .int .i64 a0_1, .int .i64 a0_2, .string a0_3, .string a0_4, .int .i64 a0_5] 23 (0, 0)) (by (with_reducible repeat (first | refine bN ?_ _ | refine bD ?_ | refine bA ?_ _)); exact BK150.out) hb); have n1_ := A0 (below_step (by repeat (first | (with_reducible first | exact HB.out | apply wA | apply wN | apply wD | refine bS ?_ GE150.out) | exact HB.out)) hb); have n2_ := A0 (hbox); have n3_ := A0 ((by rw [hg]; exact (below_size (by repeat (first | (with_reducible first | exact HB.out | apply wA | apply wN | apply wD | refine bS ?_ GE150.out) | exact HB.out))) : w.heap.size ≤ gb151)); have n4_ := A0 ((by rw [hg]; exact (below_size (by repeat (first | (with_reducible first | exact HB.out | apply wA | apply wN | apply wD | refine bS ?_ GE150.out) | exact HB.out))) : w.heap.size ≤ gb151)); have n5_ := A0 ((by rw [hg]; exact Nat.ne_of_lt (blk_lt (g := gb150) (o := .cells #[.int .i64 a0_0, .int .i64 a0_1, .int .i64 a0_2, .string a0_3, .string a0_4, .int .i64 a0_5] 23 (0, 0)) (by (with_reducible repeat (first | refine bN ?_ _ | refine bD ?_ | refine bA ?_ _)); exact BK150.out)) : gb150 ≠ gb151)); have n6_ := A0 ((by rw [hg]; exact Nat.ne_of_gt (blk_lt (g := gb150) (o := .cells #[.int .i64 a0_0, .int .i64 a0_1, .int .i64 a0_2, .string a0_3, .string a0_4, .int .i64 a0_5] 23 (0, 0)) (by (with_reducible repeat (first | refine bN ?_ _ | refine bD ?_ | refine bA ?_ _)); exact BK150.out)) : gb151 ≠ gb150)); clear BK150; clear HB; have BK150 := n0_; have HB := n1_; have BK151 := n2_; have GW151 := n3_; have GE151 := n4_; have NB150_151 := n5_; have NB151_150 := n6_; clear n0_ n1_ n2_ n3_ n4_ n5_ n6_; clear hb hbox hg; have hnb31 := NB150_151.out; have hnc31 := NB151_150.out; have hcz32_0 : w30.cell? ⟨gb150, 0, none⟩ = some (.int .i64 a0_0) := bC BK150.out 0 rfl; have hcz32_1 : w30.cell? ⟨gb150, 1, none⟩ = some (.int .i64 a0_1) := bC BK150.out 1 rfl; have hcz32_2 : w30.cell? ⟨gb150, 2, none⟩ = some (.int .i64 a0_2) := bC BK150.out 2 rfl; have hcz32_3 : w30.cell? ⟨gb150, 3, none⟩ = some (.string a0_3) := bC BK150.out 3 rfl; have hcz32_4 : w30.cell? ⟨gb150, 4, none⟩ = some (.string a0_4) := bC BK150.out 4 rfl; have hcz32_5 : w30.cell? ⟨gb150, 5, none⟩ = some (.int .i64 a0_5) := bC BK150.out 5 rfl; have hfz32_0 := blk_frozen BK150.out 0; have hfz32_1 := blk_frozen BK150.out 1; have hfz32_2 := blk_frozen BK150.out 2; have hfz32_3 := blk_frozen BK150.out 3; have hfz32_4 := blk_frozen BK150.out 4; have hfz32_5 := blk_frozen BK150.out 5) | ((with_reducible refine gate_callee (f := 5) rfl ?_); refine goesL_ (some 10) rfl rfl Tryd.func5 (by kernel_rfl) rfl #[.agg #[.int .i64 a0_0, .int .i64 a0_1, .int .i64 a0_2, .string a0_3, .string a0_4, .int .i64 a0_5], .int .i64 1048576] rfl (by (try simp only [lM, lC, lN]); first | done | rfl | (simp only [lD, lT]; rfl)) ?_; (with_reducible refine (laws_szSky.calls a0_0 a0_1 a0_2 a0_3 a0_4 a0_5 1048576 t152 _ A5.out).mono ?_); rintro e w33 ⟨rfl, hb⟩; refine ⟨_, rfl, ?_⟩; have n0_ := A0 (blk_below (g := gb150) (o := .cells #[.int .i64 a0_0, .int .i64 a0_1, .int .i64 a0_2, .string a0_3, .string a0_4, .int .i64 a0_5] 23 (0, 0)) (by (with_reducible repeat (first | refine bN ?_ _ | refine bD ?_ | refine bA ?_ _)); exact BK150.out) hb); have n1_ := A0 (blk_below (g := gb151) (o := .cells #[.int .i64 a1_0, .int .i64 a1_1, .int .i64 a1_2, .string a1_3, .string a1_4, .int .i64 a1_5] 23 (0, 0)) (by (with_reducible repeat (first | refine bN ?_ _ | refine bD ?_ | refine bA ?_ _)); exact BK151.out) hb); have n2_ := A0 (below_step (by repeat (first | (with_reducible first | exact HB.out | apply wA | apply wN | apply wD | refine bS ?_ GE150.out | refine bS ?_ GE151.out) | exact HB.out)) hb); clear BK150; clear BK151; clear HB; have BK150 := n0_; have BK151 := n1_; have HB := n2_; clear n0_ n1_ n2_; (try clear hb); (try clear hb2); (try clear hk); (try clear hi); have hcz34_0 : w33.cell? ⟨gb151, 0, none⟩ = some (.int .i64 a1_0) := bC BK151.out 0 rfl; have hcz34_1 : w33.cell? ⟨gb151, 1, none⟩ = some (.int .i64 a1_1) := bC BK151.out 1 rfl; have hcz34_2 : w33.cell? ⟨gb151, 2, none⟩ = some (.int .i64 a1_2) := bC BK151.out 2 rfl; have hcz34_3 : w33.cell? ⟨gb151, 3, none⟩ = some (.string a1_3) := bC BK151.out 3 rfl; have hcz34_4 : w33.cell? ⟨gb151, 4, none⟩ = some (.string a1_4) := bC BK151.out 4 rfl; have hcz34_5 : w33.cell? ⟨gb151, 5, none⟩ = some (.int .i64 a1_5) := bC BK151.out 5 rfl; have hfz34_0 := blk_frozen BK151.out 0; have hfz34_1 := blk_frozen BK151.out 1; have hfz34_2 := blk_frozen BK151.out 2; have hfz34_3 := blk_frozen BK151.out 3; have hfz34_4 := blk_frozen BK151.out 4; have hfz34_5 := blk_frozen BK151.out 5) | ((with_reducible refine gate_callee (f := 5) rfl ?_); refine goesL_ (some 15) rfl rfl Tryd.func5 (by kernel_rfl) rfl #[.agg #[.int .i64 a1_0, .int .i64 a1_1, .int .i64 a1_2, .string a1_3, .string a1_4, .int .i64 a1_5], .int .i64 t152] rfl (by (try simp only [lM, lC, lN]); first | done | rfl | (simp only [lD, lT]; rfl)) ?_; (with_reducible refine (laws_szSky.calls a1_0 a1_1 a1_2 a1_3 a1_4 a1_5 t152 t153 _ A12.out).mono ?_); rintro e w35 ⟨rfl, hb⟩; refine ⟨_, rfl, ?_⟩; have n0_ := A0 (blk_below (g := gb150) (o := .cells #[.int .i64 a0_0, .int .i64 a0_1, .int .i64 a0_2, .string a0_3, .string a0_4, .int .i64 a0_5] 23 (0, 0)) (by (with_reducible repeat (first | refine bN ?_ _ | refine bD ?_ | refine bA ?_ _)); exact BK150.out) hb); have n1_ := A0 (blk_below (g := gb151) (o := .cells #[.int .i64 a1_0, .int .i64 a1_1, .int .i64 a1_2, .string a1_3, .string a1_4, .int .i64 a1_5] 23 (0, 0)) (by (with_reducible repeat (first | refine bN ?_ _ | refine bD ?_ | refine bA ?_ _)); exact BK151.out) hb); have n2_ := A0 (below_step (by repeat (first | (with_reducible first | exact HB.out | apply wA | apply wN | apply wD | refine bS ?_ GE150.out | refine bS ?_ GE151.out) | exact HB.out)) hb); clear BK150; clear BK151; clear HB; have BK150 := n0_; have BK151 := n1_; have HB := n2_; clear n0_ n1_ n2_; (try clear hb); (try clear hb2); (try clear hk); (try clear hi)))
    have n0_ := A0 (blk_drew BK150.out)
    have n1_ := A0 (blk_drew BK151.out)
    have n2_ := A0 (below_drew1 HB.out)
    clear BK150
    clear BK151
    clear HB
    have BK150 := n0_
    have BK151 := n1_
    have HB := n2_
    clear n0_ n1_ n2_
    refine start_ (n := 7) (S := fun w' => w'.cell? ⟨gb150, 0, none⟩ = some (.int .i64 a0_0) ∧ w'.cell? ⟨gb150, 1, none⟩ = some (.int .i64 a0_1) ∧ w'.cell? ⟨gb150, 2, none⟩ = some (.int .i64 a0_2) ∧ w'.cell? ⟨gb150, 3, none⟩ = some (.string a0_3) ∧ w'.cell? ⟨gb150, 4, none⟩ = some (.string a0_4) ∧ w'.cell? ⟨gb150, 5, none⟩ = some (.int .i64 a0_5) ∧ w'.cell? ⟨gb151, 0, none⟩ = some (.int .i64 a1_0) ∧ w'.cell? ⟨gb151, 1, none⟩ = some (.int .i64 a1_1) ∧ w'.cell? ⟨gb151, 2, none⟩ = some (.int .i64 a1_2) ∧ w'.cell? ⟨gb151, 3, none⟩ = some (.string a1_3) ∧ w'.cell? ⟨gb151, 4, none⟩ = some (.string a1_4) ∧ w'.cell? ⟨gb151, 5, none⟩ = some (.int .i64 a1_5)) (ds := []) #[false, false, false, false, false, false, false] (by kernel_rfl) rfl rfl ⟨bC BK150.out 0 rfl, bC BK150.out 1 rfl, bC BK150.out 2 rfl, bC BK150.out 3 rfl, bC BK150.out 4 rfl, bC BK150.out 5 rfl, bC BK151.out 0 rfl, bC BK151.out 1 rfl, bC BK151.out 2 rfl, bC BK151.out 3 rfl, bC BK151.out 4 rfl, bC BK151.out 5 rfl⟩ (fun hHeld => ?_)
    generalize w35.drew = w36 at BK150 BK151 HB hHeld ⊢
    refine take_ (i := 0) (N := some 18) (v := ?_) (a' := ?_) #[true, false, false, false, false, false, false] rfl rfl (by kernel_rfl) (fun _ _ _ h => h) (Or.inl ⟨by rfl, ?_⟩) hHeld ?_ ?_
    rotate_left
    ·rintro w' ⟨s0, s1, s2, s3, s4, s5, s6, s7, s8, s9, s10, s11⟩
     go_simp
     with_reducible rfl
    rotate_left
    ·simp only [Act.put, sqA, sqZ, sqS, i64_w, i32_w]
     rfl
    refine take_ (i := 2) (N := some 20) (v := ?_) (a' := ?_) #[true, false, true, false, false, false, false] rfl rfl (by kernel_rfl) (fun _ _ _ h => h) (Or.inl ⟨by rfl, ?_⟩) hHeld ?_ ?_
    rotate_left
    ·rintro w' ⟨s0, s1, s2, s3, s4, s5, s6, s7, s8, s9, s10, s11⟩
     go_simp
     with_reducible rfl
    rotate_left
    ·simp only [Act.put, sqA, sqZ, sqS, i64_w, i32_w]
     rfl
    refine join_ (σ := Nat) 1 #[true, true, true, true, true, true, false] (fun s_ => [(19, .agg #[.int .i64 t154, .int .i64 t155, .int .i64 t156, .string t157, .string t158, .int .i64 t159]), (21, .agg #[.int .i64 t160, .int .i64 t161, .int .i64 t162, .string t163, .string t164, .int .i64 t165]), (22, .agg #[.int .i64 t166, .int .i64 t167, .int .i64 t168, .string t169, .string t170, .int .i64 t171]), (6, .pointer (some ⟨s_, 0, none⟩))]) (fun s_ w' => (w'.cell? ⟨gb150, 0, none⟩ = some (.int .i64 a0_0) ∧ w'.cell? ⟨gb150, 1, none⟩ = some (.int .i64 a0_1) ∧ w'.cell? ⟨gb150, 2, none⟩ = some (.int .i64 a0_2) ∧ w'.cell? ⟨gb150, 3, none⟩ = some (.string a0_3) ∧ w'.cell? ⟨gb150, 4, none⟩ = some (.string a0_4) ∧ w'.cell? ⟨gb150, 5, none⟩ = some (.int .i64 a0_5) ∧ w'.cell? ⟨gb151, 0, none⟩ = some (.int .i64 a1_0) ∧ w'.cell? ⟨gb151, 1, none⟩ = some (.int .i64 a1_1) ∧ w'.cell? ⟨gb151, 2, none⟩ = some (.int .i64 a1_2) ∧ w'.cell? ⟨gb151, 3, none⟩ = some (.string a1_3) ∧ w'.cell? ⟨gb151, 4, none⟩ = some (.string a1_4) ∧ w'.cell? ⟨gb151, 5, none⟩ = some (.int .i64 a1_5)) ∧ (w'.heap[gb150]? = some (.cells #[.int .i64 a0_0, .int .i64 a0_1, .int .i64 a0_2, .string a0_3, .string a0_4, .int .i64 a0_5] 23 (0, 0))) ∧ (w'.heap[gb151]? = some (.cells #[.int .i64 a1_0, .int .i64 a1_1, .int .i64 a1_2, .string a1_3, .string a1_4, .int .i64 a1_5] 23 (0, 0))) ∧ (w'.heap[s_]? = some (.cells #[.int .i64 0, .int .i64 0, .int .i64 0, .string (⟨#[]⟩ : ByteArray), .string (⟨#[]⟩ : ByteArray), .int .i64 0] 25 (0, 0))) ∧ (w.heap.size ≤ s_) ∧ (w.heap.size ≤ s_) ∧ (gb150 ≠ s_) ∧ (s_ ≠ gb150) ∧ (gb151 ≠ s_) ∧ (s_ ≠ gb151) ∧ (Below w.heap.size w w')) ?_ ?_
    rotate_left
    ·intro hCont
     refine two_ (i := 1) (j := 5) (Ni := some 19) (Nj := some 6) #[true, true, true, false, false, false, false] #[true, false, true, false, false, true, false] rfl rfl rfl rfl (by kernel_rfl) (by decide) (by decide) (fun K hK => ?_) (fun K hK => ?_)
     ·skip
      refine goes_ Tryd.func7 (by kernel_rfl) rfl #[.agg #[.int .i64 a0_0, .int .i64 a0_1, .int .i64 a0_2, .string a0_3, .string a0_4, .int .i64 a0_5]] (by rfl) rfl rfl (by (try simp only [lM, lC, lN]); first | done | rfl | (simp only [lD, lT]; rfl)) ?_
      with_reducible refine (laws_toSky.calls a0_0 a0_1 a0_2 a0_3 a0_4 a0_5 t154 t155 t156 t157 t158 t159 _ A21.out).mono ?_
      rintro e w37 ⟨rfl, hb⟩
      refine ⟨_, rfl, ?_⟩
      have n0_ := A0 (blk_below (g := gb150) (o := .cells #[.int .i64 a0_0, .int .i64 a0_1, .int .i64 a0_2, .string a0_3, .string a0_4, .int .i64 a0_5] 23 (0, 0)) (by (with_reducible repeat (first | refine bN ?_ _ | refine bD ?_ | refine bA ?_ _)); exact BK150.out) hb)
      have n1_ := A0 (blk_below (g := gb151) (o := .cells #[.int .i64 a1_0, .int .i64 a1_1, .int .i64 a1_2, .string a1_3, .string a1_4, .int .i64 a1_5] 23 (0, 0)) (by (with_reducible repeat (first | refine bN ?_ _ | refine bD ?_ | refine bA ?_ _)); exact BK151.out) hb)
      have n2_ := A0 (below_step (by repeat (first | (with_reducible first | exact HB.out | apply wA | apply wN | apply wD | refine bS ?_ GE150.out | refine bS ?_ GE151.out) | exact HB.out)) hb)
      clear BK150
      clear BK151
      clear HB
      have BK150 := n0_
      have BK151 := n1_
      have HB := n2_
      clear n0_ n1_ n2_
      (try clear hb)
      refine hK.out _ _ ⟨bC BK150.out 0 rfl, bC BK150.out 1 rfl, bC BK150.out 2 rfl, bC BK150.out 3 rfl, bC BK150.out 4 rfl, bC BK150.out 5 rfl, bC BK151.out 0 rfl, bC BK151.out 1 rfl, bC BK151.out 2 rfl, bC BK151.out 3 rfl, bC BK151.out 4 rfl, bC BK151.out 5 rfl⟩ (fun hHeld => ?_)
      clear hK K
      refine norm_ (a' := ?_) ?_ ?_
      rotate_left
      ·show Act.put _ (some 19) _ = _
       simp only [Act.put, sqA, sqZ, sqS, i64_w, i32_w]
       rfl
      refine two_ (i := 3) (j := 5) (Ni := some 21) (Nj := some 6) #[true, true, true, true, false, false, false] #[true, true, true, false, false, true, false] rfl rfl rfl rfl (by kernel_rfl) (by decide) (by decide) (fun K hK => ?_) (fun K hK => ?_)
      ·skip
       refine goes_ Tryd.func7 (by kernel_rfl) rfl #[.agg #[.int .i64 a1_0, .int .i64 a1_1, .int .i64 a1_2, .string a1_3, .string a1_4, .int .i64 a1_5]] (by rfl) rfl rfl (by (try simp only [lM, lC, lN]); first | done | rfl | (simp only [lD, lT]; rfl)) ?_
       with_reducible refine (laws_toSky.calls a1_0 a1_1 a1_2 a1_3 a1_4 a1_5 t160 t161 t162 t163 t164 t165 _ A22.out).mono ?_
       rintro e w38 ⟨rfl, hb⟩
       refine ⟨_, rfl, ?_⟩
       have n0_ := A0 (blk_below (g := gb150) (o := .cells #[.int .i64 a0_0, .int .i64 a0_1, .int .i64 a0_2, .string a0_3, .string a0_4, .int .i64 a0_5] 23 (0, 0)) (by (with_reducible repeat (first | refine bN ?_ _ | refine bD ?_ | refine bA ?_ _)); exact BK150.out) hb)
       have n1_ := A0 (blk_below (g := gb151) (o := .cells #[.int .i64 a1_0, .int .i64 a1_1, .int .i64 a1_2, .string a1_3, .string a1_4, .int .i64 a1_5] 23 (0, 0)) (by (with_reducible repeat (first | refine bN ?_ _ | refine bD ?_ | refine bA ?_ _)); exact BK151.out) hb)
       have n2_ := A0 (below_step (by repeat (first | (with_reducible first | exact HB.out | apply wA | apply wN | apply wD | refine bS ?_ GE150.out | refine bS ?_ GE151.out) | exact HB.out)) hb)
       clear BK150
       clear BK151
       clear HB
       have BK150 := n0_
       have BK151 := n1_
       have HB := n2_
       clear n0_ n1_ n2_
       (try clear hb)
       refine hK.out _ _ ⟨bC BK150.out 0 rfl, bC BK150.out 1 rfl, bC BK150.out 2 rfl, bC BK150.out 3 rfl, bC BK150.out 4 rfl, bC BK150.out 5 rfl, bC BK151.out 0 rfl, bC BK151.out 1 rfl, bC BK151.out 2 rfl, bC BK151.out 3 rfl, bC BK151.out 4 rfl, bC BK151.out 5 rfl⟩ (fun hHeld => ?_)
       clear hK K
       refine norm_ (a' := ?_) ?_ ?_
       rotate_left
       ·show Act.put _ (some 21) _ = _
        simp only [Act.put, sqA, sqZ, sqS, i64_w, i32_w]
        rfl
       refine two_ (i := 4) (j := 5) (Ni := some 22) (Nj := some 6) #[true, true, true, true, true, false, false] #[true, true, true, true, false, true, false] rfl rfl rfl rfl (by kernel_rfl) (by decide) (by decide) (fun K hK => ?_) (fun K hK => ?_)
       ·skip
        refine goes_ Tryd.func6 (by kernel_rfl) rfl #[.agg #[.int .i64 t154, .int .i64 t155, .int .i64 t156, .string t157, .string t158, .int .i64 t159], .agg #[.int .i64 t160, .int .i64 t161, .int .i64 t162, .string t163, .string t164, .int .i64 t165]] (by rfl) rfl rfl (by (try simp only [lM, lC, lN]); first | done | rfl | (simp only [lD, lT]; rfl)) ?_
        with_reducible refine (spec_Laid.calls k t154 t155 t156 t157 t158 t159 t160 t161 t162 t163 t164 t165 t166 t167 t168 t169 t170 t171 _ A23.out).mono ?_
        rintro e w39 ⟨rfl, hb⟩
        refine ⟨_, rfl, ?_⟩
        have n0_ := A0 (blk_below (g := gb150) (o := .cells #[.int .i64 a0_0, .int .i64 a0_1, .int .i64 a0_2, .string a0_3, .string a0_4, .int .i64 a0_5] 23 (0, 0)) (by (with_reducible repeat (first | refine bN ?_ _ | refine bD ?_ | refine bA ?_ _)); exact BK150.out) hb)
        have n1_ := A0 (blk_below (g := gb151) (o := .cells #[.int .i64 a1_0, .int .i64 a1_1, .int .i64 a1_2, .string a1_3, .string a1_4, .int .i64 a1_5] 23 (0, 0)) (by (with_reducible repeat (first | refine bN ?_ _ | refine bD ?_ | refine bA ?_ _)); exact BK151.out) hb)
        have n2_ := A0 (below_step (by repeat (first | (with_reducible first | exact HB.out | apply wA | apply wN | apply wD | refine bS ?_ GE150.out | refine bS ?_ GE151.out) | exact HB.out)) hb)
        clear BK150
        clear BK151
        clear HB
        have BK150 := n0_
        have BK151 := n1_
        have HB := n2_
        clear n0_ n1_ n2_
        (try clear hb)
        refine hK.out _ _ ⟨bC BK150.out 0 rfl, bC BK150.out 1 rfl, bC BK150.out 2 rfl, bC BK150.out 3 rfl, bC BK150.out 4 rfl, bC BK150.out 5 rfl, bC BK151.out 0 rfl, bC BK151.out 1 rfl, bC BK151.out 2 rfl, bC BK151.out 3 rfl, bC BK151.out 4 rfl, bC BK151.out 5 rfl⟩ (fun hHeld => ?_)
        clear hK K
        refine norm_ (a' := ?_) ?_ ?_
        rotate_left
        ·show Act.put _ (some 22) _ = _
         simp only [Act.put, sqA, sqZ, sqS, i64_w, i32_w]
         rfl
        refine one_ (i := 5) (N := some 6) #[true, true, true, true, true, true, false] rfl rfl (by kernel_rfl) (by decide) (fun K hK => ?_)
        refine box_step ?hg (N := 6) ?hd (cs := #[.int .i64 0, .int .i64 0, .int .i64 0, .string (⟨#[]⟩ : ByteArray), .string (⟨#[]⟩ : ByteArray), .int .i64 0]) (t := 25) ?hr ?_; (case hd => rfl); (case hg => rfl); (case hr => first | (go_simp; done) | (go_simp; rfl))
        intro gb172 hg w40 hbox hb
        have n0_ := A0 (blk_below (g := gb150) (o := .cells #[.int .i64 a0_0, .int .i64 a0_1, .int .i64 a0_2, .string a0_3, .string a0_4, .int .i64 a0_5] 23 (0, 0)) (by (with_reducible repeat (first | refine bN ?_ _ | refine bD ?_ | refine bA ?_ _)); exact BK150.out) hb)
        have n1_ := A0 (blk_below (g := gb151) (o := .cells #[.int .i64 a1_0, .int .i64 a1_1, .int .i64 a1_2, .string a1_3, .string a1_4, .int .i64 a1_5] 23 (0, 0)) (by (with_reducible repeat (first | refine bN ?_ _ | refine bD ?_ | refine bA ?_ _)); exact BK151.out) hb)
        have n2_ := A0 (below_step (by repeat (first | (with_reducible first | exact HB.out | apply wA | apply wN | apply wD | refine bS ?_ GE150.out | refine bS ?_ GE151.out) | exact HB.out)) hb)
        have n3_ := A0 (hbox)
        have n4_ := A0 ((by rw [hg]; exact (below_size (by repeat (first | (with_reducible first | exact HB.out | apply wA | apply wN | apply wD | refine bS ?_ GE150.out | refine bS ?_ GE151.out) | exact HB.out))) : w.heap.size ≤ gb172))
        have n5_ := A0 ((by rw [hg]; exact (below_size (by repeat (first | (with_reducible first | exact HB.out | apply wA | apply wN | apply wD | refine bS ?_ GE150.out | refine bS ?_ GE151.out) | exact HB.out))) : w.heap.size ≤ gb172))
        have n6_ := A0 ((by rw [hg]; exact Nat.ne_of_lt (blk_lt (g := gb150) (o := .cells #[.int .i64 a0_0, .int .i64 a0_1, .int .i64 a0_2, .string a0_3, .string a0_4, .int .i64 a0_5] 23 (0, 0)) (by (with_reducible repeat (first | refine bN ?_ _ | refine bD ?_ | refine bA ?_ _)); exact BK150.out)) : gb150 ≠ gb172))
        have n7_ := A0 ((by rw [hg]; exact Nat.ne_of_gt (blk_lt (g := gb150) (o := .cells #[.int .i64 a0_0, .int .i64 a0_1, .int .i64 a0_2, .string a0_3, .string a0_4, .int .i64 a0_5] 23 (0, 0)) (by (with_reducible repeat (first | refine bN ?_ _ | refine bD ?_ | refine bA ?_ _)); exact BK150.out)) : gb172 ≠ gb150))
        have n8_ := A0 ((by rw [hg]; exact Nat.ne_of_lt (blk_lt (g := gb151) (o := .cells #[.int .i64 a1_0, .int .i64 a1_1, .int .i64 a1_2, .string a1_3, .string a1_4, .int .i64 a1_5] 23 (0, 0)) (by (with_reducible repeat (first | refine bN ?_ _ | refine bD ?_ | refine bA ?_ _)); exact BK151.out)) : gb151 ≠ gb172))
        have n9_ := A0 ((by rw [hg]; exact Nat.ne_of_gt (blk_lt (g := gb151) (o := .cells #[.int .i64 a1_0, .int .i64 a1_1, .int .i64 a1_2, .string a1_3, .string a1_4, .int .i64 a1_5] 23 (0, 0)) (by (with_reducible repeat (first | refine bN ?_ _ | refine bD ?_ | refine bA ?_ _)); exact BK151.out)) : gb172 ≠ gb151))
        clear BK150
        clear BK151
        clear HB
        have BK150 := n0_
        have BK151 := n1_
        have HB := n2_
        have BK172 := n3_
        have GW172 := n4_
        have GE172 := n5_
        have NB150_172 := n6_
        have NB172_150 := n7_
        have NB151_172 := n8_
        have NB172_151 := n9_
        clear n0_ n1_ n2_ n3_ n4_ n5_ n6_ n7_ n8_ n9_
        clear hb hbox hg
        refine hK.out _ _ ⟨bC BK150.out 0 rfl, bC BK150.out 1 rfl, bC BK150.out 2 rfl, bC BK150.out 3 rfl, bC BK150.out 4 rfl, bC BK150.out 5 rfl, bC BK151.out 0 rfl, bC BK151.out 1 rfl, bC BK151.out 2 rfl, bC BK151.out 3 rfl, bC BK151.out 4 rfl, bC BK151.out 5 rfl⟩ (fun hHeld => ?_)
        clear hK K
        refine norm_ (a' := ?_) ?_ ?_
        rotate_left
        ·show Act.put _ (some 6) _ = _
         simp only [Act.put, sqA, sqZ, sqS, i64_w, i32_w]
         rfl
        exact norm_ (by simp only [putAll, Act.put, sqA, sqZ, sqS]) (hCont (gb172) _ ⟨hHeld, (by (with_reducible repeat (first | refine bN ?_ _ | refine bD ?_ | refine bA ?_ _)); exact BK150.out), (by (with_reducible repeat (first | refine bN ?_ _ | refine bD ?_ | refine bA ?_ _)); exact BK151.out), (by (with_reducible repeat (first | refine bN ?_ _ | refine bD ?_ | refine bA ?_ _)); exact BK172.out), GW172.out, GE172.out, NB150_172.out, NB172_150.out, NB151_172.out, NB172_151.out, (by repeat (first | (with_reducible first | exact HB.out | apply wA | apply wN | apply wD | refine bS ?_ GE150.out | refine bS ?_ GE151.out | refine bS ?_ GE172.out) | exact HB.out))⟩)
       ·skip
        refine box_step ?hg (N := 6) ?hd (cs := #[.int .i64 0, .int .i64 0, .int .i64 0, .string (⟨#[]⟩ : ByteArray), .string (⟨#[]⟩ : ByteArray), .int .i64 0]) (t := 25) ?hr ?_; (case hd => rfl); (case hg => rfl); (case hr => first | (go_simp; done) | (go_simp; rfl))
        intro gb172 hg w39 hbox hb
        have n0_ := A0 (blk_below (g := gb150) (o := .cells #[.int .i64 a0_0, .int .i64 a0_1, .int .i64 a0_2, .string a0_3, .string a0_4, .int .i64 a0_5] 23 (0, 0)) (by (with_reducible repeat (first | refine bN ?_ _ | refine bD ?_ | refine bA ?_ _)); exact BK150.out) hb)
        have n1_ := A0 (blk_below (g := gb151) (o := .cells #[.int .i64 a1_0, .int .i64 a1_1, .int .i64 a1_2, .string a1_3, .string a1_4, .int .i64 a1_5] 23 (0, 0)) (by (with_reducible repeat (first | refine bN ?_ _ | refine bD ?_ | refine bA ?_ _)); exact BK151.out) hb)
        have n2_ := A0 (below_step (by repeat (first | (with_reducible first | exact HB.out | apply wA | apply wN | apply wD | refine bS ?_ GE150.out | refine bS ?_ GE151.out) | exact HB.out)) hb)
        have n3_ := A0 (hbox)
        have n4_ := A0 ((by rw [hg]; exact (below_size (by repeat (first | (with_reducible first | exact HB.out | apply wA | apply wN | apply wD | refine bS ?_ GE150.out | refine bS ?_ GE151.out) | exact HB.out))) : w.heap.size ≤ gb172))
        have n5_ := A0 ((by rw [hg]; exact (below_size (by repeat (first | (with_reducible first | exact HB.out | apply wA | apply wN | apply wD | refine bS ?_ GE150.out | refine bS ?_ GE151.out) | exact HB.out))) : w.heap.size ≤ gb172))
        have n6_ := A0 ((by rw [hg]; exact Nat.ne_of_lt (blk_lt (g := gb150) (o := .cells #[.int .i64 a0_0, .int .i64 a0_1, .int .i64 a0_2, .string a0_3, .string a0_4, .int .i64 a0_5] 23 (0, 0)) (by (with_reducible repeat (first | refine bN ?_ _ | refine bD ?_ | refine bA ?_ _)); exact BK150.out)) : gb150 ≠ gb172))
        have n7_ := A0 ((by rw [hg]; exact Nat.ne_of_gt (blk_lt (g := gb150) (o := .cells #[.int .i64 a0_0, .int .i64 a0_1, .int .i64 a0_2, .string a0_3, .string a0_4, .int .i64 a0_5] 23 (0, 0)) (by (with_reducible repeat (first | refine bN ?_ _ | refine bD ?_ | refine bA ?_ _)); exact BK150.out)) : gb172 ≠ gb150))
        have n8_ := A0 ((by rw [hg]; exact Nat.ne_of_lt (blk_lt (g := gb151) (o := .cells #[.int .i64 a1_0, .int .i64 a1_1, .int .i64 a1_2, .string a1_3, .string a1_4, .int .i64 a1_5] 23 (0, 0)) (by (with_reducible repeat (first | refine bN ?_ _ | refine bD ?_ | refine bA ?_ _)); exact BK151.out)) : gb151 ≠ gb172))
        have n9_ := A0 ((by rw [hg]; exact Nat.ne_of_gt (blk_lt (g := gb151) (o := .cells #[.int .i64 a1_0, .int .i64 a1_1, .int .i64 a1_2, .string a1_3, .string a1_4, .int .i64 a1_5] 23 (0, 0)) (by (with_reducible repeat (first | refine bN ?_ _ | refine bD ?_ | refine bA ?_ _)); exact BK151.out)) : gb172 ≠ gb151))
        clear BK150
        clear BK151
        clear HB
        have BK150 := n0_
        have BK151 := n1_
        have HB := n2_
        have BK172 := n3_
        have GW172 := n4_
        have GE172 := n5_
        have NB150_172 := n6_
        have NB172_150 := n7_
        have NB151_172 := n8_
        have NB172_151 := n9_
        clear n0_ n1_ n2_ n3_ n4_ n5_ n6_ n7_ n8_ n9_
        clear hb hbox hg
        refine hK.out _ _ ⟨bC BK150.out 0 rfl, bC BK150.out 1 rfl, bC BK150.out 2 rfl, bC BK150.out 3 rfl, bC BK150.out 4 rfl, bC BK150.out 5 rfl, bC BK151.out 0 rfl, bC BK151.out 1 rfl, bC BK151.out 2 rfl, bC BK151.out 3 rfl, bC BK151.out 4 rfl, bC BK151.out 5 rfl⟩ (fun hHeld => ?_)
        clear hK K
        refine norm_ (a' := ?_) ?_ ?_
        rotate_left
        ·show Act.put _ (some 6) _ = _
         simp only [Act.put, sqA, sqZ, sqS, i64_w, i32_w]
         rfl
        refine one_ (i := 4) (N := some 22) #[true, true, true, true, true, true, false] rfl rfl (by kernel_rfl) (by decide) (fun K hK => ?_)
        refine goes_ Tryd.func6 (by kernel_rfl) rfl #[.agg #[.int .i64 t154, .int .i64 t155, .int .i64 t156, .string t157, .string t158, .int .i64 t159], .agg #[.int .i64 t160, .int .i64 t161, .int .i64 t162, .string t163, .string t164, .int .i64 t165]] (by rfl) rfl rfl (by (try simp only [lM, lC, lN]); first | done | rfl | (simp only [lD, lT]; rfl)) ?_
        with_reducible refine (spec_Laid.calls k t154 t155 t156 t157 t158 t159 t160 t161 t162 t163 t164 t165 t166 t167 t168 t169 t170 t171 _ A23.out).mono ?_
        rintro e w40 ⟨rfl, hb⟩
        refine ⟨_, rfl, ?_⟩
        have n0_ := A0 (blk_below (g := gb150) (o := .cells #[.int .i64 a0_0, .int .i64 a0_1, .int .i64 a0_2, .string a0_3, .string a0_4, .int .i64 a0_5] 23 (0, 0)) (by (with_reducible repeat (first | refine bN ?_ _ | refine bD ?_ | refine bA ?_ _)); exact BK150.out) hb)
        have n1_ := A0 (blk_below (g := gb151) (o := .cells #[.int .i64 a1_0, .int .i64 a1_1, .int .i64 a1_2, .string a1_3, .string a1_4, .int .i64 a1_5] 23 (0, 0)) (by (with_reducible repeat (first | refine bN ?_ _ | refine bD ?_ | refine bA ?_ _)); exact BK151.out) hb)
        have n2_ := A0 (blk_below (g := gb172) (o := .cells #[.int .i64 0, .int .i64 0, .int .i64 0, .string (⟨#[]⟩ : ByteArray), .string (⟨#[]⟩ : ByteArray), .int .i64 0] 25 (0, 0)) (by (with_reducible repeat (first | refine bN ?_ _ | refine bD ?_ | refine bA ?_ _)); exact BK172.out) hb)
        have n3_ := A0 (below_step (by repeat (first | (with_reducible first | exact HB.out | apply wA | apply wN | apply wD | refine bS ?_ GE150.out | refine bS ?_ GE151.out | refine bS ?_ GE172.out) | exact HB.out)) hb)
        clear BK150
        clear BK151
        clear BK172
        clear HB
        have BK150 := n0_
        have BK151 := n1_
        have BK172 := n2_
        have HB := n3_
        clear n0_ n1_ n2_ n3_
        (try clear hb)
        refine hK.out _ _ ⟨bC BK150.out 0 rfl, bC BK150.out 1 rfl, bC BK150.out 2 rfl, bC BK150.out 3 rfl, bC BK150.out 4 rfl, bC BK150.out 5 rfl, bC BK151.out 0 rfl, bC BK151.out 1 rfl, bC BK151.out 2 rfl, bC BK151.out 3 rfl, bC BK151.out 4 rfl, bC BK151.out 5 rfl⟩ (fun hHeld => ?_)
        clear hK K
        refine norm_ (a' := ?_) ?_ ?_
        rotate_left
        ·show Act.put _ (some 22) _ = _
         simp only [Act.put, sqA, sqZ, sqS, i64_w, i32_w]
         rfl
        exact norm_ (by simp only [putAll, Act.put, sqA, sqZ, sqS]) (hCont (gb172) _ ⟨hHeld, (by (with_reducible repeat (first | refine bN ?_ _ | refine bD ?_ | refine bA ?_ _)); exact BK150.out), (by (with_reducible repeat (first | refine bN ?_ _ | refine bD ?_ | refine bA ?_ _)); exact BK151.out), (by (with_reducible repeat (first | refine bN ?_ _ | refine bD ?_ | refine bA ?_ _)); exact BK172.out), GW172.out, GE172.out, NB150_172.out, NB172_150.out, NB151_172.out, NB172_151.out, (by repeat (first | (with_reducible first | exact HB.out | apply wA | apply wN | apply wD | refine bS ?_ GE150.out | refine bS ?_ GE151.out | refine bS ?_ GE172.out) | exact HB.out))⟩)
      ·skip
       refine box_step ?hg (N := 6) ?hd (cs := #[.int .i64 0, .int .i64 0, .int .i64 0, .string (⟨#[]⟩ : ByteArray), .string (⟨#[]⟩ : ByteArray), .int .i64 0]) (t := 25) ?hr ?_; (case hd => rfl); (case hg => rfl); (case hr => first | (go_simp; done) | (go_simp; rfl))
       intro gb172 hg w38 hbox hb
       have n0_ := A0 (blk_below (g := gb150) (o := .cells #[.int .i64 a0_0, .int .i64 a0_1, .int .i64 a0_2, .string a0_3, .string a0_4, .int .i64 a0_5] 23 (0, 0)) (by (with_reducible repeat (first | refine bN ?_ _ | refine bD ?_ | refine bA ?_ _)); exact BK150.out) hb)
       have n1_ := A0 (blk_below (g := gb151) (o := .cells #[.int .i64 a1_0, .int .i64 a1_1, .int .i64 a1_2, .string a1_3, .string a1_4, .int .i64 a1_5] 23 (0, 0)) (by (with_reducible repeat (first | refine bN ?_ _ | refine bD ?_ | refine bA ?_ _)); exact BK151.out) hb)
       have n2_ := A0 (below_step (by repeat (first | (with_reducible first | exact HB.out | apply wA | apply wN | apply wD | refine bS ?_ GE150.out | refine bS ?_ GE151.out) | exact HB.out)) hb)
       have n3_ := A0 (hbox)
       have n4_ := A0 ((by rw [hg]; exact (below_size (by repeat (first | (with_reducible first | exact HB.out | apply wA | apply wN | apply wD | refine bS ?_ GE150.out | refine bS ?_ GE151.out) | exact HB.out))) : w.heap.size ≤ gb172))
       have n5_ := A0 ((by rw [hg]; exact (below_size (by repeat (first | (with_reducible first | exact HB.out | apply wA | apply wN | apply wD | refine bS ?_ GE150.out | refine bS ?_ GE151.out) | exact HB.out))) : w.heap.size ≤ gb172))
       have n6_ := A0 ((by rw [hg]; exact Nat.ne_of_lt (blk_lt (g := gb150) (o := .cells #[.int .i64 a0_0, .int .i64 a0_1, .int .i64 a0_2, .string a0_3, .string a0_4, .int .i64 a0_5] 23 (0, 0)) (by (with_reducible repeat (first | refine bN ?_ _ | refine bD ?_ | refine bA ?_ _)); exact BK150.out)) : gb150 ≠ gb172))
       have n7_ := A0 ((by rw [hg]; exact Nat.ne_of_gt (blk_lt (g := gb150) (o := .cells #[.int .i64 a0_0, .int .i64 a0_1, .int .i64 a0_2, .string a0_3, .string a0_4, .int .i64 a0_5] 23 (0, 0)) (by (with_reducible repeat (first | refine bN ?_ _ | refine bD ?_ | refine bA ?_ _)); exact BK150.out)) : gb172 ≠ gb150))
       have n8_ := A0 ((by rw [hg]; exact Nat.ne_of_lt (blk_lt (g := gb151) (o := .cells #[.int .i64 a1_0, .int .i64 a1_1, .int .i64 a1_2, .string a1_3, .string a1_4, .int .i64 a1_5] 23 (0, 0)) (by (with_reducible repeat (first | refine bN ?_ _ | refine bD ?_ | refine bA ?_ _)); exact BK151.out)) : gb151 ≠ gb172))
       have n9_ := A0 ((by rw [hg]; exact Nat.ne_of_gt (blk_lt (g := gb151) (o := .cells #[.int .i64 a1_0, .int .i64 a1_1, .int .i64 a1_2, .string a1_3, .string a1_4, .int .i64 a1_5] 23 (0, 0)) (by (with_reducible repeat (first | refine bN ?_ _ | refine bD ?_ | refine bA ?_ _)); exact BK151.out)) : gb172 ≠ gb151))
       clear BK150
       clear BK151
       clear HB
       have BK150 := n0_
       have BK151 := n1_
       have HB := n2_
       have BK172 := n3_
       have GW172 := n4_
       have GE172 := n5_
       have NB150_172 := n6_
       have NB172_150 := n7_
       have NB151_172 := n8_
       have NB172_151 := n9_
       clear n0_ n1_ n2_ n3_ n4_ n5_ n6_ n7_ n8_ n9_
       clear hb hbox hg
       refine hK.out _ _ ⟨bC BK150.out 0 rfl, bC BK150.out 1 rfl, bC BK150.out 2 rfl, bC BK150.out 3 rfl, bC BK150.out 4 rfl, bC BK150.out 5 rfl, bC BK151.out 0 rfl, bC BK151.out 1 rfl, bC BK151.out 2 rfl, bC BK151.out 3 rfl, bC BK151.out 4 rfl, bC BK151.out 5 rfl⟩ (fun hHeld => ?_)
       clear hK K
       refine norm_ (a' := ?_) ?_ ?_
       rotate_left
       ·show Act.put _ (some 6) _ = _
        simp only [Act.put, sqA, sqZ, sqS, i64_w, i32_w]
        rfl
       refine one_ (i := 3) (N := some 21) #[true, true, true, true, false, true, false] rfl rfl (by kernel_rfl) (by decide) (fun K hK => ?_)
       refine goes_ Tryd.func7 (by kernel_rfl) rfl #[.agg #[.int .i64 a1_0, .int .i64 a1_1, .int .i64 a1_2, .string a1_3, .string a1_4, .int .i64 a1_5]] (by rfl) rfl rfl (by (try simp only [lM, lC, lN]); first | done | rfl | (simp only [lD, lT]; rfl)) ?_
       with_reducible refine (laws_toSky.calls a1_0 a1_1 a1_2 a1_3 a1_4 a1_5 t160 t161 t162 t163 t164 t165 _ A22.out).mono ?_
       rintro e w39 ⟨rfl, hb⟩
       refine ⟨_, rfl, ?_⟩
       have n0_ := A0 (blk_below (g := gb150) (o := .cells #[.int .i64 a0_0, .int .i64 a0_1, .int .i64 a0_2, .string a0_3, .string a0_4, .int .i64 a0_5] 23 (0, 0)) (by (with_reducible repeat (first | refine bN ?_ _ | refine bD ?_ | refine bA ?_ _)); exact BK150.out) hb)
       have n1_ := A0 (blk_below (g := gb151) (o := .cells #[.int .i64 a1_0, .int .i64 a1_1, .int .i64 a1_2, .string a1_3, .string a1_4, .int .i64 a1_5] 23 (0, 0)) (by (with_reducible repeat (first | refine bN ?_ _ | refine bD ?_ | refine bA ?_ _)); exact BK151.out) hb)
       have n2_ := A0 (blk_below (g := gb172) (o := .cells #[.int .i64 0, .int .i64 0, .int .i64 0, .string (⟨#[]⟩ : ByteArray), .string (⟨#[]⟩ : ByteArray), .int .i64 0] 25 (0, 0)) (by (with_reducible repeat (first | refine bN ?_ _ | refine bD ?_ | refine bA ?_ _)); exact BK172.out) hb)
       have n3_ := A0 (below_step (by repeat (first | (with_reducible first | exact HB.out | apply wA | apply wN | apply wD | refine bS ?_ GE150.out | refine bS ?_ GE151.out | refine bS ?_ GE172.out) | exact HB.out)) hb)
       clear BK150
       clear BK151
       clear BK172
       clear HB
       have BK150 := n0_
       have BK151 := n1_
       have BK172 := n2_
       have HB := n3_
       clear n0_ n1_ n2_ n3_
       (try clear hb)
       refine hK.out _ _ ⟨bC BK150.out 0 rfl, bC BK150.out 1 rfl, bC BK150.out 2 rfl, bC BK150.out 3 rfl, bC BK150.out 4 rfl, bC BK150.out 5 rfl, bC BK151.out 0 rfl, bC BK151.out 1 rfl, bC BK151.out 2 rfl, bC BK151.out 3 rfl, bC BK151.out 4 rfl, bC BK151.out 5 rfl⟩ (fun hHeld => ?_)
       clear hK K
       refine norm_ (a' := ?_) ?_ ?_
       rotate_left
       ·show Act.put _ (some 21) _ = _
        simp only [Act.put, sqA, sqZ, sqS, i64_w, i32_w]
        rfl
       refine one_ (i := 4) (N := some 22) #[true, true, true, true, true, true, false] rfl rfl (by kernel_rfl) (by decide) (fun K hK => ?_)
       refine goes_ Tryd.func6 (by kernel_rfl) rfl #[.agg #[.int .i64 t154, .int .i64 t155, .int .i64 t156, .string t157, .string t158, .int .i64 t159], .agg #[.int .i64 t160, .int .i64 t161, .int .i64 t162, .string t163, .string t164, .int .i64 t165]] (by rfl) rfl rfl (by (try simp only [lM, lC, lN]); first | done | rfl | (simp only [lD, lT]; rfl)) ?_
       with_reducible refine (spec_Laid.calls k t154 t155 t156 t157 t158 t159 t160 t161 t162 t163 t164 t165 t166 t167 t168 t169 t170 t171 _ A23.out).mono ?_
       rintro e w40 ⟨rfl, hb⟩
       refine ⟨_, rfl, ?_⟩
       have n0_ := A0 (blk_below (g := gb150) (o := .cells #[.int .i64 a0_0, .int .i64 a0_1, .int .i64 a0_2, .string a0_3, .string a0_4, .int .i64 a0_5] 23 (0, 0)) (by (with_reducible repeat (first | refine bN ?_ _ | refine bD ?_ | refine bA ?_ _)); exact BK150.out) hb)
       have n1_ := A0 (blk_below (g := gb151) (o := .cells #[.int .i64 a1_0, .int .i64 a1_1, .int .i64 a1_2, .string a1_3, .string a1_4, .int .i64 a1_5] 23 (0, 0)) (by (with_reducible repeat (first | refine bN ?_ _ | refine bD ?_ | refine bA ?_ _)); exact BK151.out) hb)
       have n2_ := A0 (blk_below (g := gb172) (o := .cells #[.int .i64 0, .int .i64 0, .int .i64 0, .string (⟨#[]⟩ : ByteArray), .string (⟨#[]⟩ : ByteArray), .int .i64 0] 25 (0, 0)) (by (with_reducible repeat (first | refine bN ?_ _ | refine bD ?_ | refine bA ?_ _)); exact BK172.out) hb)
       have n3_ := A0 (below_step (by repeat (first | (with_reducible first | exact HB.out | apply wA | apply wN | apply wD | refine bS ?_ GE150.out | refine bS ?_ GE151.out | refine bS ?_ GE172.out) | exact HB.out)) hb)
       clear BK150
       clear BK151
       clear BK172
       clear HB
       have BK150 := n0_
       have BK151 := n1_
       have BK172 := n2_
       have HB := n3_
       clear n0_ n1_ n2_ n3_
       (try clear hb)
       refine hK.out _ _ ⟨bC BK150.out 0 rfl, bC BK150.out 1 rfl, bC BK150.out 2 rfl, bC BK150.out 3 rfl, bC BK150.out 4 rfl, bC BK150.out 5 rfl, bC BK151.out 0 rfl, bC BK151.out 1 rfl, bC BK151.out 2 rfl, bC BK151.out 3 rfl, bC BK151.out 4 rfl, bC BK151.out 5 rfl⟩ (fun hHeld => ?_)
       clear hK K
       refine norm_ (a' := ?_) ?_ ?_
       rotate_left
       ·show Act.put _ (some 22) _ = _
        simp only [Act.put, sqA, sqZ, sqS, i64_w, i32_w]
        rfl
       exact norm_ (by simp only [putAll, Act.put, sqA, sqZ, sqS]) (hCont (gb172) _ ⟨hHeld, (by (with_reducible repeat (first | refine bN ?_ _ | refine bD ?_ | refine bA ?_ _)); exact BK150.out), (by (with_reducible repeat (first | refine bN ?_ _ | refine bD ?_ | refine bA ?_ _)); exact BK151.out), (by (with_reducible repeat (first | refine bN ?_ _ | refine bD ?_ | refine bA ?_ _)); exact BK172.out), GW172.out, GE172.out, NB150_172.out, NB172_150.out, NB151_172.out, NB172_151.out, (by repeat (first | (with_reducible first | exact HB.out | apply wA | apply wN | apply wD | refine bS ?_ GE150.out | refine bS ?_ GE151.out | refine bS ?_ GE172.out) | exact HB.out))⟩)
     ·skip
      refine box_step ?hg (N := 6) ?hd (cs := #[.int .i64 0, .int .i64 0, .int .i64 0, .string (⟨#[]⟩ : ByteArray), .string (⟨#[]⟩ : ByteArray), .int .i64 0]) (t := 25) ?hr ?_; (case hd => rfl); (case hg => rfl); (case hr => first | (go_simp; done) | (go_simp; rfl))
      intro gb172 hg w37 hbox hb
      have n0_ := A0 (blk_below (g := gb150) (o := .cells #[.int .i64 a0_0, .int .i64 a0_1, .int .i64 a0_2, .string a0_3, .string a0_4, .int .i64 a0_5] 23 (0, 0)) (by (with_reducible repeat (first | refine bN ?_ _ | refine bD ?_ | refine bA ?_ _)); exact BK150.out) hb)
      have n1_ := A0 (blk_below (g := gb151) (o := .cells #[.int .i64 a1_0, .int .i64 a1_1, .int .i64 a1_2, .string a1_3, .string a1_4, .int .i64 a1_5] 23 (0, 0)) (by (with_reducible repeat (first | refine bN ?_ _ | refine bD ?_ | refine bA ?_ _)); exact BK151.out) hb)
      have n2_ := A0 (below_step (by repeat (first | (with_reducible first | exact HB.out | apply wA | apply wN | apply wD | refine bS ?_ GE150.out | refine bS ?_ GE151.out) | exact HB.out)) hb)
      have n3_ := A0 (hbox)
      have n4_ := A0 ((by rw [hg]; exact (below_size (by repeat (first | (with_reducible first | exact HB.out | apply wA | apply wN | apply wD | refine bS ?_ GE150.out | refine bS ?_ GE151.out) | exact HB.out))) : w.heap.size ≤ gb172))
      have n5_ := A0 ((by rw [hg]; exact (below_size (by repeat (first | (with_reducible first | exact HB.out | apply wA | apply wN | apply wD | refine bS ?_ GE150.out | refine bS ?_ GE151.out) | exact HB.out))) : w.heap.size ≤ gb172))
      have n6_ := A0 ((by rw [hg]; exact Nat.ne_of_lt (blk_lt (g := gb150) (o := .cells #[.int .i64 a0_0, .int .i64 a0_1, .int .i64 a0_2, .string a0_3, .string a0_4, .int .i64 a0_5] 23 (0, 0)) (by (with_reducible repeat (first | refine bN ?_ _ | refine bD ?_ | refine bA ?_ _)); exact BK150.out)) : gb150 ≠ gb172))
      have n7_ := A0 ((by rw [hg]; exact Nat.ne_of_gt (blk_lt (g := gb150) (o := .cells #[.int .i64 a0_0, .int .i64 a0_1, .int .i64 a0_2, .string a0_3, .string a0_4, .int .i64 a0_5] 23 (0, 0)) (by (with_reducible repeat (first | refine bN ?_ _ | refine bD ?_ | refine bA ?_ _)); exact BK150.out)) : gb172 ≠ gb150))
      have n8_ := A0 ((by rw [hg]; exact Nat.ne_of_lt (blk_lt (g := gb151) (o := .cells #[.int .i64 a1_0, .int .i64 a1_1, .int .i64 a1_2, .string a1_3, .string a1_4, .int .i64 a1_5] 23 (0, 0)) (by (with_reducible repeat (first | refine bN ?_ _ | refine bD ?_ | refine bA ?_ _)); exact BK151.out)) : gb151 ≠ gb172))
      have n9_ := A0 ((by rw [hg]; exact Nat.ne_of_gt (blk_lt (g := gb151) (o := .cells #[.int .i64 a1_0, .int .i64 a1_1, .int .i64 a1_2, .string a1_3, .string a1_4, .int .i64 a1_5] 23 (0, 0)) (by (with_reducible repeat (first | refine bN ?_ _ | refine bD ?_ | refine bA ?_ _)); exact BK151.out)) : gb172 ≠ gb151))
      clear BK150
      clear BK151
      clear HB
      have BK150 := n0_
      have BK151 := n1_
      have HB := n2_
      have BK172 := n3_
      have GW172 := n4_
      have GE172 := n5_
      have NB150_172 := n6_
      have NB172_150 := n7_
      have NB151_172 := n8_
      have NB172_151 := n9_
      clear n0_ n1_ n2_ n3_ n4_ n5_ n6_ n7_ n8_ n9_
      clear hb hbox hg
      refine hK.out _ _ ⟨bC BK150.out 0 rfl, bC BK150.out 1 rfl, bC BK150.out 2 rfl, bC BK150.out 3 rfl, bC BK150.out 4 rfl, bC BK150.out 5 rfl, bC BK151.out 0 rfl, bC BK151.out 1 rfl, bC BK151.out 2 rfl, bC BK151.out 3 rfl, bC BK151.out 4 rfl, bC BK151.out 5 rfl⟩ (fun hHeld => ?_)
      clear hK K
      refine norm_ (a' := ?_) ?_ ?_
      rotate_left
      ·show Act.put _ (some 6) _ = _
       simp only [Act.put, sqA, sqZ, sqS, i64_w, i32_w]
       rfl
      refine one_ (i := 1) (N := some 19) #[true, true, true, false, false, true, false] rfl rfl (by kernel_rfl) (by decide) (fun K hK => ?_)
      refine goes_ Tryd.func7 (by kernel_rfl) rfl #[.agg #[.int .i64 a0_0, .int .i64 a0_1, .int .i64 a0_2, .string a0_3, .string a0_4, .int .i64 a0_5]] (by rfl) rfl rfl (by (try simp only [lM, lC, lN]); first | done | rfl | (simp only [lD, lT]; rfl)) ?_
      with_reducible refine (laws_toSky.calls a0_0 a0_1 a0_2 a0_3 a0_4 a0_5 t154 t155 t156 t157 t158 t159 _ A21.out).mono ?_
      rintro e w38 ⟨rfl, hb⟩
      refine ⟨_, rfl, ?_⟩
      have n0_ := A0 (blk_below (g := gb150) (o := .cells #[.int .i64 a0_0, .int .i64 a0_1, .int .i64 a0_2, .string a0_3, .string a0_4, .int .i64 a0_5] 23 (0, 0)) (by (with_reducible repeat (first | refine bN ?_ _ | refine bD ?_ | refine bA ?_ _)); exact BK150.out) hb)
      have n1_ := A0 (blk_below (g := gb151) (o := .cells #[.int .i64 a1_0, .int .i64 a1_1, .int .i64 a1_2, .string a1_3, .string a1_4, .int .i64 a1_5] 23 (0, 0)) (by (with_reducible repeat (first | refine bN ?_ _ | refine bD ?_ | refine bA ?_ _)); exact BK151.out) hb)
      have n2_ := A0 (blk_below (g := gb172) (o := .cells #[.int .i64 0, .int .i64 0, .int .i64 0, .string (⟨#[]⟩ : ByteArray), .string (⟨#[]⟩ : ByteArray), .int .i64 0] 25 (0, 0)) (by (with_reducible repeat (first | refine bN ?_ _ | refine bD ?_ | refine bA ?_ _)); exact BK172.out) hb)
      have n3_ := A0 (below_step (by repeat (first | (with_reducible first | exact HB.out | apply wA | apply wN | apply wD | refine bS ?_ GE150.out | refine bS ?_ GE151.out | refine bS ?_ GE172.out) | exact HB.out)) hb)
      clear BK150
      clear BK151
      clear BK172
      clear HB
      have BK150 := n0_
      have BK151 := n1_
      have BK172 := n2_
      have HB := n3_
      clear n0_ n1_ n2_ n3_
      (try clear hb)
      refine hK.out _ _ ⟨bC BK150.out 0 rfl, bC BK150.out 1 rfl, bC BK150.out 2 rfl, bC BK150.out 3 rfl, bC BK150.out 4 rfl, bC BK150.out 5 rfl, bC BK151.out 0 rfl, bC BK151.out 1 rfl, bC BK151.out 2 rfl, bC BK151.out 3 rfl, bC BK151.out 4 rfl, bC BK151.out 5 rfl⟩ (fun hHeld => ?_)
      clear hK K
      refine norm_ (a' := ?_) ?_ ?_
      rotate_left
      ·show Act.put _ (some 19) _ = _
       simp only [Act.put, sqA, sqZ, sqS, i64_w, i32_w]
       rfl
      refine one_ (i := 3) (N := some 21) #[true, true, true, true, false, true, false] rfl rfl (by kernel_rfl) (by decide) (fun K hK => ?_)
      refine goes_ Tryd.func7 (by kernel_rfl) rfl #[.agg #[.int .i64 a1_0, .int .i64 a1_1, .int .i64 a1_2, .string a1_3, .string a1_4, .int .i64 a1_5]] (by rfl) rfl rfl (by (try simp only [lM, lC, lN]); first | done | rfl | (simp only [lD, lT]; rfl)) ?_
      with_reducible refine (laws_toSky.calls a1_0 a1_1 a1_2 a1_3 a1_4 a1_5 t160 t161 t162 t163 t164 t165 _ A22.out).mono ?_
      rintro e w39 ⟨rfl, hb⟩
      refine ⟨_, rfl, ?_⟩
      have n0_ := A0 (blk_below (g := gb150) (o := .cells #[.int .i64 a0_0, .int .i64 a0_1, .int .i64 a0_2, .string a0_3, .string a0_4, .int .i64 a0_5] 23 (0, 0)) (by (with_reducible repeat (first | refine bN ?_ _ | refine bD ?_ | refine bA ?_ _)); exact BK150.out) hb)
      have n1_ := A0 (blk_below (g := gb151) (o := .cells #[.int .i64 a1_0, .int .i64 a1_1, .int .i64 a1_2, .string a1_3, .string a1_4, .int .i64 a1_5] 23 (0, 0)) (by (with_reducible repeat (first | refine bN ?_ _ | refine bD ?_ | refine bA ?_ _)); exact BK151.out) hb)
      have n2_ := A0 (blk_below (g := gb172) (o := .cells #[.int .i64 0, .int .i64 0, .int .i64 0, .string (⟨#[]⟩ : ByteArray), .string (⟨#[]⟩ : ByteArray), .int .i64 0] 25 (0, 0)) (by (with_reducible repeat (first | refine bN ?_ _ | refine bD ?_ | refine bA ?_ _)); exact BK172.out) hb)
      have n3_ := A0 (below_step (by repeat (first | (with_reducible first | exact HB.out | apply wA | apply wN | apply wD | refine bS ?_ GE150.out | refine bS ?_ GE151.out | refine bS ?_ GE172.out) | exact HB.out)) hb)
      clear BK150
      clear BK151
      clear BK172
      clear HB
      have BK150 := n0_
      have BK151 := n1_
      have BK172 := n2_
      have HB := n3_
      clear n0_ n1_ n2_ n3_
      (try clear hb)
      refine hK.out _ _ ⟨bC BK150.out 0 rfl, bC BK150.out 1 rfl, bC BK150.out 2 rfl, bC BK150.out 3 rfl, bC BK150.out 4 rfl, bC BK150.out 5 rfl, bC BK151.out 0 rfl, bC BK151.out 1 rfl, bC BK151.out 2 rfl, bC BK151.out 3 rfl, bC BK151.out 4 rfl, bC BK151.out 5 rfl⟩ (fun hHeld => ?_)
      clear hK K
      refine norm_ (a' := ?_) ?_ ?_
      rotate_left
      ·show Act.put _ (some 21) _ = _
       simp only [Act.put, sqA, sqZ, sqS, i64_w, i32_w]
       rfl
      refine one_ (i := 4) (N := some 22) #[true, true, true, true, true, true, false] rfl rfl (by kernel_rfl) (by decide) (fun K hK => ?_)
      refine goes_ Tryd.func6 (by kernel_rfl) rfl #[.agg #[.int .i64 t154, .int .i64 t155, .int .i64 t156, .string t157, .string t158, .int .i64 t159], .agg #[.int .i64 t160, .int .i64 t161, .int .i64 t162, .string t163, .string t164, .int .i64 t165]] (by rfl) rfl rfl (by (try simp only [lM, lC, lN]); first | done | rfl | (simp only [lD, lT]; rfl)) ?_
      with_reducible refine (spec_Laid.calls k t154 t155 t156 t157 t158 t159 t160 t161 t162 t163 t164 t165 t166 t167 t168 t169 t170 t171 _ A23.out).mono ?_
      rintro e w40 ⟨rfl, hb⟩
      refine ⟨_, rfl, ?_⟩
      have n0_ := A0 (blk_below (g := gb150) (o := .cells #[.int .i64 a0_0, .int .i64 a0_1, .int .i64 a0_2, .string a0_3, .string a0_4, .int .i64 a0_5] 23 (0, 0)) (by (with_reducible repeat (first | refine bN ?_ _ | refine bD ?_ | refine bA ?_ _)); exact BK150.out) hb)
      have n1_ := A0 (blk_below (g := gb151) (o := .cells #[.int .i64 a1_0, .int .i64 a1_1, .int .i64 a1_2, .string a1_3, .string a1_4, .int .i64 a1_5] 23 (0, 0)) (by (with_reducible repeat (first | refine bN ?_ _ | refine bD ?_ | refine bA ?_ _)); exact BK151.out) hb)
      have n2_ := A0 (blk_below (g := gb172) (o := .cells #[.int .i64 0, .int .i64 0, .int .i64 0, .string (⟨#[]⟩ : ByteArray), .string (⟨#[]⟩ : ByteArray), .int .i64 0] 25 (0, 0)) (by (with_reducible repeat (first | refine bN ?_ _ | refine bD ?_ | refine bA ?_ _)); exact BK172.out) hb)
      have n3_ := A0 (below_step (by repeat (first | (with_reducible first | exact HB.out | apply wA | apply wN | apply wD | refine bS ?_ GE150.out | refine bS ?_ GE151.out | refine bS ?_ GE172.out) | exact HB.out)) hb)
      clear BK150
      clear BK151
      clear BK172
      clear HB
      have BK150 := n0_
      have BK151 := n1_
      have BK172 := n2_
      have HB := n3_
      clear n0_ n1_ n2_ n3_
      (try clear hb)
      refine hK.out _ _ ⟨bC BK150.out 0 rfl, bC BK150.out 1 rfl, bC BK150.out 2 rfl, bC BK150.out 3 rfl, bC BK150.out 4 rfl, bC BK150.out 5 rfl, bC BK151.out 0 rfl, bC BK151.out 1 rfl, bC BK151.out 2 rfl, bC BK151.out 3 rfl, bC BK151.out 4 rfl, bC BK151.out 5 rfl⟩ (fun hHeld => ?_)
      clear hK K
      refine norm_ (a' := ?_) ?_ ?_
      rotate_left
      ·show Act.put _ (some 22) _ = _
       simp only [Act.put, sqA, sqZ, sqS, i64_w, i32_w]
       rfl
      exact norm_ (by simp only [putAll, Act.put, sqA, sqZ, sqS]) (hCont (gb172) _ ⟨hHeld, (by (with_reducible repeat (first | refine bN ?_ _ | refine bD ?_ | refine bA ?_ _)); exact BK150.out), (by (with_reducible repeat (first | refine bN ?_ _ | refine bD ?_ | refine bA ?_ _)); exact BK151.out), (by (with_reducible repeat (first | refine bN ?_ _ | refine bD ?_ | refine bA ?_ _)); exact BK172.out), GW172.out, GE172.out, NB150_172.out, NB172_150.out, NB151_172.out, NB172_151.out, (by repeat (first | (with_reducible first | exact HB.out | apply wA | apply wN | apply wD | refine bS ?_ GE150.out | refine bS ?_ GE151.out | refine bS ?_ GE172.out) | exact HB.out))⟩)
    rintro gb172 w41 ⟨hS_, h0_, h1_, h2_, h3_, h4_, h5_, h6_, h7_, h8_, h9_⟩
    have n0_ : Aside0 (w41.heap[gb150]? = some (.cells #[.int .i64 a0_0, .int .i64 a0_1, .int .i64 a0_2, .string a0_3, .string a0_4, .int .i64 a0_5] 23 (0, 0))) := ⟨h0_⟩
    have n1_ : Aside0 (w41.heap[gb151]? = some (.cells #[.int .i64 a1_0, .int .i64 a1_1, .int .i64 a1_2, .string a1_3, .string a1_4, .int .i64 a1_5] 23 (0, 0))) := ⟨h1_⟩
    have n2_ : Aside0 (w41.heap[gb172]? = some (.cells #[.int .i64 0, .int .i64 0, .int .i64 0, .string (⟨#[]⟩ : ByteArray), .string (⟨#[]⟩ : ByteArray), .int .i64 0] 25 (0, 0))) := ⟨h2_⟩
    have n3_ : Aside0 (w.heap.size ≤ gb172) := ⟨h3_⟩
    have n4_ : Aside0 (w.heap.size ≤ gb172) := ⟨h4_⟩
    have n5_ : Aside0 (gb150 ≠ gb172) := ⟨h5_⟩
    have n6_ : Aside0 (gb172 ≠ gb150) := ⟨h6_⟩
    have n7_ : Aside0 (gb151 ≠ gb172) := ⟨h7_⟩
    have n8_ : Aside0 (gb172 ≠ gb151) := ⟨h8_⟩
    have n9_ : Aside0 (Below w.heap.size w w41) := ⟨h9_⟩
    clear BK150
    clear BK151
    clear HB
    clear h0_ h1_ h2_ h3_ h4_ h5_ h6_ h7_ h8_ h9_
    have BK150 := n0_
    have BK151 := n1_
    have BK172 := n2_
    have GW172 := n3_
    have GE172 := n4_
    have NB150_172 := n5_
    have NB172_150 := n6_
    have NB151_172 := n7_
    have NB172_151 := n8_
    have HB := n9_
    clear n0_ n1_ n2_ n3_ n4_ n5_ n6_ n7_ n8_ n9_
    have hHeld : w41.cell? ⟨gb150, 0, none⟩ = some (.int .i64 a0_0) ∧ w41.cell? ⟨gb150, 1, none⟩ = some (.int .i64 a0_1) ∧ w41.cell? ⟨gb150, 2, none⟩ = some (.int .i64 a0_2) ∧ w41.cell? ⟨gb150, 3, none⟩ = some (.string a0_3) ∧ w41.cell? ⟨gb150, 4, none⟩ = some (.string a0_4) ∧ w41.cell? ⟨gb150, 5, none⟩ = some (.int .i64 a0_5) ∧ w41.cell? ⟨gb151, 0, none⟩ = some (.int .i64 a1_0) ∧ w41.cell? ⟨gb151, 1, none⟩ = some (.int .i64 a1_1) ∧ w41.cell? ⟨gb151, 2, none⟩ = some (.int .i64 a1_2) ∧ w41.cell? ⟨gb151, 3, none⟩ = some (.string a1_3) ∧ w41.cell? ⟨gb151, 4, none⟩ = some (.string a1_4) ∧ w41.cell? ⟨gb151, 5, none⟩ = some (.int .i64 a1_5) := hS_
    refine norm_ (a' := ?_) ?_ ?_
    rotate_left
    ·simp only [putAll, Act.put, sqA, sqZ, sqS]
     rfl
    refine one_ (i := 6) (N := none) #[true, true, true, true, true, true, true] rfl rfl (by kernel_rfl) (by decide) (fun K hK => ?_)
    have hs42 : w41.cell? ⟨gb172, 0, none⟩ = some (.int .i64 0) := bC BK172.out 0 rfl
    have hfs42 := blk_frozen BK172.out 0
    have hns42_0 := NB150_172.out
    have hns42_1 := NB151_172.out
    have hms42_0 := NB172_150.out
    have hms42_1 := NB172_151.out
    have hs43 : w41.cell? ⟨gb172, 1, none⟩ = some (.int .i64 0) := bC BK172.out 1 rfl
    have hfs43 := blk_frozen BK172.out 1
    have hns43_0 := NB150_172.out
    have hns43_1 := NB151_172.out
    have hms43_0 := NB172_150.out
    have hms43_1 := NB172_151.out
    have hs44 : w41.cell? ⟨gb172, 2, none⟩ = some (.int .i64 0) := bC BK172.out 2 rfl
    have hfs44 := blk_frozen BK172.out 2
    have hns44_0 := NB150_172.out
    have hns44_1 := NB151_172.out
    have hms44_0 := NB172_150.out
    have hms44_1 := NB172_151.out
    have hs45 : w41.cell? ⟨gb172, 3, none⟩ = some (.string (⟨#[]⟩ : ByteArray)) := bC BK172.out 3 rfl
    have hfs45 := blk_frozen BK172.out 3
    have hns45_0 := NB150_172.out
    have hns45_1 := NB151_172.out
    have hms45_0 := NB172_150.out
    have hms45_1 := NB172_151.out
    have hs46 : w41.cell? ⟨gb172, 4, none⟩ = some (.string (⟨#[]⟩ : ByteArray)) := bC BK172.out 4 rfl
    have hfs46 := blk_frozen BK172.out 4
    have hns46_0 := NB150_172.out
    have hns46_1 := NB151_172.out
    have hms46_0 := NB172_150.out
    have hms46_1 := NB172_151.out
    have hs47 : w41.cell? ⟨gb172, 5, none⟩ = some (.int .i64 0) := bC BK172.out 5 rfl
    have hfs47 := blk_frozen BK172.out 5
    have hns47_0 := NB150_172.out
    have hns47_1 := NB151_172.out
    have hms47_0 := NB172_150.out
    have hms47_1 := NB172_151.out
    refine skip_ (w1 := ?_) (by rfl) rfl ?_ ?_
    rotate_left
    ·go_simp
     rfl
    refine hK.out _ _ ⟨((cell_far (p := ⟨gb172, _, none⟩) NB150_172.out _).trans (((cell_far (p := ⟨gb172, _, none⟩) NB150_172.out _).trans (((cell_far (p := ⟨gb172, _, none⟩) NB150_172.out _).trans (((cell_far (p := ⟨gb172, _, none⟩) NB150_172.out _).trans (((cell_far (p := ⟨gb172, _, none⟩) NB150_172.out _).trans (((cell_far (p := ⟨gb172, _, none⟩) NB150_172.out _).trans (hHeld.1)))))))))))), ((cell_far (p := ⟨gb172, _, none⟩) NB150_172.out _).trans (((cell_far (p := ⟨gb172, _, none⟩) NB150_172.out _).trans (((cell_far (p := ⟨gb172, _, none⟩) NB150_172.out _).trans (((cell_far (p := ⟨gb172, _, none⟩) NB150_172.out _).trans (((cell_far (p := ⟨gb172, _, none⟩) NB150_172.out _).trans (((cell_far (p := ⟨gb172, _, none⟩) NB150_172.out _).trans (hHeld.2.1)))))))))))), ((cell_far (p := ⟨gb172, _, none⟩) NB150_172.out _).trans (((cell_far (p := ⟨gb172, _, none⟩) NB150_172.out _).trans (((cell_far (p := ⟨gb172, _, none⟩) NB150_172.out _).trans (((cell_far (p := ⟨gb172, _, none⟩) NB150_172.out _).trans (((cell_far (p := ⟨gb172, _, none⟩) NB150_172.out _).trans (((cell_far (p := ⟨gb172, _, none⟩) NB150_172.out _).trans (hHeld.2.2.1)))))))))))), ((cell_far (p := ⟨gb172, _, none⟩) NB150_172.out _).trans (((cell_far (p := ⟨gb172, _, none⟩) NB150_172.out _).trans (((cell_far (p := ⟨gb172, _, none⟩) NB150_172.out _).trans (((cell_far (p := ⟨gb172, _, none⟩) NB150_172.out _).trans (((cell_far (p := ⟨gb172, _, none⟩) NB150_172.out _).trans (((cell_far (p := ⟨gb172, _, none⟩) NB150_172.out _).trans (hHeld.2.2.2.1)))))))))))), ((cell_far (p := ⟨gb172, _, none⟩) NB150_172.out _).trans (((cell_far (p := ⟨gb172, _, none⟩) NB150_172.out _).trans (((cell_far (p := ⟨gb172, _, none⟩) NB150_172.out _).trans (((cell_far (p := ⟨gb172, _, none⟩) NB150_172.out _).trans (((cell_far (p := ⟨gb172, _, none⟩) NB150_172.out _).trans (((cell_far (p := ⟨gb172, _, none⟩) NB150_172.out _).trans (hHeld.2.2.2.2.1)))))))))))), ((cell_far (p := ⟨gb172, _, none⟩) NB150_172.out _).trans (((cell_far (p := ⟨gb172, _, none⟩) NB150_172.out _).trans (((cell_far (p := ⟨gb172, _, none⟩) NB150_172.out _).trans (((cell_far (p := ⟨gb172, _, none⟩) NB150_172.out _).trans (((cell_far (p := ⟨gb172, _, none⟩) NB150_172.out _).trans (((cell_far (p := ⟨gb172, _, none⟩) NB150_172.out _).trans (hHeld.2.2.2.2.2.1)))))))))))), ((cell_far (p := ⟨gb172, _, none⟩) NB151_172.out _).trans (((cell_far (p := ⟨gb172, _, none⟩) NB151_172.out _).trans (((cell_far (p := ⟨gb172, _, none⟩) NB151_172.out _).trans (((cell_far (p := ⟨gb172, _, none⟩) NB151_172.out _).trans (((cell_far (p := ⟨gb172, _, none⟩) NB151_172.out _).trans (((cell_far (p := ⟨gb172, _, none⟩) NB151_172.out _).trans (hHeld.2.2.2.2.2.2.1)))))))))))), ((cell_far (p := ⟨gb172, _, none⟩) NB151_172.out _).trans (((cell_far (p := ⟨gb172, _, none⟩) NB151_172.out _).trans (((cell_far (p := ⟨gb172, _, none⟩) NB151_172.out _).trans (((cell_far (p := ⟨gb172, _, none⟩) NB151_172.out _).trans (((cell_far (p := ⟨gb172, _, none⟩) NB151_172.out _).trans (((cell_far (p := ⟨gb172, _, none⟩) NB151_172.out _).trans (hHeld.2.2.2.2.2.2.2.1)))))))))))), ((cell_far (p := ⟨gb172, _, none⟩) NB151_172.out _).trans (((cell_far (p := ⟨gb172, _, none⟩) NB151_172.out _).trans (((cell_far (p := ⟨gb172, _, none⟩) NB151_172.out _).trans (((cell_far (p := ⟨gb172, _, none⟩) NB151_172.out _).trans (((cell_far (p := ⟨gb172, _, none⟩) NB151_172.out _).trans (((cell_far (p := ⟨gb172, _, none⟩) NB151_172.out _).trans (hHeld.2.2.2.2.2.2.2.2.1)))))))))))), ((cell_far (p := ⟨gb172, _, none⟩) NB151_172.out _).trans (((cell_far (p := ⟨gb172, _, none⟩) NB151_172.out _).trans (((cell_far (p := ⟨gb172, _, none⟩) NB151_172.out _).trans (((cell_far (p := ⟨gb172, _, none⟩) NB151_172.out _).trans (((cell_far (p := ⟨gb172, _, none⟩) NB151_172.out _).trans (((cell_far (p := ⟨gb172, _, none⟩) NB151_172.out _).trans (hHeld.2.2.2.2.2.2.2.2.2.1)))))))))))), ((cell_far (p := ⟨gb172, _, none⟩) NB151_172.out _).trans (((cell_far (p := ⟨gb172, _, none⟩) NB151_172.out _).trans (((cell_far (p := ⟨gb172, _, none⟩) NB151_172.out _).trans (((cell_far (p := ⟨gb172, _, none⟩) NB151_172.out _).trans (((cell_far (p := ⟨gb172, _, none⟩) NB151_172.out _).trans (((cell_far (p := ⟨gb172, _, none⟩) NB151_172.out _).trans (hHeld.2.2.2.2.2.2.2.2.2.2.1)))))))))))), ((cell_far (p := ⟨gb172, _, none⟩) NB151_172.out _).trans (((cell_far (p := ⟨gb172, _, none⟩) NB151_172.out _).trans (((cell_far (p := ⟨gb172, _, none⟩) NB151_172.out _).trans (((cell_far (p := ⟨gb172, _, none⟩) NB151_172.out _).trans (((cell_far (p := ⟨gb172, _, none⟩) NB151_172.out _).trans (((cell_far (p := ⟨gb172, _, none⟩) NB151_172.out _).trans (hHeld.2.2.2.2.2.2.2.2.2.2.2))))))))))))⟩ (fun hHeld => ?_)
    clear hK K
    refine done_ (by kernel_rfl) ?_
    try go_wp2
    have n0_ : Aside0 (((((((w41.setCell ⟨gb172, 0, none⟩ (.int .i64 t166)).setCell ⟨gb172, 1, none⟩ (.int .i64 t167)).setCell ⟨gb172, 2, none⟩ (.int .i64 t168)).setCell ⟨gb172, 3, none⟩ (.string t169)).setCell ⟨gb172, 4, none⟩ (.string t170)).setCell ⟨gb172, 5, none⟩ (.int .i64 t171)).heap[gb150]? = some (.cells #[.int .i64 a0_0, .int .i64 a0_1, .int .i64 a0_2, .string a0_3, .string a0_4, .int .i64 a0_5] 23 (0, 0))) := ⟨by (with_reducible repeat (first | refine bN ?_ _ | refine bD ?_ | refine bA ?_ _)); refine blk_far ?_ NB150_172.out _; (with_reducible repeat (first | refine bN ?_ _ | refine bD ?_ | refine bA ?_ _)); refine blk_far ?_ NB150_172.out _; (with_reducible repeat (first | refine bN ?_ _ | refine bD ?_ | refine bA ?_ _)); refine blk_far ?_ NB150_172.out _; (with_reducible repeat (first | refine bN ?_ _ | refine bD ?_ | refine bA ?_ _)); refine blk_far ?_ NB150_172.out _; (with_reducible repeat (first | refine bN ?_ _ | refine bD ?_ | refine bA ?_ _)); refine blk_far ?_ NB150_172.out _; (with_reducible repeat (first | refine bN ?_ _ | refine bD ?_ | refine bA ?_ _)); refine blk_far ?_ NB150_172.out _; (with_reducible repeat (first | refine bN ?_ _ | refine bD ?_ | refine bA ?_ _)); exact BK150.out⟩
    have n1_ : Aside0 (((((((w41.setCell ⟨gb172, 0, none⟩ (.int .i64 t166)).setCell ⟨gb172, 1, none⟩ (.int .i64 t167)).setCell ⟨gb172, 2, none⟩ (.int .i64 t168)).setCell ⟨gb172, 3, none⟩ (.string t169)).setCell ⟨gb172, 4, none⟩ (.string t170)).setCell ⟨gb172, 5, none⟩ (.int .i64 t171)).heap[gb151]? = some (.cells #[.int .i64 a1_0, .int .i64 a1_1, .int .i64 a1_2, .string a1_3, .string a1_4, .int .i64 a1_5] 23 (0, 0))) := ⟨by (with_reducible repeat (first | refine bN ?_ _ | refine bD ?_ | refine bA ?_ _)); refine blk_far ?_ NB151_172.out _; (with_reducible repeat (first | refine bN ?_ _ | refine bD ?_ | refine bA ?_ _)); refine blk_far ?_ NB151_172.out _; (with_reducible repeat (first | refine bN ?_ _ | refine bD ?_ | refine bA ?_ _)); refine blk_far ?_ NB151_172.out _; (with_reducible repeat (first | refine bN ?_ _ | refine bD ?_ | refine bA ?_ _)); refine blk_far ?_ NB151_172.out _; (with_reducible repeat (first | refine bN ?_ _ | refine bD ?_ | refine bA ?_ _)); refine blk_far ?_ NB151_172.out _; (with_reducible repeat (first | refine bN ?_ _ | refine bD ?_ | refine bA ?_ _)); refine blk_far ?_ NB151_172.out _; (with_reducible repeat (first | refine bN ?_ _ | refine bD ?_ | refine bA ?_ _)); exact BK151.out⟩
    have n2_ : Aside0 (((((((w41.setCell ⟨gb172, 0, none⟩ (.int .i64 t166)).setCell ⟨gb172, 1, none⟩ (.int .i64 t167)).setCell ⟨gb172, 2, none⟩ (.int .i64 t168)).setCell ⟨gb172, 3, none⟩ (.string t169)).setCell ⟨gb172, 4, none⟩ (.string t170)).setCell ⟨gb172, 5, none⟩ (.int .i64 t171)).heap[gb172]? = some (.cells #[.int .i64 t166, .int .i64 t167, .int .i64 t168, .string t169, .string t170, .int .i64 t171] 25 (0, 0))) := ⟨by (with_reducible repeat (first | refine bN ?_ _ | refine bD ?_ | refine bA ?_ _)); refine blk_put (cs := #[.int .i64 t166, .int .i64 t167, .int .i64 t168, .string t169, .string t170, .int .i64 0]) ?_ 5 _ rfl; (with_reducible repeat (first | refine bN ?_ _ | refine bD ?_ | refine bA ?_ _)); refine blk_put (cs := #[.int .i64 t166, .int .i64 t167, .int .i64 t168, .string t169, .string (⟨#[]⟩ : ByteArray), .int .i64 0]) ?_ 4 _ rfl; (with_reducible repeat (first | refine bN ?_ _ | refine bD ?_ | refine bA ?_ _)); refine blk_put (cs := #[.int .i64 t166, .int .i64 t167, .int .i64 t168, .string (⟨#[]⟩ : ByteArray), .string (⟨#[]⟩ : ByteArray), .int .i64 0]) ?_ 3 _ rfl; (with_reducible repeat (first | refine bN ?_ _ | refine bD ?_ | refine bA ?_ _)); refine blk_put (cs := #[.int .i64 t166, .int .i64 t167, .int .i64 0, .string (⟨#[]⟩ : ByteArray), .string (⟨#[]⟩ : ByteArray), .int .i64 0]) ?_ 2 _ rfl; (with_reducible repeat (first | refine bN ?_ _ | refine bD ?_ | refine bA ?_ _)); refine blk_put (cs := #[.int .i64 t166, .int .i64 0, .int .i64 0, .string (⟨#[]⟩ : ByteArray), .string (⟨#[]⟩ : ByteArray), .int .i64 0]) ?_ 1 _ rfl; (with_reducible repeat (first | refine bN ?_ _ | refine bD ?_ | refine bA ?_ _)); refine blk_put (cs := #[.int .i64 0, .int .i64 0, .int .i64 0, .string (⟨#[]⟩ : ByteArray), .string (⟨#[]⟩ : ByteArray), .int .i64 0]) ?_ 0 _ rfl; (with_reducible repeat (first | refine bN ?_ _ | refine bD ?_ | refine bA ?_ _)); exact BK172.out⟩
    have n3_ : Aside0 (Below w.heap.size w ((((((w41.setCell ⟨gb172, 0, none⟩ (.int .i64 t166)).setCell ⟨gb172, 1, none⟩ (.int .i64 t167)).setCell ⟨gb172, 2, none⟩ (.int .i64 t168)).setCell ⟨gb172, 3, none⟩ (.string t169)).setCell ⟨gb172, 4, none⟩ (.string t170)).setCell ⟨gb172, 5, none⟩ (.int .i64 t171))) := ⟨by repeat (first | (with_reducible first | exact HB.out | apply wA | apply wN | apply wD | refine bS ?_ GE150.out | refine bS ?_ GE151.out | refine bS ?_ GE172.out) | exact HB.out)⟩
    (try clear BK150)
    (try clear BK151)
    (try clear BK172)
    (try clear HB)
    generalize ((((((w41.setCell ⟨gb172, 0, none⟩ (.int .i64 t166)).setCell ⟨gb172, 1, none⟩ (.int .i64 t167)).setCell ⟨gb172, 2, none⟩ (.int .i64 t168)).setCell ⟨gb172, 3, none⟩ (.string t169)).setCell ⟨gb172, 4, none⟩ (.string t170)).setCell ⟨gb172, 5, none⟩ (.int .i64 t171)) = w48 at n0_ n1_ n2_ n3_ ⊢
    have BK150 := n0_
    have BK151 := n1_
    have BK172 := n2_
    have HB := n3_
    clear n0_ n1_ n2_ n3_
    have n0_ := A0 (blk_drew BK150.out)
    have n1_ := A0 (blk_drew BK151.out)
    have n2_ := A0 (blk_drew BK172.out)
    have n3_ := A0 (below_drew1 HB.out)
    clear BK150
    clear BK151
    clear BK172
    clear HB
    have BK150 := n0_
    have BK151 := n1_
    have BK172 := n2_
    have HB := n3_
    clear n0_ n1_ n2_ n3_
    refine start_ (n := 7) (S := fun w' => w'.cell? ⟨gb150, 0, none⟩ = some (.int .i64 a0_0) ∧ w'.cell? ⟨gb150, 1, none⟩ = some (.int .i64 a0_1) ∧ w'.cell? ⟨gb150, 2, none⟩ = some (.int .i64 a0_2) ∧ w'.cell? ⟨gb150, 3, none⟩ = some (.string a0_3) ∧ w'.cell? ⟨gb150, 4, none⟩ = some (.string a0_4) ∧ w'.cell? ⟨gb150, 5, none⟩ = some (.int .i64 a0_5) ∧ w'.cell? ⟨gb151, 0, none⟩ = some (.int .i64 a1_0) ∧ w'.cell? ⟨gb151, 1, none⟩ = some (.int .i64 a1_1) ∧ w'.cell? ⟨gb151, 2, none⟩ = some (.int .i64 a1_2) ∧ w'.cell? ⟨gb151, 3, none⟩ = some (.string a1_3) ∧ w'.cell? ⟨gb151, 4, none⟩ = some (.string a1_4) ∧ w'.cell? ⟨gb151, 5, none⟩ = some (.int .i64 a1_5)) (ds := []) #[false, false, false, false, false, false, false] (by kernel_rfl) rfl rfl ⟨bC BK150.out 0 rfl, bC BK150.out 1 rfl, bC BK150.out 2 rfl, bC BK150.out 3 rfl, bC BK150.out 4 rfl, bC BK150.out 5 rfl, bC BK151.out 0 rfl, bC BK151.out 1 rfl, bC BK151.out 2 rfl, bC BK151.out 3 rfl, bC BK151.out 4 rfl, bC BK151.out 5 rfl⟩ (fun hHeld => ?_)
    generalize w48.drew = w49 at BK150 BK151 BK172 HB hHeld ⊢
    refine take_ (i := 0) (N := some 23) (v := ?_) (a' := ?_) #[true, false, false, false, false, false, false] rfl rfl (by kernel_rfl) (fun _ _ _ h => h) (Or.inl ⟨by rfl, ?_⟩) hHeld ?_ ?_
    rotate_left
    ·rintro w' ⟨s0, s1, s2, s3, s4, s5, s6, s7, s8, s9, s10, s11⟩
     go_simp
     with_reducible rfl
    rotate_left
    ·simp only [Act.put, sqA, sqZ, sqS, i64_w, i32_w]
     rfl
    refine take_ (i := 2) (N := some 25) (v := ?_) (a' := ?_) #[true, false, true, false, false, false, false] rfl rfl (by kernel_rfl) (fun _ _ _ h => h) (Or.inl ⟨by rfl, ?_⟩) hHeld ?_ ?_
    rotate_left
    ·rintro w' ⟨s0, s1, s2, s3, s4, s5, s6, s7, s8, s9, s10, s11⟩
     go_simp
     with_reducible rfl
    rotate_left
    ·simp only [Act.put, sqA, sqZ, sqS, i64_w, i32_w]
     rfl
    refine join_ (σ := Nat) 1 #[true, true, true, true, true, true, false] (fun s_ => [(24, .agg #[.int .i64 t173, .int .i64 t174, .int .i64 t175, .string t176, .string t177, .int .i64 t178]), (26, .agg #[.int .i64 t179, .int .i64 t180, .int .i64 t181, .string t182, .string t183, .int .i64 t184]), (27, .agg #[.int .i64 t185, .int .i64 t186, .int .i64 t187, .string t188, .string t189, .int .i64 t190]), (7, .pointer (some ⟨s_, 0, none⟩))]) (fun s_ w' => (w'.cell? ⟨gb150, 0, none⟩ = some (.int .i64 a0_0) ∧ w'.cell? ⟨gb150, 1, none⟩ = some (.int .i64 a0_1) ∧ w'.cell? ⟨gb150, 2, none⟩ = some (.int .i64 a0_2) ∧ w'.cell? ⟨gb150, 3, none⟩ = some (.string a0_3) ∧ w'.cell? ⟨gb150, 4, none⟩ = some (.string a0_4) ∧ w'.cell? ⟨gb150, 5, none⟩ = some (.int .i64 a0_5) ∧ w'.cell? ⟨gb151, 0, none⟩ = some (.int .i64 a1_0) ∧ w'.cell? ⟨gb151, 1, none⟩ = some (.int .i64 a1_1) ∧ w'.cell? ⟨gb151, 2, none⟩ = some (.int .i64 a1_2) ∧ w'.cell? ⟨gb151, 3, none⟩ = some (.string a1_3) ∧ w'.cell? ⟨gb151, 4, none⟩ = some (.string a1_4) ∧ w'.cell? ⟨gb151, 5, none⟩ = some (.int .i64 a1_5)) ∧ (w'.heap[gb150]? = some (.cells #[.int .i64 a0_0, .int .i64 a0_1, .int .i64 a0_2, .string a0_3, .string a0_4, .int .i64 a0_5] 23 (0, 0))) ∧ (w'.heap[gb151]? = some (.cells #[.int .i64 a1_0, .int .i64 a1_1, .int .i64 a1_2, .string a1_3, .string a1_4, .int .i64 a1_5] 23 (0, 0))) ∧ (w'.heap[gb172]? = some (.cells #[.int .i64 t166, .int .i64 t167, .int .i64 t168, .string t169, .string t170, .int .i64 t171] 25 (0, 0))) ∧ (w'.heap[s_]? = some (.cells #[.int .i64 0, .int .i64 0, .int .i64 0, .string (⟨#[]⟩ : ByteArray), .string (⟨#[]⟩ : ByteArray), .int .i64 0] 25 (0, 0))) ∧ (w.heap.size ≤ s_) ∧ (w.heap.size ≤ s_) ∧ (gb150 ≠ s_) ∧ (s_ ≠ gb150) ∧ (gb151 ≠ s_) ∧ (s_ ≠ gb151) ∧ (gb172 ≠ s_) ∧ (s_ ≠ gb172) ∧ (Below w.heap.size w w')) ?_ ?_
    rotate_left
    ·intro hCont
     refine two_ (i := 1) (j := 5) (Ni := some 24) (Nj := some 7) #[true, true, true, false, false, false, false] #[true, false, true, false, false, true, false] rfl rfl rfl rfl (by kernel_rfl) (by decide) (by decide) (fun K hK => ?_) (fun K hK => ?_)
     ·skip
      refine goes_ Tryd.func7 (by kernel_rfl) rfl #[.agg #[.int .i64 a0_0, .int .i64 a0_1, .int .i64 a0_2, .string a0_3, .string a0_4, .int .i64 a0_5]] (by rfl) rfl rfl (by (try simp only [lM, lC, lN]); first | done | rfl | (simp only [lD, lT]; rfl)) ?_
      with_reducible refine (laws_toSky.calls a0_0 a0_1 a0_2 a0_3 a0_4 a0_5 t173 t174 t175 t176 t177 t178 _ A24.out).mono ?_
      rintro e w50 ⟨rfl, hb⟩
      refine ⟨_, rfl, ?_⟩
      have n0_ := A0 (blk_below (g := gb150) (o := .cells #[.int .i64 a0_0, .int .i64 a0_1, .int .i64 a0_2, .string a0_3, .string a0_4, .int .i64 a0_5] 23 (0, 0)) (by (with_reducible repeat (first | refine bN ?_ _ | refine bD ?_ | refine bA ?_ _)); exact BK150.out) hb)
      have n1_ := A0 (blk_below (g := gb151) (o := .cells #[.int .i64 a1_0, .int .i64 a1_1, .int .i64 a1_2, .string a1_3, .string a1_4, .int .i64 a1_5] 23 (0, 0)) (by (with_reducible repeat (first | refine bN ?_ _ | refine bD ?_ | refine bA ?_ _)); exact BK151.out) hb)
      have n2_ := A0 (blk_below (g := gb172) (o := .cells #[.int .i64 t166, .int .i64 t167, .int .i64 t168, .string t169, .string t170, .int .i64 t171] 25 (0, 0)) (by (with_reducible repeat (first | refine bN ?_ _ | refine bD ?_ | refine bA ?_ _)); exact BK172.out) hb)
      have n3_ := A0 (below_step (by repeat (first | (with_reducible first | exact HB.out | apply wA | apply wN | apply wD | refine bS ?_ GE150.out | refine bS ?_ GE151.out | refine bS ?_ GE172.out) | exact HB.out)) hb)
      clear BK150
      clear BK151
      clear BK172
      clear HB
      have BK150 := n0_
      have BK151 := n1_
      have BK172 := n2_
      have HB := n3_
      clear n0_ n1_ n2_ n3_
      (try clear hb)
      refine hK.out _ _ ⟨bC BK150.out 0 rfl, bC BK150.out 1 rfl, bC BK150.out 2 rfl, bC BK150.out 3 rfl, bC BK150.out 4 rfl, bC BK150.out 5 rfl, bC BK151.out 0 rfl, bC BK151.out 1 rfl, bC BK151.out 2 rfl, bC BK151.out 3 rfl, bC BK151.out 4 rfl, bC BK151.out 5 rfl⟩ (fun hHeld => ?_)
      clear hK K
      refine norm_ (a' := ?_) ?_ ?_
      rotate_left
      ·show Act.put _ (some 24) _ = _
       simp only [Act.put, sqA, sqZ, sqS, i64_w, i32_w]
       rfl
      refine two_ (i := 3) (j := 5) (Ni := some 26) (Nj := some 7) #[true, true, true, true, false, false, false] #[true, true, true, false, false, true, false] rfl rfl rfl rfl (by kernel_rfl) (by decide) (by decide) (fun K hK => ?_) (fun K hK => ?_)
      ·skip
       refine goes_ Tryd.func7 (by kernel_rfl) rfl #[.agg #[.int .i64 a1_0, .int .i64 a1_1, .int .i64 a1_2, .string a1_3, .string a1_4, .int .i64 a1_5]] (by rfl) rfl rfl (by (try simp only [lM, lC, lN]); first | done | rfl | (simp only [lD, lT]; rfl)) ?_
       with_reducible refine (laws_toSky.calls a1_0 a1_1 a1_2 a1_3 a1_4 a1_5 t179 t180 t181 t182 t183 t184 _ A25.out).mono ?_
       rintro e w51 ⟨rfl, hb⟩
       refine ⟨_, rfl, ?_⟩
       have n0_ := A0 (blk_below (g := gb150) (o := .cells #[.int .i64 a0_0, .int .i64 a0_1, .int .i64 a0_2, .string a0_3, .string a0_4, .int .i64 a0_5] 23 (0, 0)) (by (with_reducible repeat (first | refine bN ?_ _ | refine bD ?_ | refine bA ?_ _)); exact BK150.out) hb)
       have n1_ := A0 (blk_below (g := gb151) (o := .cells #[.int .i64 a1_0, .int .i64 a1_1, .int .i64 a1_2, .string a1_3, .string a1_4, .int .i64 a1_5] 23 (0, 0)) (by (with_reducible repeat (first | refine bN ?_ _ | refine bD ?_ | refine bA ?_ _)); exact BK151.out) hb)
       have n2_ := A0 (blk_below (g := gb172) (o := .cells #[.int .i64 t166, .int .i64 t167, .int .i64 t168, .string t169, .string t170, .int .i64 t171] 25 (0, 0)) (by (with_reducible repeat (first | refine bN ?_ _ | refine bD ?_ | refine bA ?_ _)); exact BK172.out) hb)
       have n3_ := A0 (below_step (by repeat (first | (with_reducible first | exact HB.out | apply wA | apply wN | apply wD | refine bS ?_ GE150.out | refine bS ?_ GE151.out | refine bS ?_ GE172.out) | exact HB.out)) hb)
       clear BK150
       clear BK151
       clear BK172
       clear HB
       have BK150 := n0_
       have BK151 := n1_
       have BK172 := n2_
       have HB := n3_
       clear n0_ n1_ n2_ n3_
       (try clear hb)
       refine hK.out _ _ ⟨bC BK150.out 0 rfl, bC BK150.out 1 rfl, bC BK150.out 2 rfl, bC BK150.out 3 rfl, bC BK150.out 4 rfl, bC BK150.out 5 rfl, bC BK151.out 0 rfl, bC BK151.out 1 rfl, bC BK151.out 2 rfl, bC BK151.out 3 rfl, bC BK151.out 4 rfl, bC BK151.out 5 rfl⟩ (fun hHeld => ?_)
       clear hK K
       refine norm_ (a' := ?_) ?_ ?_
       rotate_left
       ·show Act.put _ (some 26) _ = _
        simp only [Act.put, sqA, sqZ, sqS, i64_w, i32_w]
        rfl
       refine two_ (i := 4) (j := 5) (Ni := some 27) (Nj := some 7) #[true, true, true, true, true, false, false] #[true, true, true, true, false, true, false] rfl rfl rfl rfl (by kernel_rfl) (by decide) (by decide) (fun K hK => ?_) (fun K hK => ?_)
       ·skip
        refine goes_ Tryd.func8 (by kernel_rfl) rfl #[.agg #[.int .i64 t173, .int .i64 t174, .int .i64 t175, .string t176, .string t177, .int .i64 t178], .agg #[.int .i64 t179, .int .i64 t180, .int .i64 t181, .string t182, .string t183, .int .i64 t184]] (by rfl) rfl rfl (by (try simp only [lM, lC, lN]); first | done | rfl | (simp only [lD, lT]; rfl)) ?_
        with_reducible refine (impl_Laid.calls k t173 t174 t175 t176 t177 t178 t179 t180 t181 t182 t183 t184 l2 l3 t185 t186 t187 t188 t189 t190 _ ?side1 ?side2 ?side3 ?side4 A26.out).mono ?_
        (case side1 => repeat (first | exact (Kd.C_below HR2.out HB.out) | (with_reducible refine Kd.C_alloc ?_ _) | (with_reducible refine Kd.C_drewN ?_ _) | (with_reducible refine Kd.C_drew ?_)))
        (case side2 => exact HC2.out)
        (case side3 => repeat (first | exact (Kd.C_below HR3.out HB.out) | (with_reducible refine Kd.C_alloc ?_ _) | (with_reducible refine Kd.C_drewN ?_ _) | (with_reducible refine Kd.C_drew ?_)))
        (case side4 => exact HC3.out)
        rintro e w52 ⟨rfl, hb⟩
        refine ⟨_, rfl, ?_⟩
        have n0_ := A0 (blk_below (g := gb150) (o := .cells #[.int .i64 a0_0, .int .i64 a0_1, .int .i64 a0_2, .string a0_3, .string a0_4, .int .i64 a0_5] 23 (0, 0)) (by (with_reducible repeat (first | refine bN ?_ _ | refine bD ?_ | refine bA ?_ _)); exact BK150.out) hb)
        have n1_ := A0 (blk_below (g := gb151) (o := .cells #[.int .i64 a1_0, .int .i64 a1_1, .int .i64 a1_2, .string a1_3, .string a1_4, .int .i64 a1_5] 23 (0, 0)) (by (with_reducible repeat (first | refine bN ?_ _ | refine bD ?_ | refine bA ?_ _)); exact BK151.out) hb)
        have n2_ := A0 (blk_below (g := gb172) (o := .cells #[.int .i64 t166, .int .i64 t167, .int .i64 t168, .string t169, .string t170, .int .i64 t171] 25 (0, 0)) (by (with_reducible repeat (first | refine bN ?_ _ | refine bD ?_ | refine bA ?_ _)); exact BK172.out) hb)
        have n3_ := A0 (below_step (by repeat (first | (with_reducible first | exact HB.out | apply wA | apply wN | apply wD | refine bS ?_ GE150.out | refine bS ?_ GE151.out | refine bS ?_ GE172.out) | exact HB.out)) hb)
        clear BK150
        clear BK151
        clear BK172
        clear HB
        have BK150 := n0_
        have BK151 := n1_
        have BK172 := n2_
        have HB := n3_
        clear n0_ n1_ n2_ n3_
        (try clear hb)
        refine hK.out _ _ ⟨bC BK150.out 0 rfl, bC BK150.out 1 rfl, bC BK150.out 2 rfl, bC BK150.out 3 rfl, bC BK150.out 4 rfl, bC BK150.out 5 rfl, bC BK151.out 0 rfl, bC BK151.out 1 rfl, bC BK151.out 2 rfl, bC BK151.out 3 rfl, bC BK151.out 4 rfl, bC BK151.out 5 rfl⟩ (fun hHeld => ?_)
        clear hK K
        refine norm_ (a' := ?_) ?_ ?_
        rotate_left
        ·show Act.put _ (some 27) _ = _
         simp only [Act.put, sqA, sqZ, sqS, i64_w, i32_w]
         rfl
        refine one_ (i := 5) (N := some 7) #[true, true, true, true, true, true, false] rfl rfl (by kernel_rfl) (by decide) (fun K hK => ?_)
        refine box_step ?hg (N := 7) ?hd (cs := #[.int .i64 0, .int .i64 0, .int .i64 0, .string (⟨#[]⟩ : ByteArray), .string (⟨#[]⟩ : ByteArray), .int .i64 0]) (t := 25) ?hr ?_; (case hd => rfl); (case hg => rfl); (case hr => first | (go_simp; done) | (go_simp; rfl))
        intro gb191 hg w53 hbox hb
        have n0_ := A0 (blk_below (g := gb150) (o := .cells #[.int .i64 a0_0, .int .i64 a0_1, .int .i64 a0_2, .string a0_3, .string a0_4, .int .i64 a0_5] 23 (0, 0)) (by (with_reducible repeat (first | refine bN ?_ _ | refine bD ?_ | refine bA ?_ _)); exact BK150.out) hb)
        have n1_ := A0 (blk_below (g := gb151) (o := .cells #[.int .i64 a1_0, .int .i64 a1_1, .int .i64 a1_2, .string a1_3, .string a1_4, .int .i64 a1_5] 23 (0, 0)) (by (with_reducible repeat (first | refine bN ?_ _ | refine bD ?_ | refine bA ?_ _)); exact BK151.out) hb)
        have n2_ := A0 (blk_below (g := gb172) (o := .cells #[.int .i64 t166, .int .i64 t167, .int .i64 t168, .string t169, .string t170, .int .i64 t171] 25 (0, 0)) (by (with_reducible repeat (first | refine bN ?_ _ | refine bD ?_ | refine bA ?_ _)); exact BK172.out) hb)
        have n3_ := A0 (below_step (by repeat (first | (with_reducible first | exact HB.out | apply wA | apply wN | apply wD | refine bS ?_ GE150.out | refine bS ?_ GE151.out | refine bS ?_ GE172.out) | exact HB.out)) hb)
        have n4_ := A0 (hbox)
        have n5_ := A0 ((by rw [hg]; exact (below_size (by repeat (first | (with_reducible first | exact HB.out | apply wA | apply wN | apply wD | refine bS ?_ GE150.out | refine bS ?_ GE151.out | refine bS ?_ GE172.out) | exact HB.out))) : w.heap.size ≤ gb191))
        have n6_ := A0 ((by rw [hg]; exact (below_size (by repeat (first | (with_reducible first | exact HB.out | apply wA | apply wN | apply wD | refine bS ?_ GE150.out | refine bS ?_ GE151.out | refine bS ?_ GE172.out) | exact HB.out))) : w.heap.size ≤ gb191))
        have n7_ := A0 ((by rw [hg]; exact Nat.ne_of_lt (blk_lt (g := gb150) (o := .cells #[.int .i64 a0_0, .int .i64 a0_1, .int .i64 a0_2, .string a0_3, .string a0_4, .int .i64 a0_5] 23 (0, 0)) (by (with_reducible repeat (first | refine bN ?_ _ | refine bD ?_ | refine bA ?_ _)); exact BK150.out)) : gb150 ≠ gb191))
        have n8_ := A0 ((by rw [hg]; exact Nat.ne_of_gt (blk_lt (g := gb150) (o := .cells #[.int .i64 a0_0, .int .i64 a0_1, .int .i64 a0_2, .string a0_3, .string a0_4, .int .i64 a0_5] 23 (0, 0)) (by (with_reducible repeat (first | refine bN ?_ _ | refine bD ?_ | refine bA ?_ _)); exact BK150.out)) : gb191 ≠ gb150))
        have n9_ := A0 ((by rw [hg]; exact Nat.ne_of_lt (blk_lt (g := gb151) (o := .cells #[.int .i64 a1_0, .int .i64 a1_1, .int .i64 a1_2, .string a1_3, .string a1_4, .int .i64 a1_5] 23 (0, 0)) (by (with_reducible repeat (first | refine bN ?_ _ | refine bD ?_ | refine bA ?_ _)); exact BK151.out)) : gb151 ≠ gb191))
        have n10_ := A0 ((by rw [hg]; exact Nat.ne_of_gt (blk_lt (g := gb151) (o := .cells #[.int .i64 a1_0, .int .i64 a1_1, .int .i64 a1_2, .string a1_3, .string a1_4, .int .i64 a1_5] 23 (0, 0)) (by (with_reducible repeat (first | refine bN ?_ _ | refine bD ?_ | refine bA ?_ _)); exact BK151.out)) : gb191 ≠ gb151))
        have n11_ := A0 ((by rw [hg]; exact Nat.ne_of_lt (blk_lt (g := gb172) (o := .cells #[.int .i64 t166, .int .i64 t167, .int .i64 t168, .string t169, .string t170, .int .i64 t171] 25 (0, 0)) (by (with_reducible repeat (first | refine bN ?_ _ | refine bD ?_ | refine bA ?_ _)); exact BK172.out)) : gb172 ≠ gb191))
        have n12_ := A0 ((by rw [hg]; exact Nat.ne_of_gt (blk_lt (g := gb172) (o := .cells #[.int .i64 t166, .int .i64 t167, .int .i64 t168, .string t169, .string t170, .int .i64 t171] 25 (0, 0)) (by (with_reducible repeat (first | refine bN ?_ _ | refine bD ?_ | refine bA ?_ _)); exact BK172.out)) : gb191 ≠ gb172))
        clear BK150
        clear BK151
        clear BK172
        clear HB
        have BK150 := n0_
        have BK151 := n1_
        have BK172 := n2_
        have HB := n3_
        have BK191 := n4_
        have GW191 := n5_
        have GE191 := n6_
        have NB150_191 := n7_
        have NB191_150 := n8_
        have NB151_191 := n9_
        have NB191_151 := n10_
        have NB172_191 := n11_
        have NB191_172 := n12_
        clear n0_ n1_ n2_ n3_ n4_ n5_ n6_ n7_ n8_ n9_ n10_ n11_ n12_
        clear hb hbox hg
        refine hK.out _ _ ⟨bC BK150.out 0 rfl, bC BK150.out 1 rfl, bC BK150.out 2 rfl, bC BK150.out 3 rfl, bC BK150.out 4 rfl, bC BK150.out 5 rfl, bC BK151.out 0 rfl, bC BK151.out 1 rfl, bC BK151.out 2 rfl, bC BK151.out 3 rfl, bC BK151.out 4 rfl, bC BK151.out 5 rfl⟩ (fun hHeld => ?_)
        clear hK K
        refine norm_ (a' := ?_) ?_ ?_
        rotate_left
        ·show Act.put _ (some 7) _ = _
         simp only [Act.put, sqA, sqZ, sqS, i64_w, i32_w]
         rfl
        exact norm_ (by simp only [putAll, Act.put, sqA, sqZ, sqS]) (hCont (gb191) _ ⟨hHeld, (by (with_reducible repeat (first | refine bN ?_ _ | refine bD ?_ | refine bA ?_ _)); exact BK150.out), (by (with_reducible repeat (first | refine bN ?_ _ | refine bD ?_ | refine bA ?_ _)); exact BK151.out), (by (with_reducible repeat (first | refine bN ?_ _ | refine bD ?_ | refine bA ?_ _)); exact BK172.out), (by (with_reducible repeat (first | refine bN ?_ _ | refine bD ?_ | refine bA ?_ _)); exact BK191.out), GW191.out, GE191.out, NB150_191.out, NB191_150.out, NB151_191.out, NB191_151.out, NB172_191.out, NB191_172.out, (by repeat (first | (with_reducible first | exact HB.out | apply wA | apply wN | apply wD | refine bS ?_ GE150.out | refine bS ?_ GE151.out | refine bS ?_ GE172.out | refine bS ?_ GE191.out) | exact HB.out))⟩)
       ·skip
        refine box_step ?hg (N := 7) ?hd (cs := #[.int .i64 0, .int .i64 0, .int .i64 0, .string (⟨#[]⟩ : ByteArray), .string (⟨#[]⟩ : ByteArray), .int .i64 0]) (t := 25) ?hr ?_; (case hd => rfl); (case hg => rfl); (case hr => first | (go_simp; done) | (go_simp; rfl))
        intro gb191 hg w52 hbox hb
        have n0_ := A0 (blk_below (g := gb150) (o := .cells #[.int .i64 a0_0, .int .i64 a0_1, .int .i64 a0_2, .string a0_3, .string a0_4, .int .i64 a0_5] 23 (0, 0)) (by (with_reducible repeat (first | refine bN ?_ _ | refine bD ?_ | refine bA ?_ _)); exact BK150.out) hb)
        have n1_ := A0 (blk_below (g := gb151) (o := .cells #[.int .i64 a1_0, .int .i64 a1_1, .int .i64 a1_2, .string a1_3, .string a1_4, .int .i64 a1_5] 23 (0, 0)) (by (with_reducible repeat (first | refine bN ?_ _ | refine bD ?_ | refine bA ?_ _)); exact BK151.out) hb)
        have n2_ := A0 (blk_below (g := gb172) (o := .cells #[.int .i64 t166, .int .i64 t167, .int .i64 t168, .string t169, .string t170, .int .i64 t171] 25 (0, 0)) (by (with_reducible repeat (first | refine bN ?_ _ | refine bD ?_ | refine bA ?_ _)); exact BK172.out) hb)
        have n3_ := A0 (below_step (by repeat (first | (with_reducible first | exact HB.out | apply wA | apply wN | apply wD | refine bS ?_ GE150.out | refine bS ?_ GE151.out | refine bS ?_ GE172.out) | exact HB.out)) hb)
        have n4_ := A0 (hbox)
        have n5_ := A0 ((by rw [hg]; exact (below_size (by repeat (first | (with_reducible first | exact HB.out | apply wA | apply wN | apply wD | refine bS ?_ GE150.out | refine bS ?_ GE151.out | refine bS ?_ GE172.out) | exact HB.out))) : w.heap.size ≤ gb191))
        have n6_ := A0 ((by rw [hg]; exact (below_size (by repeat (first | (with_reducible first | exact HB.out | apply wA | apply wN | apply wD | refine bS ?_ GE150.out | refine bS ?_ GE151.out | refine bS ?_ GE172.out) | exact HB.out))) : w.heap.size ≤ gb191))
        have n7_ := A0 ((by rw [hg]; exact Nat.ne_of_lt (blk_lt (g := gb150) (o := .cells #[.int .i64 a0_0, .int .i64 a0_1, .int .i64 a0_2, .string a0_3, .string a0_4, .int .i64 a0_5] 23 (0, 0)) (by (with_reducible repeat (first | refine bN ?_ _ | refine bD ?_ | refine bA ?_ _)); exact BK150.out)) : gb150 ≠ gb191))
        have n8_ := A0 ((by rw [hg]; exact Nat.ne_of_gt (blk_lt (g := gb150) (o := .cells #[.int .i64 a0_0, .int .i64 a0_1, .int .i64 a0_2, .string a0_3, .string a0_4, .int .i64 a0_5] 23 (0, 0)) (by (with_reducible repeat (first | refine bN ?_ _ | refine bD ?_ | refine bA ?_ _)); exact BK150.out)) : gb191 ≠ gb150))
        have n9_ := A0 ((by rw [hg]; exact Nat.ne_of_lt (blk_lt (g := gb151) (o := .cells #[.int .i64 a1_0, .int .i64 a1_1, .int .i64 a1_2, .string a1_3, .string a1_4, .int .i64 a1_5] 23 (0, 0)) (by (with_reducible repeat (first | refine bN ?_ _ | refine bD ?_ | refine bA ?_ _)); exact BK151.out)) : gb151 ≠ gb191))
        have n10_ := A0 ((by rw [hg]; exact Nat.ne_of_gt (blk_lt (g := gb151) (o := .cells #[.int .i64 a1_0, .int .i64 a1_1, .int .i64 a1_2, .string a1_3, .string a1_4, .int .i64 a1_5] 23 (0, 0)) (by (with_reducible repeat (first | refine bN ?_ _ | refine bD ?_ | refine bA ?_ _)); exact BK151.out)) : gb191 ≠ gb151))
        have n11_ := A0 ((by rw [hg]; exact Nat.ne_of_lt (blk_lt (g := gb172) (o := .cells #[.int .i64 t166, .int .i64 t167, .int .i64 t168, .string t169, .string t170, .int .i64 t171] 25 (0, 0)) (by (with_reducible repeat (first | refine bN ?_ _ | refine bD ?_ | refine bA ?_ _)); exact BK172.out)) : gb172 ≠ gb191))
        have n12_ := A0 ((by rw [hg]; exact Nat.ne_of_gt (blk_lt (g := gb172) (o := .cells #[.int .i64 t166, .int .i64 t167, .int .i64 t168, .string t169, .string t170, .int .i64 t171] 25 (0, 0)) (by (with_reducible repeat (first | refine bN ?_ _ | refine bD ?_ | refine bA ?_ _)); exact BK172.out)) : gb191 ≠ gb172))
        clear BK150
        clear BK151
        clear BK172
        clear HB
        have BK150 := n0_
        have BK151 := n1_
        have BK172 := n2_
        have HB := n3_
        have BK191 := n4_
        have GW191 := n5_
        have GE191 := n6_
        have NB150_191 := n7_
        have NB191_150 := n8_
        have NB151_191 := n9_
        have NB191_151 := n10_
        have NB172_191 := n11_
        have NB191_172 := n12_
        clear n0_ n1_ n2_ n3_ n4_ n5_ n6_ n7_ n8_ n9_ n10_ n11_ n12_
        clear hb hbox hg
        refine hK.out _ _ ⟨bC BK150.out 0 rfl, bC BK150.out 1 rfl, bC BK150.out 2 rfl, bC BK150.out 3 rfl, bC BK150.out 4 rfl, bC BK150.out 5 rfl, bC BK151.out 0 rfl, bC BK151.out 1 rfl, bC BK151.out 2 rfl, bC BK151.out 3 rfl, bC BK151.out 4 rfl, bC BK151.out 5 rfl⟩ (fun hHeld => ?_)
        clear hK K
        refine norm_ (a' := ?_) ?_ ?_
        rotate_left
        ·show Act.put _ (some 7) _ = _
         simp only [Act.put, sqA, sqZ, sqS, i64_w, i32_w]
         rfl
        refine one_ (i := 4) (N := some 27) #[true, true, true, true, true, true, false] rfl rfl (by kernel_rfl) (by decide) (fun K hK => ?_)
        refine goes_ Tryd.func8 (by kernel_rfl) rfl #[.agg #[.int .i64 t173, .int .i64 t174, .int .i64 t175, .string t176, .string t177, .int .i64 t178], .agg #[.int .i64 t179, .int .i64 t180, .int .i64 t181, .string t182, .string t183, .int .i64 t184]] (by rfl) rfl rfl (by (try simp only [lM, lC, lN]); first | done | rfl | (simp only [lD, lT]; rfl)) ?_
        with_reducible refine (impl_Laid.calls k t173 t174 t175 t176 t177 t178 t179 t180 t181 t182 t183 t184 l2 l3 t185 t186 t187 t188 t189 t190 _ ?side1 ?side2 ?side3 ?side4 A26.out).mono ?_
        (case side1 => repeat (first | exact (Kd.C_below HR2.out HB.out) | (with_reducible refine Kd.C_alloc ?_ _) | (with_reducible refine Kd.C_drewN ?_ _) | (with_reducible refine Kd.C_drew ?_)))
        (case side2 => exact HC2.out)
        (case side3 => repeat (first | exact (Kd.C_below HR3.out HB.out) | (with_reducible refine Kd.C_alloc ?_ _) | (with_reducible refine Kd.C_drewN ?_ _) | (with_reducible refine Kd.C_drew ?_)))
        (case side4 => exact HC3.out)
        rintro e w53 ⟨rfl, hb⟩
        refine ⟨_, rfl, ?_⟩
        have n0_ := A0 (blk_below (g := gb150) (o := .cells #[.int .i64 a0_0, .int .i64 a0_1, .int .i64 a0_2, .string a0_3, .string a0_4, .int .i64 a0_5] 23 (0, 0)) (by (with_reducible repeat (first | refine bN ?_ _ | refine bD ?_ | refine bA ?_ _)); exact BK150.out) hb)
        have n1_ := A0 (blk_below (g := gb151) (o := .cells #[.int .i64 a1_0, .int .i64 a1_1, .int .i64 a1_2, .string a1_3, .string a1_4, .int .i64 a1_5] 23 (0, 0)) (by (with_reducible repeat (first | refine bN ?_ _ | refine bD ?_ | refine bA ?_ _)); exact BK151.out) hb)
        have n2_ := A0 (blk_below (g := gb172) (o := .cells #[.int .i64 t166, .int .i64 t167, .int .i64 t168, .string t169, .string t170, .int .i64 t171] 25 (0, 0)) (by (with_reducible repeat (first | refine bN ?_ _ | refine bD ?_ | refine bA ?_ _)); exact BK172.out) hb)
        have n3_ := A0 (blk_below (g := gb191) (o := .cells #[.int .i64 0, .int .i64 0, .int .i64 0, .string (⟨#[]⟩ : ByteArray), .string (⟨#[]⟩ : ByteArray), .int .i64 0] 25 (0, 0)) (by (with_reducible repeat (first | refine bN ?_ _ | refine bD ?_ | refine bA ?_ _)); exact BK191.out) hb)
        have n4_ := A0 (below_step (by repeat (first | (with_reducible first | exact HB.out | apply wA | apply wN | apply wD | refine bS ?_ GE150.out | refine bS ?_ GE151.out | refine bS ?_ GE172.out | refine bS ?_ GE191.out) | exact HB.out)) hb)
        clear BK150
        clear BK151
        clear BK172
        clear BK191
        clear HB
        have BK150 := n0_
        have BK151 := n1_
        have BK172 := n2_
        have BK191 := n3_
        have HB := n4_
        clear n0_ n1_ n2_ n3_ n4_
        (try clear hb)
        refine hK.out _ _ ⟨bC BK150.out 0 rfl, bC BK150.out 1 rfl, bC BK150.out 2 rfl, bC BK150.out 3 rfl, bC BK150.out 4 rfl, bC BK150.out 5 rfl, bC BK151.out 0 rfl, bC BK151.out 1 rfl, bC BK151.out 2 rfl, bC BK151.out 3 rfl, bC BK151.out 4 rfl, bC BK151.out 5 rfl⟩ (fun hHeld => ?_)
        clear hK K
        refine norm_ (a' := ?_) ?_ ?_
        rotate_left
        ·show Act.put _ (some 27) _ = _
         simp only [Act.put, sqA, sqZ, sqS, i64_w, i32_w]
         rfl
        exact norm_ (by simp only [putAll, Act.put, sqA, sqZ, sqS]) (hCont (gb191) _ ⟨hHeld, (by (with_reducible repeat (first | refine bN ?_ _ | refine bD ?_ | refine bA ?_ _)); exact BK150.out), (by (with_reducible repeat (first | refine bN ?_ _ | refine bD ?_ | refine bA ?_ _)); exact BK151.out), (by (with_reducible repeat (first | refine bN ?_ _ | refine bD ?_ | refine bA ?_ _)); exact BK172.out), (by (with_reducible repeat (first | refine bN ?_ _ | refine bD ?_ | refine bA ?_ _)); exact BK191.out), GW191.out, GE191.out, NB150_191.out, NB191_150.out, NB151_191.out, NB191_151.out, NB172_191.out, NB191_172.out, (by repeat (first | (with_reducible first | exact HB.out | apply wA | apply wN | apply wD | refine bS ?_ GE150.out | refine bS ?_ GE151.out | refine bS ?_ GE172.out | refine bS ?_ GE191.out) | exact HB.out))⟩)
      ·skip
       refine box_step ?hg (N := 7) ?hd (cs := #[.int .i64 0, .int .i64 0, .int .i64 0, .string (⟨#[]⟩ : ByteArray), .string (⟨#[]⟩ : ByteArray), .int .i64 0]) (t := 25) ?hr ?_; (case hd => rfl); (case hg => rfl); (case hr => first | (go_simp; done) | (go_simp; rfl))
       intro gb191 hg w51 hbox hb
       have n0_ := A0 (blk_below (g := gb150) (o := .cells #[.int .i64 a0_0, .int .i64 a0_1, .int .i64 a0_2, .string a0_3, .string a0_4, .int .i64 a0_5] 23 (0, 0)) (by (with_reducible repeat (first | refine bN ?_ _ | refine bD ?_ | refine bA ?_ _)); exact BK150.out) hb)
       have n1_ := A0 (blk_below (g := gb151) (o := .cells #[.int .i64 a1_0, .int .i64 a1_1, .int .i64 a1_2, .string a1_3, .string a1_4, .int .i64 a1_5] 23 (0, 0)) (by (with_reducible repeat (first | refine bN ?_ _ | refine bD ?_ | refine bA ?_ _)); exact BK151.out) hb)
       have n2_ := A0 (blk_below (g := gb172) (o := .cells #[.int .i64 t166, .int .i64 t167, .int .i64 t168, .string t169, .string t170, .int .i64 t171] 25 (0, 0)) (by (with_reducible repeat (first | refine bN ?_ _ | refine bD ?_ | refine bA ?_ _)); exact BK172.out) hb)
       have n3_ := A0 (below_step (by repeat (first | (with_reducible first | exact HB.out | apply wA | apply wN | apply wD | refine bS ?_ GE150.out | refine bS ?_ GE151.out | refine bS ?_ GE172.out) | exact HB.out)) hb)
       have n4_ := A0 (hbox)
       have n5_ := A0 ((by rw [hg]; exact (below_size (by repeat (first | (with_reducible first | exact HB.out | apply wA | apply wN | apply wD | refine bS ?_ GE150.out | refine bS ?_ GE151.out | refine bS ?_ GE172.out) | exact HB.out))) : w.heap.size ≤ gb191))
       have n6_ := A0 ((by rw [hg]; exact (below_size (by repeat (first | (with_reducible first | exact HB.out | apply wA | apply wN | apply wD | refine bS ?_ GE150.out | refine bS ?_ GE151.out | refine bS ?_ GE172.out) | exact HB.out))) : w.heap.size ≤ gb191))
       have n7_ := A0 ((by rw [hg]; exact Nat.ne_of_lt (blk_lt (g := gb150) (o := .cells #[.int .i64 a0_0, .int .i64 a0_1, .int .i64 a0_2, .string a0_3, .string a0_4, .int .i64 a0_5] 23 (0, 0)) (by (with_reducible repeat (first | refine bN ?_ _ | refine bD ?_ | refine bA ?_ _)); exact BK150.out)) : gb150 ≠ gb191))
       have n8_ := A0 ((by rw [hg]; exact Nat.ne_of_gt (blk_lt (g := gb150) (o := .cells #[.int .i64 a0_0, .int .i64 a0_1, .int .i64 a0_2, .string a0_3, .string a0_4, .int .i64 a0_5] 23 (0, 0)) (by (with_reducible repeat (first | refine bN ?_ _ | refine bD ?_ | refine bA ?_ _)); exact BK150.out)) : gb191 ≠ gb150))
       have n9_ := A0 ((by rw [hg]; exact Nat.ne_of_lt (blk_lt (g := gb151) (o := .cells #[.int .i64 a1_0, .int .i64 a1_1, .int .i64 a1_2, .string a1_3, .string a1_4, .int .i64 a1_5] 23 (0, 0)) (by (with_reducible repeat (first | refine bN ?_ _ | refine bD ?_ | refine bA ?_ _)); exact BK151.out)) : gb151 ≠ gb191))
       have n10_ := A0 ((by rw [hg]; exact Nat.ne_of_gt (blk_lt (g := gb151) (o := .cells #[.int .i64 a1_0, .int .i64 a1_1, .int .i64 a1_2, .string a1_3, .string a1_4, .int .i64 a1_5] 23 (0, 0)) (by (with_reducible repeat (first | refine bN ?_ _ | refine bD ?_ | refine bA ?_ _)); exact BK151.out)) : gb191 ≠ gb151))
       have n11_ := A0 ((by rw [hg]; exact Nat.ne_of_lt (blk_lt (g := gb172) (o := .cells #[.int .i64 t166, .int .i64 t167, .int .i64 t168, .string t169, .string t170, .int .i64 t171] 25 (0, 0)) (by (with_reducible repeat (first | refine bN ?_ _ | refine bD ?_ | refine bA ?_ _)); exact BK172.out)) : gb172 ≠ gb191))
       have n12_ := A0 ((by rw [hg]; exact Nat.ne_of_gt (blk_lt (g := gb172) (o := .cells #[.int .i64 t166, .int .i64 t167, .int .i64 t168, .string t169, .string t170, .int .i64 t171] 25 (0, 0)) (by (with_reducible repeat (first | refine bN ?_ _ | refine bD ?_ | refine bA ?_ _)); exact BK172.out)) : gb191 ≠ gb172))
       clear BK150
       clear BK151
       clear BK172
       clear HB
       have BK150 := n0_
       have BK151 := n1_
       have BK172 := n2_
       have HB := n3_
       have BK191 := n4_
       have GW191 := n5_
       have GE191 := n6_
       have NB150_191 := n7_
       have NB191_150 := n8_
       have NB151_191 := n9_
       have NB191_151 := n10_
       have NB172_191 := n11_
       have NB191_172 := n12_
       clear n0_ n1_ n2_ n3_ n4_ n5_ n6_ n7_ n8_ n9_ n10_ n11_ n12_
       clear hb hbox hg
       refine hK.out _ _ ⟨bC BK150.out 0 rfl, bC BK150.out 1 rfl, bC BK150.out 2 rfl, bC BK150.out 3 rfl, bC BK150.out 4 rfl, bC BK150.out 5 rfl, bC BK151.out 0 rfl, bC BK151.out 1 rfl, bC BK151.out 2 rfl, bC BK151.out 3 rfl, bC BK151.out 4 rfl, bC BK151.out 5 rfl⟩ (fun hHeld => ?_)
       clear hK K
       refine norm_ (a' := ?_) ?_ ?_
       rotate_left
       ·show Act.put _ (some 7) _ = _
        simp only [Act.put, sqA, sqZ, sqS, i64_w, i32_w]
        rfl
       refine one_ (i := 3) (N := some 26) #[true, true, true, true, false, true, false] rfl rfl (by kernel_rfl) (by decide) (fun K hK => ?_)
       refine goes_ Tryd.func7 (by kernel_rfl) rfl #[.agg #[.int .i64 a1_0, .int .i64 a1_1, .int .i64 a1_2, .string a1_3, .string a1_4, .int .i64 a1_5]] (by rfl) rfl rfl (by (try simp only [lM, lC, lN]); first | done | rfl | (simp only [lD, lT]; rfl)) ?_
       with_reducible refine (laws_toSky.calls a1_0 a1_1 a1_2 a1_3 a1_4 a1_5 t179 t180 t181 t182 t183 t184 _ A25.out).mono ?_
       rintro e w52 ⟨rfl, hb⟩
       refine ⟨_, rfl, ?_⟩
       have n0_ := A0 (blk_below (g := gb150) (o := .cells #[.int .i64 a0_0, .int .i64 a0_1, .int .i64 a0_2, .string a0_3, .string a0_4, .int .i64 a0_5] 23 (0, 0)) (by (with_reducible repeat (first | refine bN ?_ _ | refine bD ?_ | refine bA ?_ _)); exact BK150.out) hb)
       have n1_ := A0 (blk_below (g := gb151) (o := .cells #[.int .i64 a1_0, .int .i64 a1_1, .int .i64 a1_2, .string a1_3, .string a1_4, .int .i64 a1_5] 23 (0, 0)) (by (with_reducible repeat (first | refine bN ?_ _ | refine bD ?_ | refine bA ?_ _)); exact BK151.out) hb)
       have n2_ := A0 (blk_below (g := gb172) (o := .cells #[.int .i64 t166, .int .i64 t167, .int .i64 t168, .string t169, .string t170, .int .i64 t171] 25 (0, 0)) (by (with_reducible repeat (first | refine bN ?_ _ | refine bD ?_ | refine bA ?_ _)); exact BK172.out) hb)
       have n3_ := A0 (blk_below (g := gb191) (o := .cells #[.int .i64 0, .int .i64 0, .int .i64 0, .string (⟨#[]⟩ : ByteArray), .string (⟨#[]⟩ : ByteArray), .int .i64 0] 25 (0, 0)) (by (with_reducible repeat (first | refine bN ?_ _ | refine bD ?_ | refine bA ?_ _)); exact BK191.out) hb)
       have n4_ := A0 (below_step (by repeat (first | (with_reducible first | exact HB.out | apply wA | apply wN | apply wD | refine bS ?_ GE150.out | refine bS ?_ GE151.out | refine bS ?_ GE172.out | refine bS ?_ GE191.out) | exact HB.out)) hb)
       clear BK150
       clear BK151
       clear BK172
       clear BK191
       clear HB
       have BK150 := n0_
       have BK151 := n1_
       have BK172 := n2_
       have BK191 := n3_
       have HB := n4_
       clear n0_ n1_ n2_ n3_ n4_
       (try clear hb)
       refine hK.out _ _ ⟨bC BK150.out 0 rfl, bC BK150.out 1 rfl, bC BK150.out 2 rfl, bC BK150.out 3 rfl, bC BK150.out 4 rfl, bC BK150.out 5 rfl, bC BK151.out 0 rfl, bC BK151.out 1 rfl, bC BK151.out 2 rfl, bC BK151.out 3 rfl, bC BK151.out 4 rfl, bC BK151.out 5 rfl⟩ (fun hHeld => ?_)
       clear hK K
       refine norm_ (a' := ?_) ?_ ?_
       rotate_left
       ·show Act.put _ (some 26) _ = _
        simp only [Act.put, sqA, sqZ, sqS, i64_w, i32_w]
        rfl
       refine one_ (i := 4) (N := some 27) #[true, true, true, true, true, true, false] rfl rfl (by kernel_rfl) (by decide) (fun K hK => ?_)
       refine goes_ Tryd.func8 (by kernel_rfl) rfl #[.agg #[.int .i64 t173, .int .i64 t174, .int .i64 t175, .string t176, .string t177, .int .i64 t178], .agg #[.int .i64 t179, .int .i64 t180, .int .i64 t181, .string t182, .string t183, .int .i64 t184]] (by rfl) rfl rfl (by (try simp only [lM, lC, lN]); first | done | rfl | (simp only [lD, lT]; rfl)) ?_
       with_reducible refine (impl_Laid.calls k t173 t174 t175 t176 t177 t178 t179 t180 t181 t182 t183 t184 l2 l3 t185 t186 t187 t188 t189 t190 _ ?side1 ?side2 ?side3 ?side4 A26.out).mono ?_
       (case side1 => repeat (first | exact (Kd.C_below HR2.out HB.out) | (with_reducible refine Kd.C_alloc ?_ _) | (with_reducible refine Kd.C_drewN ?_ _) | (with_reducible refine Kd.C_drew ?_)))
       (case side2 => exact HC2.out)
       (case side3 => repeat (first | exact (Kd.C_below HR3.out HB.out) | (with_reducible refine Kd.C_alloc ?_ _) | (with_reducible refine Kd.C_drewN ?_ _) | (with_reducible refine Kd.C_drew ?_)))
       (case side4 => exact HC3.out)
       rintro e w53 ⟨rfl, hb⟩
       refine ⟨_, rfl, ?_⟩
       have n0_ := A0 (blk_below (g := gb150) (o := .cells #[.int .i64 a0_0, .int .i64 a0_1, .int .i64 a0_2, .string a0_3, .string a0_4, .int .i64 a0_5] 23 (0, 0)) (by (with_reducible repeat (first | refine bN ?_ _ | refine bD ?_ | refine bA ?_ _)); exact BK150.out) hb)
       have n1_ := A0 (blk_below (g := gb151) (o := .cells #[.int .i64 a1_0, .int .i64 a1_1, .int .i64 a1_2, .string a1_3, .string a1_4, .int .i64 a1_5] 23 (0, 0)) (by (with_reducible repeat (first | refine bN ?_ _ | refine bD ?_ | refine bA ?_ _)); exact BK151.out) hb)
       have n2_ := A0 (blk_below (g := gb172) (o := .cells #[.int .i64 t166, .int .i64 t167, .int .i64 t168, .string t169, .string t170, .int .i64 t171] 25 (0, 0)) (by (with_reducible repeat (first | refine bN ?_ _ | refine bD ?_ | refine bA ?_ _)); exact BK172.out) hb)
       have n3_ := A0 (blk_below (g := gb191) (o := .cells #[.int .i64 0, .int .i64 0, .int .i64 0, .string (⟨#[]⟩ : ByteArray), .string (⟨#[]⟩ : ByteArray), .int .i64 0] 25 (0, 0)) (by (with_reducible repeat (first | refine bN ?_ _ | refine bD ?_ | refine bA ?_ _)); exact BK191.out) hb)
       have n4_ := A0 (below_step (by repeat (first | (with_reducible first | exact HB.out | apply wA | apply wN | apply wD | refine bS ?_ GE150.out | refine bS ?_ GE151.out | refine bS ?_ GE172.out | refine bS ?_ GE191.out) | exact HB.out)) hb)
       clear BK150
       clear BK151
       clear BK172
       clear BK191
       clear HB
       have BK150 := n0_
       have BK151 := n1_
       have BK172 := n2_
       have BK191 := n3_
       have HB := n4_
       clear n0_ n1_ n2_ n3_ n4_
       (try clear hb)
       refine hK.out _ _ ⟨bC BK150.out 0 rfl, bC BK150.out 1 rfl, bC BK150.out 2 rfl, bC BK150.out 3 rfl, bC BK150.out 4 rfl, bC BK150.out 5 rfl, bC BK151.out 0 rfl, bC BK151.out 1 rfl, bC BK151.out 2 rfl, bC BK151.out 3 rfl, bC BK151.out 4 rfl, bC BK151.out 5 rfl⟩ (fun hHeld => ?_)
       clear hK K
       refine norm_ (a' := ?_) ?_ ?_
       rotate_left
       ·show Act.put _ (some 27) _ = _
        simp only [Act.put, sqA, sqZ, sqS, i64_w, i32_w]
        rfl
       exact norm_ (by simp only [putAll, Act.put, sqA, sqZ, sqS]) (hCont (gb191) _ ⟨hHeld, (by (with_reducible repeat (first | refine bN ?_ _ | refine bD ?_ | refine bA ?_ _)); exact BK150.out), (by (with_reducible repeat (first | refine bN ?_ _ | refine bD ?_ | refine bA ?_ _)); exact BK151.out), (by (with_reducible repeat (first | refine bN ?_ _ | refine bD ?_ | refine bA ?_ _)); exact BK172.out), (by (with_reducible repeat (first | refine bN ?_ _ | refine bD ?_ | refine bA ?_ _)); exact BK191.out), GW191.out, GE191.out, NB150_191.out, NB191_150.out, NB151_191.out, NB191_151.out, NB172_191.out, NB191_172.out, (by repeat (first | (with_reducible first | exact HB.out | apply wA | apply wN | apply wD | refine bS ?_ GE150.out | refine bS ?_ GE151.out | refine bS ?_ GE172.out | refine bS ?_ GE191.out) | exact HB.out))⟩)
     ·skip
      refine box_step ?hg (N := 7) ?hd (cs := #[.int .i64 0, .int .i64 0, .int .i64 0, .string (⟨#[]⟩ : ByteArray), .string (⟨#[]⟩ : ByteArray), .int .i64 0]) (t := 25) ?hr ?_; (case hd => rfl); (case hg => rfl); (case hr => first | (go_simp; done) | (go_simp; rfl))
      intro gb191 hg w50 hbox hb
      have n0_ := A0 (blk_below (g := gb150) (o := .cells #[.int .i64 a0_0, .int .i64 a0_1, .int .i64 a0_2, .string a0_3, .string a0_4, .int .i64 a0_5] 23 (0, 0)) (by (with_reducible repeat (first | refine bN ?_ _ | refine bD ?_ | refine bA ?_ _)); exact BK150.out) hb)
      have n1_ := A0 (blk_below (g := gb151) (o := .cells #[.int .i64 a1_0, .int .i64 a1_1, .int .i64 a1_2, .string a1_3, .string a1_4, .int .i64 a1_5] 23 (0, 0)) (by (with_reducible repeat (first | refine bN ?_ _ | refine bD ?_ | refine bA ?_ _)); exact BK151.out) hb)
      have n2_ := A0 (blk_below (g := gb172) (o := .cells #[.int .i64 t166, .int .i64 t167, .int .i64 t168, .string t169, .string t170, .int .i64 t171] 25 (0, 0)) (by (with_reducible repeat (first | refine bN ?_ _ | refine bD ?_ | refine bA ?_ _)); exact BK172.out) hb)
      have n3_ := A0 (below_step (by repeat (first | (with_reducible first | exact HB.out | apply wA | apply wN | apply wD | refine bS ?_ GE150.out | refine bS ?_ GE151.out | refine bS ?_ GE172.out) | exact HB.out)) hb)
      have n4_ := A0 (hbox)
      have n5_ := A0 ((by rw [hg]; exact (below_size (by repeat (first | (with_reducible first | exact HB.out | apply wA | apply wN | apply wD | refine bS ?_ GE150.out | refine bS ?_ GE151.out | refine bS ?_ GE172.out) | exact HB.out))) : w.heap.size ≤ gb191))
      have n6_ := A0 ((by rw [hg]; exact (below_size (by repeat (first | (with_reducible first | exact HB.out | apply wA | apply wN | apply wD | refine bS ?_ GE150.out | refine bS ?_ GE151.out | refine bS ?_ GE172.out) | exact HB.out))) : w.heap.size ≤ gb191))
      have n7_ := A0 ((by rw [hg]; exact Nat.ne_of_lt (blk_lt (g := gb150) (o := .cells #[.int .i64 a0_0, .int .i64 a0_1, .int .i64 a0_2, .string a0_3, .string a0_4, .int .i64 a0_5] 23 (0, 0)) (by (with_reducible repeat (first | refine bN ?_ _ | refine bD ?_ | refine bA ?_ _)); exact BK150.out)) : gb150 ≠ gb191))
      have n8_ := A0 ((by rw [hg]; exact Nat.ne_of_gt (blk_lt (g := gb150) (o := .cells #[.int .i64 a0_0, .int .i64 a0_1, .int .i64 a0_2, .string a0_3, .string a0_4, .int .i64 a0_5] 23 (0, 0)) (by (with_reducible repeat (first | refine bN ?_ _ | refine bD ?_ | refine bA ?_ _)); exact BK150.out)) : gb191 ≠ gb150))
      have n9_ := A0 ((by rw [hg]; exact Nat.ne_of_lt (blk_lt (g := gb151) (o := .cells #[.int .i64 a1_0, .int .i64 a1_1, .int .i64 a1_2, .string a1_3, .string a1_4, .int .i64 a1_5] 23 (0, 0)) (by (with_reducible repeat (first | refine bN ?_ _ | refine bD ?_ | refine bA ?_ _)); exact BK151.out)) : gb151 ≠ gb191))
      have n10_ := A0 ((by rw [hg]; exact Nat.ne_of_gt (blk_lt (g := gb151) (o := .cells #[.int .i64 a1_0, .int .i64 a1_1, .int .i64 a1_2, .string a1_3, .string a1_4, .int .i64 a1_5] 23 (0, 0)) (by (with_reducible repeat (first | refine bN ?_ _ | refine bD ?_ | refine bA ?_ _)); exact BK151.out)) : gb191 ≠ gb151))
      have n11_ := A0 ((by rw [hg]; exact Nat.ne_of_lt (blk_lt (g := gb172) (o := .cells #[.int .i64 t166, .int .i64 t167, .int .i64 t168, .string t169, .string t170, .int .i64 t171] 25 (0, 0)) (by (with_reducible repeat (first | refine bN ?_ _ | refine bD ?_ | refine bA ?_ _)); exact BK172.out)) : gb172 ≠ gb191))
      have n12_ := A0 ((by rw [hg]; exact Nat.ne_of_gt (blk_lt (g := gb172) (o := .cells #[.int .i64 t166, .int .i64 t167, .int .i64 t168, .string t169, .string t170, .int .i64 t171] 25 (0, 0)) (by (with_reducible repeat (first | refine bN ?_ _ | refine bD ?_ | refine bA ?_ _)); exact BK172.out)) : gb191 ≠ gb172))
      clear BK150
      clear BK151
      clear BK172
      clear HB
      have BK150 := n0_
      have BK151 := n1_
      have BK172 := n2_
      have HB := n3_
      have BK191 := n4_
      have GW191 := n5_
      have GE191 := n6_
      have NB150_191 := n7_
      have NB191_150 := n8_
      have NB151_191 := n9_
      have NB191_151 := n10_
      have NB172_191 := n11_
      have NB191_172 := n12_
      clear n0_ n1_ n2_ n3_ n4_ n5_ n6_ n7_ n8_ n9_ n10_ n11_ n12_
      clear hb hbox hg
      refine hK.out _ _ ⟨bC BK150.out 0 rfl, bC BK150.out 1 rfl, bC BK150.out 2 rfl, bC BK150.out 3 rfl, bC BK150.out 4 rfl, bC BK150.out 5 rfl, bC BK151.out 0 rfl, bC BK151.out 1 rfl, bC BK151.out 2 rfl, bC BK151.out 3 rfl, bC BK151.out 4 rfl, bC BK151.out 5 rfl⟩ (fun hHeld => ?_)
      clear hK K
      refine norm_ (a' := ?_) ?_ ?_
      rotate_left
      ·show Act.put _ (some 7) _ = _
       simp only [Act.put, sqA, sqZ, sqS, i64_w, i32_w]
       rfl
      refine one_ (i := 1) (N := some 24) #[true, true, true, false, false, true, false] rfl rfl (by kernel_rfl) (by decide) (fun K hK => ?_)
      refine goes_ Tryd.func7 (by kernel_rfl) rfl #[.agg #[.int .i64 a0_0, .int .i64 a0_1, .int .i64 a0_2, .string a0_3, .string a0_4, .int .i64 a0_5]] (by rfl) rfl rfl (by (try simp only [lM, lC, lN]); first | done | rfl | (simp only [lD, lT]; rfl)) ?_
      with_reducible refine (laws_toSky.calls a0_0 a0_1 a0_2 a0_3 a0_4 a0_5 t173 t174 t175 t176 t177 t178 _ A24.out).mono ?_
      rintro e w51 ⟨rfl, hb⟩
      refine ⟨_, rfl, ?_⟩
      have n0_ := A0 (blk_below (g := gb150) (o := .cells #[.int .i64 a0_0, .int .i64 a0_1, .int .i64 a0_2, .string a0_3, .string a0_4, .int .i64 a0_5] 23 (0, 0)) (by (with_reducible repeat (first | refine bN ?_ _ | refine bD ?_ | refine bA ?_ _)); exact BK150.out) hb)
      have n1_ := A0 (blk_below (g := gb151) (o := .cells #[.int .i64 a1_0, .int .i64 a1_1, .int .i64 a1_2, .string a1_3, .string a1_4, .int .i64 a1_5] 23 (0, 0)) (by (with_reducible repeat (first | refine bN ?_ _ | refine bD ?_ | refine bA ?_ _)); exact BK151.out) hb)
      have n2_ := A0 (blk_below (g := gb172) (o := .cells #[.int .i64 t166, .int .i64 t167, .int .i64 t168, .string t169, .string t170, .int .i64 t171] 25 (0, 0)) (by (with_reducible repeat (first | refine bN ?_ _ | refine bD ?_ | refine bA ?_ _)); exact BK172.out) hb)
      have n3_ := A0 (blk_below (g := gb191) (o := .cells #[.int .i64 0, .int .i64 0, .int .i64 0, .string (⟨#[]⟩ : ByteArray), .string (⟨#[]⟩ : ByteArray), .int .i64 0] 25 (0, 0)) (by (with_reducible repeat (first | refine bN ?_ _ | refine bD ?_ | refine bA ?_ _)); exact BK191.out) hb)
      have n4_ := A0 (below_step (by repeat (first | (with_reducible first | exact HB.out | apply wA | apply wN | apply wD | refine bS ?_ GE150.out | refine bS ?_ GE151.out | refine bS ?_ GE172.out | refine bS ?_ GE191.out) | exact HB.out)) hb)
      clear BK150
      clear BK151
      clear BK172
      clear BK191
      clear HB
      have BK150 := n0_
      have BK151 := n1_
      have BK172 := n2_
      have BK191 := n3_
      have HB := n4_
      clear n0_ n1_ n2_ n3_ n4_
      (try clear hb)
      refine hK.out _ _ ⟨bC BK150.out 0 rfl, bC BK150.out 1 rfl, bC BK150.out 2 rfl, bC BK150.out 3 rfl, bC BK150.out 4 rfl, bC BK150.out 5 rfl, bC BK151.out 0 rfl, bC BK151.out 1 rfl, bC BK151.out 2 rfl, bC BK151.out 3 rfl, bC BK151.out 4 rfl, bC BK151.out 5 rfl⟩ (fun hHeld => ?_)
      clear hK K
      refine norm_ (a' := ?_) ?_ ?_
      rotate_left
      ·show Act.put _ (some 24) _ = _
       simp only [Act.put, sqA, sqZ, sqS, i64_w, i32_w]
       rfl
      refine one_ (i := 3) (N := some 26) #[true, true, true, true, false, true, false] rfl rfl (by kernel_rfl) (by decide) (fun K hK => ?_)
      refine goes_ Tryd.func7 (by kernel_rfl) rfl #[.agg #[.int .i64 a1_0, .int .i64 a1_1, .int .i64 a1_2, .string a1_3, .string a1_4, .int .i64 a1_5]] (by rfl) rfl rfl (by (try simp only [lM, lC, lN]); first | done | rfl | (simp only [lD, lT]; rfl)) ?_
      with_reducible refine (laws_toSky.calls a1_0 a1_1 a1_2 a1_3 a1_4 a1_5 t179 t180 t181 t182 t183 t184 _ A25.out).mono ?_
      rintro e w52 ⟨rfl, hb⟩
      refine ⟨_, rfl, ?_⟩
      have n0_ := A0 (blk_below (g := gb150) (o := .cells #[.int .i64 a0_0, .int .i64 a0_1, .int .i64 a0_2, .string a0_3, .string a0_4, .int .i64 a0_5] 23 (0, 0)) (by (with_reducible repeat (first | refine bN ?_ _ | refine bD ?_ | refine bA ?_ _)); exact BK150.out) hb)
      have n1_ := A0 (blk_below (g := gb151) (o := .cells #[.int .i64 a1_0, .int .i64 a1_1, .int .i64 a1_2, .string a1_3, .string a1_4, .int .i64 a1_5] 23 (0, 0)) (by (with_reducible repeat (first | refine bN ?_ _ | refine bD ?_ | refine bA ?_ _)); exact BK151.out) hb)
      have n2_ := A0 (blk_below (g := gb172) (o := .cells #[.int .i64 t166, .int .i64 t167, .int .i64 t168, .string t169, .string t170, .int .i64 t171] 25 (0, 0)) (by (with_reducible repeat (first | refine bN ?_ _ | refine bD ?_ | refine bA ?_ _)); exact BK172.out) hb)
      have n3_ := A0 (blk_below (g := gb191) (o := .cells #[.int .i64 0, .int .i64 0, .int .i64 0, .string (⟨#[]⟩ : ByteArray), .string (⟨#[]⟩ : ByteArray), .int .i64 0] 25 (0, 0)) (by (with_reducible repeat (first | refine bN ?_ _ | refine bD ?_ | refine bA ?_ _)); exact BK191.out) hb)
      have n4_ := A0 (below_step (by repeat (first | (with_reducible first | exact HB.out | apply wA | apply wN | apply wD | refine bS ?_ GE150.out | refine bS ?_ GE151.out | refine bS ?_ GE172.out | refine bS ?_ GE191.out) | exact HB.out)) hb)
      clear BK150
      clear BK151
      clear BK172
      clear BK191
      clear HB
      have BK150 := n0_
      have BK151 := n1_
      have BK172 := n2_
      have BK191 := n3_
      have HB := n4_
      clear n0_ n1_ n2_ n3_ n4_
      (try clear hb)
      refine hK.out _ _ ⟨bC BK150.out 0 rfl, bC BK150.out 1 rfl, bC BK150.out 2 rfl, bC BK150.out 3 rfl, bC BK150.out 4 rfl, bC BK150.out 5 rfl, bC BK151.out 0 rfl, bC BK151.out 1 rfl, bC BK151.out 2 rfl, bC BK151.out 3 rfl, bC BK151.out 4 rfl, bC BK151.out 5 rfl⟩ (fun hHeld => ?_)
      clear hK K
      refine norm_ (a' := ?_) ?_ ?_
      rotate_left
      ·show Act.put _ (some 26) _ = _
       simp only [Act.put, sqA, sqZ, sqS, i64_w, i32_w]
       rfl
      refine one_ (i := 4) (N := some 27) #[true, true, true, true, true, true, false] rfl rfl (by kernel_rfl) (by decide) (fun K hK => ?_)
      refine goes_ Tryd.func8 (by kernel_rfl) rfl #[.agg #[.int .i64 t173, .int .i64 t174, .int .i64 t175, .string t176, .string t177, .int .i64 t178], .agg #[.int .i64 t179, .int .i64 t180, .int .i64 t181, .string t182, .string t183, .int .i64 t184]] (by rfl) rfl rfl (by (try simp only [lM, lC, lN]); first | done | rfl | (simp only [lD, lT]; rfl)) ?_
      with_reducible refine (impl_Laid.calls k t173 t174 t175 t176 t177 t178 t179 t180 t181 t182 t183 t184 l2 l3 t185 t186 t187 t188 t189 t190 _ ?side1 ?side2 ?side3 ?side4 A26.out).mono ?_
      (case side1 => repeat (first | exact (Kd.C_below HR2.out HB.out) | (with_reducible refine Kd.C_alloc ?_ _) | (with_reducible refine Kd.C_drewN ?_ _) | (with_reducible refine Kd.C_drew ?_)))
      (case side2 => exact HC2.out)
      (case side3 => repeat (first | exact (Kd.C_below HR3.out HB.out) | (with_reducible refine Kd.C_alloc ?_ _) | (with_reducible refine Kd.C_drewN ?_ _) | (with_reducible refine Kd.C_drew ?_)))
      (case side4 => exact HC3.out)
      rintro e w53 ⟨rfl, hb⟩
      refine ⟨_, rfl, ?_⟩
      have n0_ := A0 (blk_below (g := gb150) (o := .cells #[.int .i64 a0_0, .int .i64 a0_1, .int .i64 a0_2, .string a0_3, .string a0_4, .int .i64 a0_5] 23 (0, 0)) (by (with_reducible repeat (first | refine bN ?_ _ | refine bD ?_ | refine bA ?_ _)); exact BK150.out) hb)
      have n1_ := A0 (blk_below (g := gb151) (o := .cells #[.int .i64 a1_0, .int .i64 a1_1, .int .i64 a1_2, .string a1_3, .string a1_4, .int .i64 a1_5] 23 (0, 0)) (by (with_reducible repeat (first | refine bN ?_ _ | refine bD ?_ | refine bA ?_ _)); exact BK151.out) hb)
      have n2_ := A0 (blk_below (g := gb172) (o := .cells #[.int .i64 t166, .int .i64 t167, .int .i64 t168, .string t169, .string t170, .int .i64 t171] 25 (0, 0)) (by (with_reducible repeat (first | refine bN ?_ _ | refine bD ?_ | refine bA ?_ _)); exact BK172.out) hb)
      have n3_ := A0 (blk_below (g := gb191) (o := .cells #[.int .i64 0, .int .i64 0, .int .i64 0, .string (⟨#[]⟩ : ByteArray), .string (⟨#[]⟩ : ByteArray), .int .i64 0] 25 (0, 0)) (by (with_reducible repeat (first | refine bN ?_ _ | refine bD ?_ | refine bA ?_ _)); exact BK191.out) hb)
      have n4_ := A0 (below_step (by repeat (first | (with_reducible first | exact HB.out | apply wA | apply wN | apply wD | refine bS ?_ GE150.out | refine bS ?_ GE151.out | refine bS ?_ GE172.out | refine bS ?_ GE191.out) | exact HB.out)) hb)
      clear BK150
      clear BK151
      clear BK172
      clear BK191
      clear HB
      have BK150 := n0_
      have BK151 := n1_
      have BK172 := n2_
      have BK191 := n3_
      have HB := n4_
      clear n0_ n1_ n2_ n3_ n4_
      (try clear hb)
      refine hK.out _ _ ⟨bC BK150.out 0 rfl, bC BK150.out 1 rfl, bC BK150.out 2 rfl, bC BK150.out 3 rfl, bC BK150.out 4 rfl, bC BK150.out 5 rfl, bC BK151.out 0 rfl, bC BK151.out 1 rfl, bC BK151.out 2 rfl, bC BK151.out 3 rfl, bC BK151.out 4 rfl, bC BK151.out 5 rfl⟩ (fun hHeld => ?_)
      clear hK K
      refine norm_ (a' := ?_) ?_ ?_
      rotate_left
      ·show Act.put _ (some 27) _ = _
       simp only [Act.put, sqA, sqZ, sqS, i64_w, i32_w]
       rfl
      exact norm_ (by simp only [putAll, Act.put, sqA, sqZ, sqS]) (hCont (gb191) _ ⟨hHeld, (by (with_reducible repeat (first | refine bN ?_ _ | refine bD ?_ | refine bA ?_ _)); exact BK150.out), (by (with_reducible repeat (first | refine bN ?_ _ | refine bD ?_ | refine bA ?_ _)); exact BK151.out), (by (with_reducible repeat (first | refine bN ?_ _ | refine bD ?_ | refine bA ?_ _)); exact BK172.out), (by (with_reducible repeat (first | refine bN ?_ _ | refine bD ?_ | refine bA ?_ _)); exact BK191.out), GW191.out, GE191.out, NB150_191.out, NB191_150.out, NB151_191.out, NB191_151.out, NB172_191.out, NB191_172.out, (by repeat (first | (with_reducible first | exact HB.out | apply wA | apply wN | apply wD | refine bS ?_ GE150.out | refine bS ?_ GE151.out | refine bS ?_ GE172.out | refine bS ?_ GE191.out) | exact HB.out))⟩)
    rintro gb191 w54 ⟨hS_, h0_, h1_, h2_, h3_, h4_, h5_, h6_, h7_, h8_, h9_, h10_, h11_, h12_⟩
    have n0_ : Aside0 (w54.heap[gb150]? = some (.cells #[.int .i64 a0_0, .int .i64 a0_1, .int .i64 a0_2, .string a0_3, .string a0_4, .int .i64 a0_5] 23 (0, 0))) := ⟨h0_⟩
    have n1_ : Aside0 (w54.heap[gb151]? = some (.cells #[.int .i64 a1_0, .int .i64 a1_1, .int .i64 a1_2, .string a1_3, .string a1_4, .int .i64 a1_5] 23 (0, 0))) := ⟨h1_⟩
    have n2_ : Aside0 (w54.heap[gb172]? = some (.cells #[.int .i64 t166, .int .i64 t167, .int .i64 t168, .string t169, .string t170, .int .i64 t171] 25 (0, 0))) := ⟨h2_⟩
    have n3_ : Aside0 (w54.heap[gb191]? = some (.cells #[.int .i64 0, .int .i64 0, .int .i64 0, .string (⟨#[]⟩ : ByteArray), .string (⟨#[]⟩ : ByteArray), .int .i64 0] 25 (0, 0))) := ⟨h3_⟩
    have n4_ : Aside0 (w.heap.size ≤ gb191) := ⟨h4_⟩
    have n5_ : Aside0 (w.heap.size ≤ gb191) := ⟨h5_⟩
    have n6_ : Aside0 (gb150 ≠ gb191) := ⟨h6_⟩
    have n7_ : Aside0 (gb191 ≠ gb150) := ⟨h7_⟩
    have n8_ : Aside0 (gb151 ≠ gb191) := ⟨h8_⟩
    have n9_ : Aside0 (gb191 ≠ gb151) := ⟨h9_⟩
    have n10_ : Aside0 (gb172 ≠ gb191) := ⟨h10_⟩
    have n11_ : Aside0 (gb191 ≠ gb172) := ⟨h11_⟩
    have n12_ : Aside0 (Below w.heap.size w w54) := ⟨h12_⟩
    clear BK150
    clear BK151
    clear BK172
    clear HB
    clear h0_ h1_ h2_ h3_ h4_ h5_ h6_ h7_ h8_ h9_ h10_ h11_ h12_
    have BK150 := n0_
    have BK151 := n1_
    have BK172 := n2_
    have BK191 := n3_
    have GW191 := n4_
    have GE191 := n5_
    have NB150_191 := n6_
    have NB191_150 := n7_
    have NB151_191 := n8_
    have NB191_151 := n9_
    have NB172_191 := n10_
    have NB191_172 := n11_
    have HB := n12_
    clear n0_ n1_ n2_ n3_ n4_ n5_ n6_ n7_ n8_ n9_ n10_ n11_ n12_
    have hHeld : w54.cell? ⟨gb150, 0, none⟩ = some (.int .i64 a0_0) ∧ w54.cell? ⟨gb150, 1, none⟩ = some (.int .i64 a0_1) ∧ w54.cell? ⟨gb150, 2, none⟩ = some (.int .i64 a0_2) ∧ w54.cell? ⟨gb150, 3, none⟩ = some (.string a0_3) ∧ w54.cell? ⟨gb150, 4, none⟩ = some (.string a0_4) ∧ w54.cell? ⟨gb150, 5, none⟩ = some (.int .i64 a0_5) ∧ w54.cell? ⟨gb151, 0, none⟩ = some (.int .i64 a1_0) ∧ w54.cell? ⟨gb151, 1, none⟩ = some (.int .i64 a1_1) ∧ w54.cell? ⟨gb151, 2, none⟩ = some (.int .i64 a1_2) ∧ w54.cell? ⟨gb151, 3, none⟩ = some (.string a1_3) ∧ w54.cell? ⟨gb151, 4, none⟩ = some (.string a1_4) ∧ w54.cell? ⟨gb151, 5, none⟩ = some (.int .i64 a1_5) := hS_
    refine norm_ (a' := ?_) ?_ ?_
    rotate_left
    ·simp only [putAll, Act.put, sqA, sqZ, sqS]
     rfl
    refine one_ (i := 6) (N := none) #[true, true, true, true, true, true, true] rfl rfl (by kernel_rfl) (by decide) (fun K hK => ?_)
    have hs55 : w54.cell? ⟨gb191, 0, none⟩ = some (.int .i64 0) := bC BK191.out 0 rfl
    have hfs55 := blk_frozen BK191.out 0
    have hns55_0 := NB150_191.out
    have hns55_1 := NB151_191.out
    have hns55_2 := NB172_191.out
    have hms55_0 := NB191_150.out
    have hms55_1 := NB191_151.out
    have hms55_2 := NB191_172.out
    have hs56 : w54.cell? ⟨gb191, 1, none⟩ = some (.int .i64 0) := bC BK191.out 1 rfl
    have hfs56 := blk_frozen BK191.out 1
    have hns56_0 := NB150_191.out
    have hns56_1 := NB151_191.out
    have hns56_2 := NB172_191.out
    have hms56_0 := NB191_150.out
    have hms56_1 := NB191_151.out
    have hms56_2 := NB191_172.out
    have hs57 : w54.cell? ⟨gb191, 2, none⟩ = some (.int .i64 0) := bC BK191.out 2 rfl
    have hfs57 := blk_frozen BK191.out 2
    have hns57_0 := NB150_191.out
    have hns57_1 := NB151_191.out
    have hns57_2 := NB172_191.out
    have hms57_0 := NB191_150.out
    have hms57_1 := NB191_151.out
    have hms57_2 := NB191_172.out
    have hs58 : w54.cell? ⟨gb191, 3, none⟩ = some (.string (⟨#[]⟩ : ByteArray)) := bC BK191.out 3 rfl
    have hfs58 := blk_frozen BK191.out 3
    have hns58_0 := NB150_191.out
    have hns58_1 := NB151_191.out
    have hns58_2 := NB172_191.out
    have hms58_0 := NB191_150.out
    have hms58_1 := NB191_151.out
    have hms58_2 := NB191_172.out
    have hs59 : w54.cell? ⟨gb191, 4, none⟩ = some (.string (⟨#[]⟩ : ByteArray)) := bC BK191.out 4 rfl
    have hfs59 := blk_frozen BK191.out 4
    have hns59_0 := NB150_191.out
    have hns59_1 := NB151_191.out
    have hns59_2 := NB172_191.out
    have hms59_0 := NB191_150.out
    have hms59_1 := NB191_151.out
    have hms59_2 := NB191_172.out
    have hs60 : w54.cell? ⟨gb191, 5, none⟩ = some (.int .i64 0) := bC BK191.out 5 rfl
    have hfs60 := blk_frozen BK191.out 5
    have hns60_0 := NB150_191.out
    have hns60_1 := NB151_191.out
    have hns60_2 := NB172_191.out
    have hms60_0 := NB191_150.out
    have hms60_1 := NB191_151.out
    have hms60_2 := NB191_172.out
    refine skip_ (w1 := ?_) (by rfl) rfl ?_ ?_
    rotate_left
    ·go_simp
     rfl
    refine hK.out _ _ ⟨((cell_far (p := ⟨gb191, _, none⟩) NB150_191.out _).trans (((cell_far (p := ⟨gb191, _, none⟩) NB150_191.out _).trans (((cell_far (p := ⟨gb191, _, none⟩) NB150_191.out _).trans (((cell_far (p := ⟨gb191, _, none⟩) NB150_191.out _).trans (((cell_far (p := ⟨gb191, _, none⟩) NB150_191.out _).trans (((cell_far (p := ⟨gb191, _, none⟩) NB150_191.out _).trans (hHeld.1)))))))))))), ((cell_far (p := ⟨gb191, _, none⟩) NB150_191.out _).trans (((cell_far (p := ⟨gb191, _, none⟩) NB150_191.out _).trans (((cell_far (p := ⟨gb191, _, none⟩) NB150_191.out _).trans (((cell_far (p := ⟨gb191, _, none⟩) NB150_191.out _).trans (((cell_far (p := ⟨gb191, _, none⟩) NB150_191.out _).trans (((cell_far (p := ⟨gb191, _, none⟩) NB150_191.out _).trans (hHeld.2.1)))))))))))), ((cell_far (p := ⟨gb191, _, none⟩) NB150_191.out _).trans (((cell_far (p := ⟨gb191, _, none⟩) NB150_191.out _).trans (((cell_far (p := ⟨gb191, _, none⟩) NB150_191.out _).trans (((cell_far (p := ⟨gb191, _, none⟩) NB150_191.out _).trans (((cell_far (p := ⟨gb191, _, none⟩) NB150_191.out _).trans (((cell_far (p := ⟨gb191, _, none⟩) NB150_191.out _).trans (hHeld.2.2.1)))))))))))), ((cell_far (p := ⟨gb191, _, none⟩) NB150_191.out _).trans (((cell_far (p := ⟨gb191, _, none⟩) NB150_191.out _).trans (((cell_far (p := ⟨gb191, _, none⟩) NB150_191.out _).trans (((cell_far (p := ⟨gb191, _, none⟩) NB150_191.out _).trans (((cell_far (p := ⟨gb191, _, none⟩) NB150_191.out _).trans (((cell_far (p := ⟨gb191, _, none⟩) NB150_191.out _).trans (hHeld.2.2.2.1)))))))))))), ((cell_far (p := ⟨gb191, _, none⟩) NB150_191.out _).trans (((cell_far (p := ⟨gb191, _, none⟩) NB150_191.out _).trans (((cell_far (p := ⟨gb191, _, none⟩) NB150_191.out _).trans (((cell_far (p := ⟨gb191, _, none⟩) NB150_191.out _).trans (((cell_far (p := ⟨gb191, _, none⟩) NB150_191.out _).trans (((cell_far (p := ⟨gb191, _, none⟩) NB150_191.out _).trans (hHeld.2.2.2.2.1)))))))))))), ((cell_far (p := ⟨gb191, _, none⟩) NB150_191.out _).trans (((cell_far (p := ⟨gb191, _, none⟩) NB150_191.out _).trans (((cell_far (p := ⟨gb191, _, none⟩) NB150_191.out _).trans (((cell_far (p := ⟨gb191, _, none⟩) NB150_191.out _).trans (((cell_far (p := ⟨gb191, _, none⟩) NB150_191.out _).trans (((cell_far (p := ⟨gb191, _, none⟩) NB150_191.out _).trans (hHeld.2.2.2.2.2.1)))))))))))), ((cell_far (p := ⟨gb191, _, none⟩) NB151_191.out _).trans (((cell_far (p := ⟨gb191, _, none⟩) NB151_191.out _).trans (((cell_far (p := ⟨gb191, _, none⟩) NB151_191.out _).trans (((cell_far (p := ⟨gb191, _, none⟩) NB151_191.out _).trans (((cell_far (p := ⟨gb191, _, none⟩) NB151_191.out _).trans (((cell_far (p := ⟨gb191, _, none⟩) NB151_191.out _).trans (hHeld.2.2.2.2.2.2.1)))))))))))), ((cell_far (p := ⟨gb191, _, none⟩) NB151_191.out _).trans (((cell_far (p := ⟨gb191, _, none⟩) NB151_191.out _).trans (((cell_far (p := ⟨gb191, _, none⟩) NB151_191.out _).trans (((cell_far (p := ⟨gb191, _, none⟩) NB151_191.out _).trans (((cell_far (p := ⟨gb191, _, none⟩) NB151_191.out _).trans (((cell_far (p := ⟨gb191, _, none⟩) NB151_191.out _).trans (hHeld.2.2.2.2.2.2.2.1)))))))))))), ((cell_far (p := ⟨gb191, _, none⟩) NB151_191.out _).trans (((cell_far (p := ⟨gb191, _, none⟩) NB151_191.out _).trans (((cell_far (p := ⟨gb191, _, none⟩) NB151_191.out _).trans (((cell_far (p := ⟨gb191, _, none⟩) NB151_191.out _).trans (((cell_far (p := ⟨gb191, _, none⟩) NB151_191.out _).trans (((cell_far (p := ⟨gb191, _, none⟩) NB151_191.out _).trans (hHeld.2.2.2.2.2.2.2.2.1)))))))))))), ((cell_far (p := ⟨gb191, _, none⟩) NB151_191.out _).trans (((cell_far (p := ⟨gb191, _, none⟩) NB151_191.out _).trans (((cell_far (p := ⟨gb191, _, none⟩) NB151_191.out _).trans (((cell_far (p := ⟨gb191, _, none⟩) NB151_191.out _).trans (((cell_far (p := ⟨gb191, _, none⟩) NB151_191.out _).trans (((cell_far (p := ⟨gb191, _, none⟩) NB151_191.out _).trans (hHeld.2.2.2.2.2.2.2.2.2.1)))))))))))), ((cell_far (p := ⟨gb191, _, none⟩) NB151_191.out _).trans (((cell_far (p := ⟨gb191, _, none⟩) NB151_191.out _).trans (((cell_far (p := ⟨gb191, _, none⟩) NB151_191.out _).trans (((cell_far (p := ⟨gb191, _, none⟩) NB151_191.out _).trans (((cell_far (p := ⟨gb191, _, none⟩) NB151_191.out _).trans (((cell_far (p := ⟨gb191, _, none⟩) NB151_191.out _).trans (hHeld.2.2.2.2.2.2.2.2.2.2.1)))))))))))), ((cell_far (p := ⟨gb191, _, none⟩) NB151_191.out _).trans (((cell_far (p := ⟨gb191, _, none⟩) NB151_191.out _).trans (((cell_far (p := ⟨gb191, _, none⟩) NB151_191.out _).trans (((cell_far (p := ⟨gb191, _, none⟩) NB151_191.out _).trans (((cell_far (p := ⟨gb191, _, none⟩) NB151_191.out _).trans (((cell_far (p := ⟨gb191, _, none⟩) NB151_191.out _).trans (hHeld.2.2.2.2.2.2.2.2.2.2.2))))))))))))⟩ (fun hHeld => ?_)
    clear hK K
    refine done_ (by kernel_rfl) ?_
    have hnb61 := NB191_150.out
    have hnc61 := NB150_191.out
    have hnb62 := NB191_151.out
    have hnc62 := NB151_191.out
    have hnb63 := NB191_172.out
    have hnc63 := NB172_191.out
    have hcz64_0 : w54.cell? ⟨gb191, 0, none⟩ = some (.int .i64 0) := bC BK191.out 0 rfl
    have hcz64_1 : w54.cell? ⟨gb191, 1, none⟩ = some (.int .i64 0) := bC BK191.out 1 rfl
    have hcz64_2 : w54.cell? ⟨gb191, 2, none⟩ = some (.int .i64 0) := bC BK191.out 2 rfl
    have hcz64_3 : w54.cell? ⟨gb191, 3, none⟩ = some (.string (⟨#[]⟩ : ByteArray)) := bC BK191.out 3 rfl
    have hcz64_4 : w54.cell? ⟨gb191, 4, none⟩ = some (.string (⟨#[]⟩ : ByteArray)) := bC BK191.out 4 rfl
    have hcz64_5 : w54.cell? ⟨gb191, 5, none⟩ = some (.int .i64 0) := bC BK191.out 5 rfl
    have hfz64_0 := blk_frozen BK191.out 0
    have hfz64_1 := blk_frozen BK191.out 1
    have hfz64_2 := blk_frozen BK191.out 2
    have hfz64_3 := blk_frozen BK191.out 3
    have hfz64_4 := blk_frozen BK191.out 4
    have hfz64_5 := blk_frozen BK191.out 5
    have hnb65 := NB172_150.out
    have hnc65 := NB150_172.out
    have hnb66 := NB172_151.out
    have hnc66 := NB151_172.out
    have hcz67_0 : w54.cell? ⟨gb172, 0, none⟩ = some (.int .i64 t166) := bC BK172.out 0 rfl
    have hcz67_1 : w54.cell? ⟨gb172, 1, none⟩ = some (.int .i64 t167) := bC BK172.out 1 rfl
    have hcz67_2 : w54.cell? ⟨gb172, 2, none⟩ = some (.int .i64 t168) := bC BK172.out 2 rfl
    have hcz67_3 : w54.cell? ⟨gb172, 3, none⟩ = some (.string t169) := bC BK172.out 3 rfl
    have hcz67_4 : w54.cell? ⟨gb172, 4, none⟩ = some (.string t170) := bC BK172.out 4 rfl
    have hcz67_5 : w54.cell? ⟨gb172, 5, none⟩ = some (.int .i64 t171) := bC BK172.out 5 rfl
    have hfz67_0 := blk_frozen BK172.out 0
    have hfz67_1 := blk_frozen BK172.out 1
    have hfz67_2 := blk_frozen BK172.out 2
    have hfz67_3 := blk_frozen BK172.out 3
    have hfz67_4 := blk_frozen BK172.out 4
    have hfz67_5 := blk_frozen BK172.out 5
    try go_wp2_with (first | ((with_reducible refine gate_callee (f := 9) rfl ?_); refine goesL_ (some 30) rfl rfl Tryd.func9 (by kernel_rfl) rfl #[.agg #[.int .i64 t185, .int .i64 t186, .int .i64 t187, .string t188, .string t189, .int .i64 t190], .agg #[.int .i64 t166, .int .i64 t167, .int .i64 t168, .string t169, .string t170, .int .i64 t171]] rfl (by (try simp only [lM, lC, lN]); first | done | rfl | (simp only [lD, lT]; rfl)) ?_; (with_reducible refine (laws_eqSky.calls t185 t186 t187 t188 t189 t190 t166 t167 t168 t169 t170 t171 true _ A27.out).mono ?_); rintro e w68 ⟨rfl, hb⟩; refine ⟨_, rfl, ?_⟩; have n0_ := A0 (blk_below (g := gb150) (o := .cells #[.int .i64 a0_0, .int .i64 a0_1, .int .i64 a0_2, .string a0_3, .string a0_4, .int .i64 a0_5] 23 (0, 0)) (by (with_reducible repeat (first | refine bN ?_ _ | refine bD ?_ | refine bA ?_ _)); refine blk_far ?_ NB150_191.out _; (with_reducible repeat (first | refine bN ?_ _ | refine bD ?_ | refine bA ?_ _)); refine blk_far ?_ NB150_191.out _; (with_reducible repeat (first | refine bN ?_ _ | refine bD ?_ | refine bA ?_ _)); refine blk_far ?_ NB150_191.out _; (with_reducible repeat (first | refine bN ?_ _ | refine bD ?_ | refine bA ?_ _)); refine blk_far ?_ NB150_191.out _; (with_reducible repeat (first | refine bN ?_ _ | refine bD ?_ | refine bA ?_ _)); refine blk_far ?_ NB150_191.out _; (with_reducible repeat (first | refine bN ?_ _ | refine bD ?_ | refine bA ?_ _)); refine blk_far ?_ NB150_191.out _; (with_reducible repeat (first | refine bN ?_ _ | refine bD ?_ | refine bA ?_ _)); exact BK150.out) hb); have n1_ := A0 (blk_below (g := gb151) (o := .cells #[.int .i64 a1_0, .int .i64 a1_1, .int .i64 a1_2, .string a1_3, .string a1_4, .int .i64 a1_5] 23 (0, 0)) (by (with_reducible repeat (first | refine bN ?_ _ | refine bD ?_ | refine bA ?_ _)); refine blk_far ?_ NB151_191.out _; (with_reducible repeat (first | refine bN ?_ _ | refine bD ?_ | refine bA ?_ _)); refine blk_far ?_ NB151_191.out _; (with_reducible repeat (first | refine bN ?_ _ | refine bD ?_ | refine bA ?_ _)); refine blk_far ?_ NB151_191.out _; (with_reducible repeat (first | refine bN ?_ _ | refine bD ?_ | refine bA ?_ _)); refine blk_far ?_ NB151_191.out _; (with_reducible repeat (first | refine bN ?_ _ | refine bD ?_ | refine bA ?_ _)); refine blk_far ?_ NB151_191.out _; (with_reducible repeat (first | refine bN ?_ _ | refine bD ?_ | refine bA ?_ _)); refine blk_far ?_ NB151_191.out _; (with_reducible repeat (first | refine bN ?_ _ | refine bD ?_ | refine bA ?_ _)); exact BK151.out) hb); have n2_ := A0 (blk_below (g := gb172) (o := .cells #[.int .i64 t166, .int .i64 t167, .int .i64 t168, .string t169, .string t170, .int .i64 t171] 25 (0, 0)) (by (with_reducible repeat (first | refine bN ?_ _ | refine bD ?_ | refine bA ?_ _)); refine blk_far ?_ NB172_191.out _; (with_reducible repeat (first | refine bN ?_ _ | refine bD ?_ | refine bA ?_ _)); refine blk_far ?_ NB172_191.out _; (with_reducible repeat (first | refine bN ?_ _ | refine bD ?_ | refine bA ?_ _)); refine blk_far ?_ NB172_191.out _; (with_reducible repeat (first | refine bN ?_ _ | refine bD ?_ | refine bA ?_ _)); refine blk_far ?_ NB172_191.out _; (with_reducible repeat (first | refine bN ?_ _ | refine bD ?_ | refine bA ?_ _)); refine blk_far ?_ NB172_191.out _; (with_reducible repeat (first | refine bN ?_ _ | refine bD ?_ | refine bA ?_ _)); refine blk_far ?_ NB172_191.out _; (with_reducible repeat (first | refine bN ?_ _ | refine bD ?_ | refine bA ?_ _)); exact BK172.out) hb); have n3_ := A0 (blk_below (g := gb191) (o := .cells #[.int .i64 t185, .int .i64 t186, .int .i64 t187, .string t188, .string t189, .int .i64 t190] 25 (0, 0)) (by (with_reducible repeat (first | refine bN ?_ _ | refine bD ?_ | refine bA ?_ _)); refine blk_put (cs := #[.int .i64 t185, .int .i64 t186, .int .i64 t187, .string t188, .string t189, .int .i64 0]) ?_ 5 _ rfl; (with_reducible repeat (first | refine bN ?_ _ | refine bD ?_ | refine bA ?_ _)); refine blk_put (cs := #[.int .i64 t185, .int .i64 t186, .int .i64 t187, .string t188, .string (⟨#[]⟩ : ByteArray), .int .i64 0]) ?_ 4 _ rfl; (with_reducible repeat (first | refine bN ?_ _ | refine bD ?_ | refine bA ?_ _)); refine blk_put (cs := #[.int .i64 t185, .int .i64 t186, .int .i64 t187, .string (⟨#[]⟩ : ByteArray), .string (⟨#[]⟩ : ByteArray), .int .i64 0]) ?_ 3 _ rfl; (with_reducible repeat (first | refine bN ?_ _ | refine bD ?_ | refine bA ?_ _)); refine blk_put (cs := #[.int .i64 t185, .int .i64 t186, .int .i64 0, .string (⟨#[]⟩ : ByteArray), .string (⟨#[]⟩ : ByteArray), .int .i64 0]) ?_ 2 _ rfl; (with_reducible repeat (first | refine bN ?_ _ | refine bD ?_ | refine bA ?_ _)); refine blk_put (cs := #[.int .i64 t185, .int .i64 0, .int .i64 0, .string (⟨#[]⟩ : ByteArray), .string (⟨#[]⟩ : ByteArray), .int .i64 0]) ?_ 1 _ rfl; (with_reducible repeat (first | refine bN ?_ _ | refine bD ?_ | refine bA ?_ _)); refine blk_put (cs := #[.int .i64 0, .int .i64 0, .int .i64 0, .string (⟨#[]⟩ : ByteArray), .string (⟨#[]⟩ : ByteArray), .int .i64 0]) ?_ 0 _ rfl; (with_reducible repeat (first | refine bN ?_ _ | refine bD ?_ | refine bA ?_ _)); exact BK191.out) hb); have n4_ := A0 (below_step (by repeat (first | (with_reducible first | exact HB.out | apply wA | apply wN | apply wD | refine bS ?_ GE150.out | refine bS ?_ GE151.out | refine bS ?_ GE172.out | refine bS ?_ GE191.out) | exact HB.out)) hb); clear BK150; clear BK151; clear BK172; clear BK191; clear HB; have BK150 := n0_; have BK151 := n1_; have BK172 := n2_; have BK191 := n3_; have HB := n4_; clear n0_ n1_ n2_ n3_ n4_; (try clear hb); (try clear hb2); (try clear hk); (try clear hi)))
    go_ret
    exact ⟨by first | rfl | (simp [errW_none, errW_some] <;> rfl) | (simp [*, errW_none, errW_some] <;> rfl), by repeat (first | (with_reducible first | exact HB.out | apply wA | apply wN | apply wD | refine bS ?_ GE150.out | refine bS ?_ GE151.out | refine bS ?_ GE172.out | refine bS ?_ GE191.out) | exact HB.out)⟩
   ·replace c28 := Bool.eq_false_iff.mpr c28
    subst c28
    have H1 : (some false) = some r := by rw [if_neg (show ¬ (false = true) by decide)] at H; exact H
    clear H
    have H := H1
    clear H1
    obtain rfl := Option.some.inj H
    go_enter Tryd.func3, Tryd.ntmps3
    try go_wp2_with (first | ((with_reducible refine gate_dst (N := 2) rfl ?_); refine box_event ?hg (N := 2) ?hd (cs := #[.int .i64 a0_0, .int .i64 a0_1, .int .i64 a0_2, .string a0_3, .string a0_4, .int .i64 a0_5]) (t := 23) ?hr ?_; (case hd => rfl); (case hg => rfl); (case hr => first | (go_simp; done) | (go_simp; rfl)); intro gb150 hg w69 hbox hb; have n0_ := A0 (below_step (by repeat (first | (with_reducible first | exact HB.out | apply wA | apply wN | apply wD) | exact HB.out)) hb); have n1_ := A0 (hbox); have n2_ := A0 ((by rw [hg]; exact (below_size (by repeat (first | (with_reducible first | exact HB.out | apply wA | apply wN | apply wD) | exact HB.out))) : w.heap.size ≤ gb150)); have n3_ := A0 ((by rw [hg]; exact (below_size (by repeat (first | (with_reducible first | exact HB.out | apply wA | apply wN | apply wD) | exact HB.out))) : w.heap.size ≤ gb150)); clear HB; have HB := n0_; have BK150 := n1_; have GW150 := n2_; have GE150 := n3_; clear n0_ n1_ n2_ n3_; clear hb hbox hg) | ((with_reducible refine gate_dst (N := 3) rfl ?_); refine box_event ?hg (N := 3) ?hd (cs := #[.int .i64 a1_0, .int .i64 a1_1, .int .i64 a1_2, .string a1_3, .string a1_4, .int .i64 a1_5]) (t := 23) ?hr ?_; (case hd => rfl); (case hg => rfl); (case hr => first | (go_simp; done) | (go_simp; rfl)); intro gb151 hg w70 hbox hb; have n0_ := A0 (blk_below (g := gb150) (o := .cells #[.int .i64 a0_0, .int .i64 a0_1, .int .i64 a0_2, .string a0_3, .string a0_4, .int .i64 a0_5] 23 (0, 0)) (by (with_reducible repeat (first | refine bN ?_ _ | refine bD ?_ | refine bA ?_ _)); exact BK150.out) hb); have n1_ := A0 (below_step (by repeat (first | (with_reducible first | exact HB.out | apply wA | apply wN | apply wD | refine bS ?_ GE150.out) | exact HB.out)) hb); have n2_ := A0 (hbox); have n3_ := A0 ((by rw [hg]; exact (below_size (by repeat (first | (with_reducible first | exact HB.out | apply wA | apply wN | apply wD | refine bS ?_ GE150.out) | exact HB.out))) : w.heap.size ≤ gb151)); have n4_ := A0 ((by rw [hg]; exact (below_size (by repeat (first | (with_reducible first | exact HB.out | apply wA | apply wN | apply wD | refine bS ?_ GE150.out) | exact HB.out))) : w.heap.size ≤ gb151)); have n5_ := A0 ((by rw [hg]; exact Nat.ne_of_lt (blk_lt (g := gb150) (o := .cells #[.int .i64 a0_0, .int .i64 a0_1, .int .i64 a0_2, .string a0_3, .string a0_4, .int .i64 a0_5] 23 (0, 0)) (by (with_reducible repeat (first | refine bN ?_ _ | refine bD ?_ | refine bA ?_ _)); exact BK150.out)) : gb150 ≠ gb151)); have n6_ := A0 ((by rw [hg]; exact Nat.ne_of_gt (blk_lt (g := gb150) (o := .cells #[.int .i64 a0_0, .int .i64 a0_1, .int .i64 a0_2, .string a0_3, .string a0_4, .int .i64 a0_5] 23 (0, 0)) (by (with_reducible repeat (first | refine bN ?_ _ | refine bD ?_ | refine bA ?_ _)); exact BK150.out)) : gb151 ≠ gb150)); clear BK150; clear HB; have BK150 := n0_; have HB := n1_; have BK151 := n2_; have GW151 := n3_; have GE151 := n4_; have NB150_151 := n5_; have NB151_150 := n6_; clear n0_ n1_ n2_ n3_ n4_ n5_ n6_; clear hb hbox hg; have hnb71 := NB150_151.out; have hnc71 := NB151_150.out; have hcz72_0 : w70.cell? ⟨gb150, 0, none⟩ = some (.int .i64 a0_0) := bC BK150.out 0 rfl; have hcz72_1 : w70.cell? ⟨gb150, 1, none⟩ = some (.int .i64 a0_1) := bC BK150.out 1 rfl; have hcz72_2 : w70.cell? ⟨gb150, 2, none⟩ = some (.int .i64 a0_2) := bC BK150.out 2 rfl; have hcz72_3 : w70.cell? ⟨gb150, 3, none⟩ = some (.string a0_3) := bC BK150.out 3 rfl; have hcz72_4 : w70.cell? ⟨gb150, 4, none⟩ = some (.string a0_4) := bC BK150.out 4 rfl; have hcz72_5 : w70.cell? ⟨gb150, 5, none⟩ = some (.int .i64 a0_5) := bC BK150.out 5 rfl; have hfz72_0 := blk_frozen BK150.out 0; have hfz72_1 := blk_frozen BK150.out 1; have hfz72_2 := blk_frozen BK150.out 2; have hfz72_3 := blk_frozen BK150.out 3; have hfz72_4 := blk_frozen BK150.out 4; have hfz72_5 := blk_frozen BK150.out 5) | ((with_reducible refine gate_callee (f := 5) rfl ?_); refine goesL_ (some 10) rfl rfl Tryd.func5 (by kernel_rfl) rfl #[.agg #[.int .i64 a0_0, .int .i64 a0_1, .int .i64 a0_2, .string a0_3, .string a0_4, .int .i64 a0_5], .int .i64 1048576] rfl (by (try simp only [lM, lC, lN]); first | done | rfl | (simp only [lD, lT]; rfl)) ?_; (with_reducible refine (laws_szSky.calls a0_0 a0_1 a0_2 a0_3 a0_4 a0_5 1048576 t152 _ A5.out).mono ?_); rintro e w73 ⟨rfl, hb⟩; refine ⟨_, rfl, ?_⟩; have n0_ := A0 (blk_below (g := gb150) (o := .cells #[.int .i64 a0_0, .int .i64 a0_1, .int .i64 a0_2, .string a0_3, .string a0_4, .int .i64 a0_5] 23 (0, 0)) (by (with_reducible repeat (first | refine bN ?_ _ | refine bD ?_ | refine bA ?_ _)); exact BK150.out) hb); have n1_ := A0 (blk_below (g := gb151) (o := .cells #[.int .i64 a1_0, .int .i64 a1_1, .int .i64 a1_2, .string a1_3, .string a1_4, .int .i64 a1_5] 23 (0, 0)) (by (with_reducible repeat (first | refine bN ?_ _ | refine bD ?_ | refine bA ?_ _)); exact BK151.out) hb); have n2_ := A0 (below_step (by repeat (first | (with_reducible first | exact HB.out | apply wA | apply wN | apply wD | refine bS ?_ GE150.out | refine bS ?_ GE151.out) | exact HB.out)) hb); clear BK150; clear BK151; clear HB; have BK150 := n0_; have BK151 := n1_; have HB := n2_; clear n0_ n1_ n2_; (try clear hb); (try clear hb2); (try clear hk); (try clear hi); have hcz74_0 : w73.cell? ⟨gb151, 0, none⟩ = some (.int .i64 a1_0) := bC BK151.out 0 rfl; have hcz74_1 : w73.cell? ⟨gb151, 1, none⟩ = some (.int .i64 a1_1) := bC BK151.out 1 rfl; have hcz74_2 : w73.cell? ⟨gb151, 2, none⟩ = some (.int .i64 a1_2) := bC BK151.out 2 rfl; have hcz74_3 : w73.cell? ⟨gb151, 3, none⟩ = some (.string a1_3) := bC BK151.out 3 rfl; have hcz74_4 : w73.cell? ⟨gb151, 4, none⟩ = some (.string a1_4) := bC BK151.out 4 rfl; have hcz74_5 : w73.cell? ⟨gb151, 5, none⟩ = some (.int .i64 a1_5) := bC BK151.out 5 rfl; have hfz74_0 := blk_frozen BK151.out 0; have hfz74_1 := blk_frozen BK151.out 1; have hfz74_2 := blk_frozen BK151.out 2; have hfz74_3 := blk_frozen BK151.out 3; have hfz74_4 := blk_frozen BK151.out 4; have hfz74_5 := blk_frozen BK151.out 5) | ((with_reducible refine gate_callee (f := 5) rfl ?_); refine goesL_ (some 15) rfl rfl Tryd.func5 (by kernel_rfl) rfl #[.agg #[.int .i64 a1_0, .int .i64 a1_1, .int .i64 a1_2, .string a1_3, .string a1_4, .int .i64 a1_5], .int .i64 t152] rfl (by (try simp only [lM, lC, lN]); first | done | rfl | (simp only [lD, lT]; rfl)) ?_; (with_reducible refine (laws_szSky.calls a1_0 a1_1 a1_2 a1_3 a1_4 a1_5 t152 t153 _ A12.out).mono ?_); rintro e w75 ⟨rfl, hb⟩; refine ⟨_, rfl, ?_⟩; have n0_ := A0 (blk_below (g := gb150) (o := .cells #[.int .i64 a0_0, .int .i64 a0_1, .int .i64 a0_2, .string a0_3, .string a0_4, .int .i64 a0_5] 23 (0, 0)) (by (with_reducible repeat (first | refine bN ?_ _ | refine bD ?_ | refine bA ?_ _)); exact BK150.out) hb); have n1_ := A0 (blk_below (g := gb151) (o := .cells #[.int .i64 a1_0, .int .i64 a1_1, .int .i64 a1_2, .string a1_3, .string a1_4, .int .i64 a1_5] 23 (0, 0)) (by (with_reducible repeat (first | refine bN ?_ _ | refine bD ?_ | refine bA ?_ _)); exact BK151.out) hb); have n2_ := A0 (below_step (by repeat (first | (with_reducible first | exact HB.out | apply wA | apply wN | apply wD | refine bS ?_ GE150.out | refine bS ?_ GE151.out) | exact HB.out)) hb); clear BK150; clear BK151; clear HB; have BK150 := n0_; have BK151 := n1_; have HB := n2_; clear n0_ n1_ n2_; (try clear hb); (try clear hb2); (try clear hk); (try clear hi)))
    have n0_ := A0 (blk_drew BK150.out)
    have n1_ := A0 (blk_drew BK151.out)
    have n2_ := A0 (below_drew1 HB.out)
    clear BK150
    clear BK151
    clear HB
    have BK150 := n0_
    have BK151 := n1_
    have HB := n2_
    clear n0_ n1_ n2_
    refine start_ (n := 7) (S := fun w' => w'.cell? ⟨gb150, 0, none⟩ = some (.int .i64 a0_0) ∧ w'.cell? ⟨gb150, 1, none⟩ = some (.int .i64 a0_1) ∧ w'.cell? ⟨gb150, 2, none⟩ = some (.int .i64 a0_2) ∧ w'.cell? ⟨gb150, 3, none⟩ = some (.string a0_3) ∧ w'.cell? ⟨gb150, 4, none⟩ = some (.string a0_4) ∧ w'.cell? ⟨gb150, 5, none⟩ = some (.int .i64 a0_5) ∧ w'.cell? ⟨gb151, 0, none⟩ = some (.int .i64 a1_0) ∧ w'.cell? ⟨gb151, 1, none⟩ = some (.int .i64 a1_1) ∧ w'.cell? ⟨gb151, 2, none⟩ = some (.int .i64 a1_2) ∧ w'.cell? ⟨gb151, 3, none⟩ = some (.string a1_3) ∧ w'.cell? ⟨gb151, 4, none⟩ = some (.string a1_4) ∧ w'.cell? ⟨gb151, 5, none⟩ = some (.int .i64 a1_5)) (ds := []) #[false, false, false, false, false, false, false] (by kernel_rfl) rfl rfl ⟨bC BK150.out 0 rfl, bC BK150.out 1 rfl, bC BK150.out 2 rfl, bC BK150.out 3 rfl, bC BK150.out 4 rfl, bC BK150.out 5 rfl, bC BK151.out 0 rfl, bC BK151.out 1 rfl, bC BK151.out 2 rfl, bC BK151.out 3 rfl, bC BK151.out 4 rfl, bC BK151.out 5 rfl⟩ (fun hHeld => ?_)
    generalize w75.drew = w76 at BK150 BK151 HB hHeld ⊢
    refine take_ (i := 0) (N := some 18) (v := ?_) (a' := ?_) #[true, false, false, false, false, false, false] rfl rfl (by kernel_rfl) (fun _ _ _ h => h) (Or.inl ⟨by rfl, ?_⟩) hHeld ?_ ?_
    rotate_left
    ·rintro w' ⟨s0, s1, s2, s3, s4, s5, s6, s7, s8, s9, s10, s11⟩
     go_simp
     with_reducible rfl
    rotate_left
    ·simp only [Act.put, sqA, sqZ, sqS, i64_w, i32_w]
     rfl
    refine take_ (i := 2) (N := some 20) (v := ?_) (a' := ?_) #[true, false, true, false, false, false, false] rfl rfl (by kernel_rfl) (fun _ _ _ h => h) (Or.inl ⟨by rfl, ?_⟩) hHeld ?_ ?_
    rotate_left
    ·rintro w' ⟨s0, s1, s2, s3, s4, s5, s6, s7, s8, s9, s10, s11⟩
     go_simp
     with_reducible rfl
    rotate_left
    ·simp only [Act.put, sqA, sqZ, sqS, i64_w, i32_w]
     rfl
    refine join_ (σ := Nat) 1 #[true, true, true, true, true, true, false] (fun s_ => [(19, .agg #[.int .i64 t154, .int .i64 t155, .int .i64 t156, .string t157, .string t158, .int .i64 t159]), (21, .agg #[.int .i64 t160, .int .i64 t161, .int .i64 t162, .string t163, .string t164, .int .i64 t165]), (22, .agg #[.int .i64 t166, .int .i64 t167, .int .i64 t168, .string t169, .string t170, .int .i64 t171]), (6, .pointer (some ⟨s_, 0, none⟩))]) (fun s_ w' => (w'.cell? ⟨gb150, 0, none⟩ = some (.int .i64 a0_0) ∧ w'.cell? ⟨gb150, 1, none⟩ = some (.int .i64 a0_1) ∧ w'.cell? ⟨gb150, 2, none⟩ = some (.int .i64 a0_2) ∧ w'.cell? ⟨gb150, 3, none⟩ = some (.string a0_3) ∧ w'.cell? ⟨gb150, 4, none⟩ = some (.string a0_4) ∧ w'.cell? ⟨gb150, 5, none⟩ = some (.int .i64 a0_5) ∧ w'.cell? ⟨gb151, 0, none⟩ = some (.int .i64 a1_0) ∧ w'.cell? ⟨gb151, 1, none⟩ = some (.int .i64 a1_1) ∧ w'.cell? ⟨gb151, 2, none⟩ = some (.int .i64 a1_2) ∧ w'.cell? ⟨gb151, 3, none⟩ = some (.string a1_3) ∧ w'.cell? ⟨gb151, 4, none⟩ = some (.string a1_4) ∧ w'.cell? ⟨gb151, 5, none⟩ = some (.int .i64 a1_5)) ∧ (w'.heap[gb150]? = some (.cells #[.int .i64 a0_0, .int .i64 a0_1, .int .i64 a0_2, .string a0_3, .string a0_4, .int .i64 a0_5] 23 (0, 0))) ∧ (w'.heap[gb151]? = some (.cells #[.int .i64 a1_0, .int .i64 a1_1, .int .i64 a1_2, .string a1_3, .string a1_4, .int .i64 a1_5] 23 (0, 0))) ∧ (w'.heap[s_]? = some (.cells #[.int .i64 0, .int .i64 0, .int .i64 0, .string (⟨#[]⟩ : ByteArray), .string (⟨#[]⟩ : ByteArray), .int .i64 0] 25 (0, 0))) ∧ (w.heap.size ≤ s_) ∧ (w.heap.size ≤ s_) ∧ (gb150 ≠ s_) ∧ (s_ ≠ gb150) ∧ (gb151 ≠ s_) ∧ (s_ ≠ gb151) ∧ (Below w.heap.size w w')) ?_ ?_
    rotate_left
    ·intro hCont
     refine two_ (i := 1) (j := 5) (Ni := some 19) (Nj := some 6) #[true, true, true, false, false, false, false] #[true, false, true, false, false, true, false] rfl rfl rfl rfl (by kernel_rfl) (by decide) (by decide) (fun K hK => ?_) (fun K hK => ?_)
     ·skip
      refine goes_ Tryd.func7 (by kernel_rfl) rfl #[.agg #[.int .i64 a0_0, .int .i64 a0_1, .int .i64 a0_2, .string a0_3, .string a0_4, .int .i64 a0_5]] (by rfl) rfl rfl (by (try simp only [lM, lC, lN]); first | done | rfl | (simp only [lD, lT]; rfl)) ?_
      with_reducible refine (laws_toSky.calls a0_0 a0_1 a0_2 a0_3 a0_4 a0_5 t154 t155 t156 t157 t158 t159 _ A21.out).mono ?_
      rintro e w77 ⟨rfl, hb⟩
      refine ⟨_, rfl, ?_⟩
      have n0_ := A0 (blk_below (g := gb150) (o := .cells #[.int .i64 a0_0, .int .i64 a0_1, .int .i64 a0_2, .string a0_3, .string a0_4, .int .i64 a0_5] 23 (0, 0)) (by (with_reducible repeat (first | refine bN ?_ _ | refine bD ?_ | refine bA ?_ _)); exact BK150.out) hb)
      have n1_ := A0 (blk_below (g := gb151) (o := .cells #[.int .i64 a1_0, .int .i64 a1_1, .int .i64 a1_2, .string a1_3, .string a1_4, .int .i64 a1_5] 23 (0, 0)) (by (with_reducible repeat (first | refine bN ?_ _ | refine bD ?_ | refine bA ?_ _)); exact BK151.out) hb)
      have n2_ := A0 (below_step (by repeat (first | (with_reducible first | exact HB.out | apply wA | apply wN | apply wD | refine bS ?_ GE150.out | refine bS ?_ GE151.out) | exact HB.out)) hb)
      clear BK150
      clear BK151
      clear HB
      have BK150 := n0_
      have BK151 := n1_
      have HB := n2_
      clear n0_ n1_ n2_
      (try clear hb)
      refine hK.out _ _ ⟨bC BK150.out 0 rfl, bC BK150.out 1 rfl, bC BK150.out 2 rfl, bC BK150.out 3 rfl, bC BK150.out 4 rfl, bC BK150.out 5 rfl, bC BK151.out 0 rfl, bC BK151.out 1 rfl, bC BK151.out 2 rfl, bC BK151.out 3 rfl, bC BK151.out 4 rfl, bC BK151.out 5 rfl⟩ (fun hHeld => ?_)
      clear hK K
      refine norm_ (a' := ?_) ?_ ?_
      rotate_left
      ·show Act.put _ (some 19) _ = _
       simp only [Act.put, sqA, sqZ, sqS, i64_w, i32_w]
       rfl
      refine two_ (i := 3) (j := 5) (Ni := some 21) (Nj := some 6) #[true, true, true, true, false, false, false] #[true, true, true, false, false, true, false] rfl rfl rfl rfl (by kernel_rfl) (by decide) (by decide) (fun K hK => ?_) (fun K hK => ?_)
      ·skip
       refine goes_ Tryd.func7 (by kernel_rfl) rfl #[.agg #[.int .i64 a1_0, .int .i64 a1_1, .int .i64 a1_2, .string a1_3, .string a1_4, .int .i64 a1_5]] (by rfl) rfl rfl (by (try simp only [lM, lC, lN]); first | done | rfl | (simp only [lD, lT]; rfl)) ?_
       with_reducible refine (laws_toSky.calls a1_0 a1_1 a1_2 a1_3 a1_4 a1_5 t160 t161 t162 t163 t164 t165 _ A22.out).mono ?_
       rintro e w78 ⟨rfl, hb⟩
       refine ⟨_, rfl, ?_⟩
       have n0_ := A0 (blk_below (g := gb150) (o := .cells #[.int .i64 a0_0, .int .i64 a0_1, .int .i64 a0_2, .string a0_3, .string a0_4, .int .i64 a0_5] 23 (0, 0)) (by (with_reducible repeat (first | refine bN ?_ _ | refine bD ?_ | refine bA ?_ _)); exact BK150.out) hb)
       have n1_ := A0 (blk_below (g := gb151) (o := .cells #[.int .i64 a1_0, .int .i64 a1_1, .int .i64 a1_2, .string a1_3, .string a1_4, .int .i64 a1_5] 23 (0, 0)) (by (with_reducible repeat (first | refine bN ?_ _ | refine bD ?_ | refine bA ?_ _)); exact BK151.out) hb)
       have n2_ := A0 (below_step (by repeat (first | (with_reducible first | exact HB.out | apply wA | apply wN | apply wD | refine bS ?_ GE150.out | refine bS ?_ GE151.out) | exact HB.out)) hb)
       clear BK150
       clear BK151
       clear HB
       have BK150 := n0_
       have BK151 := n1_
       have HB := n2_
       clear n0_ n1_ n2_
       (try clear hb)
       refine hK.out _ _ ⟨bC BK150.out 0 rfl, bC BK150.out 1 rfl, bC BK150.out 2 rfl, bC BK150.out 3 rfl, bC BK150.out 4 rfl, bC BK150.out 5 rfl, bC BK151.out 0 rfl, bC BK151.out 1 rfl, bC BK151.out 2 rfl, bC BK151.out 3 rfl, bC BK151.out 4 rfl, bC BK151.out 5 rfl⟩ (fun hHeld => ?_)
       clear hK K
       refine norm_ (a' := ?_) ?_ ?_
       rotate_left
       ·show Act.put _ (some 21) _ = _
        simp only [Act.put, sqA, sqZ, sqS, i64_w, i32_w]
        rfl
       refine two_ (i := 4) (j := 5) (Ni := some 22) (Nj := some 6) #[true, true, true, true, true, false, false] #[true, true, true, true, false, true, false] rfl rfl rfl rfl (by kernel_rfl) (by decide) (by decide) (fun K hK => ?_) (fun K hK => ?_)
       ·skip
        refine goes_ Tryd.func6 (by kernel_rfl) rfl #[.agg #[.int .i64 t154, .int .i64 t155, .int .i64 t156, .string t157, .string t158, .int .i64 t159], .agg #[.int .i64 t160, .int .i64 t161, .int .i64 t162, .string t163, .string t164, .int .i64 t165]] (by rfl) rfl rfl (by (try simp only [lM, lC, lN]); first | done | rfl | (simp only [lD, lT]; rfl)) ?_
        with_reducible refine (spec_Laid.calls k t154 t155 t156 t157 t158 t159 t160 t161 t162 t163 t164 t165 t166 t167 t168 t169 t170 t171 _ A23.out).mono ?_
        rintro e w79 ⟨rfl, hb⟩
        refine ⟨_, rfl, ?_⟩
        have n0_ := A0 (blk_below (g := gb150) (o := .cells #[.int .i64 a0_0, .int .i64 a0_1, .int .i64 a0_2, .string a0_3, .string a0_4, .int .i64 a0_5] 23 (0, 0)) (by (with_reducible repeat (first | refine bN ?_ _ | refine bD ?_ | refine bA ?_ _)); exact BK150.out) hb)
        have n1_ := A0 (blk_below (g := gb151) (o := .cells #[.int .i64 a1_0, .int .i64 a1_1, .int .i64 a1_2, .string a1_3, .string a1_4, .int .i64 a1_5] 23 (0, 0)) (by (with_reducible repeat (first | refine bN ?_ _ | refine bD ?_ | refine bA ?_ _)); exact BK151.out) hb)
        have n2_ := A0 (below_step (by repeat (first | (with_reducible first | exact HB.out | apply wA | apply wN | apply wD | refine bS ?_ GE150.out | refine bS ?_ GE151.out) | exact HB.out)) hb)
        clear BK150
        clear BK151
        clear HB
        have BK150 := n0_
        have BK151 := n1_
        have HB := n2_
        clear n0_ n1_ n2_
        (try clear hb)
        refine hK.out _ _ ⟨bC BK150.out 0 rfl, bC BK150.out 1 rfl, bC BK150.out 2 rfl, bC BK150.out 3 rfl, bC BK150.out 4 rfl, bC BK150.out 5 rfl, bC BK151.out 0 rfl, bC BK151.out 1 rfl, bC BK151.out 2 rfl, bC BK151.out 3 rfl, bC BK151.out 4 rfl, bC BK151.out 5 rfl⟩ (fun hHeld => ?_)
        clear hK K
        refine norm_ (a' := ?_) ?_ ?_
        rotate_left
        ·show Act.put _ (some 22) _ = _
         simp only [Act.put, sqA, sqZ, sqS, i64_w, i32_w]
         rfl
        refine one_ (i := 5) (N := some 6) #[true, true, true, true, true, true, false] rfl rfl (by kernel_rfl) (by decide) (fun K hK => ?_)
        refine box_step ?hg (N := 6) ?hd (cs := #[.int .i64 0, .int .i64 0, .int .i64 0, .string (⟨#[]⟩ : ByteArray), .string (⟨#[]⟩ : ByteArray), .int .i64 0]) (t := 25) ?hr ?_; (case hd => rfl); (case hg => rfl); (case hr => first | (go_simp; done) | (go_simp; rfl))
        intro gb172 hg w80 hbox hb
        have n0_ := A0 (blk_below (g := gb150) (o := .cells #[.int .i64 a0_0, .int .i64 a0_1, .int .i64 a0_2, .string a0_3, .string a0_4, .int .i64 a0_5] 23 (0, 0)) (by (with_reducible repeat (first | refine bN ?_ _ | refine bD ?_ | refine bA ?_ _)); exact BK150.out) hb)
        have n1_ := A0 (blk_below (g := gb151) (o := .cells #[.int .i64 a1_0, .int .i64 a1_1, .int .i64 a1_2, .string a1_3, .string a1_4, .int .i64 a1_5] 23 (0, 0)) (by (with_reducible repeat (first | refine bN ?_ _ | refine bD ?_ | refine bA ?_ _)); exact BK151.out) hb)
        have n2_ := A0 (below_step (by repeat (first | (with_reducible first | exact HB.out | apply wA | apply wN | apply wD | refine bS ?_ GE150.out | refine bS ?_ GE151.out) | exact HB.out)) hb)
        have n3_ := A0 (hbox)
        have n4_ := A0 ((by rw [hg]; exact (below_size (by repeat (first | (with_reducible first | exact HB.out | apply wA | apply wN | apply wD | refine bS ?_ GE150.out | refine bS ?_ GE151.out) | exact HB.out))) : w.heap.size ≤ gb172))
        have n5_ := A0 ((by rw [hg]; exact (below_size (by repeat (first | (with_reducible first | exact HB.out | apply wA | apply wN | apply wD | refine bS ?_ GE150.out | refine bS ?_ GE151.out) | exact HB.out))) : w.heap.size ≤ gb172))
        have n6_ := A0 ((by rw [hg]; exact Nat.ne_of_lt (blk_lt (g := gb150) (o := .cells #[.int .i64 a0_0, .int .i64 a0_1, .int .i64 a0_2, .string a0_3, .string a0_4, .int .i64 a0_5] 23 (0, 0)) (by (with_reducible repeat (first | refine bN ?_ _ | refine bD ?_ | refine bA ?_ _)); exact BK150.out)) : gb150 ≠ gb172))
        have n7_ := A0 ((by rw [hg]; exact Nat.ne_of_gt (blk_lt (g := gb150) (o := .cells #[.int .i64 a0_0, .int .i64 a0_1, .int .i64 a0_2, .string a0_3, .string a0_4, .int .i64 a0_5] 23 (0, 0)) (by (with_reducible repeat (first | refine bN ?_ _ | refine bD ?_ | refine bA ?_ _)); exact BK150.out)) : gb172 ≠ gb150))
        have n8_ := A0 ((by rw [hg]; exact Nat.ne_of_lt (blk_lt (g := gb151) (o := .cells #[.int .i64 a1_0, .int .i64 a1_1, .int .i64 a1_2, .string a1_3, .string a1_4, .int .i64 a1_5] 23 (0, 0)) (by (with_reducible repeat (first | refine bN ?_ _ | refine bD ?_ | refine bA ?_ _)); exact BK151.out)) : gb151 ≠ gb172))
        have n9_ := A0 ((by rw [hg]; exact Nat.ne_of_gt (blk_lt (g := gb151) (o := .cells #[.int .i64 a1_0, .int .i64 a1_1, .int .i64 a1_2, .string a1_3, .string a1_4, .int .i64 a1_5] 23 (0, 0)) (by (with_reducible repeat (first | refine bN ?_ _ | refine bD ?_ | refine bA ?_ _)); exact BK151.out)) : gb172 ≠ gb151))
        clear BK150
        clear BK151
        clear HB
        have BK150 := n0_
        have BK151 := n1_
        have HB := n2_
        have BK172 := n3_
        have GW172 := n4_
        have GE172 := n5_
        have NB150_172 := n6_
        have NB172_150 := n7_
        have NB151_172 := n8_
        have NB172_151 := n9_
        clear n0_ n1_ n2_ n3_ n4_ n5_ n6_ n7_ n8_ n9_
        clear hb hbox hg
        refine hK.out _ _ ⟨bC BK150.out 0 rfl, bC BK150.out 1 rfl, bC BK150.out 2 rfl, bC BK150.out 3 rfl, bC BK150.out 4 rfl, bC BK150.out 5 rfl, bC BK151.out 0 rfl, bC BK151.out 1 rfl, bC BK151.out 2 rfl, bC BK151.out 3 rfl, bC BK151.out 4 rfl, bC BK151.out 5 rfl⟩ (fun hHeld => ?_)
        clear hK K
        refine norm_ (a' := ?_) ?_ ?_
        rotate_left
        ·show Act.put _ (some 6) _ = _
         simp only [Act.put, sqA, sqZ, sqS, i64_w, i32_w]
         rfl
        exact norm_ (by simp only [putAll, Act.put, sqA, sqZ, sqS]) (hCont (gb172) _ ⟨hHeld, (by (with_reducible repeat (first | refine bN ?_ _ | refine bD ?_ | refine bA ?_ _)); exact BK150.out), (by (with_reducible repeat (first | refine bN ?_ _ | refine bD ?_ | refine bA ?_ _)); exact BK151.out), (by (with_reducible repeat (first | refine bN ?_ _ | refine bD ?_ | refine bA ?_ _)); exact BK172.out), GW172.out, GE172.out, NB150_172.out, NB172_150.out, NB151_172.out, NB172_151.out, (by repeat (first | (with_reducible first | exact HB.out | apply wA | apply wN | apply wD | refine bS ?_ GE150.out | refine bS ?_ GE151.out | refine bS ?_ GE172.out) | exact HB.out))⟩)
       ·skip
        refine box_step ?hg (N := 6) ?hd (cs := #[.int .i64 0, .int .i64 0, .int .i64 0, .string (⟨#[]⟩ : ByteArray), .string (⟨#[]⟩ : ByteArray), .int .i64 0]) (t := 25) ?hr ?_; (case hd => rfl); (case hg => rfl); (case hr => first | (go_simp; done) | (go_simp; rfl))
        intro gb172 hg w79 hbox hb
        have n0_ := A0 (blk_below (g := gb150) (o := .cells #[.int .i64 a0_0, .int .i64 a0_1, .int .i64 a0_2, .string a0_3, .string a0_4, .int .i64 a0_5] 23 (0, 0)) (by (with_reducible repeat (first | refine bN ?_ _ | refine bD ?_ | refine bA ?_ _)); exact BK150.out) hb)
        have n1_ := A0 (blk_below (g := gb151) (o := .cells #[.int .i64 a1_0, .int .i64 a1_1, .int .i64 a1_2, .string a1_3, .string a1_4, .int .i64 a1_5] 23 (0, 0)) (by (with_reducible repeat (first | refine bN ?_ _ | refine bD ?_ | refine bA ?_ _)); exact BK151.out) hb)
        have n2_ := A0 (below_step (by repeat (first | (with_reducible first | exact HB.out | apply wA | apply wN | apply wD | refine bS ?_ GE150.out | refine bS ?_ GE151.out) | exact HB.out)) hb)
        have n3_ := A0 (hbox)
        have n4_ := A0 ((by rw [hg]; exact (below_size (by repeat (first | (with_reducible first | exact HB.out | apply wA | apply wN | apply wD | refine bS ?_ GE150.out | refine bS ?_ GE151.out) | exact HB.out))) : w.heap.size ≤ gb172))
        have n5_ := A0 ((by rw [hg]; exact (below_size (by repeat (first | (with_reducible first | exact HB.out | apply wA | apply wN | apply wD | refine bS ?_ GE150.out | refine bS ?_ GE151.out) | exact HB.out))) : w.heap.size ≤ gb172))
        have n6_ := A0 ((by rw [hg]; exact Nat.ne_of_lt (blk_lt (g := gb150) (o := .cells #[.int .i64 a0_0, .int .i64 a0_1, .int .i64 a0_2, .string a0_3, .string a0_4, .int .i64 a0_5] 23 (0, 0)) (by (with_reducible repeat (first | refine bN ?_ _ | refine bD ?_ | refine bA ?_ _)); exact BK150.out)) : gb150 ≠ gb172))
        have n7_ := A0 ((by rw [hg]; exact Nat.ne_of_gt (blk_lt (g := gb150) (o := .cells #[.int .i64 a0_0, .int .i64 a0_1, .int .i64 a0_2, .string a0_3, .string a0_4, .int .i64 a0_5] 23 (0, 0)) (by (with_reducible repeat (first | refine bN ?_ _ | refine bD ?_ | refine bA ?_ _)); exact BK150.out)) : gb172 ≠ gb150))
        have n8_ := A0 ((by rw [hg]; exact Nat.ne_of_lt (blk_lt (g := gb151) (o := .cells #[.int .i64 a1_0, .int .i64 a1_1, .int .i64 a1_2, .string a1_3, .string a1_4, .int .i64 a1_5] 23 (0, 0)) (by (with_reducible repeat (first | refine bN ?_ _ | refine bD ?_ | refine bA ?_ _)); exact BK151.out)) : gb151 ≠ gb172))
        have n9_ := A0 ((by rw [hg]; exact Nat.ne_of_gt (blk_lt (g := gb151) (o := .cells #[.int .i64 a1_0, .int .i64 a1_1, .int .i64 a1_2, .string a1_3, .string a1_4, .int .i64 a1_5] 23 (0, 0)) (by (with_reducible repeat (first | refine bN ?_ _ | refine bD ?_ | refine bA ?_ _)); exact BK151.out)) : gb172 ≠ gb151))
        clear BK150
        clear BK151
        clear HB
        have BK150 := n0_
        have BK151 := n1_
        have HB := n2_
        have BK172 := n3_
        have GW172 := n4_
        have GE172 := n5_
        have NB150_172 := n6_
        have NB172_150 := n7_
        have NB151_172 := n8_
        have NB172_151 := n9_
        clear n0_ n1_ n2_ n3_ n4_ n5_ n6_ n7_ n8_ n9_
        clear hb hbox hg
        refine hK.out _ _ ⟨bC BK150.out 0 rfl, bC BK150.out 1 rfl, bC BK150.out 2 rfl, bC BK150.out 3 rfl, bC BK150.out 4 rfl, bC BK150.out 5 rfl, bC BK151.out 0 rfl, bC BK151.out 1 rfl, bC BK151.out 2 rfl, bC BK151.out 3 rfl, bC BK151.out 4 rfl, bC BK151.out 5 rfl⟩ (fun hHeld => ?_)
        clear hK K
        refine norm_ (a' := ?_) ?_ ?_
        rotate_left
        ·show Act.put _ (some 6) _ = _
         simp only [Act.put, sqA, sqZ, sqS, i64_w, i32_w]
         rfl
        refine one_ (i := 4) (N := some 22) #[true, true, true, true, true, true, false] rfl rfl (by kernel_rfl) (by decide) (fun K hK => ?_)
        refine goes_ Tryd.func6 (by kernel_rfl) rfl #[.agg #[.int .i64 t154, .int .i64 t155, .int .i64 t156, .string t157, .string t158, .int .i64 t159], .agg #[.int .i64 t160, .int .i64 t161, .int .i64 t162, .string t163, .string t164, .int .i64 t165]] (by rfl) rfl rfl (by (try simp only [lM, lC, lN]); first | done | rfl | (simp only [lD, lT]; rfl)) ?_
        with_reducible refine (spec_Laid.calls k t154 t155 t156 t157 t158 t159 t160 t161 t162 t163 t164 t165 t166 t167 t168 t169 t170 t171 _ A23.out).mono ?_
        rintro e w80 ⟨rfl, hb⟩
        refine ⟨_, rfl, ?_⟩
        have n0_ := A0 (blk_below (g := gb150) (o := .cells #[.int .i64 a0_0, .int .i64 a0_1, .int .i64 a0_2, .string a0_3, .string a0_4, .int .i64 a0_5] 23 (0, 0)) (by (with_reducible repeat (first | refine bN ?_ _ | refine bD ?_ | refine bA ?_ _)); exact BK150.out) hb)
        have n1_ := A0 (blk_below (g := gb151) (o := .cells #[.int .i64 a1_0, .int .i64 a1_1, .int .i64 a1_2, .string a1_3, .string a1_4, .int .i64 a1_5] 23 (0, 0)) (by (with_reducible repeat (first | refine bN ?_ _ | refine bD ?_ | refine bA ?_ _)); exact BK151.out) hb)
        have n2_ := A0 (blk_below (g := gb172) (o := .cells #[.int .i64 0, .int .i64 0, .int .i64 0, .string (⟨#[]⟩ : ByteArray), .string (⟨#[]⟩ : ByteArray), .int .i64 0] 25 (0, 0)) (by (with_reducible repeat (first | refine bN ?_ _ | refine bD ?_ | refine bA ?_ _)); exact BK172.out) hb)
        have n3_ := A0 (below_step (by repeat (first | (with_reducible first | exact HB.out | apply wA | apply wN | apply wD | refine bS ?_ GE150.out | refine bS ?_ GE151.out | refine bS ?_ GE172.out) | exact HB.out)) hb)
        clear BK150
        clear BK151
        clear BK172
        clear HB
        have BK150 := n0_
        have BK151 := n1_
        have BK172 := n2_
        have HB := n3_
        clear n0_ n1_ n2_ n3_
        (try clear hb)
        refine hK.out _ _ ⟨bC BK150.out 0 rfl, bC BK150.out 1 rfl, bC BK150.out 2 rfl, bC BK150.out 3 rfl, bC BK150.out 4 rfl, bC BK150.out 5 rfl, bC BK151.out 0 rfl, bC BK151.out 1 rfl, bC BK151.out 2 rfl, bC BK151.out 3 rfl, bC BK151.out 4 rfl, bC BK151.out 5 rfl⟩ (fun hHeld => ?_)
        clear hK K
        refine norm_ (a' := ?_) ?_ ?_
        rotate_left
        ·show Act.put _ (some 22) _ = _
         simp only [Act.put, sqA, sqZ, sqS, i64_w, i32_w]
         rfl
        exact norm_ (by simp only [putAll, Act.put, sqA, sqZ, sqS]) (hCont (gb172) _ ⟨hHeld, (by (with_reducible repeat (first | refine bN ?_ _ | refine bD ?_ | refine bA ?_ _)); exact BK150.out), (by (with_reducible repeat (first | refine bN ?_ _ | refine bD ?_ | refine bA ?_ _)); exact BK151.out), (by (with_reducible repeat (first | refine bN ?_ _ | refine bD ?_ | refine bA ?_ _)); exact BK172.out), GW172.out, GE172.out, NB150_172.out, NB172_150.out, NB151_172.out, NB172_151.out, (by repeat (first | (with_reducible first | exact HB.out | apply wA | apply wN | apply wD | refine bS ?_ GE150.out | refine bS ?_ GE151.out | refine bS ?_ GE172.out) | exact HB.out))⟩)
      ·skip
       refine box_step ?hg (N := 6) ?hd (cs := #[.int .i64 0, .int .i64 0, .int .i64 0, .string (⟨#[]⟩ : ByteArray), .string (⟨#[]⟩ : ByteArray), .int .i64 0]) (t := 25) ?hr ?_; (case hd => rfl); (case hg => rfl); (case hr => first | (go_simp; done) | (go_simp; rfl))
       intro gb172 hg w78 hbox hb
       have n0_ := A0 (blk_below (g := gb150) (o := .cells #[.int .i64 a0_0, .int .i64 a0_1, .int .i64 a0_2, .string a0_3, .string a0_4, .int .i64 a0_5] 23 (0, 0)) (by (with_reducible repeat (first | refine bN ?_ _ | refine bD ?_ | refine bA ?_ _)); exact BK150.out) hb)
       have n1_ := A0 (blk_below (g := gb151) (o := .cells #[.int .i64 a1_0, .int .i64 a1_1, .int .i64 a1_2, .string a1_3, .string a1_4, .int .i64 a1_5] 23 (0, 0)) (by (with_reducible repeat (first | refine bN ?_ _ | refine bD ?_ | refine bA ?_ _)); exact BK151.out) hb)
       have n2_ := A0 (below_step (by repeat (first | (with_reducible first | exact HB.out | apply wA | apply wN | apply wD | refine bS ?_ GE150.out | refine bS ?_ GE151.out) | exact HB.out)) hb)
       have n3_ := A0 (hbox)
       have n4_ := A0 ((by rw [hg]; exact (below_size (by repeat (first | (with_reducible first | exact HB.out | apply wA | apply wN | apply wD | refine bS ?_ GE150.out | refine bS ?_ GE151.out) | exact HB.out))) : w.heap.size ≤ gb172))
       have n5_ := A0 ((by rw [hg]; exact (below_size (by repeat (first | (with_reducible first | exact HB.out | apply wA | apply wN | apply wD | refine bS ?_ GE150.out | refine bS ?_ GE151.out) | exact HB.out))) : w.heap.size ≤ gb172))
       have n6_ := A0 ((by rw [hg]; exact Nat.ne_of_lt (blk_lt (g := gb150) (o := .cells #[.int .i64 a0_0, .int .i64 a0_1, .int .i64 a0_2, .string a0_3, .string a0_4, .int .i64 a0_5] 23 (0, 0)) (by (with_reducible repeat (first | refine bN ?_ _ | refine bD ?_ | refine bA ?_ _)); exact BK150.out)) : gb150 ≠ gb172))
       have n7_ := A0 ((by rw [hg]; exact Nat.ne_of_gt (blk_lt (g := gb150) (o := .cells #[.int .i64 a0_0, .int .i64 a0_1, .int .i64 a0_2, .string a0_3, .string a0_4, .int .i64 a0_5] 23 (0, 0)) (by (with_reducible repeat (first | refine bN ?_ _ | refine bD ?_ | refine bA ?_ _)); exact BK150.out)) : gb172 ≠ gb150))
       have n8_ := A0 ((by rw [hg]; exact Nat.ne_of_lt (blk_lt (g := gb151) (o := .cells #[.int .i64 a1_0, .int .i64 a1_1, .int .i64 a1_2, .string a1_3, .string a1_4, .int .i64 a1_5] 23 (0, 0)) (by (with_reducible repeat (first | refine bN ?_ _ | refine bD ?_ | refine bA ?_ _)); exact BK151.out)) : gb151 ≠ gb172))
       have n9_ := A0 ((by rw [hg]; exact Nat.ne_of_gt (blk_lt (g := gb151) (o := .cells #[.int .i64 a1_0, .int .i64 a1_1, .int .i64 a1_2, .string a1_3, .string a1_4, .int .i64 a1_5] 23 (0, 0)) (by (with_reducible repeat (first | refine bN ?_ _ | refine bD ?_ | refine bA ?_ _)); exact BK151.out)) : gb172 ≠ gb151))
       clear BK150
       clear BK151
       clear HB
       have BK150 := n0_
       have BK151 := n1_
       have HB := n2_
       have BK172 := n3_
       have GW172 := n4_
       have GE172 := n5_
       have NB150_172 := n6_
       have NB172_150 := n7_
       have NB151_172 := n8_
       have NB172_151 := n9_
       clear n0_ n1_ n2_ n3_ n4_ n5_ n6_ n7_ n8_ n9_
       clear hb hbox hg
       refine hK.out _ _ ⟨bC BK150.out 0 rfl, bC BK150.out 1 rfl, bC BK150.out 2 rfl, bC BK150.out 3 rfl, bC BK150.out 4 rfl, bC BK150.out 5 rfl, bC BK151.out 0 rfl, bC BK151.out 1 rfl, bC BK151.out 2 rfl, bC BK151.out 3 rfl, bC BK151.out 4 rfl, bC BK151.out 5 rfl⟩ (fun hHeld => ?_)
       clear hK K
       refine norm_ (a' := ?_) ?_ ?_
       rotate_left
       ·show Act.put _ (some 6) _ = _
        simp only [Act.put, sqA, sqZ, sqS, i64_w, i32_w]
        rfl
       refine one_ (i := 3) (N := some 21) #[true, true, true, true, false, true, false] rfl rfl (by kernel_rfl) (by decide) (fun K hK => ?_)
       refine goes_ Tryd.func7 (by kernel_rfl) rfl #[.agg #[.int .i64 a1_0, .int .i64 a1_1, .int .i64 a1_2, .string a1_3, .string a1_4, .int .i64 a1_5]] (by rfl) rfl rfl (by (try simp only [lM, lC, lN]); first | done | rfl | (simp only [lD, lT]; rfl)) ?_
       with_reducible refine (laws_toSky.calls a1_0 a1_1 a1_2 a1_3 a1_4 a1_5 t160 t161 t162 t163 t164 t165 _ A22.out).mono ?_
       rintro e w79 ⟨rfl, hb⟩
       refine ⟨_, rfl, ?_⟩
       have n0_ := A0 (blk_below (g := gb150) (o := .cells #[.int .i64 a0_0, .int .i64 a0_1, .int .i64 a0_2, .string a0_3, .string a0_4, .int .i64 a0_5] 23 (0, 0)) (by (with_reducible repeat (first | refine bN ?_ _ | refine bD ?_ | refine bA ?_ _)); exact BK150.out) hb)
       have n1_ := A0 (blk_below (g := gb151) (o := .cells #[.int .i64 a1_0, .int .i64 a1_1, .int .i64 a1_2, .string a1_3, .string a1_4, .int .i64 a1_5] 23 (0, 0)) (by (with_reducible repeat (first | refine bN ?_ _ | refine bD ?_ | refine bA ?_ _)); exact BK151.out) hb)
       have n2_ := A0 (blk_below (g := gb172) (o := .cells #[.int .i64 0, .int .i64 0, .int .i64 0, .string (⟨#[]⟩ : ByteArray), .string (⟨#[]⟩ : ByteArray), .int .i64 0] 25 (0, 0)) (by (with_reducible repeat (first | refine bN ?_ _ | refine bD ?_ | refine bA ?_ _)); exact BK172.out) hb)
       have n3_ := A0 (below_step (by repeat (first | (with_reducible first | exact HB.out | apply wA | apply wN | apply wD | refine bS ?_ GE150.out | refine bS ?_ GE151.out | refine bS ?_ GE172.out) | exact HB.out)) hb)
       clear BK150
       clear BK151
       clear BK172
       clear HB
       have BK150 := n0_
       have BK151 := n1_
       have BK172 := n2_
       have HB := n3_
       clear n0_ n1_ n2_ n3_
       (try clear hb)
       refine hK.out _ _ ⟨bC BK150.out 0 rfl, bC BK150.out 1 rfl, bC BK150.out 2 rfl, bC BK150.out 3 rfl, bC BK150.out 4 rfl, bC BK150.out 5 rfl, bC BK151.out 0 rfl, bC BK151.out 1 rfl, bC BK151.out 2 rfl, bC BK151.out 3 rfl, bC BK151.out 4 rfl, bC BK151.out 5 rfl⟩ (fun hHeld => ?_)
       clear hK K
       refine norm_ (a' := ?_) ?_ ?_
       rotate_left
       ·show Act.put _ (some 21) _ = _
        simp only [Act.put, sqA, sqZ, sqS, i64_w, i32_w]
        rfl
       refine one_ (i := 4) (N := some 22) #[true, true, true, true, true, true, false] rfl rfl (by kernel_rfl) (by decide) (fun K hK => ?_)
       refine goes_ Tryd.func6 (by kernel_rfl) rfl #[.agg #[.int .i64 t154, .int .i64 t155, .int .i64 t156, .string t157, .string t158, .int .i64 t159], .agg #[.int .i64 t160, .int .i64 t161, .int .i64 t162, .string t163, .string t164, .int .i64 t165]] (by rfl) rfl rfl (by (try simp only [lM, lC, lN]); first | done | rfl | (simp only [lD, lT]; rfl)) ?_
       with_reducible refine (spec_Laid.calls k t154 t155 t156 t157 t158 t159 t160 t161 t162 t163 t164 t165 t166 t167 t168 t169 t170 t171 _ A23.out).mono ?_
       rintro e w80 ⟨rfl, hb⟩
       refine ⟨_, rfl, ?_⟩
       have n0_ := A0 (blk_below (g := gb150) (o := .cells #[.int .i64 a0_0, .int .i64 a0_1, .int .i64 a0_2, .string a0_3, .string a0_4, .int .i64 a0_5] 23 (0, 0)) (by (with_reducible repeat (first | refine bN ?_ _ | refine bD ?_ | refine bA ?_ _)); exact BK150.out) hb)
       have n1_ := A0 (blk_below (g := gb151) (o := .cells #[.int .i64 a1_0, .int .i64 a1_1, .int .i64 a1_2, .string a1_3, .string a1_4, .int .i64 a1_5] 23 (0, 0)) (by (with_reducible repeat (first | refine bN ?_ _ | refine bD ?_ | refine bA ?_ _)); exact BK151.out) hb)
       have n2_ := A0 (blk_below (g := gb172) (o := .cells #[.int .i64 0, .int .i64 0, .int .i64 0, .string (⟨#[]⟩ : ByteArray), .string (⟨#[]⟩ : ByteArray), .int .i64 0] 25 (0, 0)) (by (with_reducible repeat (first | refine bN ?_ _ | refine bD ?_ | refine bA ?_ _)); exact BK172.out) hb)
       have n3_ := A0 (below_step (by repeat (first | (with_reducible first | exact HB.out | apply wA | apply wN | apply wD | refine bS ?_ GE150.out | refine bS ?_ GE151.out | refine bS ?_ GE172.out) | exact HB.out)) hb)
       clear BK150
       clear BK151
       clear BK172
       clear HB
       have BK150 := n0_
       have BK151 := n1_
       have BK172 := n2_
       have HB := n3_
       clear n0_ n1_ n2_ n3_
       (try clear hb)
       refine hK.out _ _ ⟨bC BK150.out 0 rfl, bC BK150.out 1 rfl, bC BK150.out 2 rfl, bC BK150.out 3 rfl, bC BK150.out 4 rfl, bC BK150.out 5 rfl, bC BK151.out 0 rfl, bC BK151.out 1 rfl, bC BK151.out 2 rfl, bC BK151.out 3 rfl, bC BK151.out 4 rfl, bC BK151.out 5 rfl⟩ (fun hHeld => ?_)
       clear hK K
       refine norm_ (a' := ?_) ?_ ?_
       rotate_left
       ·show Act.put _ (some 22) _ = _
        simp only [Act.put, sqA, sqZ, sqS, i64_w, i32_w]
        rfl
       exact norm_ (by simp only [putAll, Act.put, sqA, sqZ, sqS]) (hCont (gb172) _ ⟨hHeld, (by (with_reducible repeat (first | refine bN ?_ _ | refine bD ?_ | refine bA ?_ _)); exact BK150.out), (by (with_reducible repeat (first | refine bN ?_ _ | refine bD ?_ | refine bA ?_ _)); exact BK151.out), (by (with_reducible repeat (first | refine bN ?_ _ | refine bD ?_ | refine bA ?_ _)); exact BK172.out), GW172.out, GE172.out, NB150_172.out, NB172_150.out, NB151_172.out, NB172_151.out, (by repeat (first | (with_reducible first | exact HB.out | apply wA | apply wN | apply wD | refine bS ?_ GE150.out | refine bS ?_ GE151.out | refine bS ?_ GE172.out) | exact HB.out))⟩)
     ·skip
      refine box_step ?hg (N := 6) ?hd (cs := #[.int .i64 0, .int .i64 0, .int .i64 0, .string (⟨#[]⟩ : ByteArray), .string (⟨#[]⟩ : ByteArray), .int .i64 0]) (t := 25) ?hr ?_; (case hd => rfl); (case hg => rfl); (case hr => first | (go_simp; done) | (go_simp; rfl))
      intro gb172 hg w77 hbox hb
      have n0_ := A0 (blk_below (g := gb150) (o := .cells #[.int .i64 a0_0, .int .i64 a0_1, .int .i64 a0_2, .string a0_3, .string a0_4, .int .i64 a0_5] 23 (0, 0)) (by (with_reducible repeat (first | refine bN ?_ _ | refine bD ?_ | refine bA ?_ _)); exact BK150.out) hb)
      have n1_ := A0 (blk_below (g := gb151) (o := .cells #[.int .i64 a1_0, .int .i64 a1_1, .int .i64 a1_2, .string a1_3, .string a1_4, .int .i64 a1_5] 23 (0, 0)) (by (with_reducible repeat (first | refine bN ?_ _ | refine bD ?_ | refine bA ?_ _)); exact BK151.out) hb)
      have n2_ := A0 (below_step (by repeat (first | (with_reducible first | exact HB.out | apply wA | apply wN | apply wD | refine bS ?_ GE150.out | refine bS ?_ GE151.out) | exact HB.out)) hb)
      have n3_ := A0 (hbox)
      have n4_ := A0 ((by rw [hg]; exact (below_size (by repeat (first | (with_reducible first | exact HB.out | apply wA | apply wN | apply wD | refine bS ?_ GE150.out | refine bS ?_ GE151.out) | exact HB.out))) : w.heap.size ≤ gb172))
      have n5_ := A0 ((by rw [hg]; exact (below_size (by repeat (first | (with_reducible first | exact HB.out | apply wA | apply wN | apply wD | refine bS ?_ GE150.out | refine bS ?_ GE151.out) | exact HB.out))) : w.heap.size ≤ gb172))
      have n6_ := A0 ((by rw [hg]; exact Nat.ne_of_lt (blk_lt (g := gb150) (o := .cells #[.int .i64 a0_0, .int .i64 a0_1, .int .i64 a0_2, .string a0_3, .string a0_4, .int .i64 a0_5] 23 (0, 0)) (by (with_reducible repeat (first | refine bN ?_ _ | refine bD ?_ | refine bA ?_ _)); exact BK150.out)) : gb150 ≠ gb172))
      have n7_ := A0 ((by rw [hg]; exact Nat.ne_of_gt (blk_lt (g := gb150) (o := .cells #[.int .i64 a0_0, .int .i64 a0_1, .int .i64 a0_2, .string a0_3, .string a0_4, .int .i64 a0_5] 23 (0, 0)) (by (with_reducible repeat (first | refine bN ?_ _ | refine bD ?_ | refine bA ?_ _)); exact BK150.out)) : gb172 ≠ gb150))
      have n8_ := A0 ((by rw [hg]; exact Nat.ne_of_lt (blk_lt (g := gb151) (o := .cells #[.int .i64 a1_0, .int .i64 a1_1, .int .i64 a1_2, .string a1_3, .string a1_4, .int .i64 a1_5] 23 (0, 0)) (by (with_reducible repeat (first | refine bN ?_ _ | refine bD ?_ | refine bA ?_ _)); exact BK151.out)) : gb151 ≠ gb172))
      have n9_ := A0 ((by rw [hg]; exact Nat.ne_of_gt (blk_lt (g := gb151) (o := .cells #[.int .i64 a1_0, .int .i64 a1_1, .int .i64 a1_2, .string a1_3, .string a1_4, .int .i64 a1_5] 23 (0, 0)) (by (with_reducible repeat (first | refine bN ?_ _ | refine bD ?_ | refine bA ?_ _)); exact BK151.out)) : gb172 ≠ gb151))
      clear BK150
      clear BK151
      clear HB
      have BK150 := n0_
      have BK151 := n1_
      have HB := n2_
      have BK172 := n3_
      have GW172 := n4_
      have GE172 := n5_
      have NB150_172 := n6_
      have NB172_150 := n7_
      have NB151_172 := n8_
      have NB172_151 := n9_
      clear n0_ n1_ n2_ n3_ n4_ n5_ n6_ n7_ n8_ n9_
      clear hb hbox hg
      refine hK.out _ _ ⟨bC BK150.out 0 rfl, bC BK150.out 1 rfl, bC BK150.out 2 rfl, bC BK150.out 3 rfl, bC BK150.out 4 rfl, bC BK150.out 5 rfl, bC BK151.out 0 rfl, bC BK151.out 1 rfl, bC BK151.out 2 rfl, bC BK151.out 3 rfl, bC BK151.out 4 rfl, bC BK151.out 5 rfl⟩ (fun hHeld => ?_)
      clear hK K
      refine norm_ (a' := ?_) ?_ ?_
      rotate_left
      ·show Act.put _ (some 6) _ = _
       simp only [Act.put, sqA, sqZ, sqS, i64_w, i32_w]
       rfl
      refine one_ (i := 1) (N := some 19) #[true, true, true, false, false, true, false] rfl rfl (by kernel_rfl) (by decide) (fun K hK => ?_)
      refine goes_ Tryd.func7 (by kernel_rfl) rfl #[.agg #[.int .i64 a0_0, .int .i64 a0_1, .int .i64 a0_2, .string a0_3, .string a0_4, .int .i64 a0_5]] (by rfl) rfl rfl (by (try simp only [lM, lC, lN]); first | done | rfl | (simp only [lD, lT]; rfl)) ?_
      with_reducible refine (laws_toSky.calls a0_0 a0_1 a0_2 a0_3 a0_4 a0_5 t154 t155 t156 t157 t158 t159 _ A21.out).mono ?_
      rintro e w78 ⟨rfl, hb⟩
      refine ⟨_, rfl, ?_⟩
      have n0_ := A0 (blk_below (g := gb150) (o := .cells #[.int .i64 a0_0, .int .i64 a0_1, .int .i64 a0_2, .string a0_3, .string a0_4, .int .i64 a0_5] 23 (0, 0)) (by (with_reducible repeat (first | refine bN ?_ _ | refine bD ?_ | refine bA ?_ _)); exact BK150.out) hb)
      have n1_ := A0 (blk_below (g := gb151) (o := .cells #[.int .i64 a1_0, .int .i64 a1_1, .int .i64 a1_2, .string a1_3, .string a1_4, .int .i64 a1_5] 23 (0, 0)) (by (with_reducible repeat (first | refine bN ?_ _ | refine bD ?_ | refine bA ?_ _)); exact BK151.out) hb)
      have n2_ := A0 (blk_below (g := gb172) (o := .cells #[.int .i64 0, .int .i64 0, .int .i64 0, .string (⟨#[]⟩ : ByteArray), .string (⟨#[]⟩ : ByteArray), .int .i64 0] 25 (0, 0)) (by (with_reducible repeat (first | refine bN ?_ _ | refine bD ?_ | refine bA ?_ _)); exact BK172.out) hb)
      have n3_ := A0 (below_step (by repeat (first | (with_reducible first | exact HB.out | apply wA | apply wN | apply wD | refine bS ?_ GE150.out | refine bS ?_ GE151.out | refine bS ?_ GE172.out) | exact HB.out)) hb)
      clear BK150
      clear BK151
      clear BK172
      clear HB
      have BK150 := n0_
      have BK151 := n1_
      have BK172 := n2_
      have HB := n3_
      clear n0_ n1_ n2_ n3_
      (try clear hb)
      refine hK.out _ _ ⟨bC BK150.out 0 rfl, bC BK150.out 1 rfl, bC BK150.out 2 rfl, bC BK150.out 3 rfl, bC BK150.out 4 rfl, bC BK150.out 5 rfl, bC BK151.out 0 rfl, bC BK151.out 1 rfl, bC BK151.out 2 rfl, bC BK151.out 3 rfl, bC BK151.out 4 rfl, bC BK151.out 5 rfl⟩ (fun hHeld => ?_)
      clear hK K
      refine norm_ (a' := ?_) ?_ ?_
      rotate_left
      ·show Act.put _ (some 19) _ = _
       simp only [Act.put, sqA, sqZ, sqS, i64_w, i32_w]
       rfl
      refine one_ (i := 3) (N := some 21) #[true, true, true, true, false, true, false] rfl rfl (by kernel_rfl) (by decide) (fun K hK => ?_)
      refine goes_ Tryd.func7 (by kernel_rfl) rfl #[.agg #[.int .i64 a1_0, .int .i64 a1_1, .int .i64 a1_2, .string a1_3, .string a1_4, .int .i64 a1_5]] (by rfl) rfl rfl (by (try simp only [lM, lC, lN]); first | done | rfl | (simp only [lD, lT]; rfl)) ?_
      with_reducible refine (laws_toSky.calls a1_0 a1_1 a1_2 a1_3 a1_4 a1_5 t160 t161 t162 t163 t164 t165 _ A22.out).mono ?_
      rintro e w79 ⟨rfl, hb⟩
      refine ⟨_, rfl, ?_⟩
      have n0_ := A0 (blk_below (g := gb150) (o := .cells #[.int .i64 a0_0, .int .i64 a0_1, .int .i64 a0_2, .string a0_3, .string a0_4, .int .i64 a0_5] 23 (0, 0)) (by (with_reducible repeat (first | refine bN ?_ _ | refine bD ?_ | refine bA ?_ _)); exact BK150.out) hb)
      have n1_ := A0 (blk_below (g := gb151) (o := .cells #[.int .i64 a1_0, .int .i64 a1_1, .int .i64 a1_2, .string a1_3, .string a1_4, .int .i64 a1_5] 23 (0, 0)) (by (with_reducible repeat (first | refine bN ?_ _ | refine bD ?_ | refine bA ?_ _)); exact BK151.out) hb)
      have n2_ := A0 (blk_below (g := gb172) (o := .cells #[.int .i64 0, .int .i64 0, .int .i64 0, .string (⟨#[]⟩ : ByteArray), .string (⟨#[]⟩ : ByteArray), .int .i64 0] 25 (0, 0)) (by (with_reducible repeat (first | refine bN ?_ _ | refine bD ?_ | refine bA ?_ _)); exact BK172.out) hb)
      have n3_ := A0 (below_step (by repeat (first | (with_reducible first | exact HB.out | apply wA | apply wN | apply wD | refine bS ?_ GE150.out | refine bS ?_ GE151.out | refine bS ?_ GE172.out) | exact HB.out)) hb)
      clear BK150
      clear BK151
      clear BK172
      clear HB
      have BK150 := n0_
      have BK151 := n1_
      have BK172 := n2_
      have HB := n3_
      clear n0_ n1_ n2_ n3_
      (try clear hb)
      refine hK.out _ _ ⟨bC BK150.out 0 rfl, bC BK150.out 1 rfl, bC BK150.out 2 rfl, bC BK150.out 3 rfl, bC BK150.out 4 rfl, bC BK150.out 5 rfl, bC BK151.out 0 rfl, bC BK151.out 1 rfl, bC BK151.out 2 rfl, bC BK151.out 3 rfl, bC BK151.out 4 rfl, bC BK151.out 5 rfl⟩ (fun hHeld => ?_)
      clear hK K
      refine norm_ (a' := ?_) ?_ ?_
      rotate_left
      ·show Act.put _ (some 21) _ = _
       simp only [Act.put, sqA, sqZ, sqS, i64_w, i32_w]
       rfl
      refine one_ (i := 4) (N := some 22) #[true, true, true, true, true, true, false] rfl rfl (by kernel_rfl) (by decide) (fun K hK => ?_)
      refine goes_ Tryd.func6 (by kernel_rfl) rfl #[.agg #[.int .i64 t154, .int .i64 t155, .int .i64 t156, .string t157, .string t158, .int .i64 t159], .agg #[.int .i64 t160, .int .i64 t161, .int .i64 t162, .string t163, .string t164, .int .i64 t165]] (by rfl) rfl rfl (by (try simp only [lM, lC, lN]); first | done | rfl | (simp only [lD, lT]; rfl)) ?_
      with_reducible refine (spec_Laid.calls k t154 t155 t156 t157 t158 t159 t160 t161 t162 t163 t164 t165 t166 t167 t168 t169 t170 t171 _ A23.out).mono ?_
      rintro e w80 ⟨rfl, hb⟩
      refine ⟨_, rfl, ?_⟩
      have n0_ := A0 (blk_below (g := gb150) (o := .cells #[.int .i64 a0_0, .int .i64 a0_1, .int .i64 a0_2, .string a0_3, .string a0_4, .int .i64 a0_5] 23 (0, 0)) (by (with_reducible repeat (first | refine bN ?_ _ | refine bD ?_ | refine bA ?_ _)); exact BK150.out) hb)
      have n1_ := A0 (blk_below (g := gb151) (o := .cells #[.int .i64 a1_0, .int .i64 a1_1, .int .i64 a1_2, .string a1_3, .string a1_4, .int .i64 a1_5] 23 (0, 0)) (by (with_reducible repeat (first | refine bN ?_ _ | refine bD ?_ | refine bA ?_ _)); exact BK151.out) hb)
      have n2_ := A0 (blk_below (g := gb172) (o := .cells #[.int .i64 0, .int .i64 0, .int .i64 0, .string (⟨#[]⟩ : ByteArray), .string (⟨#[]⟩ : ByteArray), .int .i64 0] 25 (0, 0)) (by (with_reducible repeat (first | refine bN ?_ _ | refine bD ?_ | refine bA ?_ _)); exact BK172.out) hb)
      have n3_ := A0 (below_step (by repeat (first | (with_reducible first | exact HB.out | apply wA | apply wN | apply wD | refine bS ?_ GE150.out | refine bS ?_ GE151.out | refine bS ?_ GE172.out) | exact HB.out)) hb)
      clear BK150
      clear BK151
      clear BK172
      clear HB
      have BK150 := n0_
      have BK151 := n1_
      have BK172 := n2_
      have HB := n3_
      clear n0_ n1_ n2_ n3_
      (try clear hb)
      refine hK.out _ _ ⟨bC BK150.out 0 rfl, bC BK150.out 1 rfl, bC BK150.out 2 rfl, bC BK150.out 3 rfl, bC BK150.out 4 rfl, bC BK150.out 5 rfl, bC BK151.out 0 rfl, bC BK151.out 1 rfl, bC BK151.out 2 rfl, bC BK151.out 3 rfl, bC BK151.out 4 rfl, bC BK151.out 5 rfl⟩ (fun hHeld => ?_)
      clear hK K
      refine norm_ (a' := ?_) ?_ ?_
      rotate_left
      ·show Act.put _ (some 22) _ = _
       simp only [Act.put, sqA, sqZ, sqS, i64_w, i32_w]
       rfl
      exact norm_ (by simp only [putAll, Act.put, sqA, sqZ, sqS]) (hCont (gb172) _ ⟨hHeld, (by (with_reducible repeat (first | refine bN ?_ _ | refine bD ?_ | refine bA ?_ _)); exact BK150.out), (by (with_reducible repeat (first | refine bN ?_ _ | refine bD ?_ | refine bA ?_ _)); exact BK151.out), (by (with_reducible repeat (first | refine bN ?_ _ | refine bD ?_ | refine bA ?_ _)); exact BK172.out), GW172.out, GE172.out, NB150_172.out, NB172_150.out, NB151_172.out, NB172_151.out, (by repeat (first | (with_reducible first | exact HB.out | apply wA | apply wN | apply wD | refine bS ?_ GE150.out | refine bS ?_ GE151.out | refine bS ?_ GE172.out) | exact HB.out))⟩)
    rintro gb172 w81 ⟨hS_, h0_, h1_, h2_, h3_, h4_, h5_, h6_, h7_, h8_, h9_⟩
    have n0_ : Aside0 (w81.heap[gb150]? = some (.cells #[.int .i64 a0_0, .int .i64 a0_1, .int .i64 a0_2, .string a0_3, .string a0_4, .int .i64 a0_5] 23 (0, 0))) := ⟨h0_⟩
    have n1_ : Aside0 (w81.heap[gb151]? = some (.cells #[.int .i64 a1_0, .int .i64 a1_1, .int .i64 a1_2, .string a1_3, .string a1_4, .int .i64 a1_5] 23 (0, 0))) := ⟨h1_⟩
    have n2_ : Aside0 (w81.heap[gb172]? = some (.cells #[.int .i64 0, .int .i64 0, .int .i64 0, .string (⟨#[]⟩ : ByteArray), .string (⟨#[]⟩ : ByteArray), .int .i64 0] 25 (0, 0))) := ⟨h2_⟩
    have n3_ : Aside0 (w.heap.size ≤ gb172) := ⟨h3_⟩
    have n4_ : Aside0 (w.heap.size ≤ gb172) := ⟨h4_⟩
    have n5_ : Aside0 (gb150 ≠ gb172) := ⟨h5_⟩
    have n6_ : Aside0 (gb172 ≠ gb150) := ⟨h6_⟩
    have n7_ : Aside0 (gb151 ≠ gb172) := ⟨h7_⟩
    have n8_ : Aside0 (gb172 ≠ gb151) := ⟨h8_⟩
    have n9_ : Aside0 (Below w.heap.size w w81) := ⟨h9_⟩
    clear BK150
    clear BK151
    clear HB
    clear h0_ h1_ h2_ h3_ h4_ h5_ h6_ h7_ h8_ h9_
    have BK150 := n0_
    have BK151 := n1_
    have BK172 := n2_
    have GW172 := n3_
    have GE172 := n4_
    have NB150_172 := n5_
    have NB172_150 := n6_
    have NB151_172 := n7_
    have NB172_151 := n8_
    have HB := n9_
    clear n0_ n1_ n2_ n3_ n4_ n5_ n6_ n7_ n8_ n9_
    have hHeld : w81.cell? ⟨gb150, 0, none⟩ = some (.int .i64 a0_0) ∧ w81.cell? ⟨gb150, 1, none⟩ = some (.int .i64 a0_1) ∧ w81.cell? ⟨gb150, 2, none⟩ = some (.int .i64 a0_2) ∧ w81.cell? ⟨gb150, 3, none⟩ = some (.string a0_3) ∧ w81.cell? ⟨gb150, 4, none⟩ = some (.string a0_4) ∧ w81.cell? ⟨gb150, 5, none⟩ = some (.int .i64 a0_5) ∧ w81.cell? ⟨gb151, 0, none⟩ = some (.int .i64 a1_0) ∧ w81.cell? ⟨gb151, 1, none⟩ = some (.int .i64 a1_1) ∧ w81.cell? ⟨gb151, 2, none⟩ = some (.int .i64 a1_2) ∧ w81.cell? ⟨gb151, 3, none⟩ = some (.string a1_3) ∧ w81.cell? ⟨gb151, 4, none⟩ = some (.string a1_4) ∧ w81.cell? ⟨gb151, 5, none⟩ = some (.int .i64 a1_5) := hS_
    refine norm_ (a' := ?_) ?_ ?_
    rotate_left
    ·simp only [putAll, Act.put, sqA, sqZ, sqS]
     rfl
    refine one_ (i := 6) (N := none) #[true, true, true, true, true, true, true] rfl rfl (by kernel_rfl) (by decide) (fun K hK => ?_)
    have hs82 : w81.cell? ⟨gb172, 0, none⟩ = some (.int .i64 0) := bC BK172.out 0 rfl
    have hfs82 := blk_frozen BK172.out 0
    have hns82_0 := NB150_172.out
    have hns82_1 := NB151_172.out
    have hms82_0 := NB172_150.out
    have hms82_1 := NB172_151.out
    have hs83 : w81.cell? ⟨gb172, 1, none⟩ = some (.int .i64 0) := bC BK172.out 1 rfl
    have hfs83 := blk_frozen BK172.out 1
    have hns83_0 := NB150_172.out
    have hns83_1 := NB151_172.out
    have hms83_0 := NB172_150.out
    have hms83_1 := NB172_151.out
    have hs84 : w81.cell? ⟨gb172, 2, none⟩ = some (.int .i64 0) := bC BK172.out 2 rfl
    have hfs84 := blk_frozen BK172.out 2
    have hns84_0 := NB150_172.out
    have hns84_1 := NB151_172.out
    have hms84_0 := NB172_150.out
    have hms84_1 := NB172_151.out
    have hs85 : w81.cell? ⟨gb172, 3, none⟩ = some (.string (⟨#[]⟩ : ByteArray)) := bC BK172.out 3 rfl
    have hfs85 := blk_frozen BK172.out 3
    have hns85_0 := NB150_172.out
    have hns85_1 := NB151_172.out
    have hms85_0 := NB172_150.out
    have hms85_1 := NB172_151.out
    have hs86 : w81.cell? ⟨gb172, 4, none⟩ = some (.string (⟨#[]⟩ : ByteArray)) := bC BK172.out 4 rfl
    have hfs86 := blk_frozen BK172.out 4
    have hns86_0 := NB150_172.out
    have hns86_1 := NB151_172.out
    have hms86_0 := NB172_150.out
    have hms86_1 := NB172_151.out
    have hs87 : w81.cell? ⟨gb172, 5, none⟩ = some (.int .i64 0) := bC BK172.out 5 rfl
    have hfs87 := blk_frozen BK172.out 5
    have hns87_0 := NB150_172.out
    have hns87_1 := NB151_172.out
    have hms87_0 := NB172_150.out
    have hms87_1 := NB172_151.out
    refine skip_ (w1 := ?_) (by rfl) rfl ?_ ?_
    rotate_left
    ·go_simp
     rfl
    refine hK.out _ _ ⟨((cell_far (p := ⟨gb172, _, none⟩) NB150_172.out _).trans (((cell_far (p := ⟨gb172, _, none⟩) NB150_172.out _).trans (((cell_far (p := ⟨gb172, _, none⟩) NB150_172.out _).trans (((cell_far (p := ⟨gb172, _, none⟩) NB150_172.out _).trans (((cell_far (p := ⟨gb172, _, none⟩) NB150_172.out _).trans (((cell_far (p := ⟨gb172, _, none⟩) NB150_172.out _).trans (hHeld.1)))))))))))), ((cell_far (p := ⟨gb172, _, none⟩) NB150_172.out _).trans (((cell_far (p := ⟨gb172, _, none⟩) NB150_172.out _).trans (((cell_far (p := ⟨gb172, _, none⟩) NB150_172.out _).trans (((cell_far (p := ⟨gb172, _, none⟩) NB150_172.out _).trans (((cell_far (p := ⟨gb172, _, none⟩) NB150_172.out _).trans (((cell_far (p := ⟨gb172, _, none⟩) NB150_172.out _).trans (hHeld.2.1)))))))))))), ((cell_far (p := ⟨gb172, _, none⟩) NB150_172.out _).trans (((cell_far (p := ⟨gb172, _, none⟩) NB150_172.out _).trans (((cell_far (p := ⟨gb172, _, none⟩) NB150_172.out _).trans (((cell_far (p := ⟨gb172, _, none⟩) NB150_172.out _).trans (((cell_far (p := ⟨gb172, _, none⟩) NB150_172.out _).trans (((cell_far (p := ⟨gb172, _, none⟩) NB150_172.out _).trans (hHeld.2.2.1)))))))))))), ((cell_far (p := ⟨gb172, _, none⟩) NB150_172.out _).trans (((cell_far (p := ⟨gb172, _, none⟩) NB150_172.out _).trans (((cell_far (p := ⟨gb172, _, none⟩) NB150_172.out _).trans (((cell_far (p := ⟨gb172, _, none⟩) NB150_172.out _).trans (((cell_far (p := ⟨gb172, _, none⟩) NB150_172.out _).trans (((cell_far (p := ⟨gb172, _, none⟩) NB150_172.out _).trans (hHeld.2.2.2.1)))))))))))), ((cell_far (p := ⟨gb172, _, none⟩) NB150_172.out _).trans (((cell_far (p := ⟨gb172, _, none⟩) NB150_172.out _).trans (((cell_far (p := ⟨gb172, _, none⟩) NB150_172.out _).trans (((cell_far (p := ⟨gb172, _, none⟩) NB150_172.out _).trans (((cell_far (p := ⟨gb172, _, none⟩) NB150_172.out _).trans (((cell_far (p := ⟨gb172, _, none⟩) NB150_172.out _).trans (hHeld.2.2.2.2.1)))))))))))), ((cell_far (p := ⟨gb172, _, none⟩) NB150_172.out _).trans (((cell_far (p := ⟨gb172, _, none⟩) NB150_172.out _).trans (((cell_far (p := ⟨gb172, _, none⟩) NB150_172.out _).trans (((cell_far (p := ⟨gb172, _, none⟩) NB150_172.out _).trans (((cell_far (p := ⟨gb172, _, none⟩) NB150_172.out _).trans (((cell_far (p := ⟨gb172, _, none⟩) NB150_172.out _).trans (hHeld.2.2.2.2.2.1)))))))))))), ((cell_far (p := ⟨gb172, _, none⟩) NB151_172.out _).trans (((cell_far (p := ⟨gb172, _, none⟩) NB151_172.out _).trans (((cell_far (p := ⟨gb172, _, none⟩) NB151_172.out _).trans (((cell_far (p := ⟨gb172, _, none⟩) NB151_172.out _).trans (((cell_far (p := ⟨gb172, _, none⟩) NB151_172.out _).trans (((cell_far (p := ⟨gb172, _, none⟩) NB151_172.out _).trans (hHeld.2.2.2.2.2.2.1)))))))))))), ((cell_far (p := ⟨gb172, _, none⟩) NB151_172.out _).trans (((cell_far (p := ⟨gb172, _, none⟩) NB151_172.out _).trans (((cell_far (p := ⟨gb172, _, none⟩) NB151_172.out _).trans (((cell_far (p := ⟨gb172, _, none⟩) NB151_172.out _).trans (((cell_far (p := ⟨gb172, _, none⟩) NB151_172.out _).trans (((cell_far (p := ⟨gb172, _, none⟩) NB151_172.out _).trans (hHeld.2.2.2.2.2.2.2.1)))))))))))), ((cell_far (p := ⟨gb172, _, none⟩) NB151_172.out _).trans (((cell_far (p := ⟨gb172, _, none⟩) NB151_172.out _).trans (((cell_far (p := ⟨gb172, _, none⟩) NB151_172.out _).trans (((cell_far (p := ⟨gb172, _, none⟩) NB151_172.out _).trans (((cell_far (p := ⟨gb172, _, none⟩) NB151_172.out _).trans (((cell_far (p := ⟨gb172, _, none⟩) NB151_172.out _).trans (hHeld.2.2.2.2.2.2.2.2.1)))))))))))), ((cell_far (p := ⟨gb172, _, none⟩) NB151_172.out _).trans (((cell_far (p := ⟨gb172, _, none⟩) NB151_172.out _).trans (((cell_far (p := ⟨gb172, _, none⟩) NB151_172.out _).trans (((cell_far (p := ⟨gb172, _, none⟩) NB151_172.out _).trans (((cell_far (p := ⟨gb172, _, none⟩) NB151_172.out _).trans (((cell_far (p := ⟨gb172, _, none⟩) NB151_172.out _).trans (hHeld.2.2.2.2.2.2.2.2.2.1)))))))))))), ((cell_far (p := ⟨gb172, _, none⟩) NB151_172.out _).trans (((cell_far (p := ⟨gb172, _, none⟩) NB151_172.out _).trans (((cell_far (p := ⟨gb172, _, none⟩) NB151_172.out _).trans (((cell_far (p := ⟨gb172, _, none⟩) NB151_172.out _).trans (((cell_far (p := ⟨gb172, _, none⟩) NB151_172.out _).trans (((cell_far (p := ⟨gb172, _, none⟩) NB151_172.out _).trans (hHeld.2.2.2.2.2.2.2.2.2.2.1)))))))))))), ((cell_far (p := ⟨gb172, _, none⟩) NB151_172.out _).trans (((cell_far (p := ⟨gb172, _, none⟩) NB151_172.out _).trans (((cell_far (p := ⟨gb172, _, none⟩) NB151_172.out _).trans (((cell_far (p := ⟨gb172, _, none⟩) NB151_172.out _).trans (((cell_far (p := ⟨gb172, _, none⟩) NB151_172.out _).trans (((cell_far (p := ⟨gb172, _, none⟩) NB151_172.out _).trans (hHeld.2.2.2.2.2.2.2.2.2.2.2))))))))))))⟩ (fun hHeld => ?_)
    clear hK K
    refine done_ (by kernel_rfl) ?_
    try go_wp2
    have n0_ : Aside0 (((((((w81.setCell ⟨gb172, 0, none⟩ (.int .i64 t166)).setCell ⟨gb172, 1, none⟩ (.int .i64 t167)).setCell ⟨gb172, 2, none⟩ (.int .i64 t168)).setCell ⟨gb172, 3, none⟩ (.string t169)).setCell ⟨gb172, 4, none⟩ (.string t170)).setCell ⟨gb172, 5, none⟩ (.int .i64 t171)).heap[gb150]? = some (.cells #[.int .i64 a0_0, .int .i64 a0_1, .int .i64 a0_2, .string a0_3, .string a0_4, .int .i64 a0_5] 23 (0, 0))) := ⟨by (with_reducible repeat (first | refine bN ?_ _ | refine bD ?_ | refine bA ?_ _)); refine blk_far ?_ NB150_172.out _; (with_reducible repeat (first | refine bN ?_ _ | refine bD ?_ | refine bA ?_ _)); refine blk_far ?_ NB150_172.out _; (with_reducible repeat (first | refine bN ?_ _ | refine bD ?_ | refine bA ?_ _)); refine blk_far ?_ NB150_172.out _; (with_reducible repeat (first | refine bN ?_ _ | refine bD ?_ | refine bA ?_ _)); refine blk_far ?_ NB150_172.out _; (with_reducible repeat (first | refine bN ?_ _ | refine bD ?_ | refine bA ?_ _)); refine blk_far ?_ NB150_172.out _; (with_reducible repeat (first | refine bN ?_ _ | refine bD ?_ | refine bA ?_ _)); refine blk_far ?_ NB150_172.out _; (with_reducible repeat (first | refine bN ?_ _ | refine bD ?_ | refine bA ?_ _)); exact BK150.out⟩
    have n1_ : Aside0 (((((((w81.setCell ⟨gb172, 0, none⟩ (.int .i64 t166)).setCell ⟨gb172, 1, none⟩ (.int .i64 t167)).setCell ⟨gb172, 2, none⟩ (.int .i64 t168)).setCell ⟨gb172, 3, none⟩ (.string t169)).setCell ⟨gb172, 4, none⟩ (.string t170)).setCell ⟨gb172, 5, none⟩ (.int .i64 t171)).heap[gb151]? = some (.cells #[.int .i64 a1_0, .int .i64 a1_1, .int .i64 a1_2, .string a1_3, .string a1_4, .int .i64 a1_5] 23 (0, 0))) := ⟨by (with_reducible repeat (first | refine bN ?_ _ | refine bD ?_ | refine bA ?_ _)); refine blk_far ?_ NB151_172.out _; (with_reducible repeat (first | refine bN ?_ _ | refine bD ?_ | refine bA ?_ _)); refine blk_far ?_ NB151_172.out _; (with_reducible repeat (first | refine bN ?_ _ | refine bD ?_ | refine bA ?_ _)); refine blk_far ?_ NB151_172.out _; (with_reducible repeat (first | refine bN ?_ _ | refine bD ?_ | refine bA ?_ _)); refine blk_far ?_ NB151_172.out _; (with_reducible repeat (first | refine bN ?_ _ | refine bD ?_ | refine bA ?_ _)); refine blk_far ?_ NB151_172.out _; (with_reducible repeat (first | refine bN ?_ _ | refine bD ?_ | refine bA ?_ _)); refine blk_far ?_ NB151_172.out _; (with_reducible repeat (first | refine bN ?_ _ | refine bD ?_ | refine bA ?_ _)); exact BK151.out⟩
    have n2_ : Aside0 (((((((w81.setCell ⟨gb172, 0, none⟩ (.int .i64 t166)).setCell ⟨gb172, 1, none⟩ (.int .i64 t167)).setCell ⟨gb172, 2, none⟩ (.int .i64 t168)).setCell ⟨gb172, 3, none⟩ (.string t169)).setCell ⟨gb172, 4, none⟩ (.string t170)).setCell ⟨gb172, 5, none⟩ (.int .i64 t171)).heap[gb172]? = some (.cells #[.int .i64 t166, .int .i64 t167, .int .i64 t168, .string t169, .string t170, .int .i64 t171] 25 (0, 0))) := ⟨by (with_reducible repeat (first | refine bN ?_ _ | refine bD ?_ | refine bA ?_ _)); refine blk_put (cs := #[.int .i64 t166, .int .i64 t167, .int .i64 t168, .string t169, .string t170, .int .i64 0]) ?_ 5 _ rfl; (with_reducible repeat (first | refine bN ?_ _ | refine bD ?_ | refine bA ?_ _)); refine blk_put (cs := #[.int .i64 t166, .int .i64 t167, .int .i64 t168, .string t169, .string (⟨#[]⟩ : ByteArray), .int .i64 0]) ?_ 4 _ rfl; (with_reducible repeat (first | refine bN ?_ _ | refine bD ?_ | refine bA ?_ _)); refine blk_put (cs := #[.int .i64 t166, .int .i64 t167, .int .i64 t168, .string (⟨#[]⟩ : ByteArray), .string (⟨#[]⟩ : ByteArray), .int .i64 0]) ?_ 3 _ rfl; (with_reducible repeat (first | refine bN ?_ _ | refine bD ?_ | refine bA ?_ _)); refine blk_put (cs := #[.int .i64 t166, .int .i64 t167, .int .i64 0, .string (⟨#[]⟩ : ByteArray), .string (⟨#[]⟩ : ByteArray), .int .i64 0]) ?_ 2 _ rfl; (with_reducible repeat (first | refine bN ?_ _ | refine bD ?_ | refine bA ?_ _)); refine blk_put (cs := #[.int .i64 t166, .int .i64 0, .int .i64 0, .string (⟨#[]⟩ : ByteArray), .string (⟨#[]⟩ : ByteArray), .int .i64 0]) ?_ 1 _ rfl; (with_reducible repeat (first | refine bN ?_ _ | refine bD ?_ | refine bA ?_ _)); refine blk_put (cs := #[.int .i64 0, .int .i64 0, .int .i64 0, .string (⟨#[]⟩ : ByteArray), .string (⟨#[]⟩ : ByteArray), .int .i64 0]) ?_ 0 _ rfl; (with_reducible repeat (first | refine bN ?_ _ | refine bD ?_ | refine bA ?_ _)); exact BK172.out⟩
    have n3_ : Aside0 (Below w.heap.size w ((((((w81.setCell ⟨gb172, 0, none⟩ (.int .i64 t166)).setCell ⟨gb172, 1, none⟩ (.int .i64 t167)).setCell ⟨gb172, 2, none⟩ (.int .i64 t168)).setCell ⟨gb172, 3, none⟩ (.string t169)).setCell ⟨gb172, 4, none⟩ (.string t170)).setCell ⟨gb172, 5, none⟩ (.int .i64 t171))) := ⟨by repeat (first | (with_reducible first | exact HB.out | apply wA | apply wN | apply wD | refine bS ?_ GE150.out | refine bS ?_ GE151.out | refine bS ?_ GE172.out) | exact HB.out)⟩
    (try clear BK150)
    (try clear BK151)
    (try clear BK172)
    (try clear HB)
    generalize ((((((w81.setCell ⟨gb172, 0, none⟩ (.int .i64 t166)).setCell ⟨gb172, 1, none⟩ (.int .i64 t167)).setCell ⟨gb172, 2, none⟩ (.int .i64 t168)).setCell ⟨gb172, 3, none⟩ (.string t169)).setCell ⟨gb172, 4, none⟩ (.string t170)).setCell ⟨gb172, 5, none⟩ (.int .i64 t171)) = w88 at n0_ n1_ n2_ n3_ ⊢
    have BK150 := n0_
    have BK151 := n1_
    have BK172 := n2_
    have HB := n3_
    clear n0_ n1_ n2_ n3_
    have n0_ := A0 (blk_drew BK150.out)
    have n1_ := A0 (blk_drew BK151.out)
    have n2_ := A0 (blk_drew BK172.out)
    have n3_ := A0 (below_drew1 HB.out)
    clear BK150
    clear BK151
    clear BK172
    clear HB
    have BK150 := n0_
    have BK151 := n1_
    have BK172 := n2_
    have HB := n3_
    clear n0_ n1_ n2_ n3_
    refine start_ (n := 7) (S := fun w' => w'.cell? ⟨gb150, 0, none⟩ = some (.int .i64 a0_0) ∧ w'.cell? ⟨gb150, 1, none⟩ = some (.int .i64 a0_1) ∧ w'.cell? ⟨gb150, 2, none⟩ = some (.int .i64 a0_2) ∧ w'.cell? ⟨gb150, 3, none⟩ = some (.string a0_3) ∧ w'.cell? ⟨gb150, 4, none⟩ = some (.string a0_4) ∧ w'.cell? ⟨gb150, 5, none⟩ = some (.int .i64 a0_5) ∧ w'.cell? ⟨gb151, 0, none⟩ = some (.int .i64 a1_0) ∧ w'.cell? ⟨gb151, 1, none⟩ = some (.int .i64 a1_1) ∧ w'.cell? ⟨gb151, 2, none⟩ = some (.int .i64 a1_2) ∧ w'.cell? ⟨gb151, 3, none⟩ = some (.string a1_3) ∧ w'.cell? ⟨gb151, 4, none⟩ = some (.string a1_4) ∧ w'.cell? ⟨gb151, 5, none⟩ = some (.int .i64 a1_5)) (ds := []) #[false, false, false, false, false, false, false] (by kernel_rfl) rfl rfl ⟨bC BK150.out 0 rfl, bC BK150.out 1 rfl, bC BK150.out 2 rfl, bC BK150.out 3 rfl, bC BK150.out 4 rfl, bC BK150.out 5 rfl, bC BK151.out 0 rfl, bC BK151.out 1 rfl, bC BK151.out 2 rfl, bC BK151.out 3 rfl, bC BK151.out 4 rfl, bC BK151.out 5 rfl⟩ (fun hHeld => ?_)
    generalize w88.drew = w89 at BK150 BK151 BK172 HB hHeld ⊢
    refine take_ (i := 0) (N := some 23) (v := ?_) (a' := ?_) #[true, false, false, false, false, false, false] rfl rfl (by kernel_rfl) (fun _ _ _ h => h) (Or.inl ⟨by rfl, ?_⟩) hHeld ?_ ?_
    rotate_left
    ·rintro w' ⟨s0, s1, s2, s3, s4, s5, s6, s7, s8, s9, s10, s11⟩
     go_simp
     with_reducible rfl
    rotate_left
    ·simp only [Act.put, sqA, sqZ, sqS, i64_w, i32_w]
     rfl
    refine take_ (i := 2) (N := some 25) (v := ?_) (a' := ?_) #[true, false, true, false, false, false, false] rfl rfl (by kernel_rfl) (fun _ _ _ h => h) (Or.inl ⟨by rfl, ?_⟩) hHeld ?_ ?_
    rotate_left
    ·rintro w' ⟨s0, s1, s2, s3, s4, s5, s6, s7, s8, s9, s10, s11⟩
     go_simp
     with_reducible rfl
    rotate_left
    ·simp only [Act.put, sqA, sqZ, sqS, i64_w, i32_w]
     rfl
    refine join_ (σ := Nat) 1 #[true, true, true, true, true, true, false] (fun s_ => [(24, .agg #[.int .i64 t173, .int .i64 t174, .int .i64 t175, .string t176, .string t177, .int .i64 t178]), (26, .agg #[.int .i64 t179, .int .i64 t180, .int .i64 t181, .string t182, .string t183, .int .i64 t184]), (27, .agg #[.int .i64 t185, .int .i64 t186, .int .i64 t187, .string t188, .string t189, .int .i64 t190]), (7, .pointer (some ⟨s_, 0, none⟩))]) (fun s_ w' => (w'.cell? ⟨gb150, 0, none⟩ = some (.int .i64 a0_0) ∧ w'.cell? ⟨gb150, 1, none⟩ = some (.int .i64 a0_1) ∧ w'.cell? ⟨gb150, 2, none⟩ = some (.int .i64 a0_2) ∧ w'.cell? ⟨gb150, 3, none⟩ = some (.string a0_3) ∧ w'.cell? ⟨gb150, 4, none⟩ = some (.string a0_4) ∧ w'.cell? ⟨gb150, 5, none⟩ = some (.int .i64 a0_5) ∧ w'.cell? ⟨gb151, 0, none⟩ = some (.int .i64 a1_0) ∧ w'.cell? ⟨gb151, 1, none⟩ = some (.int .i64 a1_1) ∧ w'.cell? ⟨gb151, 2, none⟩ = some (.int .i64 a1_2) ∧ w'.cell? ⟨gb151, 3, none⟩ = some (.string a1_3) ∧ w'.cell? ⟨gb151, 4, none⟩ = some (.string a1_4) ∧ w'.cell? ⟨gb151, 5, none⟩ = some (.int .i64 a1_5)) ∧ (w'.heap[gb150]? = some (.cells #[.int .i64 a0_0, .int .i64 a0_1, .int .i64 a0_2, .string a0_3, .string a0_4, .int .i64 a0_5] 23 (0, 0))) ∧ (w'.heap[gb151]? = some (.cells #[.int .i64 a1_0, .int .i64 a1_1, .int .i64 a1_2, .string a1_3, .string a1_4, .int .i64 a1_5] 23 (0, 0))) ∧ (w'.heap[gb172]? = some (.cells #[.int .i64 t166, .int .i64 t167, .int .i64 t168, .string t169, .string t170, .int .i64 t171] 25 (0, 0))) ∧ (w'.heap[s_]? = some (.cells #[.int .i64 0, .int .i64 0, .int .i64 0, .string (⟨#[]⟩ : ByteArray), .string (⟨#[]⟩ : ByteArray), .int .i64 0] 25 (0, 0))) ∧ (w.heap.size ≤ s_) ∧ (w.heap.size ≤ s_) ∧ (gb150 ≠ s_) ∧ (s_ ≠ gb150) ∧ (gb151 ≠ s_) ∧ (s_ ≠ gb151) ∧ (gb172 ≠ s_) ∧ (s_ ≠ gb172) ∧ (Below w.heap.size w w')) ?_ ?_
    rotate_left
    ·intro hCont
     refine two_ (i := 1) (j := 5) (Ni := some 24) (Nj := some 7) #[true, true, true, false, false, false, false] #[true, false, true, false, false, true, false] rfl rfl rfl rfl (by kernel_rfl) (by decide) (by decide) (fun K hK => ?_) (fun K hK => ?_)
     ·skip
      refine goes_ Tryd.func7 (by kernel_rfl) rfl #[.agg #[.int .i64 a0_0, .int .i64 a0_1, .int .i64 a0_2, .string a0_3, .string a0_4, .int .i64 a0_5]] (by rfl) rfl rfl (by (try simp only [lM, lC, lN]); first | done | rfl | (simp only [lD, lT]; rfl)) ?_
      with_reducible refine (laws_toSky.calls a0_0 a0_1 a0_2 a0_3 a0_4 a0_5 t173 t174 t175 t176 t177 t178 _ A24.out).mono ?_
      rintro e w90 ⟨rfl, hb⟩
      refine ⟨_, rfl, ?_⟩
      have n0_ := A0 (blk_below (g := gb150) (o := .cells #[.int .i64 a0_0, .int .i64 a0_1, .int .i64 a0_2, .string a0_3, .string a0_4, .int .i64 a0_5] 23 (0, 0)) (by (with_reducible repeat (first | refine bN ?_ _ | refine bD ?_ | refine bA ?_ _)); exact BK150.out) hb)
      have n1_ := A0 (blk_below (g := gb151) (o := .cells #[.int .i64 a1_0, .int .i64 a1_1, .int .i64 a1_2, .string a1_3, .string a1_4, .int .i64 a1_5] 23 (0, 0)) (by (with_reducible repeat (first | refine bN ?_ _ | refine bD ?_ | refine bA ?_ _)); exact BK151.out) hb)
      have n2_ := A0 (blk_below (g := gb172) (o := .cells #[.int .i64 t166, .int .i64 t167, .int .i64 t168, .string t169, .string t170, .int .i64 t171] 25 (0, 0)) (by (with_reducible repeat (first | refine bN ?_ _ | refine bD ?_ | refine bA ?_ _)); exact BK172.out) hb)
      have n3_ := A0 (below_step (by repeat (first | (with_reducible first | exact HB.out | apply wA | apply wN | apply wD | refine bS ?_ GE150.out | refine bS ?_ GE151.out | refine bS ?_ GE172.out) | exact HB.out)) hb)
      clear BK150
      clear BK151
      clear BK172
      clear HB
      have BK150 := n0_
      have BK151 := n1_
      have BK172 := n2_
      have HB := n3_
      clear n0_ n1_ n2_ n3_
      (try clear hb)
      refine hK.out _ _ ⟨bC BK150.out 0 rfl, bC BK150.out 1 rfl, bC BK150.out 2 rfl, bC BK150.out 3 rfl, bC BK150.out 4 rfl, bC BK150.out 5 rfl, bC BK151.out 0 rfl, bC BK151.out 1 rfl, bC BK151.out 2 rfl, bC BK151.out 3 rfl, bC BK151.out 4 rfl, bC BK151.out 5 rfl⟩ (fun hHeld => ?_)
      clear hK K
      refine norm_ (a' := ?_) ?_ ?_
      rotate_left
      ·show Act.put _ (some 24) _ = _
       simp only [Act.put, sqA, sqZ, sqS, i64_w, i32_w]
       rfl
      refine two_ (i := 3) (j := 5) (Ni := some 26) (Nj := some 7) #[true, true, true, true, false, false, false] #[true, true, true, false, false, true, false] rfl rfl rfl rfl (by kernel_rfl) (by decide) (by decide) (fun K hK => ?_) (fun K hK => ?_)
      ·skip
       refine goes_ Tryd.func7 (by kernel_rfl) rfl #[.agg #[.int .i64 a1_0, .int .i64 a1_1, .int .i64 a1_2, .string a1_3, .string a1_4, .int .i64 a1_5]] (by rfl) rfl rfl (by (try simp only [lM, lC, lN]); first | done | rfl | (simp only [lD, lT]; rfl)) ?_
       with_reducible refine (laws_toSky.calls a1_0 a1_1 a1_2 a1_3 a1_4 a1_5 t179 t180 t181 t182 t183 t184 _ A25.out).mono ?_
       rintro e w91 ⟨rfl, hb⟩
       refine ⟨_, rfl, ?_⟩
       have n0_ := A0 (blk_below (g := gb150) (o := .cells #[.int .i64 a0_0, .int .i64 a0_1, .int .i64 a0_2, .string a0_3, .string a0_4, .int .i64 a0_5] 23 (0, 0)) (by (with_reducible repeat (first | refine bN ?_ _ | refine bD ?_ | refine bA ?_ _)); exact BK150.out) hb)
       have n1_ := A0 (blk_below (g := gb151) (o := .cells #[.int .i64 a1_0, .int .i64 a1_1, .int .i64 a1_2, .string a1_3, .string a1_4, .int .i64 a1_5] 23 (0, 0)) (by (with_reducible repeat (first | refine bN ?_ _ | refine bD ?_ | refine bA ?_ _)); exact BK151.out) hb)
       have n2_ := A0 (blk_below (g := gb172) (o := .cells #[.int .i64 t166, .int .i64 t167, .int .i64 t168, .string t169, .string t170, .int .i64 t171] 25 (0, 0)) (by (with_reducible repeat (first | refine bN ?_ _ | refine bD ?_ | refine bA ?_ _)); exact BK172.out) hb)
       have n3_ := A0 (below_step (by repeat (first | (with_reducible first | exact HB.out | apply wA | apply wN | apply wD | refine bS ?_ GE150.out | refine bS ?_ GE151.out | refine bS ?_ GE172.out) | exact HB.out)) hb)
       clear BK150
       clear BK151
       clear BK172
       clear HB
       have BK150 := n0_
       have BK151 := n1_
       have BK172 := n2_
       have HB := n3_
       clear n0_ n1_ n2_ n3_
       (try clear hb)
       refine hK.out _ _ ⟨bC BK150.out 0 rfl, bC BK150.out 1 rfl, bC BK150.out 2 rfl, bC BK150.out 3 rfl, bC BK150.out 4 rfl, bC BK150.out 5 rfl, bC BK151.out 0 rfl, bC BK151.out 1 rfl, bC BK151.out 2 rfl, bC BK151.out 3 rfl, bC BK151.out 4 rfl, bC BK151.out 5 rfl⟩ (fun hHeld => ?_)
       clear hK K
       refine norm_ (a' := ?_) ?_ ?_
       rotate_left
       ·show Act.put _ (some 26) _ = _
        simp only [Act.put, sqA, sqZ, sqS, i64_w, i32_w]
        rfl
       refine two_ (i := 4) (j := 5) (Ni := some 27) (Nj := some 7) #[true, true, true, true, true, false, false] #[true, true, true, true, false, true, false] rfl rfl rfl rfl (by kernel_rfl) (by decide) (by decide) (fun K hK => ?_) (fun K hK => ?_)
       ·skip
        refine goes_ Tryd.func8 (by kernel_rfl) rfl #[.agg #[.int .i64 t173, .int .i64 t174, .int .i64 t175, .string t176, .string t177, .int .i64 t178], .agg #[.int .i64 t179, .int .i64 t180, .int .i64 t181, .string t182, .string t183, .int .i64 t184]] (by rfl) rfl rfl (by (try simp only [lM, lC, lN]); first | done | rfl | (simp only [lD, lT]; rfl)) ?_
        with_reducible refine (impl_Laid.calls k t173 t174 t175 t176 t177 t178 t179 t180 t181 t182 t183 t184 l2 l3 t185 t186 t187 t188 t189 t190 _ ?side1 ?side2 ?side3 ?side4 A26.out).mono ?_
        (case side1 => repeat (first | exact (Kd.C_below HR2.out HB.out) | (with_reducible refine Kd.C_alloc ?_ _) | (with_reducible refine Kd.C_drewN ?_ _) | (with_reducible refine Kd.C_drew ?_)))
        (case side2 => exact HC2.out)
        (case side3 => repeat (first | exact (Kd.C_below HR3.out HB.out) | (with_reducible refine Kd.C_alloc ?_ _) | (with_reducible refine Kd.C_drewN ?_ _) | (with_reducible refine Kd.C_drew ?_)))
        (case side4 => exact HC3.out)
        rintro e w92 ⟨rfl, hb⟩
        refine ⟨_, rfl, ?_⟩
        have n0_ := A0 (blk_below (g := gb150) (o := .cells #[.int .i64 a0_0, .int .i64 a0_1, .int .i64 a0_2, .string a0_3, .string a0_4, .int .i64 a0_5] 23 (0, 0)) (by (with_reducible repeat (first | refine bN ?_ _ | refine bD ?_ | refine bA ?_ _)); exact BK150.out) hb)
        have n1_ := A0 (blk_below (g := gb151) (o := .cells #[.int .i64 a1_0, .int .i64 a1_1, .int .i64 a1_2, .string a1_3, .string a1_4, .int .i64 a1_5] 23 (0, 0)) (by (with_reducible repeat (first | refine bN ?_ _ | refine bD ?_ | refine bA ?_ _)); exact BK151.out) hb)
        have n2_ := A0 (blk_below (g := gb172) (o := .cells #[.int .i64 t166, .int .i64 t167, .int .i64 t168, .string t169, .string t170, .int .i64 t171] 25 (0, 0)) (by (with_reducible repeat (first | refine bN ?_ _ | refine bD ?_ | refine bA ?_ _)); exact BK172.out) hb)
        have n3_ := A0 (below_step (by repeat (first | (with_reducible first | exact HB.out | apply wA | apply wN | apply wD | refine bS ?_ GE150.out | refine bS ?_ GE151.out | refine bS ?_ GE172.out) | exact HB.out)) hb)
        clear BK150
        clear BK151
        clear BK172
        clear HB
        have BK150 := n0_
        have BK151 := n1_
        have BK172 := n2_
        have HB := n3_
        clear n0_ n1_ n2_ n3_
        (try clear hb)
        refine hK.out _ _ ⟨bC BK150.out 0 rfl, bC BK150.out 1 rfl, bC BK150.out 2 rfl, bC BK150.out 3 rfl, bC BK150.out 4 rfl, bC BK150.out 5 rfl, bC BK151.out 0 rfl, bC BK151.out 1 rfl, bC BK151.out 2 rfl, bC BK151.out 3 rfl, bC BK151.out 4 rfl, bC BK151.out 5 rfl⟩ (fun hHeld => ?_)
        clear hK K
        refine norm_ (a' := ?_) ?_ ?_
        rotate_left
        ·show Act.put _ (some 27) _ = _
         simp only [Act.put, sqA, sqZ, sqS, i64_w, i32_w]
         rfl
        refine one_ (i := 5) (N := some 7) #[true, true, true, true, true, true, false] rfl rfl (by kernel_rfl) (by decide) (fun K hK => ?_)
        refine box_step ?hg (N := 7) ?hd (cs := #[.int .i64 0, .int .i64 0, .int .i64 0, .string (⟨#[]⟩ : ByteArray), .string (⟨#[]⟩ : ByteArray), .int .i64 0]) (t := 25) ?hr ?_; (case hd => rfl); (case hg => rfl); (case hr => first | (go_simp; done) | (go_simp; rfl))
        intro gb191 hg w93 hbox hb
        have n0_ := A0 (blk_below (g := gb150) (o := .cells #[.int .i64 a0_0, .int .i64 a0_1, .int .i64 a0_2, .string a0_3, .string a0_4, .int .i64 a0_5] 23 (0, 0)) (by (with_reducible repeat (first | refine bN ?_ _ | refine bD ?_ | refine bA ?_ _)); exact BK150.out) hb)
        have n1_ := A0 (blk_below (g := gb151) (o := .cells #[.int .i64 a1_0, .int .i64 a1_1, .int .i64 a1_2, .string a1_3, .string a1_4, .int .i64 a1_5] 23 (0, 0)) (by (with_reducible repeat (first | refine bN ?_ _ | refine bD ?_ | refine bA ?_ _)); exact BK151.out) hb)
        have n2_ := A0 (blk_below (g := gb172) (o := .cells #[.int .i64 t166, .int .i64 t167, .int .i64 t168, .string t169, .string t170, .int .i64 t171] 25 (0, 0)) (by (with_reducible repeat (first | refine bN ?_ _ | refine bD ?_ | refine bA ?_ _)); exact BK172.out) hb)
        have n3_ := A0 (below_step (by repeat (first | (with_reducible first | exact HB.out | apply wA | apply wN | apply wD | refine bS ?_ GE150.out | refine bS ?_ GE151.out | refine bS ?_ GE172.out) | exact HB.out)) hb)
        have n4_ := A0 (hbox)
        have n5_ := A0 ((by rw [hg]; exact (below_size (by repeat (first | (with_reducible first | exact HB.out | apply wA | apply wN | apply wD | refine bS ?_ GE150.out | refine bS ?_ GE151.out | refine bS ?_ GE172.out) | exact HB.out))) : w.heap.size ≤ gb191))
        have n6_ := A0 ((by rw [hg]; exact (below_size (by repeat (first | (with_reducible first | exact HB.out | apply wA | apply wN | apply wD | refine bS ?_ GE150.out | refine bS ?_ GE151.out | refine bS ?_ GE172.out) | exact HB.out))) : w.heap.size ≤ gb191))
        have n7_ := A0 ((by rw [hg]; exact Nat.ne_of_lt (blk_lt (g := gb150) (o := .cells #[.int .i64 a0_0, .int .i64 a0_1, .int .i64 a0_2, .string a0_3, .string a0_4, .int .i64 a0_5] 23 (0, 0)) (by (with_reducible repeat (first | refine bN ?_ _ | refine bD ?_ | refine bA ?_ _)); exact BK150.out)) : gb150 ≠ gb191))
        have n8_ := A0 ((by rw [hg]; exact Nat.ne_of_gt (blk_lt (g := gb150) (o := .cells #[.int .i64 a0_0, .int .i64 a0_1, .int .i64 a0_2, .string a0_3, .string a0_4, .int .i64 a0_5] 23 (0, 0)) (by (with_reducible repeat (first | refine bN ?_ _ | refine bD ?_ | refine bA ?_ _)); exact BK150.out)) : gb191 ≠ gb150))
        have n9_ := A0 ((by rw [hg]; exact Nat.ne_of_lt (blk_lt (g := gb151) (o := .cells #[.int .i64 a1_0, .int .i64 a1_1, .int .i64 a1_2, .string a1_3, .string a1_4, .int .i64 a1_5] 23 (0, 0)) (by (with_reducible repeat (first | refine bN ?_ _ | refine bD ?_ | refine bA ?_ _)); exact BK151.out)) : gb151 ≠ gb191))
        have n10_ := A0 ((by rw [hg]; exact Nat.ne_of_gt (blk_lt (g := gb151) (o := .cells #[.int .i64 a1_0, .int .i64 a1_1, .int .i64 a1_2, .string a1_3, .string a1_4, .int .i64 a1_5] 23 (0, 0)) (by (with_reducible repeat (first | refine bN ?_ _ | refine bD ?_ | refine bA ?_ _)); exact BK151.out)) : gb191 ≠ gb151))
        have n11_ := A0 ((by rw [hg]; exact Nat.ne_of_lt (blk_lt (g := gb172) (o := .cells #[.int .i64 t166, .int .i64 t167, .int .i64 t168, .string t169, .string t170, .int .i64 t171] 25 (0, 0)) (by (with_reducible repeat (first | refine bN ?_ _ | refine bD ?_ | refine bA ?_ _)); exact BK172.out)) : gb172 ≠ gb191))
        have n12_ := A0 ((by rw [hg]; exact Nat.ne_of_gt (blk_lt (g := gb172) (o := .cells #[.int .i64 t166, .int .i64 t167, .int .i64 t168, .string t169, .string t170, .int .i64 t171] 25 (0, 0)) (by (with_reducible repeat (first | refine bN ?_ _ | refine bD ?_ | refine bA ?_ _)); exact BK172.out)) : gb191 ≠ gb172))
        clear BK150
        clear BK151
        clear BK172
        clear HB
        have BK150 := n0_
        have BK151 := n1_
        have BK172 := n2_
        have HB := n3_
        have BK191 := n4_
        have GW191 := n5_
        have GE191 := n6_
        have NB150_191 := n7_
        have NB191_150 := n8_
        have NB151_191 := n9_
        have NB191_151 := n10_
        have NB172_191 := n11_
        have NB191_172 := n12_
        clear n0_ n1_ n2_ n3_ n4_ n5_ n6_ n7_ n8_ n9_ n10_ n11_ n12_
        clear hb hbox hg
        refine hK.out _ _ ⟨bC BK150.out 0 rfl, bC BK150.out 1 rfl, bC BK150.out 2 rfl, bC BK150.out 3 rfl, bC BK150.out 4 rfl, bC BK150.out 5 rfl, bC BK151.out 0 rfl, bC BK151.out 1 rfl, bC BK151.out 2 rfl, bC BK151.out 3 rfl, bC BK151.out 4 rfl, bC BK151.out 5 rfl⟩ (fun hHeld => ?_)
        clear hK K
        refine norm_ (a' := ?_) ?_ ?_
        rotate_left
        ·show Act.put _ (some 7) _ = _
         simp only [Act.put, sqA, sqZ, sqS, i64_w, i32_w]
         rfl
        exact norm_ (by simp only [putAll, Act.put, sqA, sqZ, sqS]) (hCont (gb191) _ ⟨hHeld, (by (with_reducible repeat (first | refine bN ?_ _ | refine bD ?_ | refine bA ?_ _)); exact BK150.out), (by (with_reducible repeat (first | refine bN ?_ _ | refine bD ?_ | refine bA ?_ _)); exact BK151.out), (by (with_reducible repeat (first | refine bN ?_ _ | refine bD ?_ | refine bA ?_ _)); exact BK172.out), (by (with_reducible repeat (first | refine bN ?_ _ | refine bD ?_ | refine bA ?_ _)); exact BK191.out), GW191.out, GE191.out, NB150_191.out, NB191_150.out, NB151_191.out, NB191_151.out, NB172_191.out, NB191_172.out, (by repeat (first | (with_reducible first | exact HB.out | apply wA | apply wN | apply wD | refine bS ?_ GE150.out | refine bS ?_ GE151.out | refine bS ?_ GE172.out | refine bS ?_ GE191.out) | exact HB.out))⟩)
       ·skip
        refine box_step ?hg (N := 7) ?hd (cs := #[.int .i64 0, .int .i64 0, .int .i64 0, .string (⟨#[]⟩ : ByteArray), .string (⟨#[]⟩ : ByteArray), .int .i64 0]) (t := 25) ?hr ?_; (case hd => rfl); (case hg => rfl); (case hr => first | (go_simp; done) | (go_simp; rfl))
        intro gb191 hg w92 hbox hb
        have n0_ := A0 (blk_below (g := gb150) (o := .cells #[.int .i64 a0_0, .int .i64 a0_1, .int .i64 a0_2, .string a0_3, .string a0_4, .int .i64 a0_5] 23 (0, 0)) (by (with_reducible repeat (first | refine bN ?_ _ | refine bD ?_ | refine bA ?_ _)); exact BK150.out) hb)
        have n1_ := A0 (blk_below (g := gb151) (o := .cells #[.int .i64 a1_0, .int .i64 a1_1, .int .i64 a1_2, .string a1_3, .string a1_4, .int .i64 a1_5] 23 (0, 0)) (by (with_reducible repeat (first | refine bN ?_ _ | refine bD ?_ | refine bA ?_ _)); exact BK151.out) hb)
        have n2_ := A0 (blk_below (g := gb172) (o := .cells #[.int .i64 t166, .int .i64 t167, .int .i64 t168, .string t169, .string t170, .int .i64 t171] 25 (0, 0)) (by (with_reducible repeat (first | refine bN ?_ _ | refine bD ?_ | refine bA ?_ _)); exact BK172.out) hb)
        have n3_ := A0 (below_step (by repeat (first | (with_reducible first | exact HB.out | apply wA | apply wN | apply wD | refine bS ?_ GE150.out | refine bS ?_ GE151.out | refine bS ?_ GE172.out) | exact HB.out)) hb)
        have n4_ := A0 (hbox)
        have n5_ := A0 ((by rw [hg]; exact (below_size (by repeat (first | (with_reducible first | exact HB.out | apply wA | apply wN | apply wD | refine bS ?_ GE150.out | refine bS ?_ GE151.out | refine bS ?_ GE172.out) | exact HB.out))) : w.heap.size ≤ gb191))
        have n6_ := A0 ((by rw [hg]; exact (below_size (by repeat (first | (with_reducible first | exact HB.out | apply wA | apply wN | apply wD | refine bS ?_ GE150.out | refine bS ?_ GE151.out | refine bS ?_ GE172.out) | exact HB.out))) : w.heap.size ≤ gb191))
        have n7_ := A0 ((by rw [hg]; exact Nat.ne_of_lt (blk_lt (g := gb150) (o := .cells #[.int .i64 a0_0, .int .i64 a0_1, .int .i64 a0_2, .string a0_3, .string a0_4, .int .i64 a0_5] 23 (0, 0)) (by (with_reducible repeat (first | refine bN ?_ _ | refine bD ?_ | refine bA ?_ _)); exact BK150.out)) : gb150 ≠ gb191))
        have n8_ := A0 ((by rw [hg]; exact Nat.ne_of_gt (blk_lt (g := gb150) (o := .cells #[.int .i64 a0_0, .int .i64 a0_1, .int .i64 a0_2, .string a0_3, .string a0_4, .int .i64 a0_5] 23 (0, 0)) (by (with_reducible repeat (first | refine bN ?_ _ | refine bD ?_ | refine bA ?_ _)); exact BK150.out)) : gb191 ≠ gb150))
        have n9_ := A0 ((by rw [hg]; exact Nat.ne_of_lt (blk_lt (g := gb151) (o := .cells #[.int .i64 a1_0, .int .i64 a1_1, .int .i64 a1_2, .string a1_3, .string a1_4, .int .i64 a1_5] 23 (0, 0)) (by (with_reducible repeat (first | refine bN ?_ _ | refine bD ?_ | refine bA ?_ _)); exact BK151.out)) : gb151 ≠ gb191))
        have n10_ := A0 ((by rw [hg]; exact Nat.ne_of_gt (blk_lt (g := gb151) (o := .cells #[.int .i64 a1_0, .int .i64 a1_1, .int .i64 a1_2, .string a1_3, .string a1_4, .int .i64 a1_5] 23 (0, 0)) (by (with_reducible repeat (first | refine bN ?_ _ | refine bD ?_ | refine bA ?_ _)); exact BK151.out)) : gb191 ≠ gb151))
        have n11_ := A0 ((by rw [hg]; exact Nat.ne_of_lt (blk_lt (g := gb172) (o := .cells #[.int .i64 t166, .int .i64 t167, .int .i64 t168, .string t169, .string t170, .int .i64 t171] 25 (0, 0)) (by (with_reducible repeat (first | refine bN ?_ _ | refine bD ?_ | refine bA ?_ _)); exact BK172.out)) : gb172 ≠ gb191))
        have n12_ := A0 ((by rw [hg]; exact Nat.ne_of_gt (blk_lt (g := gb172) (o := .cells #[.int .i64 t166, .int .i64 t167, .int .i64 t168, .string t169, .string t170, .int .i64 t171] 25 (0, 0)) (by (with_reducible repeat (first | refine bN ?_ _ | refine bD ?_ | refine bA ?_ _)); exact BK172.out)) : gb191 ≠ gb172))
        clear BK150
        clear BK151
        clear BK172
        clear HB
        have BK150 := n0_
        have BK151 := n1_
        have BK172 := n2_
        have HB := n3_
        have BK191 := n4_
        have GW191 := n5_
        have GE191 := n6_
        have NB150_191 := n7_
        have NB191_150 := n8_
        have NB151_191 := n9_
        have NB191_151 := n10_
        have NB172_191 := n11_
        have NB191_172 := n12_
        clear n0_ n1_ n2_ n3_ n4_ n5_ n6_ n7_ n8_ n9_ n10_ n11_ n12_
        clear hb hbox hg
        refine hK.out _ _ ⟨bC BK150.out 0 rfl, bC BK150.out 1 rfl, bC BK150.out 2 rfl, bC BK150.out 3 rfl, bC BK150.out 4 rfl, bC BK150.out 5 rfl, bC BK151.out 0 rfl, bC BK151.out 1 rfl, bC BK151.out 2 rfl, bC BK151.out 3 rfl, bC BK151.out 4 rfl, bC BK151.out 5 rfl⟩ (fun hHeld => ?_)
        clear hK K
        refine norm_ (a' := ?_) ?_ ?_
        rotate_left
        ·show Act.put _ (some 7) _ = _
         simp only [Act.put, sqA, sqZ, sqS, i64_w, i32_w]
         rfl
        refine one_ (i := 4) (N := some 27) #[true, true, true, true, true, true, false] rfl rfl (by kernel_rfl) (by decide) (fun K hK => ?_)
        refine goes_ Tryd.func8 (by kernel_rfl) rfl #[.agg #[.int .i64 t173, .int .i64 t174, .int .i64 t175, .string t176, .string t177, .int .i64 t178], .agg #[.int .i64 t179, .int .i64 t180, .int .i64 t181, .string t182, .string t183, .int .i64 t184]] (by rfl) rfl rfl (by (try simp only [lM, lC, lN]); first | done | rfl | (simp only [lD, lT]; rfl)) ?_
        with_reducible refine (impl_Laid.calls k t173 t174 t175 t176 t177 t178 t179 t180 t181 t182 t183 t184 l2 l3 t185 t186 t187 t188 t189 t190 _ ?side1 ?side2 ?side3 ?side4 A26.out).mono ?_
        (case side1 => repeat (first | exact (Kd.C_below HR2.out HB.out) | (with_reducible refine Kd.C_alloc ?_ _) | (with_reducible refine Kd.C_drewN ?_ _) | (with_reducible refine Kd.C_drew ?_)))
        (case side2 => exact HC2.out)
        (case side3 => repeat (first | exact (Kd.C_below HR3.out HB.out) | (with_reducible refine Kd.C_alloc ?_ _) | (with_reducible refine Kd.C_drewN ?_ _) | (with_reducible refine Kd.C_drew ?_)))
        (case side4 => exact HC3.out)
        rintro e w93 ⟨rfl, hb⟩
        refine ⟨_, rfl, ?_⟩
        have n0_ := A0 (blk_below (g := gb150) (o := .cells #[.int .i64 a0_0, .int .i64 a0_1, .int .i64 a0_2, .string a0_3, .string a0_4, .int .i64 a0_5] 23 (0, 0)) (by (with_reducible repeat (first | refine bN ?_ _ | refine bD ?_ | refine bA ?_ _)); exact BK150.out) hb)
        have n1_ := A0 (blk_below (g := gb151) (o := .cells #[.int .i64 a1_0, .int .i64 a1_1, .int .i64 a1_2, .string a1_3, .string a1_4, .int .i64 a1_5] 23 (0, 0)) (by (with_reducible repeat (first | refine bN ?_ _ | refine bD ?_ | refine bA ?_ _)); exact BK151.out) hb)
        have n2_ := A0 (blk_below (g := gb172) (o := .cells #[.int .i64 t166, .int .i64 t167, .int .i64 t168, .string t169, .string t170, .int .i64 t171] 25 (0, 0)) (by (with_reducible repeat (first | refine bN ?_ _ | refine bD ?_ | refine bA ?_ _)); exact BK172.out) hb)
        have n3_ := A0 (blk_below (g := gb191) (o := .cells #[.int .i64 0, .int .i64 0, .int .i64 0, .string (⟨#[]⟩ : ByteArray), .string (⟨#[]⟩ : ByteArray), .int .i64 0] 25 (0, 0)) (by (with_reducible repeat (first | refine bN ?_ _ | refine bD ?_ | refine bA ?_ _)); exact BK191.out) hb)
        have n4_ := A0 (below_step (by repeat (first | (with_reducible first | exact HB.out | apply wA | apply wN | apply wD | refine bS ?_ GE150.out | refine bS ?_ GE151.out | refine bS ?_ GE172.out | refine bS ?_ GE191.out) | exact HB.out)) hb)
        clear BK150
        clear BK151
        clear BK172
        clear BK191
        clear HB
        have BK150 := n0_
        have BK151 := n1_
        have BK172 := n2_
        have BK191 := n3_
        have HB := n4_
        clear n0_ n1_ n2_ n3_ n4_
        (try clear hb)
        refine hK.out _ _ ⟨bC BK150.out 0 rfl, bC BK150.out 1 rfl, bC BK150.out 2 rfl, bC BK150.out 3 rfl, bC BK150.out 4 rfl, bC BK150.out 5 rfl, bC BK151.out 0 rfl, bC BK151.out 1 rfl, bC BK151.out 2 rfl, bC BK151.out 3 rfl, bC BK151.out 4 rfl, bC BK151.out 5 rfl⟩ (fun hHeld => ?_)
        clear hK K
        refine norm_ (a' := ?_) ?_ ?_
        rotate_left
        ·show Act.put _ (some 27) _ = _
         simp only [Act.put, sqA, sqZ, sqS, i64_w, i32_w]
         rfl
        exact norm_ (by simp only [putAll, Act.put, sqA, sqZ, sqS]) (hCont (gb191) _ ⟨hHeld, (by (with_reducible repeat (first | refine bN ?_ _ | refine bD ?_ | refine bA ?_ _)); exact BK150.out), (by (with_reducible repeat (first | refine bN ?_ _ | refine bD ?_ | refine bA ?_ _)); exact BK151.out), (by (with_reducible repeat (first | refine bN ?_ _ | refine bD ?_ | refine bA ?_ _)); exact BK172.out), (by (with_reducible repeat (first | refine bN ?_ _ | refine bD ?_ | refine bA ?_ _)); exact BK191.out), GW191.out, GE191.out, NB150_191.out, NB191_150.out, NB151_191.out, NB191_151.out, NB172_191.out, NB191_172.out, (by repeat (first | (with_reducible first | exact HB.out | apply wA | apply wN | apply wD | refine bS ?_ GE150.out | refine bS ?_ GE151.out | refine bS ?_ GE172.out | refine bS ?_ GE191.out) | exact HB.out))⟩)
      ·skip
       refine box_step ?hg (N := 7) ?hd (cs := #[.int .i64 0, .int .i64 0, .int .i64 0, .string (⟨#[]⟩ : ByteArray), .string (⟨#[]⟩ : ByteArray), .int .i64 0]) (t := 25) ?hr ?_; (case hd => rfl); (case hg => rfl); (case hr => first | (go_simp; done) | (go_simp; rfl))
       intro gb191 hg w91 hbox hb
       have n0_ := A0 (blk_below (g := gb150) (o := .cells #[.int .i64 a0_0, .int .i64 a0_1, .int .i64 a0_2, .string a0_3, .string a0_4, .int .i64 a0_5] 23 (0, 0)) (by (with_reducible repeat (first | refine bN ?_ _ | refine bD ?_ | refine bA ?_ _)); exact BK150.out) hb)
       have n1_ := A0 (blk_below (g := gb151) (o := .cells #[.int .i64 a1_0, .int .i64 a1_1, .int .i64 a1_2, .string a1_3, .string a1_4, .int .i64 a1_5] 23 (0, 0)) (by (with_reducible repeat (first | refine bN ?_ _ | refine bD ?_ | refine bA ?_ _)); exact BK151.out) hb)
       have n2_ := A0 (blk_below (g := gb172) (o := .cells #[.int .i64 t166, .int .i64 t167, .int .i64 t168, .string t169, .string t170, .int .i64 t171] 25 (0, 0)) (by (with_reducible repeat (first | refine bN ?_ _ | refine bD ?_ | refine bA ?_ _)); exact BK172.out) hb)
       have n3_ := A0 (below_step (by repeat (first | (with_reducible first | exact HB.out | apply wA | apply wN | apply wD | refine bS ?_ GE150.out | refine bS ?_ GE151.out | refine bS ?_ GE172.out) | exact HB.out)) hb)
       have n4_ := A0 (hbox)
       have n5_ := A0 ((by rw [hg]; exact (below_size (by repeat (first | (with_reducible first | exact HB.out | apply wA | apply wN | apply wD | refine bS ?_ GE150.out | refine bS ?_ GE151.out | refine bS ?_ GE172.out) | exact HB.out))) : w.heap.size ≤ gb191))
       have n6_ := A0 ((by rw [hg]; exact (below_size (by repeat (first | (with_reducible first | exact HB.out | apply wA | apply wN | apply wD | refine bS ?_ GE150.out | refine bS ?_ GE151.out | refine bS ?_ GE172.out) | exact HB.out))) : w.heap.size ≤ gb191))
       have n7_ := A0 ((by rw [hg]; exact Nat.ne_of_lt (blk_lt (g := gb150) (o := .cells #[.int .i64 a0_0, .int .i64 a0_1, .int .i64 a0_2, .string a0_3, .string a0_4, .int .i64 a0_5] 23 (0, 0)) (by (with_reducible repeat (first | refine bN ?_ _ | refine bD ?_ | refine bA ?_ _)); exact BK150.out)) : gb150 ≠ gb191))
       have n8_ := A0 ((by rw [hg]; exact Nat.ne_of_gt (blk_lt (g := gb150) (o := .cells #[.int .i64 a0_0, .int .i64 a0_1, .int .i64 a0_2, .string a0_3, .string a0_4, .int .i64 a0_5] 23 (0, 0)) (by (with_reducible repeat (first | refine bN ?_ _ | refine bD ?_ | refine bA ?_ _)); exact BK150.out)) : gb191 ≠ gb150))
       have n9_ := A0 ((by rw [hg]; exact Nat.ne_of_lt (blk_lt (g := gb151) (o := .cells #[.int .i64 a1_0, .int .i64 a1_1, .int .i64 a1_2, .string a1_3, .string a1_4, .int .i64 a1_5] 23 (0, 0)) (by (with_reducible repeat (first | refine bN ?_ _ | refine bD ?_ | refine bA ?_ _)); exact BK151.out)) : gb151 ≠ gb191))
       have n10_ := A0 ((by rw [hg]; exact Nat.ne_of_gt (blk_lt (g := gb151) (o := .cells #[.int .i64 a1_0, .int .i64 a1_1, .int .i64 a1_2, .string a1_3, .string a1_4, .int .i64 a1_5] 23 (0, 0)) (by (with_reducible repeat (first | refine bN ?_ _ | refine bD ?_ | refine bA ?_ _)); exact BK151.out)) : gb191 ≠ gb151))
       have n11_ := A0 ((by rw [hg]; exact Nat.ne_of_lt (blk_lt (g := gb172) (o := .cells #[.int .i64 t166, .int .i64 t167, .int .i64 t168, .string t169, .string t170, .int .i64 t171] 25 (0, 0)) (by (with_reducible repeat (first | refine bN ?_ _ | refine bD ?_ | refine bA ?_ _)); exact BK172.out)) : gb172 ≠ gb191))
       have n12_ := A0 ((by rw [hg]; exact Nat.ne_of_gt (blk_lt (g := gb172) (o := .cells #[.int .i64 t166, .int .i64 t167, .int .i64 t168, .string t169, .string t170, .int .i64 t171] 25 (0, 0)) (by (with_reducible repeat (first | refine bN ?_ _ | refine bD ?_ | refine bA ?_ _)); exact BK172.out)) : gb191 ≠ gb172))
       clear BK150
       clear BK151
       clear BK172
       clear HB
       have BK150 := n0_
       have BK151 := n1_
       have BK172 := n2_
       have HB := n3_
       have BK191 := n4_
       have GW191 := n5_
       have GE191 := n6_
       have NB150_191 := n7_
       have NB191_150 := n8_
       have NB151_191 := n9_
       have NB191_151 := n10_
       have NB172_191 := n11_
       have NB191_172 := n12_
       clear n0_ n1_ n2_ n3_ n4_ n5_ n6_ n7_ n8_ n9_ n10_ n11_ n12_
       clear hb hbox hg
       refine hK.out _ _ ⟨bC BK150.out 0 rfl, bC BK150.out 1 rfl, bC BK150.out 2 rfl, bC BK150.out 3 rfl, bC BK150.out 4 rfl, bC BK150.out 5 rfl, bC BK151.out 0 rfl, bC BK151.out 1 rfl, bC BK151.out 2 rfl, bC BK151.out 3 rfl, bC BK151.out 4 rfl, bC BK151.out 5 rfl⟩ (fun hHeld => ?_)
       clear hK K
       refine norm_ (a' := ?_) ?_ ?_
       rotate_left
       ·show Act.put _ (some 7) _ = _
        simp only [Act.put, sqA, sqZ, sqS, i64_w, i32_w]
        rfl
       refine one_ (i := 3) (N := some 26) #[true, true, true, true, false, true, false] rfl rfl (by kernel_rfl) (by decide) (fun K hK => ?_)
       refine goes_ Tryd.func7 (by kernel_rfl) rfl #[.agg #[.int .i64 a1_0, .int .i64 a1_1, .int .i64 a1_2, .string a1_3, .string a1_4, .int .i64 a1_5]] (by rfl) rfl rfl (by (try simp only [lM, lC, lN]); first | done | rfl | (simp only [lD, lT]; rfl)) ?_
       with_reducible refine (laws_toSky.calls a1_0 a1_1 a1_2 a1_3 a1_4 a1_5 t179 t180 t181 t182 t183 t184 _ A25.out).mono ?_
       rintro e w92 ⟨rfl, hb⟩
       refine ⟨_, rfl, ?_⟩
       have n0_ := A0 (blk_below (g := gb150) (o := .cells #[.int .i64 a0_0, .int .i64 a0_1, .int .i64 a0_2, .string a0_3, .string a0_4, .int .i64 a0_5] 23 (0, 0)) (by (with_reducible repeat (first | refine bN ?_ _ | refine bD ?_ | refine bA ?_ _)); exact BK150.out) hb)
       have n1_ := A0 (blk_below (g := gb151) (o := .cells #[.int .i64 a1_0, .int .i64 a1_1, .int .i64 a1_2, .string a1_3, .string a1_4, .int .i64 a1_5] 23 (0, 0)) (by (with_reducible repeat (first | refine bN ?_ _ | refine bD ?_ | refine bA ?_ _)); exact BK151.out) hb)
       have n2_ := A0 (blk_below (g := gb172) (o := .cells #[.int .i64 t166, .int .i64 t167, .int .i64 t168, .string t169, .string t170, .int .i64 t171] 25 (0, 0)) (by (with_reducible repeat (first | refine bN ?_ _ | refine bD ?_ | refine bA ?_ _)); exact BK172.out) hb)
       have n3_ := A0 (blk_below (g := gb191) (o := .cells #[.int .i64 0, .int .i64 0, .int .i64 0, .string (⟨#[]⟩ : ByteArray), .string (⟨#[]⟩ : ByteArray), .int .i64 0] 25 (0, 0)) (by (with_reducible repeat (first | refine bN ?_ _ | refine bD ?_ | refine bA ?_ _)); exact BK191.out) hb)
       have n4_ := A0 (below_step (by repeat (first | (with_reducible first | exact HB.out | apply wA | apply wN | apply wD | refine bS ?_ GE150.out | refine bS ?_ GE151.out | refine bS ?_ GE172.out | refine bS ?_ GE191.out) | exact HB.out)) hb)
       clear BK150
       clear BK151
       clear BK172
       clear BK191
       clear HB
       have BK150 := n0_
       have BK151 := n1_
       have BK172 := n2_
       have BK191 := n3_
       have HB := n4_
       clear n0_ n1_ n2_ n3_ n4_
       (try clear hb)
       refine hK.out _ _ ⟨bC BK150.out 0 rfl, bC BK150.out 1 rfl, bC BK150.out 2 rfl, bC BK150.out 3 rfl, bC BK150.out 4 rfl, bC BK150.out 5 rfl, bC BK151.out 0 rfl, bC BK151.out 1 rfl, bC BK151.out 2 rfl, bC BK151.out 3 rfl, bC BK151.out 4 rfl, bC BK151.out 5 rfl⟩ (fun hHeld => ?_)
       clear hK K
       refine norm_ (a' := ?_) ?_ ?_
       rotate_left
       ·show Act.put _ (some 26) _ = _
        simp only [Act.put, sqA, sqZ, sqS, i64_w, i32_w]
        rfl
       refine one_ (i := 4) (N := some 27) #[true, true, true, true, true, true, false] rfl rfl (by kernel_rfl) (by decide) (fun K hK => ?_)
       refine goes_ Tryd.func8 (by kernel_rfl) rfl #[.agg #[.int .i64 t173, .int .i64 t174, .int .i64 t175, .string t176, .string t177, .int .i64 t178], .agg #[.int .i64 t179, .int .i64 t180, .int .i64 t181, .string t182, .string t183, .int .i64 t184]] (by rfl) rfl rfl (by (try simp only [lM, lC, lN]); first | done | rfl | (simp only [lD, lT]; rfl)) ?_
       with_reducible refine (impl_Laid.calls k t173 t174 t175 t176 t177 t178 t179 t180 t181 t182 t183 t184 l2 l3 t185 t186 t187 t188 t189 t190 _ ?side1 ?side2 ?side3 ?side4 A26.out).mono ?_
       (case side1 => repeat (first | exact (Kd.C_below HR2.out HB.out) | (with_reducible refine Kd.C_alloc ?_ _) | (with_reducible refine Kd.C_drewN ?_ _) | (with_reducible refine Kd.C_drew ?_)))
       (case side2 => exact HC2.out)
       (case side3 => repeat (first | exact (Kd.C_below HR3.out HB.out) | (with_reducible refine Kd.C_alloc ?_ _) | (with_reducible refine Kd.C_drewN ?_ _) | (with_reducible refine Kd.C_drew ?_)))
       (case side4 => exact HC3.out)
       rintro e w93 ⟨rfl, hb⟩
       refine ⟨_, rfl, ?_⟩
       have n0_ := A0 (blk_below (g := gb150) (o := .cells #[.int .i64 a0_0, .int .i64 a0_1, .int .i64 a0_2, .string a0_3, .string a0_4, .int .i64 a0_5] 23 (0, 0)) (by (with_reducible repeat (first | refine bN ?_ _ | refine bD ?_ | refine bA ?_ _)); exact BK150.out) hb)
       have n1_ := A0 (blk_below (g := gb151) (o := .cells #[.int .i64 a1_0, .int .i64 a1_1, .int .i64 a1_2, .string a1_3, .string a1_4, .int .i64 a1_5] 23 (0, 0)) (by (with_reducible repeat (first | refine bN ?_ _ | refine bD ?_ | refine bA ?_ _)); exact BK151.out) hb)
       have n2_ := A0 (blk_below (g := gb172) (o := .cells #[.int .i64 t166, .int .i64 t167, .int .i64 t168, .string t169, .string t170, .int .i64 t171] 25 (0, 0)) (by (with_reducible repeat (first | refine bN ?_ _ | refine bD ?_ | refine bA ?_ _)); exact BK172.out) hb)
       have n3_ := A0 (blk_below (g := gb191) (o := .cells #[.int .i64 0, .int .i64 0, .int .i64 0, .string (⟨#[]⟩ : ByteArray), .string (⟨#[]⟩ : ByteArray), .int .i64 0] 25 (0, 0)) (by (with_reducible repeat (first | refine bN ?_ _ | refine bD ?_ | refine bA ?_ _)); exact BK191.out) hb)
       have n4_ := A0 (below_step (by repeat (first | (with_reducible first | exact HB.out | apply wA | apply wN | apply wD | refine bS ?_ GE150.out | refine bS ?_ GE151.out | refine bS ?_ GE172.out | refine bS ?_ GE191.out) | exact HB.out)) hb)
       clear BK150
       clear BK151
       clear BK172
       clear BK191
       clear HB
       have BK150 := n0_
       have BK151 := n1_
       have BK172 := n2_
       have BK191 := n3_
       have HB := n4_
       clear n0_ n1_ n2_ n3_ n4_
       (try clear hb)
       refine hK.out _ _ ⟨bC BK150.out 0 rfl, bC BK150.out 1 rfl, bC BK150.out 2 rfl, bC BK150.out 3 rfl, bC BK150.out 4 rfl, bC BK150.out 5 rfl, bC BK151.out 0 rfl, bC BK151.out 1 rfl, bC BK151.out 2 rfl, bC BK151.out 3 rfl, bC BK151.out 4 rfl, bC BK151.out 5 rfl⟩ (fun hHeld => ?_)
       clear hK K
       refine norm_ (a' := ?_) ?_ ?_
       rotate_left
       ·show Act.put _ (some 27) _ = _
        simp only [Act.put, sqA, sqZ, sqS, i64_w, i32_w]
        rfl
       exact norm_ (by simp only [putAll, Act.put, sqA, sqZ, sqS]) (hCont (gb191) _ ⟨hHeld, (by (with_reducible repeat (first | refine bN ?_ _ | refine bD ?_ | refine bA ?_ _)); exact BK150.out), (by (with_reducible repeat (first | refine bN ?_ _ | refine bD ?_ | refine bA ?_ _)); exact BK151.out), (by (with_reducible repeat (first | refine bN ?_ _ | refine bD ?_ | refine bA ?_ _)); exact BK172.out), (by (with_reducible repeat (first | refine bN ?_ _ | refine bD ?_ | refine bA ?_ _)); exact BK191.out), GW191.out, GE191.out, NB150_191.out, NB191_150.out, NB151_191.out, NB191_151.out, NB172_191.out, NB191_172.out, (by repeat (first | (with_reducible first | exact HB.out | apply wA | apply wN | apply wD | refine bS ?_ GE150.out | refine bS ?_ GE151.out | refine bS ?_ GE172.out | refine bS ?_ GE191.out) | exact HB.out))⟩)
     ·skip
      refine box_step ?hg (N := 7) ?hd (cs := #[.int .i64 0, .int .i64 0, .int .i64 0, .string (⟨#[]⟩ : ByteArray), .string (⟨#[]⟩ : ByteArray), .int .i64 0]) (t := 25) ?hr ?_; (case hd => rfl); (case hg => rfl); (case hr => first | (go_simp; done) | (go_simp; rfl))
      intro gb191 hg w90 hbox hb
      have n0_ := A0 (blk_below (g := gb150) (o := .cells #[.int .i64 a0_0, .int .i64 a0_1, .int .i64 a0_2, .string a0_3, .string a0_4, .int .i64 a0_5] 23 (0, 0)) (by (with_reducible repeat (first | refine bN ?_ _ | refine bD ?_ | refine bA ?_ _)); exact BK150.out) hb)
      have n1_ := A0 (blk_below (g := gb151) (o := .cells #[.int .i64 a1_0, .int .i64 a1_1, .int .i64 a1_2, .string a1_3, .string a1_4, .int .i64 a1_5] 23 (0, 0)) (by (with_reducible repeat (first | refine bN ?_ _ | refine bD ?_ | refine bA ?_ _)); exact BK151.out) hb)
      have n2_ := A0 (blk_below (g := gb172) (o := .cells #[.int .i64 t166, .int .i64 t167, .int .i64 t168, .string t169, .string t170, .int .i64 t171] 25 (0, 0)) (by (with_reducible repeat (first | refine bN ?_ _ | refine bD ?_ | refine bA ?_ _)); exact BK172.out) hb)
      have n3_ := A0 (below_step (by repeat (first | (with_reducible first | exact HB.out | apply wA | apply wN | apply wD | refine bS ?_ GE150.out | refine bS ?_ GE151.out | refine bS ?_ GE172.out) | exact HB.out)) hb)
      have n4_ := A0 (hbox)
      have n5_ := A0 ((by rw [hg]; exact (below_size (by repeat (first | (with_reducible first | exact HB.out | apply wA | apply wN | apply wD | refine bS ?_ GE150.out | refine bS ?_ GE151.out | refine bS ?_ GE172.out) | exact HB.out))) : w.heap.size ≤ gb191))
      have n6_ := A0 ((by rw [hg]; exact (below_size (by repeat (first | (with_reducible first | exact HB.out | apply wA | apply wN | apply wD | refine bS ?_ GE150.out | refine bS ?_ GE151.out | refine bS ?_ GE172.out) | exact HB.out))) : w.heap.size ≤ gb191))
      have n7_ := A0 ((by rw [hg]; exact Nat.ne_of_lt (blk_lt (g := gb150) (o := .cells #[.int .i64 a0_0, .int .i64 a0_1, .int .i64 a0_2, .string a0_3, .string a0_4, .int .i64 a0_5] 23 (0, 0)) (by (with_reducible repeat (first | refine bN ?_ _ | refine bD ?_ | refine bA ?_ _)); exact BK150.out)) : gb150 ≠ gb191))
      have n8_ := A0 ((by rw [hg]; exact Nat.ne_of_gt (blk_lt (g := gb150) (o := .cells #[.int .i64 a0_0, .int .i64 a0_1, .int .i64 a0_2, .string a0_3, .string a0_4, .int .i64 a0_5] 23 (0, 0)) (by (with_reducible repeat (first | refine bN ?_ _ | refine bD ?_ | refine bA ?_ _)); exact BK150.out)) : gb191 ≠ gb150))
      have n9_ := A0 ((by rw [hg]; exact Nat.ne_of_lt (blk_lt (g := gb151) (o := .cells #[.int .i64 a1_0, .int .i64 a1_1, .int .i64 a1_2, .string a1_3, .string a1_4, .int .i64 a1_5] 23 (0, 0)) (by (with_reducible repeat (first | refine bN ?_ _ | refine bD ?_ | refine bA ?_ _)); exact BK151.out)) : gb151 ≠ gb191))
      have n10_ := A0 ((by rw [hg]; exact Nat.ne_of_gt (blk_lt (g := gb151) (o := .cells #[.int .i64 a1_0, .int .i64 a1_1, .int .i64 a1_2, .string a1_3, .string a1_4, .int .i64 a1_5] 23 (0, 0)) (by (with_reducible repeat (first | refine bN ?_ _ | refine bD ?_ | refine bA ?_ _)); exact BK151.out)) : gb191 ≠ gb151))
      have n11_ := A0 ((by rw [hg]; exact Nat.ne_of_lt (blk_lt (g := gb172) (o := .cells #[.int .i64 t166, .int .i64 t167, .int .i64 t168, .string t169, .string t170, .int .i64 t171] 25 (0, 0)) (by (with_reducible repeat (first | refine bN ?_ _ | refine bD ?_ | refine bA ?_ _)); exact BK172.out)) : gb172 ≠ gb191))
      have n12_ := A0 ((by rw [hg]; exact Nat.ne_of_gt (blk_lt (g := gb172) (o := .cells #[.int .i64 t166, .int .i64 t167, .int .i64 t168, .string t169, .string t170, .int .i64 t171] 25 (0, 0)) (by (with_reducible repeat (first | refine bN ?_ _ | refine bD ?_ | refine bA ?_ _)); exact BK172.out)) : gb191 ≠ gb172))
      clear BK150
      clear BK151
      clear BK172
      clear HB
      have BK150 := n0_
      have BK151 := n1_
      have BK172 := n2_
      have HB := n3_
      have BK191 := n4_
      have GW191 := n5_
      have GE191 := n6_
      have NB150_191 := n7_
      have NB191_150 := n8_
      have NB151_191 := n9_
      have NB191_151 := n10_
      have NB172_191 := n11_
      have NB191_172 := n12_
      clear n0_ n1_ n2_ n3_ n4_ n5_ n6_ n7_ n8_ n9_ n10_ n11_ n12_
      clear hb hbox hg
      refine hK.out _ _ ⟨bC BK150.out 0 rfl, bC BK150.out 1 rfl, bC BK150.out 2 rfl, bC BK150.out 3 rfl, bC BK150.out 4 rfl, bC BK150.out 5 rfl, bC BK151.out 0 rfl, bC BK151.out 1 rfl, bC BK151.out 2 rfl, bC BK151.out 3 rfl, bC BK151.out 4 rfl, bC BK151.out 5 rfl⟩ (fun hHeld => ?_)
      clear hK K
      refine norm_ (a' := ?_) ?_ ?_
      rotate_left
      ·show Act.put _ (some 7) _ = _
       simp only [Act.put, sqA, sqZ, sqS, i64_w, i32_w]
       rfl
      refine one_ (i := 1) (N := some 24) #[true, true, true, false, false, true, false] rfl rfl (by kernel_rfl) (by decide) (fun K hK => ?_)
      refine goes_ Tryd.func7 (by kernel_rfl) rfl #[.agg #[.int .i64 a0_0, .int .i64 a0_1, .int .i64 a0_2, .string a0_3, .string a0_4, .int .i64 a0_5]] (by rfl) rfl rfl (by (try simp only [lM, lC, lN]); first | done | rfl | (simp only [lD, lT]; rfl)) ?_
      with_reducible refine (laws_toSky.calls a0_0 a0_1 a0_2 a0_3 a0_4 a0_5 t173 t174 t175 t176 t177 t178 _ A24.out).mono ?_
      rintro e w91 ⟨rfl, hb⟩
      refine ⟨_, rfl, ?_⟩
      have n0_ := A0 (blk_below (g := gb150) (o := .cells #[.int .i64 a0_0, .int .i64 a0_1, .int .i64 a0_2, .string a0_3, .string a0_4, .int .i64 a0_5] 23 (0, 0)) (by (with_reducible repeat (first | refine bN ?_ _ | refine bD ?_ | refine bA ?_ _)); exact BK150.out) hb)
      have n1_ := A0 (blk_below (g := gb151) (o := .cells #[.int .i64 a1_0, .int .i64 a1_1, .int .i64 a1_2, .string a1_3, .string a1_4, .int .i64 a1_5] 23 (0, 0)) (by (with_reducible repeat (first | refine bN ?_ _ | refine bD ?_ | refine bA ?_ _)); exact BK151.out) hb)
      have n2_ := A0 (blk_below (g := gb172) (o := .cells #[.int .i64 t166, .int .i64 t167, .int .i64 t168, .string t169, .string t170, .int .i64 t171] 25 (0, 0)) (by (with_reducible repeat (first | refine bN ?_ _ | refine bD ?_ | refine bA ?_ _)); exact BK172.out) hb)
      have n3_ := A0 (blk_below (g := gb191) (o := .cells #[.int .i64 0, .int .i64 0, .int .i64 0, .string (⟨#[]⟩ : ByteArray), .string (⟨#[]⟩ : ByteArray), .int .i64 0] 25 (0, 0)) (by (with_reducible repeat (first | refine bN ?_ _ | refine bD ?_ | refine bA ?_ _)); exact BK191.out) hb)
      have n4_ := A0 (below_step (by repeat (first | (with_reducible first | exact HB.out | apply wA | apply wN | apply wD | refine bS ?_ GE150.out | refine bS ?_ GE151.out | refine bS ?_ GE172.out | refine bS ?_ GE191.out) | exact HB.out)) hb)
      clear BK150
      clear BK151
      clear BK172
      clear BK191
      clear HB
      have BK150 := n0_
      have BK151 := n1_
      have BK172 := n2_
      have BK191 := n3_
      have HB := n4_
      clear n0_ n1_ n2_ n3_ n4_
      (try clear hb)
      refine hK.out _ _ ⟨bC BK150.out 0 rfl, bC BK150.out 1 rfl, bC BK150.out 2 rfl, bC BK150.out 3 rfl, bC BK150.out 4 rfl, bC BK150.out 5 rfl, bC BK151.out 0 rfl, bC BK151.out 1 rfl, bC BK151.out 2 rfl, bC BK151.out 3 rfl, bC BK151.out 4 rfl, bC BK151.out 5 rfl⟩ (fun hHeld => ?_)
      clear hK K
      refine norm_ (a' := ?_) ?_ ?_
      rotate_left
      ·show Act.put _ (some 24) _ = _
       simp only [Act.put, sqA, sqZ, sqS, i64_w, i32_w]
       rfl
      refine one_ (i := 3) (N := some 26) #[true, true, true, true, false, true, false] rfl rfl (by kernel_rfl) (by decide) (fun K hK => ?_)
      refine goes_ Tryd.func7 (by kernel_rfl) rfl #[.agg #[.int .i64 a1_0, .int .i64 a1_1, .int .i64 a1_2, .string a1_3, .string a1_4, .int .i64 a1_5]] (by rfl) rfl rfl (by (try simp only [lM, lC, lN]); first | done | rfl | (simp only [lD, lT]; rfl)) ?_
      with_reducible refine (laws_toSky.calls a1_0 a1_1 a1_2 a1_3 a1_4 a1_5 t179 t180 t181 t182 t183 t184 _ A25.out).mono ?_
      rintro e w92 ⟨rfl, hb⟩
      refine ⟨_, rfl, ?_⟩
      have n0_ := A0 (blk_below (g := gb150) (o := .cells #[.int .i64 a0_0, .int .i64 a0_1, .int .i64 a0_2, .string a0_3, .string a0_4, .int .i64 a0_5] 23 (0, 0)) (by (with_reducible repeat (first | refine bN ?_ _ | refine bD ?_ | refine bA ?_ _)); exact BK150.out) hb)
      have n1_ := A0 (blk_below (g := gb151) (o := .cells #[.int .i64 a1_0, .int .i64 a1_1, .int .i64 a1_2, .string a1_3, .string a1_4, .int .i64 a1_5] 23 (0, 0)) (by (with_reducible repeat (first | refine bN ?_ _ | refine bD ?_ | refine bA ?_ _)); exact BK151.out) hb)
      have n2_ := A0 (blk_below (g := gb172) (o := .cells #[.int .i64 t166, .int .i64 t167, .int .i64 t168, .string t169, .string t170, .int .i64 t171] 25 (0, 0)) (by (with_reducible repeat (first | refine bN ?_ _ | refine bD ?_ | refine bA ?_ _)); exact BK172.out) hb)
      have n3_ := A0 (blk_below (g := gb191) (o := .cells #[.int .i64 0, .int .i64 0, .int .i64 0, .string (⟨#[]⟩ : ByteArray), .string (⟨#[]⟩ : ByteArray), .int .i64 0] 25 (0, 0)) (by (with_reducible repeat (first | refine bN ?_ _ | refine bD ?_ | refine bA ?_ _)); exact BK191.out) hb)
      have n4_ := A0 (below_step (by repeat (first | (with_reducible first | exact HB.out | apply wA | apply wN | apply wD | refine bS ?_ GE150.out | refine bS ?_ GE151.out | refine bS ?_ GE172.out | refine bS ?_ GE191.out) | exact HB.out)) hb)
      clear BK150
      clear BK151
      clear BK172
      clear BK191
      clear HB
      have BK150 := n0_
      have BK151 := n1_
      have BK172 := n2_
      have BK191 := n3_
      have HB := n4_
      clear n0_ n1_ n2_ n3_ n4_
      (try clear hb)
      refine hK.out _ _ ⟨bC BK150.out 0 rfl, bC BK150.out 1 rfl, bC BK150.out 2 rfl, bC BK150.out 3 rfl, bC BK150.out 4 rfl, bC BK150.out 5 rfl, bC BK151.out 0 rfl, bC BK151.out 1 rfl, bC BK151.out 2 rfl, bC BK151.out 3 rfl, bC BK151.out 4 rfl, bC BK151.out 5 rfl⟩ (fun hHeld => ?_)
      clear hK K
      refine norm_ (a' := ?_) ?_ ?_
      rotate_left
      ·show Act.put _ (some 26) _ = _
       simp only [Act.put, sqA, sqZ, sqS, i64_w, i32_w]
       rfl
      refine one_ (i := 4) (N := some 27) #[true, true, true, true, true, true, false] rfl rfl (by kernel_rfl) (by decide) (fun K hK => ?_)
      refine goes_ Tryd.func8 (by kernel_rfl) rfl #[.agg #[.int .i64 t173, .int .i64 t174, .int .i64 t175, .string t176, .string t177, .int .i64 t178], .agg #[.int .i64 t179, .int .i64 t180, .int .i64 t181, .string t182, .string t183, .int .i64 t184]] (by rfl) rfl rfl (by (try simp only [lM, lC, lN]); first | done | rfl | (simp only [lD, lT]; rfl)) ?_
      with_reducible refine (impl_Laid.calls k t173 t174 t175 t176 t177 t178 t179 t180 t181 t182 t183 t184 l2 l3 t185 t186 t187 t188 t189 t190 _ ?side1 ?side2 ?side3 ?side4 A26.out).mono ?_
      (case side1 => repeat (first | exact (Kd.C_below HR2.out HB.out) | (with_reducible refine Kd.C_alloc ?_ _) | (with_reducible refine Kd.C_drewN ?_ _) | (with_reducible refine Kd.C_drew ?_)))
      (case side2 => exact HC2.out)
      (case side3 => repeat (first | exact (Kd.C_below HR3.out HB.out) | (with_reducible refine Kd.C_alloc ?_ _) | (with_reducible refine Kd.C_drewN ?_ _) | (with_reducible refine Kd.C_drew ?_)))
      (case side4 => exact HC3.out)
      rintro e w93 ⟨rfl, hb⟩
      refine ⟨_, rfl, ?_⟩
      have n0_ := A0 (blk_below (g := gb150) (o := .cells #[.int .i64 a0_0, .int .i64 a0_1, .int .i64 a0_2, .string a0_3, .string a0_4, .int .i64 a0_5] 23 (0, 0)) (by (with_reducible repeat (first | refine bN ?_ _ | refine bD ?_ | refine bA ?_ _)); exact BK150.out) hb)
      have n1_ := A0 (blk_below (g := gb151) (o := .cells #[.int .i64 a1_0, .int .i64 a1_1, .int .i64 a1_2, .string a1_3, .string a1_4, .int .i64 a1_5] 23 (0, 0)) (by (with_reducible repeat (first | refine bN ?_ _ | refine bD ?_ | refine bA ?_ _)); exact BK151.out) hb)
      have n2_ := A0 (blk_below (g := gb172) (o := .cells #[.int .i64 t166, .int .i64 t167, .int .i64 t168, .string t169, .string t170, .int .i64 t171] 25 (0, 0)) (by (with_reducible repeat (first | refine bN ?_ _ | refine bD ?_ | refine bA ?_ _)); exact BK172.out) hb)
      have n3_ := A0 (blk_below (g := gb191) (o := .cells #[.int .i64 0, .int .i64 0, .int .i64 0, .string (⟨#[]⟩ : ByteArray), .string (⟨#[]⟩ : ByteArray), .int .i64 0] 25 (0, 0)) (by (with_reducible repeat (first | refine bN ?_ _ | refine bD ?_ | refine bA ?_ _)); exact BK191.out) hb)
      have n4_ := A0 (below_step (by repeat (first | (with_reducible first | exact HB.out | apply wA | apply wN | apply wD | refine bS ?_ GE150.out | refine bS ?_ GE151.out | refine bS ?_ GE172.out | refine bS ?_ GE191.out) | exact HB.out)) hb)
      clear BK150
      clear BK151
      clear BK172
      clear BK191
      clear HB
      have BK150 := n0_
      have BK151 := n1_
      have BK172 := n2_
      have BK191 := n3_
      have HB := n4_
      clear n0_ n1_ n2_ n3_ n4_
      (try clear hb)
      refine hK.out _ _ ⟨bC BK150.out 0 rfl, bC BK150.out 1 rfl, bC BK150.out 2 rfl, bC BK150.out 3 rfl, bC BK150.out 4 rfl, bC BK150.out 5 rfl, bC BK151.out 0 rfl, bC BK151.out 1 rfl, bC BK151.out 2 rfl, bC BK151.out 3 rfl, bC BK151.out 4 rfl, bC BK151.out 5 rfl⟩ (fun hHeld => ?_)
      clear hK K
      refine norm_ (a' := ?_) ?_ ?_
      rotate_left
      ·show Act.put _ (some 27) _ = _
       simp only [Act.put, sqA, sqZ, sqS, i64_w, i32_w]
       rfl
      exact norm_ (by simp only [putAll, Act.put, sqA, sqZ, sqS]) (hCont (gb191) _ ⟨hHeld, (by (with_reducible repeat (first | refine bN ?_ _ | refine bD ?_ | refine bA ?_ _)); exact BK150.out), (by (with_reducible repeat (first | refine bN ?_ _ | refine bD ?_ | refine bA ?_ _)); exact BK151.out), (by (with_reducible repeat (first | refine bN ?_ _ | refine bD ?_ | refine bA ?_ _)); exact BK172.out), (by (with_reducible repeat (first | refine bN ?_ _ | refine bD ?_ | refine bA ?_ _)); exact BK191.out), GW191.out, GE191.out, NB150_191.out, NB191_150.out, NB151_191.out, NB191_151.out, NB172_191.out, NB191_172.out, (by repeat (first | (with_reducible first | exact HB.out | apply wA | apply wN | apply wD | refine bS ?_ GE150.out | refine bS ?_ GE151.out | refine bS ?_ GE172.out | refine bS ?_ GE191.out) | exact HB.out))⟩)
    rintro gb191 w94 ⟨hS_, h0_, h1_, h2_, h3_, h4_, h5_, h6_, h7_, h8_, h9_, h10_, h11_, h12_⟩
    have n0_ : Aside0 (w94.heap[gb150]? = some (.cells #[.int .i64 a0_0, .int .i64 a0_1, .int .i64 a0_2, .string a0_3, .string a0_4, .int .i64 a0_5] 23 (0, 0))) := ⟨h0_⟩
    have n1_ : Aside0 (w94.heap[gb151]? = some (.cells #[.int .i64 a1_0, .int .i64 a1_1, .int .i64 a1_2, .string a1_3, .string a1_4, .int .i64 a1_5] 23 (0, 0))) := ⟨h1_⟩
    have n2_ : Aside0 (w94.heap[gb172]? = some (.cells #[.int .i64 t166, .int .i64 t167, .int .i64 t168, .string t169, .string t170, .int .i64 t171] 25 (0, 0))) := ⟨h2_⟩
    have n3_ : Aside0 (w94.heap[gb191]? = some (.cells #[.int .i64 0, .int .i64 0, .int .i64 0, .string (⟨#[]⟩ : ByteArray), .string (⟨#[]⟩ : ByteArray), .int .i64 0] 25 (0, 0))) := ⟨h3_⟩
    have n4_ : Aside0 (w.heap.size ≤ gb191) := ⟨h4_⟩
    have n5_ : Aside0 (w.heap.size ≤ gb191) := ⟨h5_⟩
    have n6_ : Aside0 (gb150 ≠ gb191) := ⟨h6_⟩
    have n7_ : Aside0 (gb191 ≠ gb150) := ⟨h7_⟩
    have n8_ : Aside0 (gb151 ≠ gb191) := ⟨h8_⟩
    have n9_ : Aside0 (gb191 ≠ gb151) := ⟨h9_⟩
    have n10_ : Aside0 (gb172 ≠ gb191) := ⟨h10_⟩
    have n11_ : Aside0 (gb191 ≠ gb172) := ⟨h11_⟩
    have n12_ : Aside0 (Below w.heap.size w w94) := ⟨h12_⟩
    clear BK150
    clear BK151
    clear BK172
    clear HB
    clear h0_ h1_ h2_ h3_ h4_ h5_ h6_ h7_ h8_ h9_ h10_ h11_ h12_
    have BK150 := n0_
    have BK151 := n1_
    have BK172 := n2_
    have BK191 := n3_
    have GW191 := n4_
    have GE191 := n5_
    have NB150_191 := n6_
    have NB191_150 := n7_
    have NB151_191 := n8_
    have NB191_151 := n9_
    have NB172_191 := n10_
    have NB191_172 := n11_
    have HB := n12_
    clear n0_ n1_ n2_ n3_ n4_ n5_ n6_ n7_ n8_ n9_ n10_ n11_ n12_
    have hHeld : w94.cell? ⟨gb150, 0, none⟩ = some (.int .i64 a0_0) ∧ w94.cell? ⟨gb150, 1, none⟩ = some (.int .i64 a0_1) ∧ w94.cell? ⟨gb150, 2, none⟩ = some (.int .i64 a0_2) ∧ w94.cell? ⟨gb150, 3, none⟩ = some (.string a0_3) ∧ w94.cell? ⟨gb150, 4, none⟩ = some (.string a0_4) ∧ w94.cell? ⟨gb150, 5, none⟩ = some (.int .i64 a0_5) ∧ w94.cell? ⟨gb151, 0, none⟩ = some (.int .i64 a1_0) ∧ w94.cell? ⟨gb151, 1, none⟩ = some (.int .i64 a1_1) ∧ w94.cell? ⟨gb151, 2, none⟩ = some (.int .i64 a1_2) ∧ w94.cell? ⟨gb151, 3, none⟩ = some (.string a1_3) ∧ w94.cell? ⟨gb151, 4, none⟩ = some (.string a1_4) ∧ w94.cell? ⟨gb151, 5, none⟩ = some (.int .i64 a1_5) := hS_
    refine norm_ (a' := ?_) ?_ ?_
    rotate_left
    ·simp only [putAll, Act.put, sqA, sqZ, sqS]
     rfl
    refine one_ (i := 6) (N := none) #[true, true, true, true, true, true, true] rfl rfl (by kernel_rfl) (by decide) (fun K hK => ?_)
    have hs95 : w94.cell? ⟨gb191, 0, none⟩ = some (.int .i64 0) := bC BK191.out 0 rfl
    have hfs95 := blk_frozen BK191.out 0
    have hns95_0 := NB150_191.out
    have hns95_1 := NB151_191.out
    have hns95_2 := NB172_191.out
    have hms95_0 := NB191_150.out
    have hms95_1 := NB191_151.out
    have hms95_2 := NB191_172.out
    have hs96 : w94.cell? ⟨gb191, 1, none⟩ = some (.int .i64 0) := bC BK191.out 1 rfl
    have hfs96 := blk_frozen BK191.out 1
    have hns96_0 := NB150_191.out
    have hns96_1 := NB151_191.out
    have hns96_2 := NB172_191.out
    have hms96_0 := NB191_150.out
    have hms96_1 := NB191_151.out
    have hms96_2 := NB191_172.out
    have hs97 : w94.cell? ⟨gb191, 2, none⟩ = some (.int .i64 0) := bC BK191.out 2 rfl
    have hfs97 := blk_frozen BK191.out 2
    have hns97_0 := NB150_191.out
    have hns97_1 := NB151_191.out
    have hns97_2 := NB172_191.out
    have hms97_0 := NB191_150.out
    have hms97_1 := NB191_151.out
    have hms97_2 := NB191_172.out
    have hs98 : w94.cell? ⟨gb191, 3, none⟩ = some (.string (⟨#[]⟩ : ByteArray)) := bC BK191.out 3 rfl
    have hfs98 := blk_frozen BK191.out 3
    have hns98_0 := NB150_191.out
    have hns98_1 := NB151_191.out
    have hns98_2 := NB172_191.out
    have hms98_0 := NB191_150.out
    have hms98_1 := NB191_151.out
    have hms98_2 := NB191_172.out
    have hs99 : w94.cell? ⟨gb191, 4, none⟩ = some (.string (⟨#[]⟩ : ByteArray)) := bC BK191.out 4 rfl
    have hfs99 := blk_frozen BK191.out 4
    have hns99_0 := NB150_191.out
    have hns99_1 := NB151_191.out
    have hns99_2 := NB172_191.out
    have hms99_0 := NB191_150.out
    have hms99_1 := NB191_151.out
    have hms99_2 := NB191_172.out
    have hs100 : w94.cell? ⟨gb191, 5, none⟩ = some (.int .i64 0) := bC BK191.out 5 rfl
    have hfs100 := blk_frozen BK191.out 5
    have hns100_0 := NB150_191.out
    have hns100_1 := NB151_191.out
    have hns100_2 := NB172_191.out
    have hms100_0 := NB191_150.out
    have hms100_1 := NB191_151.out
    have hms100_2 := NB191_172.out
    refine skip_ (w1 := ?_) (by rfl) rfl ?_ ?_
    rotate_left
    ·go_simp
     rfl
    refine hK.out _ _ ⟨((cell_far (p := ⟨gb191, _, none⟩) NB150_191.out _).trans (((cell_far (p := ⟨gb191, _, none⟩) NB150_191.out _).trans (((cell_far (p := ⟨gb191, _, none⟩) NB150_191.out _).trans (((cell_far (p := ⟨gb191, _, none⟩) NB150_191.out _).trans (((cell_far (p := ⟨gb191, _, none⟩) NB150_191.out _).trans (((cell_far (p := ⟨gb191, _, none⟩) NB150_191.out _).trans (hHeld.1)))))))))))), ((cell_far (p := ⟨gb191, _, none⟩) NB150_191.out _).trans (((cell_far (p := ⟨gb191, _, none⟩) NB150_191.out _).trans (((cell_far (p := ⟨gb191, _, none⟩) NB150_191.out _).trans (((cell_far (p := ⟨gb191, _, none⟩) NB150_191.out _).trans (((cell_far (p := ⟨gb191, _, none⟩) NB150_191.out _).trans (((cell_far (p := ⟨gb191, _, none⟩) NB150_191.out _).trans (hHeld.2.1)))))))))))), ((cell_far (p := ⟨gb191, _, none⟩) NB150_191.out _).trans (((cell_far (p := ⟨gb191, _, none⟩) NB150_191.out _).trans (((cell_far (p := ⟨gb191, _, none⟩) NB150_191.out _).trans (((cell_far (p := ⟨gb191, _, none⟩) NB150_191.out _).trans (((cell_far (p := ⟨gb191, _, none⟩) NB150_191.out _).trans (((cell_far (p := ⟨gb191, _, none⟩) NB150_191.out _).trans (hHeld.2.2.1)))))))))))), ((cell_far (p := ⟨gb191, _, none⟩) NB150_191.out _).trans (((cell_far (p := ⟨gb191, _, none⟩) NB150_191.out _).trans (((cell_far (p := ⟨gb191, _, none⟩) NB150_191.out _).trans (((cell_far (p := ⟨gb191, _, none⟩) NB150_191.out _).trans (((cell_far (p := ⟨gb191, _, none⟩) NB150_191.out _).trans (((cell_far (p := ⟨gb191, _, none⟩) NB150_191.out _).trans (hHeld.2.2.2.1)))))))))))), ((cell_far (p := ⟨gb191, _, none⟩) NB150_191.out _).trans (((cell_far (p := ⟨gb191, _, none⟩) NB150_191.out _).trans (((cell_far (p := ⟨gb191, _, none⟩) NB150_191.out _).trans (((cell_far (p := ⟨gb191, _, none⟩) NB150_191.out _).trans (((cell_far (p := ⟨gb191, _, none⟩) NB150_191.out _).trans (((cell_far (p := ⟨gb191, _, none⟩) NB150_191.out _).trans (hHeld.2.2.2.2.1)))))))))))), ((cell_far (p := ⟨gb191, _, none⟩) NB150_191.out _).trans (((cell_far (p := ⟨gb191, _, none⟩) NB150_191.out _).trans (((cell_far (p := ⟨gb191, _, none⟩) NB150_191.out _).trans (((cell_far (p := ⟨gb191, _, none⟩) NB150_191.out _).trans (((cell_far (p := ⟨gb191, _, none⟩) NB150_191.out _).trans (((cell_far (p := ⟨gb191, _, none⟩) NB150_191.out _).trans (hHeld.2.2.2.2.2.1)))))))))))), ((cell_far (p := ⟨gb191, _, none⟩) NB151_191.out _).trans (((cell_far (p := ⟨gb191, _, none⟩) NB151_191.out _).trans (((cell_far (p := ⟨gb191, _, none⟩) NB151_191.out _).trans (((cell_far (p := ⟨gb191, _, none⟩) NB151_191.out _).trans (((cell_far (p := ⟨gb191, _, none⟩) NB151_191.out _).trans (((cell_far (p := ⟨gb191, _, none⟩) NB151_191.out _).trans (hHeld.2.2.2.2.2.2.1)))))))))))), ((cell_far (p := ⟨gb191, _, none⟩) NB151_191.out _).trans (((cell_far (p := ⟨gb191, _, none⟩) NB151_191.out _).trans (((cell_far (p := ⟨gb191, _, none⟩) NB151_191.out _).trans (((cell_far (p := ⟨gb191, _, none⟩) NB151_191.out _).trans (((cell_far (p := ⟨gb191, _, none⟩) NB151_191.out _).trans (((cell_far (p := ⟨gb191, _, none⟩) NB151_191.out _).trans (hHeld.2.2.2.2.2.2.2.1)))))))))))), ((cell_far (p := ⟨gb191, _, none⟩) NB151_191.out _).trans (((cell_far (p := ⟨gb191, _, none⟩) NB151_191.out _).trans (((cell_far (p := ⟨gb191, _, none⟩) NB151_191.out _).trans (((cell_far (p := ⟨gb191, _, none⟩) NB151_191.out _).trans (((cell_far (p := ⟨gb191, _, none⟩) NB151_191.out _).trans (((cell_far (p := ⟨gb191, _, none⟩) NB151_191.out _).trans (hHeld.2.2.2.2.2.2.2.2.1)))))))))))), ((cell_far (p := ⟨gb191, _, none⟩) NB151_191.out _).trans (((cell_far (p := ⟨gb191, _, none⟩) NB151_191.out _).trans (((cell_far (p := ⟨gb191, _, none⟩) NB151_191.out _).trans (((cell_far (p := ⟨gb191, _, none⟩) NB151_191.out _).trans (((cell_far (p := ⟨gb191, _, none⟩) NB151_191.out _).trans (((cell_far (p := ⟨gb191, _, none⟩) NB151_191.out _).trans (hHeld.2.2.2.2.2.2.2.2.2.1)))))))))))), ((cell_far (p := ⟨gb191, _, none⟩) NB151_191.out _).trans (((cell_far (p := ⟨gb191, _, none⟩) NB151_191.out _).trans (((cell_far (p := ⟨gb191, _, none⟩) NB151_191.out _).trans (((cell_far (p := ⟨gb191, _, none⟩) NB151_191.out _).trans (((cell_far (p := ⟨gb191, _, none⟩) NB151_191.out _).trans (((cell_far (p := ⟨gb191, _, none⟩) NB151_191.out _).trans (hHeld.2.2.2.2.2.2.2.2.2.2.1)))))))))))), ((cell_far (p := ⟨gb191, _, none⟩) NB151_191.out _).trans (((cell_far (p := ⟨gb191, _, none⟩) NB151_191.out _).trans (((cell_far (p := ⟨gb191, _, none⟩) NB151_191.out _).trans (((cell_far (p := ⟨gb191, _, none⟩) NB151_191.out _).trans (((cell_far (p := ⟨gb191, _, none⟩) NB151_191.out _).trans (((cell_far (p := ⟨gb191, _, none⟩) NB151_191.out _).trans (hHeld.2.2.2.2.2.2.2.2.2.2.2))))))))))))⟩ (fun hHeld => ?_)
    clear hK K
    refine done_ (by kernel_rfl) ?_
    have hnb101 := NB191_150.out
    have hnc101 := NB150_191.out
    have hnb102 := NB191_151.out
    have hnc102 := NB151_191.out
    have hnb103 := NB191_172.out
    have hnc103 := NB172_191.out
    have hcz104_0 : w94.cell? ⟨gb191, 0, none⟩ = some (.int .i64 0) := bC BK191.out 0 rfl
    have hcz104_1 : w94.cell? ⟨gb191, 1, none⟩ = some (.int .i64 0) := bC BK191.out 1 rfl
    have hcz104_2 : w94.cell? ⟨gb191, 2, none⟩ = some (.int .i64 0) := bC BK191.out 2 rfl
    have hcz104_3 : w94.cell? ⟨gb191, 3, none⟩ = some (.string (⟨#[]⟩ : ByteArray)) := bC BK191.out 3 rfl
    have hcz104_4 : w94.cell? ⟨gb191, 4, none⟩ = some (.string (⟨#[]⟩ : ByteArray)) := bC BK191.out 4 rfl
    have hcz104_5 : w94.cell? ⟨gb191, 5, none⟩ = some (.int .i64 0) := bC BK191.out 5 rfl
    have hfz104_0 := blk_frozen BK191.out 0
    have hfz104_1 := blk_frozen BK191.out 1
    have hfz104_2 := blk_frozen BK191.out 2
    have hfz104_3 := blk_frozen BK191.out 3
    have hfz104_4 := blk_frozen BK191.out 4
    have hfz104_5 := blk_frozen BK191.out 5
    have hnb105 := NB172_150.out
    have hnc105 := NB150_172.out
    have hnb106 := NB172_151.out
    have hnc106 := NB151_172.out
    have hcz107_0 : w94.cell? ⟨gb172, 0, none⟩ = some (.int .i64 t166) := bC BK172.out 0 rfl
    have hcz107_1 : w94.cell? ⟨gb172, 1, none⟩ = some (.int .i64 t167) := bC BK172.out 1 rfl
    have hcz107_2 : w94.cell? ⟨gb172, 2, none⟩ = some (.int .i64 t168) := bC BK172.out 2 rfl
    have hcz107_3 : w94.cell? ⟨gb172, 3, none⟩ = some (.string t169) := bC BK172.out 3 rfl
    have hcz107_4 : w94.cell? ⟨gb172, 4, none⟩ = some (.string t170) := bC BK172.out 4 rfl
    have hcz107_5 : w94.cell? ⟨gb172, 5, none⟩ = some (.int .i64 t171) := bC BK172.out 5 rfl
    have hfz107_0 := blk_frozen BK172.out 0
    have hfz107_1 := blk_frozen BK172.out 1
    have hfz107_2 := blk_frozen BK172.out 2
    have hfz107_3 := blk_frozen BK172.out 3
    have hfz107_4 := blk_frozen BK172.out 4
    have hfz107_5 := blk_frozen BK172.out 5
    try go_wp2_with (first | ((with_reducible refine gate_callee (f := 9) rfl ?_); refine goesL_ (some 30) rfl rfl Tryd.func9 (by kernel_rfl) rfl #[.agg #[.int .i64 t185, .int .i64 t186, .int .i64 t187, .string t188, .string t189, .int .i64 t190], .agg #[.int .i64 t166, .int .i64 t167, .int .i64 t168, .string t169, .string t170, .int .i64 t171]] rfl (by (try simp only [lM, lC, lN]); first | done | rfl | (simp only [lD, lT]; rfl)) ?_; (with_reducible refine (laws_eqSky.calls t185 t186 t187 t188 t189 t190 t166 t167 t168 t169 t170 t171 false _ A27.out).mono ?_); rintro e w108 ⟨rfl, hb⟩; refine ⟨_, rfl, ?_⟩; have n0_ := A0 (blk_below (g := gb150) (o := .cells #[.int .i64 a0_0, .int .i64 a0_1, .int .i64 a0_2, .string a0_3, .string a0_4, .int .i64 a0_5] 23 (0, 0)) (by (with_reducible repeat (first | refine bN ?_ _ | refine bD ?_ | refine bA ?_ _)); refine blk_far ?_ NB150_191.out _; (with_reducible repeat (first | refine bN ?_ _ | refine bD ?_ | refine bA ?_ _)); refine blk_far ?_ NB150_191.out _; (with_reducible repeat (first | refine bN ?_ _ | refine bD ?_ | refine bA ?_ _)); refine blk_far ?_ NB150_191.out _; (with_reducible repeat (first | refine bN ?_ _ | refine bD ?_ | refine bA ?_ _)); refine blk_far ?_ NB150_191.out _; (with_reducible repeat (first | refine bN ?_ _ | refine bD ?_ | refine bA ?_ _)); refine blk_far ?_ NB150_191.out _; (with_reducible repeat (first | refine bN ?_ _ | refine bD ?_ | refine bA ?_ _)); refine blk_far ?_ NB150_191.out _; (with_reducible repeat (first | refine bN ?_ _ | refine bD ?_ | refine bA ?_ _)); exact BK150.out) hb); have n1_ := A0 (blk_below (g := gb151) (o := .cells #[.int .i64 a1_0, .int .i64 a1_1, .int .i64 a1_2, .string a1_3, .string a1_4, .int .i64 a1_5] 23 (0, 0)) (by (with_reducible repeat (first | refine bN ?_ _ | refine bD ?_ | refine bA ?_ _)); refine blk_far ?_ NB151_191.out _; (with_reducible repeat (first | refine bN ?_ _ | refine bD ?_ | refine bA ?_ _)); refine blk_far ?_ NB151_191.out _; (with_reducible repeat (first | refine bN ?_ _ | refine bD ?_ | refine bA ?_ _)); refine blk_far ?_ NB151_191.out _; (with_reducible repeat (first | refine bN ?_ _ | refine bD ?_ | refine bA ?_ _)); refine blk_far ?_ NB151_191.out _; (with_reducible repeat (first | refine bN ?_ _ | refine bD ?_ | refine bA ?_ _)); refine blk_far ?_ NB151_191.out _; (with_reducible repeat (first | refine bN ?_ _ | refine bD ?_ | refine bA ?_ _)); refine blk_far ?_ NB151_191.out _; (with_reducible repeat (first | refine bN ?_ _ | refine bD ?_ | refine bA ?_ _)); exact BK151.out) hb); have n2_ := A0 (blk_below (g := gb172) (o := .cells #[.int .i64 t166, .int .i64 t167, .int .i64 t168, .string t169, .string t170, .int .i64 t171] 25 (0, 0)) (by (with_reducible repeat (first | refine bN ?_ _ | refine bD ?_ | refine bA ?_ _)); refine blk_far ?_ NB172_191.out _; (with_reducible repeat (first | refine bN ?_ _ | refine bD ?_ | refine bA ?_ _)); refine blk_far ?_ NB172_191.out _; (with_reducible repeat (first | refine bN ?_ _ | refine bD ?_ | refine bA ?_ _)); refine blk_far ?_ NB172_191.out _; (with_reducible repeat (first | refine bN ?_ _ | refine bD ?_ | refine bA ?_ _)); refine blk_far ?_ NB172_191.out _; (with_reducible repeat (first | refine bN ?_ _ | refine bD ?_ | refine bA ?_ _)); refine blk_far ?_ NB172_191.out _; (with_reducible repeat (first | refine bN ?_ _ | refine bD ?_ | refine bA ?_ _)); refine blk_far ?_ NB172_191.out _; (with_reducible repeat (first | refine bN ?_ _ | refine bD ?_ | refine bA ?_ _)); exact BK172.out) hb); have n3_ := A0 (blk_below (g := gb191) (o := .cells #[.int .i64 t185, .int .i64 t186, .int .i64 t187, .string t188, .string t189, .int .i64 t190] 25 (0, 0)) (by (with_reducible repeat (first | refine bN ?_ _ | refine bD ?_ | refine bA ?_ _)); refine blk_put (cs := #[.int .i64 t185, .int .i64 t186, .int .i64 t187, .string t188, .string t189, .int .i64 0]) ?_ 5 _ rfl; (with_reducible repeat (first | refine bN ?_ _ | refine bD ?_ | refine bA ?_ _)); refine blk_put (cs := #[.int .i64 t185, .int .i64 t186, .int .i64 t187, .string t188, .string (⟨#[]⟩ : ByteArray), .int .i64 0]) ?_ 4 _ rfl; (with_reducible repeat (first | refine bN ?_ _ | refine bD ?_ | refine bA ?_ _)); refine blk_put (cs := #[.int .i64 t185, .int .i64 t186, .int .i64 t187, .string (⟨#[]⟩ : ByteArray), .string (⟨#[]⟩ : ByteArray), .int .i64 0]) ?_ 3 _ rfl; (with_reducible repeat (first | refine bN ?_ _ | refine bD ?_ | refine bA ?_ _)); refine blk_put (cs := #[.int .i64 t185, .int .i64 t186, .int .i64 0, .string (⟨#[]⟩ : ByteArray), .string (⟨#[]⟩ : ByteArray), .int .i64 0]) ?_ 2 _ rfl; (with_reducible repeat (first | refine bN ?_ _ | refine bD ?_ | refine bA ?_ _)); refine blk_put (cs := #[.int .i64 t185, .int .i64 0, .int .i64 0, .string (⟨#[]⟩ : ByteArray), .string (⟨#[]⟩ : ByteArray), .int .i64 0]) ?_ 1 _ rfl; (with_reducible repeat (first | refine bN ?_ _ | refine bD ?_ | refine bA ?_ _)); refine blk_put (cs := #[.int .i64 0, .int .i64 0, .int .i64 0, .string (⟨#[]⟩ : ByteArray), .string (⟨#[]⟩ : ByteArray), .int .i64 0]) ?_ 0 _ rfl; (with_reducible repeat (first | refine bN ?_ _ | refine bD ?_ | refine bA ?_ _)); exact BK191.out) hb); have n4_ := A0 (below_step (by repeat (first | (with_reducible first | exact HB.out | apply wA | apply wN | apply wD | refine bS ?_ GE150.out | refine bS ?_ GE151.out | refine bS ?_ GE172.out | refine bS ?_ GE191.out) | exact HB.out)) hb); clear BK150; clear BK151; clear BK172; clear BK191; clear HB; have BK150 := n0_; have BK151 := n1_; have BK172 := n2_; have BK191 := n3_; have HB := n4_; clear n0_ n1_ n2_ n3_ n4_; (try clear hb); (try clear hb2); (try clear hk); (try clear hi)))
    go_ret
    exact ⟨by first | rfl | (simp [errW_none, errW_some] <;> rfl) | (simp [*, errW_none, errW_some] <;> rfl), by repeat (first | (with_reducible first | exact HB.out | apply wA | apply wN | apply wD | refine bS ?_ GE150.out | refine bS ?_ GE151.out | refine bS ?_ GE172.out | refine bS ?_ GE191.out) | exact HB.out)⟩

/-- THE ONE PURE STATEMENT of laws_FnExactLaid: yours. -/
def laws_FnExactLaid.Pure : Prop := ∀ (a0_0 : Int) (a0_1 : Int) (a0_2 : Int) (a0_3 : ByteArray) (a0_4 : ByteArray) (a0_5 : Int) (a1_0 : Int) (a1_1 : Int) (a1_2 : Int) (a1_3 : ByteArray) (a1_4 : ByteArray) (a1_5 : Int), ∃ k, laws_FnExactLaid.f k a0_0 a0_1 a0_2 a0_3 a0_4 a0_5 a1_0 a1_1 a1_2 a1_3 a1_4 a1_5 [[(⟨#[78, 83, 87]⟩ : ByteArray), (⟨#[82, 65]⟩ : ByteArray), (⟨#[45, 82, 65]⟩ : ByteArray), (⟨#[43, 82, 65]⟩ : ByteArray), (⟨#[83, 78]⟩ : ByteArray), (⟨#[45, 83, 78]⟩ : ByteArray), (⟨#[43, 83, 78]⟩ : ByteArray), (⟨#[84, 83, 82, 65]⟩ : ByteArray), (⟨#[70, 71]⟩ : ByteArray), (⟨#[66, 82]⟩ : ByteArray)]] [[(⟨#[70, 69, 87]⟩ : ByteArray), (⟨#[83, 67, 84]⟩ : ByteArray), (⟨#[66, 75, 78]⟩ : ByteArray), (⟨#[79, 86, 67]⟩ : ByteArray)]] = some true

end Go.Proofs.YtcdghhihfjojaabDoor.Q
