/- Plain Lean functions with the same answers as the Go functions of this seat, and a proof for each that the Go code comes to just these answers; no condition. Written by a program of this session (the kit's printer, turned). -/
import Derived.Test.YtcdghhihfjojaabDoorQx0
import Derived.Test.YtcdghhihfjojaabDoorQx2
namespace Go.Proofs.YtcdghhihfjojaabDoor.Q
open Go.RowKit Go.Proofs.YtcdghhihfjojaabDoorW.PrintWords Go.Proofs.YtcdghhihfjojaabDoorW.PrintLast Go.Proofs.YtcdghhihfjojaabDoorW.PrintMore Go.Proofs.YtcdghhihfjojaabDoorW.PrintFlt
attribute [local go_sem] cmp_lss cmp_leq cmp_gtr cmp_geq cmp_eql cmp_neq flt_l flt_r fgt_l fgt_r feq_l feq_r fne_l fne_r ord_lt ord_gt ord_eq ord_ne conv_int conv_flt foi_fold run_store_flt
attribute [local go_sem] max2_int min2_int max_two min_two max_three min_three max_four min_four   -- for this text's walks alone
set_option linter.unusedVariables false
set_option linter.unusedSimpArgs false

/-! ### spec_l21CloudOk: function 21 -/
def spec_l21CloudOk.j0 : Nat → ByteArray → Bool → Int → Int → Int → ByteArray → ByteArray → Int → Option (Bool)
 | 0, _, _, _, _, _, _, _, _ => none
 | k + 1, x4, x5, x106000, x106001, x106002, x106003, x106004, x106005 => if x5 = true then (some (x106005 == 0)) else (if x4.toList = ([70, 69, 87] : List UInt8) then ((spec_l2In.f x106005 1 200).bind fun t106 => (some t106)) else (if x4.toList = ([83, 67, 84] : List UInt8) then ((spec_l2In.f x106005 1 200).bind fun t107 => (some t107)) else (if x4.toList = ([66, 75, 78] : List UInt8) then ((spec_l2In.f x106005 1 200).bind fun t108 => (some t108)) else (if x4.toList = ([79, 86, 67] : List UInt8) then ((spec_l2In.f x106005 1 200).bind fun t109 => (some t109)) else (some false)))))
def spec_l21CloudOk.f (k : Nat) (a0_0 : Int) (a0_1 : Int) (a0_2 : Int) (a0_3 : ByteArray) (a0_4 : ByteArray) (a0_5 : Int) : Option (Bool) := if a0_4.toList = ([] : List UInt8) then (spec_l21CloudOk.j0 k a0_4 a0_4.toList.isEmpty a0_0 a0_1 a0_2 a0_3 a0_4 a0_5) else (spec_l21CloudOk.j0 k a0_4 (a0_4.toList == ([83, 75, 67] : List UInt8)) a0_0 a0_1 a0_2 a0_3 a0_4 a0_5)
theorem spec_l21CloudOk.mono_l : ∀ k, (∀ y0 y1 y2 y3 y4 y5 y6 y7, LeO (spec_l21CloudOk.j0 k y0 y1 y2 y3 y4 y5 y6 y7) (spec_l21CloudOk.j0 (k + 1) y0 y1 y2 y3 y4 y5 y6 y7))
 | 0 => fun _ _ _ _ _ _ _ _ r h => by simp [spec_l21CloudOk.j0] at h
 | k + 1 => by
  have ih0 := spec_l21CloudOk.mono_l k
  ·intro y0 y1 y2 y3 y4 y5 y6 y7
   unfold spec_l21CloudOk.j0
   repeat' first
   | (with_reducible exact ih0 _ _ _ _ _ _ _ _)
   | (with_reducible exact LeO.refl _)
   | (with_reducible exact LeO.none _)
   | (with_reducible refine LeO.ite ?_ ?_)
   | (with_reducible refine LeO.bind ?_ (fun _ => ?_))
   | exact ih0 _ _ _ _ _ _ _ _
   | exact LeO.none _
   | refine LeO.ite ?_ ?_
   | refine LeO.bind ?_ (fun _ => ?_)
theorem spec_l21CloudOk.mono : ∀ a0 a1 a2 a3 a4 a5 k, LeO (spec_l21CloudOk.f k a0 a1 a2 a3 a4 a5) (spec_l21CloudOk.f (k + 1) a0 a1 a2 a3 a4 a5) := by
 intro a0 a1 a2 a3 a4 a5 k
 have ih0 := spec_l21CloudOk.mono_l k
 unfold spec_l21CloudOk.f
 repeat' first
   | (with_reducible exact ih0 _ _ _ _ _ _ _ _)
   | (with_reducible exact LeO.refl _)
   | (with_reducible exact LeO.none _)
   | (with_reducible refine LeO.ite ?_ ?_)
   | (with_reducible refine LeO.bind ?_ (fun _ => ?_))
   | exact ih0 _ _ _ _ _ _ _ _
   | exact LeO.none _
   | refine LeO.ite ?_ ?_
   | refine LeO.bind ?_ (fun _ => ?_)
set_option maxHeartbeats 8000000 in
set_option maxRecDepth 100000 in
theorem spec_l21CloudOk.calls (k : Nat) (a0_0 : Int) (a0_1 : Int) (a0_2 : Int) (a0_3 : ByteArray) (a0_4 : ByteArray) (a0_5 : Int) (r : Bool) (w : World) (h : spec_l21CloudOk.f k a0_0 a0_1 a0_2 a0_3 a0_4 a0_5 = some r) :
  Calls Tryd.prog 21 #[.agg #[.int .i64 a0_0, .int .i64 a0_1, .int .i64 a0_2, .string a0_3, .string a0_4, .int .i64 a0_5]] w fun e w' => e = .returned (.bool r) ∧ Below w.heap.size w w' := by
 have hu25 := Tryd.underlying25
 have HB := A0 (Below.refl w.heap.size w)
 have H : (if a0_4.toList = ([] : List UInt8) then (spec_l21CloudOk.j0 k a0_4 a0_4.toList.isEmpty a0_0 a0_1 a0_2 a0_3 a0_4 a0_5) else (spec_l21CloudOk.j0 k a0_4 (a0_4.toList == ([83, 75, 67] : List UInt8)) a0_0 a0_1 a0_2 a0_3 a0_4 a0_5)) = some r := h
 clear h
 have HC2 := Aside0.mk H
 clear H
 go_enter Tryd.func21, Tryd.ntmps21
 go_upto_if 5 with (first | ((with_reducible refine gate_dst (N := 1) rfl ?_); refine box_event ?hg (N := 1) ?hd (cs := #[.int .i64 a0_0, .int .i64 a0_1, .int .i64 a0_2, .string a0_3, .string a0_4, .int .i64 a0_5]) (t := 25) ?hr ?_; (case hd => rfl); (case hg => rfl); (case hr => first | (go_simp; done) | (go_simp; rfl)); intro gb105 hg w3 hbox hb; have n0_ := A0 (below_step (by repeat (first | (with_reducible first | exact HB.out | apply wA | apply wN | apply wD) | exact HB.out)) hb); have n1_ := A0 (hbox); have n2_ := A0 ((by rw [hg]; exact (below_size (by repeat (first | (with_reducible first | exact HB.out | apply wA | apply wN | apply wD) | exact HB.out))) : w.heap.size ≤ gb105)); have n3_ := A0 ((by rw [hg]; exact (below_size (by repeat (first | (with_reducible first | exact HB.out | apply wA | apply wN | apply wD) | exact HB.out))) : w.heap.size ≤ gb105)); clear HB; have HB := n0_; have BK105 := n1_; have GW105 := n2_; have GE105 := n3_; clear n0_ n1_ n2_ n3_; clear hb hbox hg; have hcz4_0 : w3.cell? ⟨gb105, 0, none⟩ = some (.int .i64 a0_0) := bC BK105.out 0 rfl; have hcz4_1 : w3.cell? ⟨gb105, 1, none⟩ = some (.int .i64 a0_1) := bC BK105.out 1 rfl; have hcz4_2 : w3.cell? ⟨gb105, 2, none⟩ = some (.int .i64 a0_2) := bC BK105.out 2 rfl; have hcz4_3 : w3.cell? ⟨gb105, 3, none⟩ = some (.string a0_3) := bC BK105.out 3 rfl; have hcz4_4 : w3.cell? ⟨gb105, 4, none⟩ = some (.string a0_4) := bC BK105.out 4 rfl; have hcz4_5 : w3.cell? ⟨gb105, 5, none⟩ = some (.int .i64 a0_5) := bC BK105.out 5 rfl; have hfz4_0 := blk_frozen BK105.out 0; have hfz4_1 := blk_frozen BK105.out 1; have hfz4_2 := blk_frozen BK105.out 2; have hfz4_3 := blk_frozen BK105.out 3; have hfz4_4 := blk_frozen BK105.out 4; have hfz4_5 := blk_frozen BK105.out 5))
 (try simp only [Act.put, sqA, sqZ, sqS])
 go_cut [5] (fun v5 wc => ∃ (kq : Nat) (x5_1 : Bool), v5 = .bool x5_1 ∧ Aside0 (spec_l21CloudOk.j0 kq a0_4 x5_1 a0_0 a0_1 a0_2 a0_3 a0_4 a0_5 = some r) ∧ Aside0 (kq ≤ k) ∧ Aside0 (wc.heap[gb105]? = some (.cells #[.int .i64 a0_0, .int .i64 a0_1, .int .i64 a0_2, .string a0_3, .string a0_4, .int .i64 a0_5] 25 (0, 0))) ∧ Aside0 (Below w.heap.size w wc))
 case first =>
  have H := HC2.out
  clear HC2
  by_cases c5 : a0_4.toList = ([] : List UInt8)
  ·rw [if_pos c5] at H
   have c5b0 : a0_4.toList.isEmpty = true := by rw [c5]; rfl
   have c5b1 : (!a0_4.toList.isEmpty) = false := by rw [c5]; rfl
   have c5b2 : (a0_4.toList == ([] : List UInt8)) = true := beq_iff_eq.mpr c5
   clear c5
   (first | rw [c5b0] | (simp only [i64_w, i32_w]; rw [c5b0]) | skip)
   have H' := Aside0.mk H
   clear H
   go_wp2
   go_meet
   case rel => exact ⟨_, (a0_4.toList.isEmpty), (by first | rfl | (simp; done) | (simp [*]; done)), H', ⟨by first | omega | exact Nat.le_refl _⟩, ⟨by (with_reducible repeat (first | refine bN ?_ _ | refine bD ?_ | refine bA ?_ _)); exact BK105.out⟩, ⟨by repeat (first | (with_reducible first | exact HB.out | apply wA | apply wN | apply wD | refine bS ?_ GE105.out) | exact HB.out)⟩⟩
  ·rw [if_neg c5] at H
   have c5b0 : a0_4.toList.isEmpty = false := by simpa using c5
   have c5b1 : (!a0_4.toList.isEmpty) = true := by simpa using c5
   have c5b2 : (a0_4.toList == ([] : List UInt8)) = false := beq_eq_false_iff_ne.mpr c5
   (first | rw [c5b0] | (simp only [i64_w, i32_w]; rw [c5b0]) | skip)
   have H' := Aside0.mk H
   clear H
   go_wp2
   go_meet
   case rel => exact ⟨_, ((a0_4.toList == ([83, 75, 67] : List UInt8))), (by first | rfl | (simp; done) | (simp [*]; done)), H', ⟨by first | omega | exact Nat.le_refl _⟩, ⟨by (with_reducible repeat (first | refine bN ?_ _ | refine bD ?_ | refine bA ?_ _)); exact BK105.out⟩, ⟨by repeat (first | (with_reducible first | exact HB.out | apply wA | apply wN | apply wD | refine bS ?_ GE105.out) | exact HB.out)⟩⟩
 case rest =>
  clear HC2
  try clear c2
  try clear p2
  try clear c5
  try clear c5b0
  try clear c5b1
  try clear c5b2
  try clear hcz4_0
  try clear hcz4_1
  try clear hcz4_2
  try clear hcz4_3
  try clear hcz4_4
  try clear hcz4_5
  try clear hfz4_0
  try clear hfz4_1
  try clear hfz4_2
  try clear hfz4_3
  try clear hfz4_4
  try clear hfz4_5
  obtain ⟨kq, x5_1, rfl, HA, HJ1, BK105, HB⟩ := hcut
  cases kq with
  | zero => exact absurd HA.out (by simp [spec_l21CloudOk.j0])
  | succ kj1 =>
   have H := HA.out
   clear HA
   simp only [spec_l21CloudOk.j0] at H
   by_cases c6 : x5_1 = true
   ·subst c6
    have H1 : (some (a0_5 == 0)) = some r := by rw [if_pos rfl] at H; exact H
    clear H
    have H := H1
    clear H1
    obtain rfl := Option.some.inj H
    have hcz7_0 : wc.cell? ⟨gb105, 0, none⟩ = some (.int .i64 a0_0) := bC BK105.out 0 rfl
    have hcz7_1 : wc.cell? ⟨gb105, 1, none⟩ = some (.int .i64 a0_1) := bC BK105.out 1 rfl
    have hcz7_2 : wc.cell? ⟨gb105, 2, none⟩ = some (.int .i64 a0_2) := bC BK105.out 2 rfl
    have hcz7_3 : wc.cell? ⟨gb105, 3, none⟩ = some (.string a0_3) := bC BK105.out 3 rfl
    have hcz7_4 : wc.cell? ⟨gb105, 4, none⟩ = some (.string a0_4) := bC BK105.out 4 rfl
    have hcz7_5 : wc.cell? ⟨gb105, 5, none⟩ = some (.int .i64 a0_5) := bC BK105.out 5 rfl
    have hfz7_0 := blk_frozen BK105.out 0
    have hfz7_1 := blk_frozen BK105.out 1
    have hfz7_2 := blk_frozen BK105.out 2
    have hfz7_3 := blk_frozen BK105.out 3
    have hfz7_4 := blk_frozen BK105.out 4
    have hfz7_5 := blk_frozen BK105.out 5
    go_wp2
    go_ret
    exact ⟨by first | rfl | (simp [errW_none, errW_some] <;> rfl) | (simp [*, errW_none, errW_some] <;> rfl), by repeat (first | (with_reducible first | exact HB.out | apply wA | apply wN | apply wD | refine bS ?_ GE105.out) | exact HB.out)⟩
   ·replace c6 := Bool.eq_false_iff.mpr c6
    subst c6
    have H1 : (if a0_4.toList = ([70, 69, 87] : List UInt8) then ((spec_l2In.f a0_5 1 200).bind fun t106 => (some t106)) else (if a0_4.toList = ([83, 67, 84] : List UInt8) then ((spec_l2In.f a0_5 1 200).bind fun t107 => (some t107)) else (if a0_4.toList = ([66, 75, 78] : List UInt8) then ((spec_l2In.f a0_5 1 200).bind fun t108 => (some t108)) else (if a0_4.toList = ([79, 86, 67] : List UInt8) then ((spec_l2In.f a0_5 1 200).bind fun t109 => (some t109)) else (some false))))) = some r := by rw [if_neg (show ¬ (false = true) by decide)] at H; exact H
    clear H
    have H := H1
    clear H1
    by_cases c8 : a0_4.toList = ([70, 69, 87] : List UInt8)
    ·rw [if_pos c8] at H
     have c8b0 : (a0_4.toList == ([70, 69, 87] : List UInt8)) = true := beq_iff_eq.mpr c8
     have c8b1 : (a0_4.toList != ([70, 69, 87] : List UInt8)) = false := bne_eq_false_iff_eq.mpr c8
     clear c8
     replace H := Option.bind_eq_some_iff.mp H
     obtain ⟨t106, A90, H⟩ := H
     replace H : (some t106) = some r := H
     have A9 := Aside0.mk A90
     clear A90
     obtain rfl := Option.some.inj H
     have hcz10_0 : wc.cell? ⟨gb105, 0, none⟩ = some (.int .i64 a0_0) := bC BK105.out 0 rfl
     have hcz10_1 : wc.cell? ⟨gb105, 1, none⟩ = some (.int .i64 a0_1) := bC BK105.out 1 rfl
     have hcz10_2 : wc.cell? ⟨gb105, 2, none⟩ = some (.int .i64 a0_2) := bC BK105.out 2 rfl
     have hcz10_3 : wc.cell? ⟨gb105, 3, none⟩ = some (.string a0_3) := bC BK105.out 3 rfl
     have hcz10_4 : wc.cell? ⟨gb105, 4, none⟩ = some (.string a0_4) := bC BK105.out 4 rfl
     have hcz10_5 : wc.cell? ⟨gb105, 5, none⟩ = some (.int .i64 a0_5) := bC BK105.out 5 rfl
     have hfz10_0 := blk_frozen BK105.out 0
     have hfz10_1 := blk_frozen BK105.out 1
     have hfz10_2 := blk_frozen BK105.out 2
     have hfz10_3 := blk_frozen BK105.out 3
     have hfz10_4 := blk_frozen BK105.out 4
     have hfz10_5 := blk_frozen BK105.out 5
     go_wp2_with (first | ((with_reducible refine gate_callee (f := 19) rfl ?_); refine goesL_ (some 18) rfl rfl Tryd.func19 (by kernel_rfl) rfl #[.int .i64 a0_5, .int .i64 1, .int .i64 200] rfl (by (try simp only [lM, lC, lN]); first | done | rfl | (simp only [lD, lT]; rfl)) ?_; (with_reducible refine (spec_l2In.calls a0_5 1 200 t106 _ A9.out).mono ?_); rintro e w' ⟨rfl, ⟨nd, rfl⟩⟩; refine ⟨_, rfl, ?_⟩))
     go_ret
     exact ⟨by first | rfl | (simp [errW_none, errW_some] <;> rfl) | (simp [*, errW_none, errW_some] <;> rfl), by repeat (first | (with_reducible first | exact HB.out | apply wA | apply wN | apply wD | refine bS ?_ GE105.out) | exact HB.out)⟩
    ·rw [if_neg c8] at H
     have c8b0 : (a0_4.toList == ([70, 69, 87] : List UInt8)) = false := beq_eq_false_iff_ne.mpr c8
     have c8b1 : (a0_4.toList != ([70, 69, 87] : List UInt8)) = true := bne_iff_ne.mpr c8
     by_cases c11 : a0_4.toList = ([83, 67, 84] : List UInt8)
     ·rw [if_pos c11] at H
      have c11b0 : (a0_4.toList == ([83, 67, 84] : List UInt8)) = true := beq_iff_eq.mpr c11
      have c11b1 : (a0_4.toList != ([83, 67, 84] : List UInt8)) = false := bne_eq_false_iff_eq.mpr c11
      clear c11
      replace H := Option.bind_eq_some_iff.mp H
      obtain ⟨t107, A120, H⟩ := H
      replace H : (some t107) = some r := H
      have A12 := Aside0.mk A120
      clear A120
      obtain rfl := Option.some.inj H
      have hcz13_0 : wc.cell? ⟨gb105, 0, none⟩ = some (.int .i64 a0_0) := bC BK105.out 0 rfl
      have hcz13_1 : wc.cell? ⟨gb105, 1, none⟩ = some (.int .i64 a0_1) := bC BK105.out 1 rfl
      have hcz13_2 : wc.cell? ⟨gb105, 2, none⟩ = some (.int .i64 a0_2) := bC BK105.out 2 rfl
      have hcz13_3 : wc.cell? ⟨gb105, 3, none⟩ = some (.string a0_3) := bC BK105.out 3 rfl
      have hcz13_4 : wc.cell? ⟨gb105, 4, none⟩ = some (.string a0_4) := bC BK105.out 4 rfl
      have hcz13_5 : wc.cell? ⟨gb105, 5, none⟩ = some (.int .i64 a0_5) := bC BK105.out 5 rfl
      have hfz13_0 := blk_frozen BK105.out 0
      have hfz13_1 := blk_frozen BK105.out 1
      have hfz13_2 := blk_frozen BK105.out 2
      have hfz13_3 := blk_frozen BK105.out 3
      have hfz13_4 := blk_frozen BK105.out 4
      have hfz13_5 := blk_frozen BK105.out 5
      go_wp2_with (first | ((with_reducible refine gate_callee (f := 19) rfl ?_); refine goesL_ (some 18) rfl rfl Tryd.func19 (by kernel_rfl) rfl #[.int .i64 a0_5, .int .i64 1, .int .i64 200] rfl (by (try simp only [lM, lC, lN]); first | done | rfl | (simp only [lD, lT]; rfl)) ?_; (with_reducible refine (spec_l2In.calls a0_5 1 200 t107 _ A12.out).mono ?_); rintro e w' ⟨rfl, ⟨nd, rfl⟩⟩; refine ⟨_, rfl, ?_⟩))
      go_ret
      exact ⟨by first | rfl | (simp [errW_none, errW_some] <;> rfl) | (simp [*, errW_none, errW_some] <;> rfl), by repeat (first | (with_reducible first | exact HB.out | apply wA | apply wN | apply wD | refine bS ?_ GE105.out) | exact HB.out)⟩
     ·rw [if_neg c11] at H
      have c11b0 : (a0_4.toList == ([83, 67, 84] : List UInt8)) = false := beq_eq_false_iff_ne.mpr c11
      have c11b1 : (a0_4.toList != ([83, 67, 84] : List UInt8)) = true := bne_iff_ne.mpr c11
      by_cases c14 : a0_4.toList = ([66, 75, 78] : List UInt8)
      ·rw [if_pos c14] at H
       have c14b0 : (a0_4.toList == ([66, 75, 78] : List UInt8)) = true := beq_iff_eq.mpr c14
       have c14b1 : (a0_4.toList != ([66, 75, 78] : List UInt8)) = false := bne_eq_false_iff_eq.mpr c14
       clear c14
       replace H := Option.bind_eq_some_iff.mp H
       obtain ⟨t108, A150, H⟩ := H
       replace H : (some t108) = some r := H
       have A15 := Aside0.mk A150
       clear A150
       obtain rfl := Option.some.inj H
       have hcz16_0 : wc.cell? ⟨gb105, 0, none⟩ = some (.int .i64 a0_0) := bC BK105.out 0 rfl
       have hcz16_1 : wc.cell? ⟨gb105, 1, none⟩ = some (.int .i64 a0_1) := bC BK105.out 1 rfl
       have hcz16_2 : wc.cell? ⟨gb105, 2, none⟩ = some (.int .i64 a0_2) := bC BK105.out 2 rfl
       have hcz16_3 : wc.cell? ⟨gb105, 3, none⟩ = some (.string a0_3) := bC BK105.out 3 rfl
       have hcz16_4 : wc.cell? ⟨gb105, 4, none⟩ = some (.string a0_4) := bC BK105.out 4 rfl
       have hcz16_5 : wc.cell? ⟨gb105, 5, none⟩ = some (.int .i64 a0_5) := bC BK105.out 5 rfl
       have hfz16_0 := blk_frozen BK105.out 0
       have hfz16_1 := blk_frozen BK105.out 1
       have hfz16_2 := blk_frozen BK105.out 2
       have hfz16_3 := blk_frozen BK105.out 3
       have hfz16_4 := blk_frozen BK105.out 4
       have hfz16_5 := blk_frozen BK105.out 5
       go_wp2_with (first | ((with_reducible refine gate_callee (f := 19) rfl ?_); refine goesL_ (some 18) rfl rfl Tryd.func19 (by kernel_rfl) rfl #[.int .i64 a0_5, .int .i64 1, .int .i64 200] rfl (by (try simp only [lM, lC, lN]); first | done | rfl | (simp only [lD, lT]; rfl)) ?_; (with_reducible refine (spec_l2In.calls a0_5 1 200 t108 _ A15.out).mono ?_); rintro e w' ⟨rfl, ⟨nd, rfl⟩⟩; refine ⟨_, rfl, ?_⟩))
       go_ret
       exact ⟨by first | rfl | (simp [errW_none, errW_some] <;> rfl) | (simp [*, errW_none, errW_some] <;> rfl), by repeat (first | (with_reducible first | exact HB.out | apply wA | apply wN | apply wD | refine bS ?_ GE105.out) | exact HB.out)⟩
      ·rw [if_neg c14] at H
       have c14b0 : (a0_4.toList == ([66, 75, 78] : List UInt8)) = false := beq_eq_false_iff_ne.mpr c14
       have c14b1 : (a0_4.toList != ([66, 75, 78] : List UInt8)) = true := bne_iff_ne.mpr c14
       by_cases c17 : a0_4.toList = ([79, 86, 67] : List UInt8)
       ·rw [if_pos c17] at H
        have c17b0 : (a0_4.toList == ([79, 86, 67] : List UInt8)) = true := beq_iff_eq.mpr c17
        have c17b1 : (a0_4.toList != ([79, 86, 67] : List UInt8)) = false := bne_eq_false_iff_eq.mpr c17
        clear c17
        replace H := Option.bind_eq_some_iff.mp H
        obtain ⟨t109, A180, H⟩ := H
        replace H : (some t109) = some r := H
        have A18 := Aside0.mk A180
        clear A180
        obtain rfl := Option.some.inj H
        have hcz19_0 : wc.cell? ⟨gb105, 0, none⟩ = some (.int .i64 a0_0) := bC BK105.out 0 rfl
        have hcz19_1 : wc.cell? ⟨gb105, 1, none⟩ = some (.int .i64 a0_1) := bC BK105.out 1 rfl
        have hcz19_2 : wc.cell? ⟨gb105, 2, none⟩ = some (.int .i64 a0_2) := bC BK105.out 2 rfl
        have hcz19_3 : wc.cell? ⟨gb105, 3, none⟩ = some (.string a0_3) := bC BK105.out 3 rfl
        have hcz19_4 : wc.cell? ⟨gb105, 4, none⟩ = some (.string a0_4) := bC BK105.out 4 rfl
        have hcz19_5 : wc.cell? ⟨gb105, 5, none⟩ = some (.int .i64 a0_5) := bC BK105.out 5 rfl
        have hfz19_0 := blk_frozen BK105.out 0
        have hfz19_1 := blk_frozen BK105.out 1
        have hfz19_2 := blk_frozen BK105.out 2
        have hfz19_3 := blk_frozen BK105.out 3
        have hfz19_4 := blk_frozen BK105.out 4
        have hfz19_5 := blk_frozen BK105.out 5
        go_wp2_with (first | ((with_reducible refine gate_callee (f := 19) rfl ?_); refine goesL_ (some 18) rfl rfl Tryd.func19 (by kernel_rfl) rfl #[.int .i64 a0_5, .int .i64 1, .int .i64 200] rfl (by (try simp only [lM, lC, lN]); first | done | rfl | (simp only [lD, lT]; rfl)) ?_; (with_reducible refine (spec_l2In.calls a0_5 1 200 t109 _ A18.out).mono ?_); rintro e w' ⟨rfl, ⟨nd, rfl⟩⟩; refine ⟨_, rfl, ?_⟩))
        go_ret
        exact ⟨by first | rfl | (simp [errW_none, errW_some] <;> rfl) | (simp [*, errW_none, errW_some] <;> rfl), by repeat (first | (with_reducible first | exact HB.out | apply wA | apply wN | apply wD | refine bS ?_ GE105.out) | exact HB.out)⟩
       ·rw [if_neg c17] at H
        have c17b0 : (a0_4.toList == ([79, 86, 67] : List UInt8)) = false := beq_eq_false_iff_ne.mpr c17
        have c17b1 : (a0_4.toList != ([79, 86, 67] : List UInt8)) = true := bne_iff_ne.mpr c17
        obtain rfl := Option.some.inj H
        go_wp2
        go_ret
        exact ⟨by first | rfl | (simp [errW_none, errW_some] <;> rfl) | (simp [*, errW_none, errW_some] <;> rfl), by repeat (first | (with_reducible first | exact HB.out | apply wA | apply wN | apply wD | refine bS ?_ GE105.out) | exact HB.out)⟩

end Go.Proofs.YtcdghhihfjojaabDoor.Q
