/- Plain Lean functions with the same answers as the Go functions of this seat, and a proof for each that the Go code comes to just these answers; no condition. Written by a program of this session (the kit's printer, turned). -/
import Derived.Test.YtcdghhihfjojaabDoorQx0
import Derived.Test.YtcdghhihfjojaabDoorQx2
namespace Go.Proofs.YtcdghhihfjojaabDoor.Q
open Go.RowKit Go.Proofs.YtcdghhihfjojaabDoorW.PrintWords Go.Proofs.YtcdghhihfjojaabDoorW.PrintLast Go.Proofs.YtcdghhihfjojaabDoorW.PrintMore Go.Proofs.YtcdghhihfjojaabDoorW.PrintFlt
attribute [local go_sem] cmp_lss cmp_leq cmp_gtr cmp_geq cmp_eql cmp_neq flt_l flt_r fgt_l fgt_r feq_l feq_r fne_l fne_r ord_lt ord_gt ord_eq ord_ne conv_int conv_flt foi_fold run_store_flt
attribute [local go_sem] max2_int min2_int max_two min_two max_three min_three max_four min_four   -- for this text's walks alone
set_option linter.unusedVariables false
set_option linter.unusedSimpArgs false

/-! ### spec_l21WindOk: function 18 -/
def spec_l21WindOk.j0 : Nat → Bool → Int → Int → Int → ByteArray → ByteArray → Int → Option (Bool)
 | 0, _, _, _, _, _, _, _ => none
 | k + 1, x10, x102000, x102001, x102002, x102003, x102004, x102005 => if x10 = true then (some (x102001 == 0)) else ((spec_l2In.f x102000 1 36).bind fun t102 => (if t102 = true then ((spec_l2In.f x102001 1 99).bind fun t103 => (some t103)) else (if x102000 = 99 then ((spec_l2In.f x102001 1 99).bind fun t104 => (some t104)) else (some false))))
def spec_l21WindOk.f (k : Nat) (a0_0 : Int) (a0_1 : Int) (a0_2 : Int) (a0_3 : ByteArray) (a0_4 : ByteArray) (a0_5 : Int) : Option (Bool) := if a0_0 = (-1) then (spec_l21WindOk.j0 k true a0_0 a0_1 a0_2 a0_3 a0_4 a0_5) else (spec_l21WindOk.j0 k (a0_0 == 0) a0_0 a0_1 a0_2 a0_3 a0_4 a0_5)
theorem spec_l21WindOk.mono_l : ∀ k, (∀ y0 y1 y2 y3 y4 y5 y6, LeO (spec_l21WindOk.j0 k y0 y1 y2 y3 y4 y5 y6) (spec_l21WindOk.j0 (k + 1) y0 y1 y2 y3 y4 y5 y6))
 | 0 => fun _ _ _ _ _ _ _ r h => by simp [spec_l21WindOk.j0] at h
 | k + 1 => by
  have ih0 := spec_l21WindOk.mono_l k
  ·intro y0 y1 y2 y3 y4 y5 y6
   unfold spec_l21WindOk.j0
   repeat' first
   | (with_reducible exact ih0 _ _ _ _ _ _ _)
   | (with_reducible exact LeO.refl _)
   | (with_reducible exact LeO.none _)
   | (with_reducible refine LeO.ite ?_ ?_)
   | (with_reducible refine LeO.bind ?_ (fun _ => ?_))
   | exact ih0 _ _ _ _ _ _ _
   | exact LeO.none _
   | refine LeO.ite ?_ ?_
   | refine LeO.bind ?_ (fun _ => ?_)
theorem spec_l21WindOk.mono : ∀ a0 a1 a2 a3 a4 a5 k, LeO (spec_l21WindOk.f k a0 a1 a2 a3 a4 a5) (spec_l21WindOk.f (k + 1) a0 a1 a2 a3 a4 a5) := by
 intro a0 a1 a2 a3 a4 a5 k
 have ih0 := spec_l21WindOk.mono_l k
 unfold spec_l21WindOk.f
 repeat' first
   | (with_reducible exact ih0 _ _ _ _ _ _ _)
   | (with_reducible exact LeO.refl _)
   | (with_reducible exact LeO.none _)
   | (with_reducible refine LeO.ite ?_ ?_)
   | (with_reducible refine LeO.bind ?_ (fun _ => ?_))
   | exact ih0 _ _ _ _ _ _ _
   | exact LeO.none _
   | refine LeO.ite ?_ ?_
   | refine LeO.bind ?_ (fun _ => ?_)
set_option maxHeartbeats 8000000 in
set_option maxRecDepth 100000 in
theorem spec_l21WindOk.calls (k : Nat) (a0_0 : Int) (a0_1 : Int) (a0_2 : Int) (a0_3 : ByteArray) (a0_4 : ByteArray) (a0_5 : Int) (r : Bool) (w : World) (h : spec_l21WindOk.f k a0_0 a0_1 a0_2 a0_3 a0_4 a0_5 = some r) :
  Calls Tryd.prog 18 #[.agg #[.int .i64 a0_0, .int .i64 a0_1, .int .i64 a0_2, .string a0_3, .string a0_4, .int .i64 a0_5]] w fun e w' => e = .returned (.bool r) ∧ Below w.heap.size w w' := by
 have hu25 := Tryd.underlying25
 have HB := A0 (Below.refl w.heap.size w)
 have H : (if a0_0 = (-1) then (spec_l21WindOk.j0 k true a0_0 a0_1 a0_2 a0_3 a0_4 a0_5) else (spec_l21WindOk.j0 k (a0_0 == 0) a0_0 a0_1 a0_2 a0_3 a0_4 a0_5)) = some r := h
 clear h
 have HC2 := Aside0.mk H
 clear H
 go_enter Tryd.func18, Tryd.ntmps18
 go_upto_region 1 with (first | ((with_reducible refine gate_dst (N := 1) rfl ?_); refine box_event ?hg (N := 1) ?hd (cs := #[.int .i64 a0_0, .int .i64 a0_1, .int .i64 a0_2, .string a0_3, .string a0_4, .int .i64 a0_5]) (t := 25) ?hr ?_; (case hd => rfl); (case hg => rfl); (case hr => first | (go_simp; done) | (go_simp; rfl)); intro gb101 hg w3 hbox hb; have n0_ := A0 (below_step (by repeat (first | (with_reducible first | exact HB.out | apply wA | apply wN | apply wD) | exact HB.out)) hb); have n1_ := A0 (hbox); have n2_ := A0 ((by rw [hg]; exact (below_size (by repeat (first | (with_reducible first | exact HB.out | apply wA | apply wN | apply wD) | exact HB.out))) : w.heap.size ≤ gb101)); have n3_ := A0 ((by rw [hg]; exact (below_size (by repeat (first | (with_reducible first | exact HB.out | apply wA | apply wN | apply wD) | exact HB.out))) : w.heap.size ≤ gb101)); clear HB; have HB := n0_; have BK101 := n1_; have GW101 := n2_; have GE101 := n3_; clear n0_ n1_ n2_ n3_; clear hb hbox hg))
 (try simp only [Act.put, sqA, sqZ, sqS])
 go_cut [10] (fun v10 wc => ∃ (kq : Nat) (x10_1 : Bool), v10 = .bool x10_1 ∧ Aside0 (spec_l21WindOk.j0 kq x10_1 a0_0 a0_1 a0_2 a0_3 a0_4 a0_5 = some r) ∧ Aside0 (kq ≤ k) ∧ Aside0 (wc.heap[gb101]? = some (.cells #[.int .i64 a0_0, .int .i64 a0_1, .int .i64 a0_2, .string a0_3, .string a0_4, .int .i64 a0_5] 25 (0, 0))) ∧ Aside0 (Below w.heap.size w wc))
 case first =>
  have H := HC2.out
  clear HC2
  by_cases c4 : a0_0 = (-1)
  ·rw [if_pos c4] at H
   have c4b0 : (a0_0 == (-1)) = true := beq_iff_eq.mpr c4
   have c4b1 : (a0_0 != (-1)) = false := bne_eq_false_iff_eq.mpr c4
   clear c4
   (first | rw [c4b0] | (simp only [i64_w, i32_w]; rw [c4b0]) | skip)
   have H' := Aside0.mk H
   clear H
   have hcz5_0 : w3.cell? ⟨gb101, 0, none⟩ = some (.int .i64 a0_0) := bC BK101.out 0 rfl
   have hcz5_1 : w3.cell? ⟨gb101, 1, none⟩ = some (.int .i64 a0_1) := bC BK101.out 1 rfl
   have hcz5_2 : w3.cell? ⟨gb101, 2, none⟩ = some (.int .i64 a0_2) := bC BK101.out 2 rfl
   have hcz5_3 : w3.cell? ⟨gb101, 3, none⟩ = some (.string a0_3) := bC BK101.out 3 rfl
   have hcz5_4 : w3.cell? ⟨gb101, 4, none⟩ = some (.string a0_4) := bC BK101.out 4 rfl
   have hcz5_5 : w3.cell? ⟨gb101, 5, none⟩ = some (.int .i64 a0_5) := bC BK101.out 5 rfl
   have hfz5_0 := blk_frozen BK101.out 0
   have hfz5_1 := blk_frozen BK101.out 1
   have hfz5_2 := blk_frozen BK101.out 2
   have hfz5_3 := blk_frozen BK101.out 3
   have hfz5_4 := blk_frozen BK101.out 4
   have hfz5_5 := blk_frozen BK101.out 5
   go_wp2
   go_meet
   case rel => exact ⟨_, (true), (by first | rfl | (simp; done) | (simp [*]; done)), H', ⟨by first | omega | exact Nat.le_refl _⟩, ⟨by (with_reducible repeat (first | refine bN ?_ _ | refine bD ?_ | refine bA ?_ _)); exact BK101.out⟩, ⟨by repeat (first | (with_reducible first | exact HB.out | apply wA | apply wN | apply wD | refine bS ?_ GE101.out) | exact HB.out)⟩⟩
  ·rw [if_neg c4] at H
   have c4b0 : (a0_0 == (-1)) = false := beq_eq_false_iff_ne.mpr c4
   have c4b1 : (a0_0 != (-1)) = true := bne_iff_ne.mpr c4
   (first | rw [c4b0] | (simp only [i64_w, i32_w]; rw [c4b0]) | skip)
   have H' := Aside0.mk H
   clear H
   have hcz6_0 : w3.cell? ⟨gb101, 0, none⟩ = some (.int .i64 a0_0) := bC BK101.out 0 rfl
   have hcz6_1 : w3.cell? ⟨gb101, 1, none⟩ = some (.int .i64 a0_1) := bC BK101.out 1 rfl
   have hcz6_2 : w3.cell? ⟨gb101, 2, none⟩ = some (.int .i64 a0_2) := bC BK101.out 2 rfl
   have hcz6_3 : w3.cell? ⟨gb101, 3, none⟩ = some (.string a0_3) := bC BK101.out 3 rfl
   have hcz6_4 : w3.cell? ⟨gb101, 4, none⟩ = some (.string a0_4) := bC BK101.out 4 rfl
   have hcz6_5 : w3.cell? ⟨gb101, 5, none⟩ = some (.int .i64 a0_5) := bC BK101.out 5 rfl
   have hfz6_0 := blk_frozen BK101.out 0
   have hfz6_1 := blk_frozen BK101.out 1
   have hfz6_2 := blk_frozen BK101.out 2
   have hfz6_3 := blk_frozen BK101.out 3
   have hfz6_4 := blk_frozen BK101.out 4
   have hfz6_5 := blk_frozen BK101.out 5
   go_wp2
   go_meet
   case rel => exact ⟨_, ((a0_0 == 0)), (by first | rfl | (simp; done) | (simp [*]; done)), H', ⟨by first | omega | exact Nat.le_refl _⟩, ⟨by (with_reducible repeat (first | refine bN ?_ _ | refine bD ?_ | refine bA ?_ _)); exact BK101.out⟩, ⟨by repeat (first | (with_reducible first | exact HB.out | apply wA | apply wN | apply wD | refine bS ?_ GE101.out) | exact HB.out)⟩⟩
 case rest =>
  clear HC2
  try clear c1
  try clear p2
  try clear c4
  try clear c4b0
  try clear c4b1
  try clear hcz5_0
  try clear hcz5_1
  try clear hcz5_2
  try clear hcz5_3
  try clear hcz5_4
  try clear hcz5_5
  try clear hcz6_0
  try clear hcz6_1
  try clear hcz6_2
  try clear hcz6_3
  try clear hcz6_4
  try clear hcz6_5
  try clear hfz5_0
  try clear hfz5_1
  try clear hfz5_2
  try clear hfz5_3
  try clear hfz5_4
  try clear hfz5_5
  try clear hfz6_0
  try clear hfz6_1
  try clear hfz6_2
  try clear hfz6_3
  try clear hfz6_4
  try clear hfz6_5
  obtain ⟨kq, x10_1, rfl, HA, HJ1, BK101, HB⟩ := hcut
  cases kq with
  | zero => exact absurd HA.out (by simp [spec_l21WindOk.j0])
  | succ kj1 =>
   have H := HA.out
   clear HA
   simp only [spec_l21WindOk.j0] at H
   by_cases c7 : x10_1 = true
   ·subst c7
    have H1 : (some (a0_1 == 0)) = some r := by rw [if_pos rfl] at H; exact H
    clear H
    have H := H1
    clear H1
    obtain rfl := Option.some.inj H
    have hcz8_0 : wc.cell? ⟨gb101, 0, none⟩ = some (.int .i64 a0_0) := bC BK101.out 0 rfl
    have hcz8_1 : wc.cell? ⟨gb101, 1, none⟩ = some (.int .i64 a0_1) := bC BK101.out 1 rfl
    have hcz8_2 : wc.cell? ⟨gb101, 2, none⟩ = some (.int .i64 a0_2) := bC BK101.out 2 rfl
    have hcz8_3 : wc.cell? ⟨gb101, 3, none⟩ = some (.string a0_3) := bC BK101.out 3 rfl
    have hcz8_4 : wc.cell? ⟨gb101, 4, none⟩ = some (.string a0_4) := bC BK101.out 4 rfl
    have hcz8_5 : wc.cell? ⟨gb101, 5, none⟩ = some (.int .i64 a0_5) := bC BK101.out 5 rfl
    have hfz8_0 := blk_frozen BK101.out 0
    have hfz8_1 := blk_frozen BK101.out 1
    have hfz8_2 := blk_frozen BK101.out 2
    have hfz8_3 := blk_frozen BK101.out 3
    have hfz8_4 := blk_frozen BK101.out 4
    have hfz8_5 := blk_frozen BK101.out 5
    go_wp2
    go_ret
    exact ⟨by first | rfl | (simp [errW_none, errW_some] <;> rfl) | (simp [*, errW_none, errW_some] <;> rfl), by repeat (first | (with_reducible first | exact HB.out | apply wA | apply wN | apply wD | refine bS ?_ GE101.out) | exact HB.out)⟩
   ·replace c7 := Bool.eq_false_iff.mpr c7
    subst c7
    have H1 : ((spec_l2In.f a0_0 1 36).bind fun t102 => (if t102 = true then ((spec_l2In.f a0_1 1 99).bind fun t103 => (some t103)) else (if a0_0 = 99 then ((spec_l2In.f a0_1 1 99).bind fun t104 => (some t104)) else (some false)))) = some r := by rw [if_neg (show ¬ (false = true) by decide)] at H; exact H
    clear H
    have H := H1
    clear H1
    replace H := Option.bind_eq_some_iff.mp H
    obtain ⟨t102, A90, H⟩ := H
    replace H : (if t102 = true then ((spec_l2In.f a0_1 1 99).bind fun t103 => (some t103)) else (if a0_0 = 99 then ((spec_l2In.f a0_1 1 99).bind fun t104 => (some t104)) else (some false))) = some r := H
    have A9 := Aside0.mk A90
    clear A90
    by_cases c10 : t102 = true
    ·subst c10
     have H1 : ((spec_l2In.f a0_1 1 99).bind fun t103 => (some t103)) = some r := by rw [if_pos rfl] at H; exact H
     clear H
     have H := H1
     clear H1
     replace H := Option.bind_eq_some_iff.mp H
     obtain ⟨t103, A110, H⟩ := H
     replace H : (some t103) = some r := H
     have A11 := Aside0.mk A110
     clear A110
     obtain rfl := Option.some.inj H
     have hcz12_0 : wc.cell? ⟨gb101, 0, none⟩ = some (.int .i64 a0_0) := bC BK101.out 0 rfl
     have hcz12_1 : wc.cell? ⟨gb101, 1, none⟩ = some (.int .i64 a0_1) := bC BK101.out 1 rfl
     have hcz12_2 : wc.cell? ⟨gb101, 2, none⟩ = some (.int .i64 a0_2) := bC BK101.out 2 rfl
     have hcz12_3 : wc.cell? ⟨gb101, 3, none⟩ = some (.string a0_3) := bC BK101.out 3 rfl
     have hcz12_4 : wc.cell? ⟨gb101, 4, none⟩ = some (.string a0_4) := bC BK101.out 4 rfl
     have hcz12_5 : wc.cell? ⟨gb101, 5, none⟩ = some (.int .i64 a0_5) := bC BK101.out 5 rfl
     have hfz12_0 := blk_frozen BK101.out 0
     have hfz12_1 := blk_frozen BK101.out 1
     have hfz12_2 := blk_frozen BK101.out 2
     have hfz12_3 := blk_frozen BK101.out 3
     have hfz12_4 := blk_frozen BK101.out 4
     have hfz12_5 := blk_frozen BK101.out 5
     go_wp2_with (first | ((with_reducible refine gate_callee (f := 19) rfl ?_); refine goesL_ (some 16) rfl rfl Tryd.func19 (by kernel_rfl) rfl #[.int .i64 a0_0, .int .i64 1, .int .i64 36] rfl (by (try simp only [lM, lC, lN]); first | done | rfl | (simp only [lD, lT]; rfl)) ?_; (with_reducible refine (spec_l2In.calls a0_0 1 36 true _ A9.out).mono ?_); rintro e w' ⟨rfl, ⟨nd, rfl⟩⟩; refine ⟨_, rfl, ?_⟩) | (go_at_call 19; (with_reducible refine (spec_l2In.calls a0_1 1 99 t103 _ A11.out).mono ?_); rintro e w' ⟨rfl, ⟨nd, rfl⟩⟩))
     go_ret
     exact ⟨by first | rfl | (simp [errW_none, errW_some] <;> rfl) | (simp [*, errW_none, errW_some] <;> rfl), by repeat (first | (with_reducible first | exact HB.out | apply wA | apply wN | apply wD | refine bS ?_ GE101.out) | exact HB.out)⟩
    ·replace c10 := Bool.eq_false_iff.mpr c10
     subst c10
     have H1 : (if a0_0 = 99 then ((spec_l2In.f a0_1 1 99).bind fun t104 => (some t104)) else (some false)) = some r := by rw [if_neg (show ¬ (false = true) by decide)] at H; exact H
     clear H
     have H := H1
     clear H1
     by_cases c13 : a0_0 = 99
     ·rw [if_pos c13] at H
      have c13b0 : (a0_0 == 99) = true := beq_iff_eq.mpr c13
      have c13b1 : (a0_0 != 99) = false := bne_eq_false_iff_eq.mpr c13
      clear c13
      replace H := Option.bind_eq_some_iff.mp H
      obtain ⟨t104, A140, H⟩ := H
      replace H : (some t104) = some r := H
      have A14 := Aside0.mk A140
      clear A140
      obtain rfl := Option.some.inj H
      have hcz15_0 : wc.cell? ⟨gb101, 0, none⟩ = some (.int .i64 a0_0) := bC BK101.out 0 rfl
      have hcz15_1 : wc.cell? ⟨gb101, 1, none⟩ = some (.int .i64 a0_1) := bC BK101.out 1 rfl
      have hcz15_2 : wc.cell? ⟨gb101, 2, none⟩ = some (.int .i64 a0_2) := bC BK101.out 2 rfl
      have hcz15_3 : wc.cell? ⟨gb101, 3, none⟩ = some (.string a0_3) := bC BK101.out 3 rfl
      have hcz15_4 : wc.cell? ⟨gb101, 4, none⟩ = some (.string a0_4) := bC BK101.out 4 rfl
      have hcz15_5 : wc.cell? ⟨gb101, 5, none⟩ = some (.int .i64 a0_5) := bC BK101.out 5 rfl
      have hfz15_0 := blk_frozen BK101.out 0
      have hfz15_1 := blk_frozen BK101.out 1
      have hfz15_2 := blk_frozen BK101.out 2
      have hfz15_3 := blk_frozen BK101.out 3
      have hfz15_4 := blk_frozen BK101.out 4
      have hfz15_5 := blk_frozen BK101.out 5
      go_wp2_with (first | ((with_reducible refine gate_callee (f := 19) rfl ?_); refine goesL_ (some 16) rfl rfl Tryd.func19 (by kernel_rfl) rfl #[.int .i64 a0_0, .int .i64 1, .int .i64 36] rfl (by (try simp only [lM, lC, lN]); first | done | rfl | (simp only [lD, lT]; rfl)) ?_; (with_reducible refine (spec_l2In.calls a0_0 1 36 false _ A9.out).mono ?_); rintro e w' ⟨rfl, ⟨nd, rfl⟩⟩; refine ⟨_, rfl, ?_⟩) | (go_at_call 19; (with_reducible refine (spec_l2In.calls a0_1 1 99 t104 _ A14.out).mono ?_); rintro e w' ⟨rfl, ⟨nd, rfl⟩⟩))
      go_ret
      exact ⟨by first | rfl | (simp [errW_none, errW_some] <;> rfl) | (simp [*, errW_none, errW_some] <;> rfl), by repeat (first | (with_reducible first | exact HB.out | apply wA | apply wN | apply wD | refine bS ?_ GE101.out) | exact HB.out)⟩
     ·rw [if_neg c13] at H
      have c13b0 : (a0_0 == 99) = false := beq_eq_false_iff_ne.mpr c13
      have c13b1 : (a0_0 != 99) = true := bne_iff_ne.mpr c13
      obtain rfl := Option.some.inj H
      have hcz16_0 : wc.cell? ⟨gb101, 0, none⟩ = some (.int .i64 a0_0) := bC BK101.out 0 rfl
      have hcz16_1 : wc.cell? ⟨gb101, 1, none⟩ = some (.int .i64 a0_1) := bC BK101.out 1 rfl
      have hcz16_2 : wc.cell? ⟨gb101, 2, none⟩ = some (.int .i64 a0_2) := bC BK101.out 2 rfl
      have hcz16_3 : wc.cell? ⟨gb101, 3, none⟩ = some (.string a0_3) := bC BK101.out 3 rfl
      have hcz16_4 : wc.cell? ⟨gb101, 4, none⟩ = some (.string a0_4) := bC BK101.out 4 rfl
      have hcz16_5 : wc.cell? ⟨gb101, 5, none⟩ = some (.int .i64 a0_5) := bC BK101.out 5 rfl
      have hfz16_0 := blk_frozen BK101.out 0
      have hfz16_1 := blk_frozen BK101.out 1
      have hfz16_2 := blk_frozen BK101.out 2
      have hfz16_3 := blk_frozen BK101.out 3
      have hfz16_4 := blk_frozen BK101.out 4
      have hfz16_5 := blk_frozen BK101.out 5
      go_wp2_with (first | ((with_reducible refine gate_callee (f := 19) rfl ?_); refine goesL_ (some 16) rfl rfl Tryd.func19 (by kernel_rfl) rfl #[.int .i64 a0_0, .int .i64 1, .int .i64 36] rfl (by (try simp only [lM, lC, lN]); first | done | rfl | (simp only [lD, lT]; rfl)) ?_; (with_reducible refine (spec_l2In.calls a0_0 1 36 false _ A9.out).mono ?_); rintro e w' ⟨rfl, ⟨nd, rfl⟩⟩; refine ⟨_, rfl, ?_⟩))
      go_ret
      exact ⟨by first | rfl | (simp [errW_none, errW_some] <;> rfl) | (simp [*, errW_none, errW_some] <;> rfl), by repeat (first | (with_reducible first | exact HB.out | apply wA | apply wN | apply wD | refine bS ?_ GE101.out) | exact HB.out)⟩

end Go.Proofs.YtcdghhihfjojaabDoor.Q
