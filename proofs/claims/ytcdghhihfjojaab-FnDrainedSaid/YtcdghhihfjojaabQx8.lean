/- Plain Lean functions with the same answers as the Go functions of this seat, and a proof for each that the Go code comes to just these answers; no condition. Written by a program of this session (the kit's printer, turned). -/
import Derived.Test.YtcdghhihfjojaabQx0
import Derived.Test.YtcdghhihfjojaabQx4
import Derived.Test.YtcdghhihfjojaabQx5
import Derived.Test.YtcdghhihfjojaabQx7
namespace Go.Proofs.Ytcdghhihfjojaab.Q
open Go.RowKit Go.Proofs.YtcdghhihfjojaabW.PrintWords Go.Proofs.YtcdghhihfjojaabW.PrintLast Go.Proofs.YtcdghhihfjojaabW.PrintMore Go.Proofs.YtcdghhihfjojaabW.PrintFlt
attribute [local go_sem] cmp_lss cmp_leq cmp_gtr cmp_geq cmp_eql cmp_neq flt_l flt_r fgt_l fgt_r feq_l feq_r fne_l fne_r ord_lt ord_gt ord_eq ord_ne conv_int conv_flt foi_fold run_store_flt
attribute [local go_sem] max2_int min2_int max_two min_two max_three min_three max_four min_four   -- for this text's walks alone
set_option linter.unusedVariables false
set_option linter.unusedSimpArgs false

/-! ### spec_l12DrawBox: function 40 -/
def spec_l12DrawBox.f (k : Nat) (s0_0 : List Int) (s0_1 : Int) : Option (Int × Int × List Int × Int) := (spec_l1Rd_box.f k s0_0 s0_1).bind fun bt133 => ((spec_l1Rd_below.f s0_0 bt133.2.2.2 24).bind fun bt140 => (if bt140.1 = 0 then ((some (([0, 25, wrap64 (bt133.1 + 1)] : List Int) : List Int)).bind fun y142 => ((spec_l1Rd_below.f s0_0 bt140.2 3).bind fun bt145 => (if 0 ≤ bt145.1 then (if bt145.1 < (y142.length : Int) then (some (rd y142 bt145.1, bt133.2.1, bt133.2.2.1, bt145.2)) else (none)) else (none)))) else (if bt140.1 = 1 then (if 1 ≤ (bt133.2.2.1.length : Int) then (some (bt133.1, bt133.2.1, (bt133.2.2.1.drop (1 : Int).toNat), bt140.2)) else (none)) else (if bt140.1 = 2 then ((some (([1000000000, 1000000001, (-1000000000), (-1000000001)] : List Int) : List Int)).bind fun y151 => ((spec_l1Rd_below.f s0_0 bt140.2 4).bind fun bt154 => (if 0 ≤ bt154.1 then (if bt154.1 < (y151.length : Int) then (if 0 < (bt133.2.2.1.length : Int) then (some (bt133.1, bt133.2.1, (bt133.2.2.1.set (0 : Int).toNat (rd y151 bt154.1)), bt154.2)) else (none)) else (none)) else (none)))) else (some (bt133.1, bt133.2.1, bt133.2.2.1, bt140.2))))))
theorem spec_l12DrawBox.mono : ∀ a0 a1 k, LeO (spec_l12DrawBox.f k a0 a1) (spec_l12DrawBox.f (k + 1) a0 a1) := by
 intro a0 a1 k
 unfold spec_l12DrawBox.f
 repeat' first
   | (with_reducible exact spec_l1Rd_box.mono _ _ _)
   | (with_reducible exact LeO.refl _)
   | (with_reducible exact LeO.none _)
   | (with_reducible refine LeO.ite ?_ ?_)
   | (with_reducible refine LeO.bind ?_ (fun _ => ?_))
   | exact spec_l1Rd_box.mono _ _ _
   | exact LeO.none _
   | refine LeO.ite ?_ ?_
   | refine LeO.bind ?_ (fun _ => ?_)
def spec_l12DrawBox.T4 : Bool × List (List Nat × List Nat) := (true, [([], []), ([0], [0]), ([1], [1]), ([2], [2]), ([], []), ([4], [4]), ([3, 5], [3, 5]), ([6], [6]), ([0, 1, 2, 3, 4, 5, 6, 7], []), ([8, 7, 5, 0, 1, 2, 3, 4, 5, 6, 7], [7, 8])])
def spec_l12DrawBox.B4 : List Nat := [0, 1, 3, 7, 0, 16, 63, 127, 255, 511]
theorem spec_l12DrawBox.tab4 : rtab .any (opsOf Try.f40 4) = spec_l12DrawBox.T4 := by kernel_rfl
theorem spec_l12DrawBox.bits4 : waitsOk spec_l12DrawBox.T4.2 spec_l12DrawBox.B4 = true := by kernel_rfl
def spec_l12DrawBox.T8 : Bool × List (List Nat × List Nat) := (true, [([], []), ([0], [0]), ([], []), ([], []), ([3], [3]), ([2, 4], [2, 4]), ([5], [5]), ([1, 0, 1, 2, 3, 4, 5, 6], [1]), ([7, 6, 4, 0, 1, 2, 3, 4, 5, 6], [6, 7])])
def spec_l12DrawBox.B8 : List Nat := [0, 1, 0, 0, 8, 28, 60, 127, 255]
theorem spec_l12DrawBox.tab8 : rtab .any (opsOf Try.f40 8) = spec_l12DrawBox.T8 := by kernel_rfl
theorem spec_l12DrawBox.bits8 : waitsOk spec_l12DrawBox.T8.2 spec_l12DrawBox.B8 = true := by kernel_rfl
set_option maxHeartbeats 8000000 in
set_option maxRecDepth 100000 in
theorem spec_l12DrawBox.calls (k : Nat) (g : Nat) (s0_0 : List Int) (s0_1 : Int) (r1 : Int) (r2 : Int) (r3 : List Int) (r4 : Int) (w0 w : World) (hI : IsS81 w0 w g s0_0 s0_1) (hB : Below w0.heap.size w0 w) (h : spec_l12DrawBox.f k s0_0 s0_1 = some (r1, r2, r3, r4)) :
  Calls Try.prog 40 #[.pointer (some ⟨g, 0, none⟩)] w fun e w' => ∃ v2_ : Value, e = .returned (.agg #[.int .i64 r1, .int .i64 r2, v2_]) ∧ Kd.Q (Kd.int .i64) 2 w' w.heap.size (fun _ => True) v2_ r3 ∧ IsS81 w0 w' g s0_0 r4 ∧ Below w0.heap.size w0 w' ∧ KeepBut w w' g none := by
 have hu27 := Try.underlying27
 have HI0 := Aside0.mk hI
 have HK := A0 (KeepBut.refl w g none)
 have HL := Aside0.mk hB.size
 clear hI
 have HW0 := Aside0.mk hB.size
 have HB := Aside0.mk hB
 clear hB
 have H : ((spec_l1Rd_box.f k s0_0 s0_1).bind fun bt133 => ((spec_l1Rd_below.f s0_0 bt133.2.2.2 24).bind fun bt140 => (if bt140.1 = 0 then ((some (([0, 25, wrap64 (bt133.1 + 1)] : List Int) : List Int)).bind fun y142 => ((spec_l1Rd_below.f s0_0 bt140.2 3).bind fun bt145 => (if 0 ≤ bt145.1 then (if bt145.1 < (y142.length : Int) then (some (rd y142 bt145.1, bt133.2.1, bt133.2.2.1, bt145.2)) else (none)) else (none)))) else (if bt140.1 = 1 then (if 1 ≤ (bt133.2.2.1.length : Int) then (some (bt133.1, bt133.2.1, (bt133.2.2.1.drop (1 : Int).toNat), bt140.2)) else (none)) else (if bt140.1 = 2 then ((some (([1000000000, 1000000001, (-1000000000), (-1000000001)] : List Int) : List Int)).bind fun y151 => ((spec_l1Rd_below.f s0_0 bt140.2 4).bind fun bt154 => (if 0 ≤ bt154.1 then (if bt154.1 < (y151.length : Int) then (if 0 < (bt133.2.2.1.length : Int) then (some (bt133.1, bt133.2.1, (bt133.2.2.1.set (0 : Int).toNat (rd y151 bt154.1)), bt154.2)) else (none)) else (none)) else (none)))) else (some (bt133.1, bt133.2.1, bt133.2.2.1, bt140.2))))))) = some (r1, r2, r3, r4) := h
 clear h
 replace H := Option.bind_eq_some_iff.mp H
 obtain ⟨⟨t133, t134, t135, t138⟩, A20, H⟩ := H
 replace H : ((spec_l1Rd_below.f s0_0 t138 24).bind fun bt140 => (if bt140.1 = 0 then ((some (([0, 25, wrap64 (t133 + 1)] : List Int) : List Int)).bind fun y142 => ((spec_l1Rd_below.f s0_0 bt140.2 3).bind fun bt145 => (if 0 ≤ bt145.1 then (if bt145.1 < (y142.length : Int) then (some (rd y142 bt145.1, t134, t135, bt145.2)) else (none)) else (none)))) else (if bt140.1 = 1 then (if 1 ≤ (t135.length : Int) then (some (t133, t134, (t135.drop (1 : Int).toNat), bt140.2)) else (none)) else (if bt140.1 = 2 then ((some (([1000000000, 1000000001, (-1000000000), (-1000000001)] : List Int) : List Int)).bind fun y151 => ((spec_l1Rd_below.f s0_0 bt140.2 4).bind fun bt154 => (if 0 ≤ bt154.1 then (if bt154.1 < (y151.length : Int) then (if 0 < (t135.length : Int) then (some (t133, t134, (t135.set (0 : Int).toNat (rd y151 bt154.1)), bt154.2)) else (none)) else (none)) else (none)))) else (some (t133, t134, t135, bt140.2)))))) = some (r1, r2, r3, r4) := H
 have A2 := Aside0.mk A20
 clear A20
 replace H := Option.bind_eq_some_iff.mp H
 obtain ⟨⟨t140, t141⟩, A30, H⟩ := H
 replace H : (if t140 = 0 then ((some (([0, 25, wrap64 (t133 + 1)] : List Int) : List Int)).bind fun y142 => ((spec_l1Rd_below.f s0_0 t141 3).bind fun bt145 => (if 0 ≤ bt145.1 then (if bt145.1 < (y142.length : Int) then (some (rd y142 bt145.1, t134, t135, bt145.2)) else (none)) else (none)))) else (if t140 = 1 then (if 1 ≤ (t135.length : Int) then (some (t133, t134, (t135.drop (1 : Int).toNat), t141)) else (none)) else (if t140 = 2 then ((some (([1000000000, 1000000001, (-1000000000), (-1000000001)] : List Int) : List Int)).bind fun y151 => ((spec_l1Rd_below.f s0_0 t141 4).bind fun bt154 => (if 0 ≤ bt154.1 then (if bt154.1 < (y151.length : Int) then (if 0 < (t135.length : Int) then (some (t133, t134, (t135.set (0 : Int).toNat (rd y151 bt154.1)), bt154.2)) else (none)) else (none)) else (none)))) else (some (t133, t134, t135, t141))))) = some (r1, r2, r3, r4) := H
 have A3 := Aside0.mk A30
 clear A30
 by_cases c4 : t140 = 0
 ·rw [if_pos c4] at H
  have c4b0 : (t140 == 0) = true := beq_iff_eq.mpr c4
  have c4b1 : (t140 != 0) = false := bne_eq_false_iff_eq.mpr c4
  clear c4
  obtain ⟨y142, hy142⟩ : ∃ y_ : List Int, y_ = (([0, 25, wrap64 (t133 + 1)] : List Int)) := ⟨_, rfl⟩
  replace H : ((spec_l1Rd_below.f s0_0 t141 3).bind fun bt145 => (if 0 ≤ bt145.1 then (if bt145.1 < (y142.length : Int) then (some (rd y142 bt145.1, t134, t135, bt145.2)) else (none)) else (none))) = some (r1, r2, r3, r4) := by first | (rw [hy142]; with_reducible exact H) | (have H2_ := (Option.bind_some _ _).symm.trans H; rw [hy142]; with_reducible exact H2_) | (have H2_ := (Option.bind_some _ _).symm.trans H; with_reducible exact H2_) | with_reducible exact H | (rw [hy142]; exact H) | exact H
  have Ny142 := Aside0.mk hy142
  clear hy142
  replace H := Option.bind_eq_some_iff.mp H
  obtain ⟨⟨t145, t146⟩, A50, H⟩ := H
  replace H : (if 0 ≤ t145 then (if t145 < (y142.length : Int) then (some (rd y142 t145, t134, t135, t146)) else (none)) else (none)) = some (r1, r2, r3, r4) := H
  have A5 := Aside0.mk A50
  clear A50
  by_cases c6 : 0 ≤ t145
  ·rw [if_pos c6] at H
   have c6b0 : decide (0 ≤ t145) = true := decide_eq_true c6
   clear c6
   by_cases c7 : t145 < (y142.length : Int)
   ·rw [if_pos c7] at H
    have c7b0 : decide (t145 < (y142.length : Int)) = true := decide_eq_true c7
    clear c7
    simp only [Option.some.injEq, Prod.mk.injEq] at H
    obtain ⟨rfl, rfl, rfl, rfl⟩ := H
    go_enter Try.func40, Try.ntmps40
    try go_wp2_with (first | ((with_reducible refine gate_dst (N := 2) rfl ?_); refine box_event ?hg (N := 2) ?hd (cs := #[.int .i64 0, .int .i64 0, .slice none 0 0]) (t := 27) ?hr ?_; (case hd => rfl); (case hg => rfl); (case hr => first | (go_simp; done) | (go_simp; rfl)); intro gb132 hg w8 hbox hb; have n0_ := A0 (IsS81.below HI0.out hb); have n1_ := A0 (KeepBut.trans HK.out (KeepBut.of_below hb g none) (.inl rfl)); have n2_ := A0 (below_step HB.out hb); have n3_ := A0 (hbox); have n4_ := A0 ((by rw [hg]; exact (keep_size (w := w) (g := g) (row := none) HK.out) : w.heap.size ≤ gb132)); have n5_ := A0 ((Nat.le_trans HW0.out (by rw [hg]; exact (keep_size (w := w) (g := g) (row := none) HK.out) : w.heap.size ≤ gb132) : w0.heap.size ≤ gb132)); have n6_ := A0 ((by rw [hg]; exact Nat.ne_of_lt (IsS81.lt (show IsS81 w0 _ g s0_0 s0_1 from by repeat (first | (with_reducible first | exact HI0.out | apply IsS81.alloc | apply IsS81.drewN | apply IsS81.drew | apply IsS81.set_1) | exact HI0.out))) : g ≠ gb132)); have n7_ := A0 ((by rw [hg]; exact Nat.ne_of_gt (IsS81.lt (show IsS81 w0 _ g s0_0 s0_1 from by repeat (first | (with_reducible first | exact HI0.out | apply IsS81.alloc | apply IsS81.drewN | apply IsS81.drew | apply IsS81.set_1) | exact HI0.out))) : gb132 ≠ g)); clear HI0; clear HK; clear HB; have HI0 := n0_; have HK := n1_; have HB := n2_; have BK132 := n3_; have GW132 := n4_; have GE132 := n5_; have NB0_132 := n6_; have NB132_0 := n7_; clear n0_ n1_ n2_ n3_ n4_ n5_ n6_ n7_; clear hb hbox hg) | ((with_reducible refine gate_callee (f := 50) rfl ?_); refine goesL_ (some 5) rfl rfl Try.func50 (by kernel_rfl) rfl #[.pointer (some ⟨g, 0, none⟩)] rfl (by (try simp only [lM, lC, lN]); first | done | rfl | (simp only [lD, lT]; rfl)) ?_; (with_reducible refine (spec_l1Rd_box.calls k g s0_0 s0_1 t133 t134 t135 t138 w0 _ ?side1 ?side2 A2.out).mono ?_); (case side1 => repeat (first | (with_reducible first | exact HI0.out | apply IsS81.alloc | apply IsS81.drewN | apply IsS81.drew | apply IsS81.set_1 | apply IsS81.far (hne := NB0_132.out)) | exact HI0.out)); (case side2 => repeat (first | (with_reducible first | exact HB.out | apply wA | apply wN | apply wD | refine bS ?_ (IsS81.ge HI0.out) | refine bS ?_ GE132.out) | exact HB.out)); rintro e w9 ⟨v136, rfl, ho0, hi, hb, hk⟩; refine ⟨_, rfl, ?_⟩; have n0_ := A0 (KeepBut.blk hk (g' := gb132) (o := .cells #[.int .i64 0, .int .i64 0, .slice none 0 0] 27 (0, 0)) (by (with_reducible repeat (first | refine bN ?_ _ | refine bD ?_ | refine bA ?_ _)); exact BK132.out) NB132_0.out (by simp)); have n1_ := A0 (Kd.R_lower ho0 (keep_size (w := w) (g := g) (row := none) (by repeat (first | (with_reducible first | exact HK.out | apply KeepBut.set_ | apply keep_drewN | apply keep_drew | apply keep_alloc | refine keep_far ?_ GW132.out _) | exact HK.out)))); have n2_ := A0 (KeepBut.trans (by repeat (first | (with_reducible first | exact HK.out | apply KeepBut.set_ | apply keep_drewN | apply keep_drew | apply keep_alloc | refine keep_far ?_ GW132.out _) | exact HK.out)) hk (.inl rfl)); have n3_ := A0 (hb); have n4_ := A0 (hi); clear BK132; clear HK; clear HB; clear HI0; have BK132 := n0_; have HO137 := n1_; have HK := n2_; have HB := n3_; have HI0 := n4_; clear n0_ n1_ n2_ n3_ n4_; (try clear hb); (try clear hb2); (try clear hk); (try clear hi); (try clear ho0)) | ((with_reducible refine gate_dst (N := 3) rfl ?_); refine box_event ?hg (N := 3) ?hd (cs := #[.int .i64 0, .int .i64 0, .slice none 0 0]) (t := 27) ?hr ?_; (case hd => rfl); (case hg => rfl); (case hr => first | (go_simp; done) | (go_simp; rfl)); intro gb139 hg w10 hbox hb; have n0_ := A0 (Kd.R_below HO137.out hb); have n1_ := A0 (IsS81.below (by repeat (first | (with_reducible first | exact HI0.out | apply IsS81.alloc | apply IsS81.drewN | apply IsS81.drew | apply IsS81.set_1 | apply IsS81.far (hne := NB0_132.out)) | exact HI0.out)) hb); have n2_ := A0 (blk_below (g := gb132) (o := .cells #[.int .i64 0, .int .i64 0, .slice none 0 0] 27 (0, 0)) (by (with_reducible repeat (first | refine bN ?_ _ | refine bD ?_ | refine bA ?_ _)); exact BK132.out) hb); have n3_ := A0 (KeepBut.trans (by repeat (first | (with_reducible first | exact HK.out | apply KeepBut.set_ | apply keep_drewN | apply keep_drew | apply keep_alloc | refine keep_far ?_ GW132.out _) | exact HK.out)) (KeepBut.of_below hb g none) (.inl rfl)); have n4_ := A0 (below_step (by repeat (first | (with_reducible first | exact HB.out | apply wA | apply wN | apply wD | refine bS ?_ (IsS81.ge HI0.out) | refine bS ?_ GE132.out) | exact HB.out)) hb); have n5_ := A0 (hbox); have n6_ := A0 ((by rw [hg]; exact (keep_size (w := w) (g := g) (row := none) (by repeat (first | (with_reducible first | exact HK.out | apply KeepBut.set_ | apply keep_drewN | apply keep_drew | apply keep_alloc | refine keep_far ?_ GW132.out _) | exact HK.out))) : w.heap.size ≤ gb139)); have n7_ := A0 ((Nat.le_trans HW0.out (by rw [hg]; exact (keep_size (w := w) (g := g) (row := none) (by repeat (first | (with_reducible first | exact HK.out | apply KeepBut.set_ | apply keep_drewN | apply keep_drew | apply keep_alloc | refine keep_far ?_ GW132.out _) | exact HK.out))) : w.heap.size ≤ gb139) : w0.heap.size ≤ gb139)); have n8_ := A0 ((by rw [hg]; exact Nat.ne_of_lt (blk_lt (g := gb132) (o := .cells #[.int .i64 0, .int .i64 0, .slice none 0 0] 27 (0, 0)) (by (with_reducible repeat (first | refine bN ?_ _ | refine bD ?_ | refine bA ?_ _)); exact BK132.out)) : gb132 ≠ gb139)); have n9_ := A0 ((by rw [hg]; exact Nat.ne_of_gt (blk_lt (g := gb132) (o := .cells #[.int .i64 0, .int .i64 0, .slice none 0 0] 27 (0, 0)) (by (with_reducible repeat (first | refine bN ?_ _ | refine bD ?_ | refine bA ?_ _)); exact BK132.out)) : gb139 ≠ gb132)); have n10_ := A0 ((by rw [hg]; exact Nat.ne_of_lt (IsS81.lt (show IsS81 w0 _ g s0_0 t138 from by repeat (first | (with_reducible first | exact HI0.out | apply IsS81.alloc | apply IsS81.drewN | apply IsS81.drew | apply IsS81.set_1 | apply IsS81.far (hne := NB0_132.out)) | exact HI0.out))) : g ≠ gb139)); have n11_ := A0 ((by rw [hg]; exact Nat.ne_of_gt (IsS81.lt (show IsS81 w0 _ g s0_0 t138 from by repeat (first | (with_reducible first | exact HI0.out | apply IsS81.alloc | apply IsS81.drewN | apply IsS81.drew | apply IsS81.set_1 | apply IsS81.far (hne := NB0_132.out)) | exact HI0.out))) : gb139 ≠ g)); clear HO137; clear HI0; clear BK132; clear HK; clear HB; have HO137 := n0_; have HI0 := n1_; have BK132 := n2_; have HK := n3_; have HB := n4_; have BK139 := n5_; have GW139 := n6_; have GE139 := n7_; have NB132_139 := n8_; have NB139_132 := n9_; have NB0_139 := n10_; have NB139_0 := n11_; clear n0_ n1_ n2_ n3_ n4_ n5_ n6_ n7_ n8_ n9_ n10_ n11_; clear hb hbox hg; have hnb11 := NB139_132.out; have hnc11 := NB132_139.out; have hnb12 := NB139_0.out; have hnc12 := NB0_139.out; have hcz13_0 : w10.cell? ⟨gb139, 0, none⟩ = some (.int .i64 0) := bC BK139.out 0 rfl; have hcz13_1 : w10.cell? ⟨gb139, 1, none⟩ = some (.int .i64 0) := bC BK139.out 1 rfl; have hcz13_2 : w10.cell? ⟨gb139, 2, none⟩ = some (.slice none 0 0) := bC BK139.out 2 rfl; have hfz13_0 := blk_frozen BK139.out 0; have hfz13_1 := blk_frozen BK139.out 1; have hfz13_2 := blk_frozen BK139.out 2; obtain ⟨Ao14, co14, eo14⟩ := Kd.R_slice HO137.out; subst eo14) | ((with_reducible refine gate_store (t := 27) (p := 3) rfl ?_); refine store_event (t := 27) (p := 3) (v := ?vo_w15) (w1 := (((w10.setCell ⟨gb139, 0, none⟩ (.int .i64 t133)).setCell ⟨gb139, 1, none⟩ (.int .i64 t134)).setCell ⟨gb139, 2, none⟩ (.slice Ao14 t135.length co14))) ?hg ?ho ?hn ?hr ?_; (case ho => rfl); (case hg => rfl); (case hn => rfl); (case hr => first | (go_simp; done) | (go_simp; rfl)); intro w15 hw; have n0_ : Aside0 (Kd.R (Kd.int .i64) 2 w15 w.heap.size (fun _ => True) (.slice Ao14 t135.length co14) t135) := ⟨(by rw [hw]; exact (Kd.R_mono (Kd.R_far (p := ⟨gb139, 2, none⟩) (Kd.R_far (p := ⟨gb139, 1, none⟩) (Kd.R_far (p := ⟨gb139, 0, none⟩) (Kd.R_types HO137.out BK139.out (by decide)) (fun _ hk => hk.2) (.int .i64 t133)) (fun _ hk => hk.2) (.int .i64 t134)) (fun _ hk => hk.2) (.slice Ao14 t135.length co14)) (fun _ hk => trivial)))⟩; have n1_ : Aside0 (w15.heap[gb132]? = some (.cells #[.int .i64 0, .int .i64 0, .slice none 0 0] 27 (0, 0))) := ⟨(by rw [hw]; exact (by (with_reducible repeat (first | refine bN ?_ _ | refine bD ?_ | refine bA ?_ _)); refine blk_far ?_ NB132_139.out _; (with_reducible repeat (first | refine bN ?_ _ | refine bD ?_ | refine bA ?_ _)); refine blk_far ?_ NB132_139.out _; (with_reducible repeat (first | refine bN ?_ _ | refine bD ?_ | refine bA ?_ _)); refine blk_far ?_ NB132_139.out _; (with_reducible repeat (first | refine bN ?_ _ | refine bD ?_ | refine bA ?_ _)); exact BK132.out))⟩; have n2_ : Aside0 (w15.heap[gb139]? = some (.cells #[.int .i64 t133, .int .i64 t134, .slice Ao14 t135.length co14] 27 (0, 0))) := ⟨(by rw [hw]; exact (by (with_reducible repeat (first | refine bN ?_ _ | refine bD ?_ | refine bA ?_ _)); refine blk_put (cs := #[.int .i64 t133, .int .i64 t134, .slice none 0 0]) ?_ 2 _ rfl; (with_reducible repeat (first | refine bN ?_ _ | refine bD ?_ | refine bA ?_ _)); refine blk_put (cs := #[.int .i64 t133, .int .i64 0, .slice none 0 0]) ?_ 1 _ rfl; (with_reducible repeat (first | refine bN ?_ _ | refine bD ?_ | refine bA ?_ _)); refine blk_put (cs := #[.int .i64 0, .int .i64 0, .slice none 0 0]) ?_ 0 _ rfl; (with_reducible repeat (first | refine bN ?_ _ | refine bD ?_ | refine bA ?_ _)); exact BK139.out))⟩; have n3_ : Aside0 (IsS81 w0 w15 g s0_0 t138) := ⟨(by rw [hw]; exact (by repeat (first | (with_reducible first | exact HI0.out | apply IsS81.alloc | apply IsS81.drewN | apply IsS81.drew | apply IsS81.set_1 | apply IsS81.far (hne := NB0_132.out) | apply IsS81.far (hne := NB0_139.out)) | exact HI0.out)))⟩; have n4_ : Aside0 (KeepBut w w15 g none) := ⟨(by rw [hw]; exact (by repeat (first | (with_reducible first | exact HK.out | apply KeepBut.set_ | apply keep_drewN | apply keep_drew | apply keep_alloc | refine keep_far ?_ GW132.out _ | refine keep_far ?_ GW139.out _) | exact HK.out)))⟩; have n5_ : Aside0 (Below w0.heap.size w0 w15) := ⟨(by rw [hw]; exact (by repeat (first | (with_reducible first | exact HB.out | apply wA | apply wN | apply wD | refine bS ?_ (IsS81.ge HI0.out) | refine bS ?_ GE132.out | refine bS ?_ GE139.out) | exact HB.out)))⟩; clear hw; clear HO137; clear BK132; clear BK139; clear HI0; clear HK; clear HB; have HO137 := n0_; have BK132 := n1_; have BK139 := n2_; have HI0 := n3_; have HK := n4_; have HB := n5_; clear n0_ n1_ n2_ n3_ n4_ n5_) | ((with_reducible refine gate_callee (f := 49) rfl ?_); refine goesL_ (some 7) rfl rfl Try.func49 (by kernel_rfl) rfl #[.pointer (some ⟨g, 0, none⟩), .int .i64 24] rfl (by (try simp only [lM, lC, lN]); first | done | rfl | (simp only [lD, lT]; rfl)) ?_; (with_reducible refine (spec_l1Rd_below.calls g s0_0 t138 24 t140 t141 w0 _ ?side1 ?side2 A3.out).mono ?_); (case side1 => repeat (first | (with_reducible first | exact HI0.out | apply IsS81.alloc | apply IsS81.drewN | apply IsS81.drew | apply IsS81.set_1 | apply IsS81.far (hne := NB0_132.out) | apply IsS81.far (hne := NB0_139.out)) | exact HI0.out)); (case side2 => repeat (first | (with_reducible first | exact HB.out | apply wA | apply wN | apply wD | refine bS ?_ (IsS81.ge HI0.out) | refine bS ?_ GE132.out | refine bS ?_ GE139.out) | exact HB.out)); rintro e w16 ⟨rfl, hi, hb, hk⟩; refine ⟨_, rfl, ?_⟩; have n0_ := A0 (KeepBut.blk hk (g' := gb132) (o := .cells #[.int .i64 0, .int .i64 0, .slice none 0 0] 27 (0, 0)) (by (with_reducible repeat (first | refine bN ?_ _ | refine bD ?_ | refine bA ?_ _)); exact BK132.out) NB132_0.out (by simp)); have n1_ := A0 (Kd.R_mono (Kd.R_keep (IsS81.apart (show IsS81 w0 _ g s0_0 t138 from by repeat (first | (with_reducible first | exact HI0.out | apply IsS81.alloc | apply IsS81.drewN | apply IsS81.drew | apply IsS81.set_1 | apply IsS81.far (hne := NB0_132.out) | apply IsS81.far (hne := NB0_139.out)) | exact HI0.out)) HO137.out (by decide)) hk (fun _ h => h.2)) (fun _ h => h.1)); have n2_ := A0 (KeepBut.blk hk (g' := gb139) (o := .cells #[.int .i64 t133, .int .i64 t134, .slice Ao14 t135.length co14] 27 (0, 0)) (by (with_reducible repeat (first | refine bN ?_ _ | refine bD ?_ | refine bA ?_ _)); exact BK139.out) NB139_0.out (by simp)); have n3_ := A0 (KeepBut.trans (by repeat (first | (with_reducible first | exact HK.out | apply KeepBut.set_ | apply keep_drewN | apply keep_drew | apply keep_alloc | refine keep_far ?_ GW132.out _ | refine keep_far ?_ GW139.out _) | exact HK.out)) hk (.inl rfl)); have n4_ := A0 (hb); have n5_ := A0 (hi); clear BK132; clear HO137; clear BK139; clear HK; clear HB; clear HI0; have BK132 := n0_; have HO137 := n1_; have BK139 := n2_; have HK := n3_; have HB := n4_; have HI0 := n5_; clear n0_ n1_ n2_ n3_ n4_ n5_; (try clear hb); (try clear hb2); (try clear hk); (try clear hi)))
    have pi147 : (0 ≤ (t145 : Int)) = True := eq_true (of_decide_eq_true (by first | (with_reducible assumption) | assumption))
    have qi147 : (t145 < (y142.length : Int)) = True := eq_true (of_decide_eq_true (by first | (with_reducible assumption) | assumption))
    have n0_ := A0 (Kd.R_drew HO137.out)
    have n1_ := A0 (blk_drew BK132.out)
    have n2_ := A0 (blk_drew BK139.out)
    have n3_ := A0 (IsS81.drew HI0.out)
    have n4_ := A0 (keep_drew HK.out)
    have n5_ := A0 (below_drew1 HB.out)
    clear HO137
    clear BK132
    clear BK139
    clear HI0
    clear HK
    clear HB
    have HO137 := n0_
    have BK132 := n1_
    have BK139 := n2_
    have HI0 := n3_
    have HK := n4_
    have HB := n5_
    clear n0_ n1_ n2_ n3_ n4_ n5_
    refine start_ (n := 10) (S := fun w' => w'.cell? ⟨gb139, 0, none⟩ = some (.int .i64 t133) ∧ w'.cell? ⟨gb139, 1, none⟩ = some (.int .i64 t134) ∧ w'.cell? ⟨gb139, 2, none⟩ = some (.slice Ao14 t135.length co14)) (ds := [9]) #[false, false, false, false, false, false, false, false, false, false] (by kernel_rfl) rfl rfl ⟨bC BK139.out 0 rfl, bC BK139.out 1 rfl, bC BK139.out 2 rfl⟩ (fun hHeld => ?_); refine with_tabW spec_l12DrawBox.tab4 spec_l12DrawBox.bits4 (fun HT_ HW_ => ?_)
    generalize w16.drew = w17 at HO137 BK132 BK139 HI0 HK HB hHeld ⊢
    refine pure_ (i := 0) (N := some 10) (v := ?_) (a' := ?_) #[true, false, false, false, false, false, false, false, false, false] rfl rfl (any_of HT_.out (by kernel_rfl)) (fun _ _ _ h => h) (Or.inl ⟨by rfl, ?_⟩) ?_ ?_
    rotate_left
    ·intro w'
     go_simp
     with_reducible rfl
    rotate_left
    ·simp only [Act.put, sqA, sqZ, sqS, i64_w, i32_w]
     rfl
    refine pure_ (i := 4) (N := some 14) (v := ?_) (a' := ?_) #[true, false, false, false, true, false, false, false, false, false] rfl rfl (any_of HT_.out (by kernel_rfl)) (fun _ _ _ h => h) (Or.inl ⟨by rfl, ?_⟩) ?_ ?_
    rotate_left
    ·intro w'
     go_simp
     with_reducible rfl
    rotate_left
    ·simp only [Act.put, sqA, sqZ, sqS, i64_w, i32_w]
     rfl
    refine take_ (i := 1) (N := some 11) (v := ?_) (a' := ?_) #[true, true, false, false, true, false, false, false, false, false] rfl rfl (take_ofW HT_.out HW_.out (by kernel_rfl)) (fun _ _ _ h => h) (Or.inl ⟨by rfl, ?_⟩) hHeld ?_ ?_
    rotate_left
    ·rintro w' ⟨s0, s1, s2⟩
     go_simp
     with_reducible rfl
    rotate_left
    ·simp only [Act.put, sqA, sqZ, sqS, i64_w, i32_w]
     rfl
    refine pure_ (i := 2) (N := some 12) (v := ?_) (a' := ?_) #[true, true, true, false, true, false, false, false, false, false] rfl rfl (any_of HT_.out (by kernel_rfl)) (fun _ _ _ h => h) (Or.inl ⟨by rfl, ?_⟩) ?_ ?_
    rotate_left
    ·intro w'
     go_simp
     with_reducible rfl
    rotate_left
    ·simp only [Act.put, sqA, sqZ, sqS, i64_w, i32_w]
     rfl
    refine join_ (σ := Value × Addr) 4 #[true, true, true, true, true, true, false, false, false, false] (fun s_ => [(13, s_.1), (15, .int .i64 t145)]) (fun s_ w' => (w'.cell? ⟨gb139, 0, none⟩ = some (.int .i64 t133) ∧ w'.cell? ⟨gb139, 1, none⟩ = some (.int .i64 t134) ∧ w'.cell? ⟨gb139, 2, none⟩ = some (.slice Ao14 t135.length co14)) ∧ (Kd.R (Kd.int .i64) 2 w' w.heap.size (fun k_ => some k_ ≠ (s_.1 : Value).ownBlock) (.slice Ao14 t135.length co14) t135) ∧ (Kd.R (Kd.int .i64) 2 w' w.heap.size (fun k_ => some k_ ≠ (.slice Ao14 t135.length co14 : Value).ownBlock) s_.1 y142) ∧ (∃ c_, (s_.1 : Value) = .slice (some s_.2) y142.length c_) ∧ (w'.heap[gb132]? = some (.cells #[.int .i64 0, .int .i64 0, .slice none 0 0] 27 (0, 0))) ∧ (w'.heap[gb139]? = some (.cells #[.int .i64 t133, .int .i64 t134, .slice Ao14 t135.length co14] 27 (0, 0))) ∧ (IsS81 w0 w' g s0_0 t146) ∧ (KeepBut w w' g none) ∧ (Below w0.heap.size w0 w')) ?_ ?_
    rotate_left
    ·intro hCont
     refine two_ (i := 3) (j := 5) (Ni := some 13) (Nj := some 15) #[true, true, true, true, true, false, false, false, false, false] #[true, true, true, false, true, true, false, false, false, false] rfl rfl rfl rfl (two_of HT_.out (by kernel_rfl)) (by decide) (by decide) (fun K hK => ?_) (fun K hK => ?_)
     ·skip
      refine Kd.R_lit_step (Kd.int .i64) _ 2 ?hg (N := 13) ?hd (xs := ([0, 25, wrap64 (t133 + 1)] : List Int)) (inner := [.int .i64 0, .int .i64 25, .int .i64 (wrap64 (t133 + 1))]) (ok := fun _ => True) (okp := fun _ => True) ?hr ?hp (fun _ hk => hk) trivial (Below.refl _ _) (Nat.le_refl _) (by simp) ?_; (case hd => rfl); (case hg => rfl); (case hr => first | (go_simp; done) | (go_simp; rfl)); (case hp => exact (Reps.one (show Kd.M (Kd.int .i64) _ _ _ 0 [.int .i64 0] from rfl) (Reps.one (show Kd.M (Kd.int .i64) _ _ _ 25 [.int .i64 25] from rfl) (Reps.one (show Kd.M (Kd.int .i64) _ _ _ (wrap64 (t133 + 1)) [.int .i64 (wrap64 (t133 + 1))] from rfl) (Reps.none _ _)))))
      intro v143 w18 ho19 hb hg_ hnew_
      clear hg_ hnew_
      (first | rw [← Ny142.out] at ho19 | (simp only [Int.reduceToNat] at ho19; rw [← Ny142.out] at ho19))
      have n0_ := A0 (Kd.R_elder' HO137.out (Kd.R_base ho19) hb)
      have n1_ := A0 (Kd.R_lower (Kd.R_new' ho19 (Kd.R_lt HO137.out)) (keep_size (w := w) (g := g) (row := none) (by repeat (first | (with_reducible first | exact HK.out | apply KeepBut.set_ | apply keep_drewN | apply keep_drew | apply keep_alloc | refine keep_far ?_ GW132.out _ | refine keep_far ?_ GW139.out _) | exact HK.out))))
      have n2_ := A0 (IsS81.below (by repeat (first | (with_reducible first | exact HI0.out | apply IsS81.alloc | apply IsS81.drewN | apply IsS81.drew | apply IsS81.set_1 | apply IsS81.far (hne := NB0_132.out) | apply IsS81.far (hne := NB0_139.out)) | exact HI0.out)) hb)
      have n3_ := A0 (blk_below (g := gb132) (o := .cells #[.int .i64 0, .int .i64 0, .slice none 0 0] 27 (0, 0)) (by (with_reducible repeat (first | refine bN ?_ _ | refine bD ?_ | refine bA ?_ _)); exact BK132.out) hb)
      have n4_ := A0 (blk_below (g := gb139) (o := .cells #[.int .i64 t133, .int .i64 t134, .slice Ao14 t135.length co14] 27 (0, 0)) (by (with_reducible repeat (first | refine bN ?_ _ | refine bD ?_ | refine bA ?_ _)); exact BK139.out) hb)
      have n5_ := A0 (KeepBut.trans (by repeat (first | (with_reducible first | exact HK.out | apply KeepBut.set_ | apply keep_drewN | apply keep_drew | apply keep_alloc | refine keep_far ?_ GW132.out _ | refine keep_far ?_ GW139.out _) | exact HK.out)) (KeepBut.of_below hb g none) (.inl rfl))
      have n6_ := A0 (below_step (by repeat (first | (with_reducible first | exact HB.out | apply wA | apply wN | apply wD | refine bS ?_ (IsS81.ge HI0.out) | refine bS ?_ GE132.out | refine bS ?_ GE139.out) | exact HB.out)) hb)
      clear HO137
      clear HI0
      clear BK132
      clear BK139
      clear HK
      clear HB
      have HO137 := n0_
      have HO144 := n1_
      have HI0 := n2_
      have BK132 := n3_
      have BK139 := n4_
      have HK := n5_
      have HB := n6_
      clear n0_ n1_ n2_ n3_ n4_ n5_ n6_
      clear hb ho19
      obtain ⟨Ao20, co20, eo20⟩ := Kd.R_slice HO144.out
      subst eo20
      obtain ⟨ado20, fo20, _⟩ := Kd.at_int (Kd.R_reads' HO144.out).2.2 0 (by decide) (by rw [Ny142.out]; simp)
      cases fo20
      refine hK.out _ _ ⟨bC BK139.out 0 rfl, bC BK139.out 1 rfl, bC BK139.out 2 rfl⟩ (fun hHeld => ?_)
      clear hK K
      refine norm_ (a' := ?_) ?_ ?_
      rotate_left
      ·show Act.put _ (some 13) _ = _
       simp only [Act.put, sqA, sqZ, sqS, i64_w, i32_w]
       rfl
      refine one_ (i := 5) (N := some 15) #[true, true, true, true, true, true, false, false, false, false] rfl rfl (one_of HT_.out (by kernel_rfl)) (by decide) (fun K hK => ?_)
      refine goes_ Try.func49 (by kernel_rfl) rfl #[.pointer (some ⟨g, 0, none⟩), .int .i64 3] (by rfl) rfl rfl (by (try simp only [lM, lC, lN]); first | done | rfl | (simp only [lD, lT]; rfl)) ?_
      with_reducible refine (spec_l1Rd_below.calls g s0_0 t141 3 t145 t146 w0 _ ?side1 ?side2 A5.out).mono ?_
      (case side1 => repeat (first | (with_reducible first | exact HI0.out | apply IsS81.alloc | apply IsS81.drewN | apply IsS81.drew | apply IsS81.set_1 | apply IsS81.far (hne := NB0_132.out) | apply IsS81.far (hne := NB0_139.out)) | exact HI0.out))
      (case side2 => repeat (first | (with_reducible first | exact HB.out | apply wA | apply wN | apply wD | refine bS ?_ (IsS81.ge HI0.out) | refine bS ?_ GE132.out | refine bS ?_ GE139.out) | exact HB.out))
      rintro e w21 ⟨rfl, hi, hb, hk⟩
      refine ⟨_, rfl, ?_⟩
      have n0_ := A0 (KeepBut.blk hk (g' := gb132) (o := .cells #[.int .i64 0, .int .i64 0, .slice none 0 0] 27 (0, 0)) (by (with_reducible repeat (first | refine bN ?_ _ | refine bD ?_ | refine bA ?_ _)); exact BK132.out) NB132_0.out (by simp))
      have n1_ := A0 (Kd.R_mono (Kd.R_keep (IsS81.apart (show IsS81 w0 _ g s0_0 t141 from by repeat (first | (with_reducible first | exact HI0.out | apply IsS81.alloc | apply IsS81.drewN | apply IsS81.drew | apply IsS81.set_1 | apply IsS81.far (hne := NB0_132.out) | apply IsS81.far (hne := NB0_139.out)) | exact HI0.out)) HO137.out (by decide)) hk (fun _ h => h.2)) (fun _ h => h.1))
      have n2_ := A0 (KeepBut.blk hk (g' := gb139) (o := .cells #[.int .i64 t133, .int .i64 t134, .slice Ao14 t135.length co14] 27 (0, 0)) (by (with_reducible repeat (first | refine bN ?_ _ | refine bD ?_ | refine bA ?_ _)); exact BK139.out) NB139_0.out (by simp))
      have n3_ := A0 (Kd.R_mono (Kd.R_keep (IsS81.apart (show IsS81 w0 _ g s0_0 t141 from by repeat (first | (with_reducible first | exact HI0.out | apply IsS81.alloc | apply IsS81.drewN | apply IsS81.drew | apply IsS81.set_1 | apply IsS81.far (hne := NB0_132.out) | apply IsS81.far (hne := NB0_139.out)) | exact HI0.out)) HO144.out (by decide)) hk (fun _ h => h.2)) (fun _ h => h.1))
      have n4_ := A0 (KeepBut.trans (by repeat (first | (with_reducible first | exact HK.out | apply KeepBut.set_ | apply keep_drewN | apply keep_drew | apply keep_alloc | refine keep_far ?_ GW132.out _ | refine keep_far ?_ GW139.out _) | exact HK.out)) hk (.inl rfl))
      have n5_ := A0 (hb)
      have n6_ := A0 (hi)
      clear BK132
      clear HO137
      clear BK139
      clear HO144
      clear HK
      clear HB
      clear HI0
      have BK132 := n0_
      have HO137 := n1_
      have BK139 := n2_
      have HO144 := n3_
      have HK := n4_
      have HB := n5_
      have HI0 := n6_
      clear n0_ n1_ n2_ n3_ n4_ n5_ n6_
      (try clear hb)
      refine hK.out _ _ ⟨bC BK139.out 0 rfl, bC BK139.out 1 rfl, bC BK139.out 2 rfl⟩ (fun hHeld => ?_)
      clear hK K
      refine norm_ (a' := ?_) ?_ ?_
      rotate_left
      ·show Act.put _ (some 15) _ = _
       simp only [Act.put, sqA, sqZ, sqS, i64_w, i32_w]
       rfl
      exact norm_ (by simp only [putAll, Act.put, sqA, sqZ, sqS]) (hCont (.slice (some ado20) y142.length co20, ado20) _ ⟨hHeld, (Kd.R_mono HO137.out (fun _ hk => hk.2)), (Kd.R_mono HO144.out (fun _ hk => hk.2)), ⟨_, rfl⟩, (by (with_reducible repeat (first | refine bN ?_ _ | refine bD ?_ | refine bA ?_ _)); exact BK132.out), (by (with_reducible repeat (first | refine bN ?_ _ | refine bD ?_ | refine bA ?_ _)); exact BK139.out), (by repeat (first | (with_reducible first | exact HI0.out | apply IsS81.alloc | apply IsS81.drewN | apply IsS81.drew | apply IsS81.set_1 | apply IsS81.far (hne := NB0_132.out) | apply IsS81.far (hne := NB0_139.out)) | exact HI0.out)), (by repeat (first | (with_reducible first | exact HK.out | apply KeepBut.set_ | apply keep_drewN | apply keep_drew | apply keep_alloc | refine keep_far ?_ GW132.out _ | refine keep_far ?_ GW139.out _) | exact HK.out)), (by repeat (first | (with_reducible first | exact HB.out | apply wA | apply wN | apply wD | refine bS ?_ (IsS81.ge HI0.out) | refine bS ?_ GE132.out | refine bS ?_ GE139.out) | exact HB.out))⟩)
     ·skip
      refine goes_ Try.func49 (by kernel_rfl) rfl #[.pointer (some ⟨g, 0, none⟩), .int .i64 3] (by rfl) rfl rfl (by (try simp only [lM, lC, lN]); first | done | rfl | (simp only [lD, lT]; rfl)) ?_
      with_reducible refine (spec_l1Rd_below.calls g s0_0 t141 3 t145 t146 w0 _ ?side1 ?side2 A5.out).mono ?_
      (case side1 => repeat (first | (with_reducible first | exact HI0.out | apply IsS81.alloc | apply IsS81.drewN | apply IsS81.drew | apply IsS81.set_1 | apply IsS81.far (hne := NB0_132.out) | apply IsS81.far (hne := NB0_139.out)) | exact HI0.out))
      (case side2 => repeat (first | (with_reducible first | exact HB.out | apply wA | apply wN | apply wD | refine bS ?_ (IsS81.ge HI0.out) | refine bS ?_ GE132.out | refine bS ?_ GE139.out) | exact HB.out))
      rintro e w18 ⟨rfl, hi, hb, hk⟩
      refine ⟨_, rfl, ?_⟩
      have n0_ := A0 (KeepBut.blk hk (g' := gb132) (o := .cells #[.int .i64 0, .int .i64 0, .slice none 0 0] 27 (0, 0)) (by (with_reducible repeat (first | refine bN ?_ _ | refine bD ?_ | refine bA ?_ _)); exact BK132.out) NB132_0.out (by simp))
      have n1_ := A0 (Kd.R_mono (Kd.R_keep (IsS81.apart (show IsS81 w0 _ g s0_0 t141 from by repeat (first | (with_reducible first | exact HI0.out | apply IsS81.alloc | apply IsS81.drewN | apply IsS81.drew | apply IsS81.set_1 | apply IsS81.far (hne := NB0_132.out) | apply IsS81.far (hne := NB0_139.out)) | exact HI0.out)) HO137.out (by decide)) hk (fun _ h => h.2)) (fun _ h => h.1))
      have n2_ := A0 (KeepBut.blk hk (g' := gb139) (o := .cells #[.int .i64 t133, .int .i64 t134, .slice Ao14 t135.length co14] 27 (0, 0)) (by (with_reducible repeat (first | refine bN ?_ _ | refine bD ?_ | refine bA ?_ _)); exact BK139.out) NB139_0.out (by simp))
      have n3_ := A0 (KeepBut.trans (by repeat (first | (with_reducible first | exact HK.out | apply KeepBut.set_ | apply keep_drewN | apply keep_drew | apply keep_alloc | refine keep_far ?_ GW132.out _ | refine keep_far ?_ GW139.out _) | exact HK.out)) hk (.inl rfl))
      have n4_ := A0 (hb)
      have n5_ := A0 (hi)
      clear BK132
      clear HO137
      clear BK139
      clear HK
      clear HB
      clear HI0
      have BK132 := n0_
      have HO137 := n1_
      have BK139 := n2_
      have HK := n3_
      have HB := n4_
      have HI0 := n5_
      clear n0_ n1_ n2_ n3_ n4_ n5_
      (try clear hb)
      refine hK.out _ _ ⟨bC BK139.out 0 rfl, bC BK139.out 1 rfl, bC BK139.out 2 rfl⟩ (fun hHeld => ?_)
      clear hK K
      refine norm_ (a' := ?_) ?_ ?_
      rotate_left
      ·show Act.put _ (some 15) _ = _
       simp only [Act.put, sqA, sqZ, sqS, i64_w, i32_w]
       rfl
      refine one_ (i := 3) (N := some 13) #[true, true, true, true, true, true, false, false, false, false] rfl rfl (one_of HT_.out (by kernel_rfl)) (by decide) (fun K hK => ?_)
      refine Kd.R_lit_step (Kd.int .i64) _ 2 ?hg (N := 13) ?hd (xs := ([0, 25, wrap64 (t133 + 1)] : List Int)) (inner := [.int .i64 0, .int .i64 25, .int .i64 (wrap64 (t133 + 1))]) (ok := fun _ => True) (okp := fun _ => True) ?hr ?hp (fun _ hk => hk) trivial (Below.refl _ _) (Nat.le_refl _) (by simp) ?_; (case hd => rfl); (case hg => rfl); (case hr => first | (go_simp; done) | (go_simp; rfl)); (case hp => exact (Reps.one (show Kd.M (Kd.int .i64) _ _ _ 0 [.int .i64 0] from rfl) (Reps.one (show Kd.M (Kd.int .i64) _ _ _ 25 [.int .i64 25] from rfl) (Reps.one (show Kd.M (Kd.int .i64) _ _ _ (wrap64 (t133 + 1)) [.int .i64 (wrap64 (t133 + 1))] from rfl) (Reps.none _ _)))))
      intro v143 w19 ho20 hb hg_ hnew_
      clear hg_ hnew_
      (first | rw [← Ny142.out] at ho20 | (simp only [Int.reduceToNat] at ho20; rw [← Ny142.out] at ho20))
      have n0_ := A0 (Kd.R_elder' HO137.out (Kd.R_base ho20) hb)
      have n1_ := A0 (Kd.R_lower (Kd.R_new' ho20 (Kd.R_lt HO137.out)) (keep_size (w := w) (g := g) (row := none) (by repeat (first | (with_reducible first | exact HK.out | apply KeepBut.set_ | apply keep_drewN | apply keep_drew | apply keep_alloc | refine keep_far ?_ GW132.out _ | refine keep_far ?_ GW139.out _) | exact HK.out))))
      have n2_ := A0 (IsS81.below (by repeat (first | (with_reducible first | exact HI0.out | apply IsS81.alloc | apply IsS81.drewN | apply IsS81.drew | apply IsS81.set_1 | apply IsS81.far (hne := NB0_132.out) | apply IsS81.far (hne := NB0_139.out)) | exact HI0.out)) hb)
      have n3_ := A0 (blk_below (g := gb132) (o := .cells #[.int .i64 0, .int .i64 0, .slice none 0 0] 27 (0, 0)) (by (with_reducible repeat (first | refine bN ?_ _ | refine bD ?_ | refine bA ?_ _)); exact BK132.out) hb)
      have n4_ := A0 (blk_below (g := gb139) (o := .cells #[.int .i64 t133, .int .i64 t134, .slice Ao14 t135.length co14] 27 (0, 0)) (by (with_reducible repeat (first | refine bN ?_ _ | refine bD ?_ | refine bA ?_ _)); exact BK139.out) hb)
      have n5_ := A0 (KeepBut.trans (by repeat (first | (with_reducible first | exact HK.out | apply KeepBut.set_ | apply keep_drewN | apply keep_drew | apply keep_alloc | refine keep_far ?_ GW132.out _ | refine keep_far ?_ GW139.out _) | exact HK.out)) (KeepBut.of_below hb g none) (.inl rfl))
      have n6_ := A0 (below_step (by repeat (first | (with_reducible first | exact HB.out | apply wA | apply wN | apply wD | refine bS ?_ (IsS81.ge HI0.out) | refine bS ?_ GE132.out | refine bS ?_ GE139.out) | exact HB.out)) hb)
      clear HO137
      clear HI0
      clear BK132
      clear BK139
      clear HK
      clear HB
      have HO137 := n0_
      have HO144 := n1_
      have HI0 := n2_
      have BK132 := n3_
      have BK139 := n4_
      have HK := n5_
      have HB := n6_
      clear n0_ n1_ n2_ n3_ n4_ n5_ n6_
      clear hb ho20
      obtain ⟨Ao21, co21, eo21⟩ := Kd.R_slice HO144.out
      subst eo21
      obtain ⟨ado21, fo21, _⟩ := Kd.at_int (Kd.R_reads' HO144.out).2.2 0 (by decide) (by rw [Ny142.out]; simp)
      cases fo21
      refine hK.out _ _ ⟨bC BK139.out 0 rfl, bC BK139.out 1 rfl, bC BK139.out 2 rfl⟩ (fun hHeld => ?_)
      clear hK K
      refine norm_ (a' := ?_) ?_ ?_
      rotate_left
      ·show Act.put _ (some 13) _ = _
       simp only [Act.put, sqA, sqZ, sqS, i64_w, i32_w]
       rfl
      exact norm_ (by simp only [putAll, Act.put, sqA, sqZ, sqS]) (hCont (.slice (some ado21) y142.length co21, ado21) _ ⟨hHeld, (Kd.R_mono HO137.out (fun _ hk => hk.2)), (Kd.R_mono HO144.out (fun _ hk => hk.2)), ⟨_, rfl⟩, (by (with_reducible repeat (first | refine bN ?_ _ | refine bD ?_ | refine bA ?_ _)); exact BK132.out), (by (with_reducible repeat (first | refine bN ?_ _ | refine bD ?_ | refine bA ?_ _)); exact BK139.out), (by repeat (first | (with_reducible first | exact HI0.out | apply IsS81.alloc | apply IsS81.drewN | apply IsS81.drew | apply IsS81.set_1 | apply IsS81.far (hne := NB0_132.out) | apply IsS81.far (hne := NB0_139.out)) | exact HI0.out)), (by repeat (first | (with_reducible first | exact HK.out | apply KeepBut.set_ | apply keep_drewN | apply keep_drew | apply keep_alloc | refine keep_far ?_ GW132.out _ | refine keep_far ?_ GW139.out _) | exact HK.out)), (by repeat (first | (with_reducible first | exact HB.out | apply wA | apply wN | apply wD | refine bS ?_ (IsS81.ge HI0.out) | refine bS ?_ GE132.out | refine bS ?_ GE139.out) | exact HB.out))⟩)
    rintro ⟨v143, adz_v143⟩ w22 ⟨hS_, h0_, h1_, h2_, h3_, h4_, h5_, h6_, h7_⟩
    (try dsimp only at h0_ h1_ h2_ h3_ h4_ h5_ h6_ h7_)
    have n0_ := Aside0.mk h0_
    have n1_ := Aside0.mk h1_
    have n2_ := Aside0.mk h2_
    have n3_ := Aside0.mk h3_
    have n4_ := Aside0.mk h4_
    have n5_ := Aside0.mk h5_
    have n6_ := Aside0.mk h6_
    have n7_ := Aside0.mk h7_
    clear HO137
    clear BK132
    clear BK139
    clear HI0
    clear HK
    clear HB
    clear h0_ h1_ h2_ h3_ h4_ h5_ h6_ h7_
    have HO137 := n0_
    have HO144 := n1_
    have HA_HO144 := n2_
    have BK132 := n3_
    have BK139 := n4_
    have HI0 := n5_
    have HK := n6_
    have HB := n7_
    clear n0_ n1_ n2_ n3_ n4_ n5_ n6_ n7_
    have hHeld : w22.cell? ⟨gb139, 0, none⟩ = some (.int .i64 t133) ∧ w22.cell? ⟨gb139, 1, none⟩ = some (.int .i64 t134) ∧ w22.cell? ⟨gb139, 2, none⟩ = some (.slice Ao14 t135.length co14) := hS_
    obtain ⟨co23, eo23⟩ := HA_HO144.out
    clear HA_HO144
    subst eo23
    refine norm_ (a' := ?_) ?_ ?_
    rotate_left
    ·simp only [putAll, Act.put, sqA, sqZ, sqS]
     rfl
    refine pure_ (i := 6) (N := some 16) (v := ?_) (a' := ?_) #[true, true, true, true, true, true, true, false, false, false] rfl rfl (any_of HT_.out (by kernel_rfl)) (fun _ _ _ h => h) (Or.inl ⟨by rfl, ?_⟩) ?_ ?_
    rotate_left
    ·intro w'
     go_simp
     with_reducible rfl
    rotate_left
    ·simp only [Act.put, sqA, sqZ, sqS, i64_w, i32_w]
     rfl
    refine one_ (i := 7) (N := some 17) #[true, true, true, true, true, true, true, true, false, false] rfl rfl (one_of HT_.out (by kernel_rfl)) (by decide) (fun K hK => ?_)
    (have p147 : 0 ≤ (t145 : Int) := of_decide_eq_true (by first | (with_reducible assumption) | assumption); have q147 : t145 < (y142.length : Int) := of_decide_eq_true (by first | (with_reducible assumption) | assumption); obtain ⟨ad147, e147, hx147_0⟩ := Kd.at_int (Kd.R_reads' HO144.out).2.2 t145 p147 q147; obtain rfl : adz_v143 = ad147 := (by injection e147))
    refine value_ (w1 := ?_) (v := ?_) (by rfl) rfl ?_ ?_
    rotate_left 2
    ·go_simp
     constructor
     ·rfl
     ·rfl
    clear hx147_0
    refine hK.out _ _ ⟨bC BK139.out 0 rfl, bC BK139.out 1 rfl, bC BK139.out 2 rfl⟩ (fun hHeld => ?_)
    clear hK K
    refine norm_ (a' := ?_) ?_ ?_
    rotate_left
    ·show Act.put _ (some 17) _ = _
     simp only [Act.put, sqA, sqZ, sqS, i64_w, i32_w]
     rfl
    refine pure_ (i := 8) (N := some 18) (v := ?_) (a' := ?_) #[true, true, true, true, true, true, true, true, true, false] rfl rfl (any_of HT_.out (by kernel_rfl)) (fun _ _ _ h => h) (Or.inl ⟨by rfl, ?_⟩) ?_ ?_
    rotate_left
    ·intro w'
     go_simp
     with_reducible rfl
    rotate_left
    ·simp only [Act.put, sqA, sqZ, sqS, i64_w, i32_w]
     rfl
    refine last_ (i := 9) (N := none) #[true, true, true, true, true, true, true, true, true, true] rfl rfl (one_of HT_.out (by kernel_rfl)) (by decide) (fun K hK => ?_)
    have hs24 : w22.cell? ⟨gb139, 0, none⟩ = some (.int .i64 t133) := bC BK139.out 0 rfl
    have hfs24 := blk_frozen BK139.out 0
    have hns24_0 := NB132_139.out
    have hms24_0 := NB139_132.out
    refine skip_ (w1 := ?_) (by rfl) rfl ?_ ?_
    rotate_left
    ·go_simp
     rfl
    refine hK.out _ _ ?_
    clear hK K
    refine done_ (done_of HT_.out (by kernel_rfl)) ?_
    have hcz25_0 : w22.cell? ⟨gb139, 0, none⟩ = some (.int .i64 t133) := bC BK139.out 0 rfl
    have hcz25_1 : w22.cell? ⟨gb139, 1, none⟩ = some (.int .i64 t134) := bC BK139.out 1 rfl
    have hcz25_2 : w22.cell? ⟨gb139, 2, none⟩ = some (.slice Ao14 t135.length co14) := bC BK139.out 2 rfl
    have hfz25_0 := blk_frozen BK139.out 0
    have hfz25_1 := blk_frozen BK139.out 1
    have hfz25_2 := blk_frozen BK139.out 2
    have hnb26 := NB132_0.out
    have hnc26 := NB0_132.out
    have hcz27_0 : w22.cell? ⟨gb132, 0, none⟩ = some (.int .i64 0) := bC BK132.out 0 rfl
    have hcz27_1 : w22.cell? ⟨gb132, 1, none⟩ = some (.int .i64 0) := bC BK132.out 1 rfl
    have hcz27_2 : w22.cell? ⟨gb132, 2, none⟩ = some (.slice none 0 0) := bC BK132.out 2 rfl
    have hfz27_0 := blk_frozen BK132.out 0
    have hfz27_1 := blk_frozen BK132.out 1
    have hfz27_2 := blk_frozen BK132.out 2
    try go_wp2
    refine bodyPost_ret (results_cell_row rfl _ _ gb132 27 #[.int .i64 (rd y142 t145), .int .i64 t134, .slice Ao14 t135.length co14] (0, 0) _ rfl (by (with_reducible repeat (first | refine bN ?_ _ | refine bD ?_ | refine bA ?_ _)); refine blk_put (cs := #[.int .i64 (rd y142 t145), .int .i64 t134, .slice none 0 0]) ?_ 2 _ rfl; (with_reducible repeat (first | refine bN ?_ _ | refine bD ?_ | refine bA ?_ _)); refine blk_put (cs := #[.int .i64 (rd y142 t145), .int .i64 0, .slice none 0 0]) ?_ 1 _ rfl; (with_reducible repeat (first | refine bN ?_ _ | refine bD ?_ | refine bA ?_ _)); refine blk_put (cs := #[.int .i64 0, .int .i64 0, .slice none 0 0]) ?_ 0 _ rfl; (with_reducible repeat (first | refine bN ?_ _ | refine bD ?_ | refine bA ?_ _)); refine blk_far ?_ NB132_139.out _; (with_reducible repeat (first | refine bN ?_ _ | refine bD ?_ | refine bA ?_ _)); exact BK132.out) Try.underlying27 rfl (by kernel_rfl)) rfl ?_
    exact ⟨_, by first | rfl | (simp [errW_none, errW_some] <;> rfl) | (simp [*, errW_none, errW_some] <;> rfl), Kd.Q_of_R (Kd.R_mono (Kd.R_far (p := ⟨gb132, 2, none⟩) (Kd.R_far (p := ⟨gb132, 1, none⟩) (Kd.R_far (p := ⟨gb132, 0, none⟩) (Kd.R_far (p := ⟨gb139, 0, none⟩) (Kd.R_types (Kd.R_types HO137.out BK139.out (by decide)) BK132.out (by decide)) (fun _ hk => hk.1.2) (.int .i64 (rd y142 t145))) (fun _ hk => hk.2) (.int .i64 (rd y142 t145))) (fun _ hk => hk.2) (.int .i64 t134)) (fun _ hk => hk.2) (.slice Ao14 t135.length co14)) (fun _ hk => trivial)), by repeat (first | (with_reducible first | exact HI0.out | apply IsS81.alloc | apply IsS81.drewN | apply IsS81.drew | apply IsS81.set_1 | apply IsS81.far (hne := NB0_132.out) | apply IsS81.far (hne := NB0_139.out)) | exact HI0.out), by repeat (first | (with_reducible first | exact HB.out | apply wA | apply wN | apply wD | refine bS ?_ (IsS81.ge HI0.out) | refine bS ?_ GE132.out | refine bS ?_ GE139.out) | exact HB.out), by repeat (first | (with_reducible first | exact HK.out | apply KeepBut.set_ | apply keep_drewN | apply keep_drew | apply keep_alloc | refine keep_far ?_ GW132.out _ | refine keep_far ?_ GW139.out _) | exact HK.out)⟩
   ·rw [if_neg c7] at H
    exact absurd H (by simp)
  ·rw [if_neg c6] at H
   exact absurd H (by simp)
 ·rw [if_neg c4] at H
  have c4b0 : (t140 == 0) = false := beq_eq_false_iff_ne.mpr c4
  have c4b1 : (t140 != 0) = true := bne_iff_ne.mpr c4
  by_cases c28 : t140 = 1
  ·rw [if_pos c28] at H
   have c28b0 : (t140 == 1) = true := beq_iff_eq.mpr c28
   have c28b1 : (t140 != 1) = false := bne_eq_false_iff_eq.mpr c28
   clear c28
   by_cases c29 : 1 ≤ (t135.length : Int)
   ·rw [if_pos c29] at H
    have c29b0 := eq_true c29
    have c29b1 : decide (1 ≤ (t135.length : Int)) = true := decide_eq_true c29
    clear c29
    obtain ⟨y148, hy148⟩ : ∃ y_ : List Int, y_ = (t135.drop (1 : Int).toNat) := ⟨_, rfl⟩
    replace H : (some (t133, t134, y148, t141)) = some (r1, r2, r3, r4) := by first | (rw [hy148]; with_reducible exact H) | (have H2_ := (Option.bind_some _ _).symm.trans H; rw [hy148]; with_reducible exact H2_) | (have H2_ := (Option.bind_some _ _).symm.trans H; with_reducible exact H2_) | with_reducible exact H | (rw [hy148]; exact H) | exact H
    have Ny148 := Aside0.mk hy148
    clear hy148
    simp only [Option.some.injEq, Prod.mk.injEq] at H
    obtain ⟨rfl, rfl, rfl, rfl⟩ := H
    go_enter Try.func40, Try.ntmps40
    go_wp2_with (first | ((with_reducible refine gate_dst (N := 2) rfl ?_); refine box_event ?hg (N := 2) ?hd (cs := #[.int .i64 0, .int .i64 0, .slice none 0 0]) (t := 27) ?hr ?_; (case hd => rfl); (case hg => rfl); (case hr => first | (go_simp; done) | (go_simp; rfl)); intro gb132 hg w30 hbox hb; have n0_ := A0 (IsS81.below HI0.out hb); have n1_ := A0 (KeepBut.trans HK.out (KeepBut.of_below hb g none) (.inl rfl)); have n2_ := A0 (below_step HB.out hb); have n3_ := A0 (hbox); have n4_ := A0 ((by rw [hg]; exact (keep_size (w := w) (g := g) (row := none) HK.out) : w.heap.size ≤ gb132)); have n5_ := A0 ((Nat.le_trans HW0.out (by rw [hg]; exact (keep_size (w := w) (g := g) (row := none) HK.out) : w.heap.size ≤ gb132) : w0.heap.size ≤ gb132)); have n6_ := A0 ((by rw [hg]; exact Nat.ne_of_lt (IsS81.lt (show IsS81 w0 _ g s0_0 s0_1 from by repeat (first | (with_reducible first | exact HI0.out | apply IsS81.alloc | apply IsS81.drewN | apply IsS81.drew | apply IsS81.set_1) | exact HI0.out))) : g ≠ gb132)); have n7_ := A0 ((by rw [hg]; exact Nat.ne_of_gt (IsS81.lt (show IsS81 w0 _ g s0_0 s0_1 from by repeat (first | (with_reducible first | exact HI0.out | apply IsS81.alloc | apply IsS81.drewN | apply IsS81.drew | apply IsS81.set_1) | exact HI0.out))) : gb132 ≠ g)); clear HI0; clear HK; clear HB; have HI0 := n0_; have HK := n1_; have HB := n2_; have BK132 := n3_; have GW132 := n4_; have GE132 := n5_; have NB0_132 := n6_; have NB132_0 := n7_; clear n0_ n1_ n2_ n3_ n4_ n5_ n6_ n7_; clear hb hbox hg) | ((with_reducible refine gate_callee (f := 50) rfl ?_); refine goesL_ (some 5) rfl rfl Try.func50 (by kernel_rfl) rfl #[.pointer (some ⟨g, 0, none⟩)] rfl (by (try simp only [lM, lC, lN]); first | done | rfl | (simp only [lD, lT]; rfl)) ?_; (with_reducible refine (spec_l1Rd_box.calls k g s0_0 s0_1 t133 t134 t135 t138 w0 _ ?side1 ?side2 A2.out).mono ?_); (case side1 => repeat (first | (with_reducible first | exact HI0.out | apply IsS81.alloc | apply IsS81.drewN | apply IsS81.drew | apply IsS81.set_1 | apply IsS81.far (hne := NB0_132.out)) | exact HI0.out)); (case side2 => repeat (first | (with_reducible first | exact HB.out | apply wA | apply wN | apply wD | refine bS ?_ (IsS81.ge HI0.out) | refine bS ?_ GE132.out) | exact HB.out)); rintro e w31 ⟨v136, rfl, ho0, hi, hb, hk⟩; refine ⟨_, rfl, ?_⟩; have n0_ := A0 (KeepBut.blk hk (g' := gb132) (o := .cells #[.int .i64 0, .int .i64 0, .slice none 0 0] 27 (0, 0)) (by (with_reducible repeat (first | refine bN ?_ _ | refine bD ?_ | refine bA ?_ _)); exact BK132.out) NB132_0.out (by simp)); have n1_ := A0 (Kd.R_lower ho0 (keep_size (w := w) (g := g) (row := none) (by repeat (first | (with_reducible first | exact HK.out | apply KeepBut.set_ | apply keep_drewN | apply keep_drew | apply keep_alloc | refine keep_far ?_ GW132.out _) | exact HK.out)))); have n2_ := A0 (KeepBut.trans (by repeat (first | (with_reducible first | exact HK.out | apply KeepBut.set_ | apply keep_drewN | apply keep_drew | apply keep_alloc | refine keep_far ?_ GW132.out _) | exact HK.out)) hk (.inl rfl)); have n3_ := A0 (hb); have n4_ := A0 (hi); clear BK132; clear HK; clear HB; clear HI0; have BK132 := n0_; have HO137 := n1_; have HK := n2_; have HB := n3_; have HI0 := n4_; clear n0_ n1_ n2_ n3_ n4_; (try clear hb); (try clear hb2); (try clear hk); (try clear hi); (try clear ho0)) | ((with_reducible refine gate_dst (N := 3) rfl ?_); refine box_event ?hg (N := 3) ?hd (cs := #[.int .i64 0, .int .i64 0, .slice none 0 0]) (t := 27) ?hr ?_; (case hd => rfl); (case hg => rfl); (case hr => first | (go_simp; done) | (go_simp; rfl)); intro gb139 hg w32 hbox hb; have n0_ := A0 (Kd.R_below HO137.out hb); have n1_ := A0 (IsS81.below (by repeat (first | (with_reducible first | exact HI0.out | apply IsS81.alloc | apply IsS81.drewN | apply IsS81.drew | apply IsS81.set_1 | apply IsS81.far (hne := NB0_132.out)) | exact HI0.out)) hb); have n2_ := A0 (blk_below (g := gb132) (o := .cells #[.int .i64 0, .int .i64 0, .slice none 0 0] 27 (0, 0)) (by (with_reducible repeat (first | refine bN ?_ _ | refine bD ?_ | refine bA ?_ _)); exact BK132.out) hb); have n3_ := A0 (KeepBut.trans (by repeat (first | (with_reducible first | exact HK.out | apply KeepBut.set_ | apply keep_drewN | apply keep_drew | apply keep_alloc | refine keep_far ?_ GW132.out _) | exact HK.out)) (KeepBut.of_below hb g none) (.inl rfl)); have n4_ := A0 (below_step (by repeat (first | (with_reducible first | exact HB.out | apply wA | apply wN | apply wD | refine bS ?_ (IsS81.ge HI0.out) | refine bS ?_ GE132.out) | exact HB.out)) hb); have n5_ := A0 (hbox); have n6_ := A0 ((by rw [hg]; exact (keep_size (w := w) (g := g) (row := none) (by repeat (first | (with_reducible first | exact HK.out | apply KeepBut.set_ | apply keep_drewN | apply keep_drew | apply keep_alloc | refine keep_far ?_ GW132.out _) | exact HK.out))) : w.heap.size ≤ gb139)); have n7_ := A0 ((Nat.le_trans HW0.out (by rw [hg]; exact (keep_size (w := w) (g := g) (row := none) (by repeat (first | (with_reducible first | exact HK.out | apply KeepBut.set_ | apply keep_drewN | apply keep_drew | apply keep_alloc | refine keep_far ?_ GW132.out _) | exact HK.out))) : w.heap.size ≤ gb139) : w0.heap.size ≤ gb139)); have n8_ := A0 ((by rw [hg]; exact Nat.ne_of_lt (blk_lt (g := gb132) (o := .cells #[.int .i64 0, .int .i64 0, .slice none 0 0] 27 (0, 0)) (by (with_reducible repeat (first | refine bN ?_ _ | refine bD ?_ | refine bA ?_ _)); exact BK132.out)) : gb132 ≠ gb139)); have n9_ := A0 ((by rw [hg]; exact Nat.ne_of_gt (blk_lt (g := gb132) (o := .cells #[.int .i64 0, .int .i64 0, .slice none 0 0] 27 (0, 0)) (by (with_reducible repeat (first | refine bN ?_ _ | refine bD ?_ | refine bA ?_ _)); exact BK132.out)) : gb139 ≠ gb132)); have n10_ := A0 ((by rw [hg]; exact Nat.ne_of_lt (IsS81.lt (show IsS81 w0 _ g s0_0 t138 from by repeat (first | (with_reducible first | exact HI0.out | apply IsS81.alloc | apply IsS81.drewN | apply IsS81.drew | apply IsS81.set_1 | apply IsS81.far (hne := NB0_132.out)) | exact HI0.out))) : g ≠ gb139)); have n11_ := A0 ((by rw [hg]; exact Nat.ne_of_gt (IsS81.lt (show IsS81 w0 _ g s0_0 t138 from by repeat (first | (with_reducible first | exact HI0.out | apply IsS81.alloc | apply IsS81.drewN | apply IsS81.drew | apply IsS81.set_1 | apply IsS81.far (hne := NB0_132.out)) | exact HI0.out))) : gb139 ≠ g)); clear HO137; clear HI0; clear BK132; clear HK; clear HB; have HO137 := n0_; have HI0 := n1_; have BK132 := n2_; have HK := n3_; have HB := n4_; have BK139 := n5_; have GW139 := n6_; have GE139 := n7_; have NB132_139 := n8_; have NB139_132 := n9_; have NB0_139 := n10_; have NB139_0 := n11_; clear n0_ n1_ n2_ n3_ n4_ n5_ n6_ n7_ n8_ n9_ n10_ n11_; clear hb hbox hg; have hnb33 := NB139_132.out; have hnc33 := NB132_139.out; have hnb34 := NB139_0.out; have hnc34 := NB0_139.out; have hcz35_0 : w32.cell? ⟨gb139, 0, none⟩ = some (.int .i64 0) := bC BK139.out 0 rfl; have hcz35_1 : w32.cell? ⟨gb139, 1, none⟩ = some (.int .i64 0) := bC BK139.out 1 rfl; have hcz35_2 : w32.cell? ⟨gb139, 2, none⟩ = some (.slice none 0 0) := bC BK139.out 2 rfl; have hfz35_0 := blk_frozen BK139.out 0; have hfz35_1 := blk_frozen BK139.out 1; have hfz35_2 := blk_frozen BK139.out 2; obtain ⟨Ao36, co36, eo36⟩ := Kd.R_slice HO137.out; subst eo36) | ((with_reducible refine gate_store (t := 27) (p := 3) rfl ?_); refine store_event (t := 27) (p := 3) (v := ?vo_w37) (w1 := (((w32.setCell ⟨gb139, 0, none⟩ (.int .i64 t133)).setCell ⟨gb139, 1, none⟩ (.int .i64 t134)).setCell ⟨gb139, 2, none⟩ (.slice Ao36 t135.length co36))) ?hg ?ho ?hn ?hr ?_; (case ho => rfl); (case hg => rfl); (case hn => rfl); (case hr => first | (go_simp; done) | (go_simp; rfl)); intro w37 hw; have n0_ : Aside0 (Kd.R (Kd.int .i64) 2 w37 w.heap.size (fun _ => True) (.slice Ao36 t135.length co36) t135) := ⟨(by rw [hw]; exact (Kd.R_mono (Kd.R_far (p := ⟨gb139, 2, none⟩) (Kd.R_far (p := ⟨gb139, 1, none⟩) (Kd.R_far (p := ⟨gb139, 0, none⟩) (Kd.R_types HO137.out BK139.out (by decide)) (fun _ hk => hk.2) (.int .i64 t133)) (fun _ hk => hk.2) (.int .i64 t134)) (fun _ hk => hk.2) (.slice Ao36 t135.length co36)) (fun _ hk => trivial)))⟩; have n1_ : Aside0 (w37.heap[gb132]? = some (.cells #[.int .i64 0, .int .i64 0, .slice none 0 0] 27 (0, 0))) := ⟨(by rw [hw]; exact (by (with_reducible repeat (first | refine bN ?_ _ | refine bD ?_ | refine bA ?_ _)); refine blk_far ?_ NB132_139.out _; (with_reducible repeat (first | refine bN ?_ _ | refine bD ?_ | refine bA ?_ _)); refine blk_far ?_ NB132_139.out _; (with_reducible repeat (first | refine bN ?_ _ | refine bD ?_ | refine bA ?_ _)); refine blk_far ?_ NB132_139.out _; (with_reducible repeat (first | refine bN ?_ _ | refine bD ?_ | refine bA ?_ _)); exact BK132.out))⟩; have n2_ : Aside0 (w37.heap[gb139]? = some (.cells #[.int .i64 t133, .int .i64 t134, .slice Ao36 t135.length co36] 27 (0, 0))) := ⟨(by rw [hw]; exact (by (with_reducible repeat (first | refine bN ?_ _ | refine bD ?_ | refine bA ?_ _)); refine blk_put (cs := #[.int .i64 t133, .int .i64 t134, .slice none 0 0]) ?_ 2 _ rfl; (with_reducible repeat (first | refine bN ?_ _ | refine bD ?_ | refine bA ?_ _)); refine blk_put (cs := #[.int .i64 t133, .int .i64 0, .slice none 0 0]) ?_ 1 _ rfl; (with_reducible repeat (first | refine bN ?_ _ | refine bD ?_ | refine bA ?_ _)); refine blk_put (cs := #[.int .i64 0, .int .i64 0, .slice none 0 0]) ?_ 0 _ rfl; (with_reducible repeat (first | refine bN ?_ _ | refine bD ?_ | refine bA ?_ _)); exact BK139.out))⟩; have n3_ : Aside0 (IsS81 w0 w37 g s0_0 t138) := ⟨(by rw [hw]; exact (by repeat (first | (with_reducible first | exact HI0.out | apply IsS81.alloc | apply IsS81.drewN | apply IsS81.drew | apply IsS81.set_1 | apply IsS81.far (hne := NB0_132.out) | apply IsS81.far (hne := NB0_139.out)) | exact HI0.out)))⟩; have n4_ : Aside0 (KeepBut w w37 g none) := ⟨(by rw [hw]; exact (by repeat (first | (with_reducible first | exact HK.out | apply KeepBut.set_ | apply keep_drewN | apply keep_drew | apply keep_alloc | refine keep_far ?_ GW132.out _ | refine keep_far ?_ GW139.out _) | exact HK.out)))⟩; have n5_ : Aside0 (Below w0.heap.size w0 w37) := ⟨(by rw [hw]; exact (by repeat (first | (with_reducible first | exact HB.out | apply wA | apply wN | apply wD | refine bS ?_ (IsS81.ge HI0.out) | refine bS ?_ GE132.out | refine bS ?_ GE139.out) | exact HB.out)))⟩; clear hw; clear HO137; clear BK132; clear BK139; clear HI0; clear HK; clear HB; have HO137 := n0_; have BK132 := n1_; have BK139 := n2_; have HI0 := n3_; have HK := n4_; have HB := n5_; clear n0_ n1_ n2_ n3_ n4_ n5_) | ((with_reducible refine gate_callee (f := 49) rfl ?_); refine goesL_ (some 7) rfl rfl Try.func49 (by kernel_rfl) rfl #[.pointer (some ⟨g, 0, none⟩), .int .i64 24] rfl (by (try simp only [lM, lC, lN]); first | done | rfl | (simp only [lD, lT]; rfl)) ?_; (with_reducible refine (spec_l1Rd_below.calls g s0_0 t138 24 t140 t141 w0 _ ?side1 ?side2 A3.out).mono ?_); (case side1 => repeat (first | (with_reducible first | exact HI0.out | apply IsS81.alloc | apply IsS81.drewN | apply IsS81.drew | apply IsS81.set_1 | apply IsS81.far (hne := NB0_132.out) | apply IsS81.far (hne := NB0_139.out)) | exact HI0.out)); (case side2 => repeat (first | (with_reducible first | exact HB.out | apply wA | apply wN | apply wD | refine bS ?_ (IsS81.ge HI0.out) | refine bS ?_ GE132.out | refine bS ?_ GE139.out) | exact HB.out)); rintro e w38 ⟨rfl, hi, hb, hk⟩; refine ⟨_, rfl, ?_⟩; have n0_ := A0 (KeepBut.blk hk (g' := gb132) (o := .cells #[.int .i64 0, .int .i64 0, .slice none 0 0] 27 (0, 0)) (by (with_reducible repeat (first | refine bN ?_ _ | refine bD ?_ | refine bA ?_ _)); exact BK132.out) NB132_0.out (by simp)); have n1_ := A0 (Kd.R_mono (Kd.R_keep (IsS81.apart (show IsS81 w0 _ g s0_0 t138 from by repeat (first | (with_reducible first | exact HI0.out | apply IsS81.alloc | apply IsS81.drewN | apply IsS81.drew | apply IsS81.set_1 | apply IsS81.far (hne := NB0_132.out) | apply IsS81.far (hne := NB0_139.out)) | exact HI0.out)) HO137.out (by decide)) hk (fun _ h => h.2)) (fun _ h => h.1)); have n2_ := A0 (KeepBut.blk hk (g' := gb139) (o := .cells #[.int .i64 t133, .int .i64 t134, .slice Ao36 t135.length co36] 27 (0, 0)) (by (with_reducible repeat (first | refine bN ?_ _ | refine bD ?_ | refine bA ?_ _)); exact BK139.out) NB139_0.out (by simp)); have n3_ := A0 (KeepBut.trans (by repeat (first | (with_reducible first | exact HK.out | apply KeepBut.set_ | apply keep_drewN | apply keep_drew | apply keep_alloc | refine keep_far ?_ GW132.out _ | refine keep_far ?_ GW139.out _) | exact HK.out)) hk (.inl rfl)); have n4_ := A0 (hb); have n5_ := A0 (hi); clear BK132; clear HO137; clear BK139; clear HK; clear HB; clear HI0; have BK132 := n0_; have HO137 := n1_; have BK139 := n2_; have HK := n3_; have HB := n4_; have HI0 := n5_; clear n0_ n1_ n2_ n3_ n4_ n5_; (try clear hb); (try clear hb2); (try clear hk); (try clear hi); have hcz39_0 : w38.cell? ⟨gb139, 0, none⟩ = some (.int .i64 t133) := bC BK139.out 0 rfl; have hcz39_1 : w38.cell? ⟨gb139, 1, none⟩ = some (.int .i64 t134) := bC BK139.out 1 rfl; have hcz39_2 : w38.cell? ⟨gb139, 2, none⟩ = some (.slice Ao36 t135.length co36) := bC BK139.out 2 rfl; have hfz39_0 := blk_frozen BK139.out 0; have hfz39_1 := blk_frozen BK139.out 1; have hfz39_2 := blk_frozen BK139.out 2; have q40 : (1 : Int) ≤ ((t135.length : Int) : Int) := of_decide_eq_true (by first | (with_reducible assumption) | assumption); obtain ⟨i040, hi040, _, hsz40, _⟩ := info_parts info2; have hcut40 := cut_from (P := Try.prog) 22 2 .i64 Try.underlying22 hi040 1 hsz40 Ao36 t135.length co36 1 (by omega) q40; have hr40 := Kd.Q_drop (k := (1 : Int).toNat) (Kd.Q_of_R HO137.out) (by omega); obtain ⟨A40, hA40⟩ : ∃ A1, A1 = (if co36 = (1 : Int).toNat then Ao36 else (Ao36 : Option Addr).map (·.add ((1 : Int).toNat * 1))) := ⟨_, rfl⟩; obtain ⟨c40, hc40⟩ : ∃ c1, c1 = co36 - (1 : Int).toNat := ⟨_, rfl⟩; have hy40 : y148.length = t135.length - (1 : Int).toNat := (by rw [Ny148.out, List.length_drop]); rw [← Ny148.out] at hr40; rw [← hy40, ← hA40, ← hc40] at hcut40; replace hr40 : Kd.Q (Kd.int .i64) 2 w38 w.heap.size (fun _ => True) (.slice A40 y148.length c40) y148 := (by rw [hA40, hc40, hy40]; exact hr40); have HE40 : Aside0 ((Value.slice A40 y148.length c40).ownBlock = (.slice Ao36 t135.length co36 : Value).ownBlock) := ⟨by rw [hA40]; split <;> (cases (Ao36 : Option Addr) <;> rfl)⟩; clear hy40 hi040 hsz40 HO137 hA40 hc40; have HO150 := Aside0.mk hr40; clear hr40; replace q40 := eq_true q40; have hnb41 := NB132_0.out; have hnc41 := NB0_132.out; have hcz42_0 : w38.cell? ⟨gb132, 0, none⟩ = some (.int .i64 0) := bC BK132.out 0 rfl; have hcz42_1 : w38.cell? ⟨gb132, 1, none⟩ = some (.int .i64 0) := bC BK132.out 1 rfl; have hcz42_2 : w38.cell? ⟨gb132, 2, none⟩ = some (.slice none 0 0) := bC BK132.out 2 rfl; have hfz42_0 := blk_frozen BK132.out 0; have hfz42_1 := blk_frozen BK132.out 1; have hfz42_2 := blk_frozen BK132.out 2))
    refine bodyPost_ret (results_cell_row rfl _ _ gb132 27 #[.int .i64 t133, .int .i64 t134, .slice A40 y148.length c40] (0, 0) _ rfl (by (with_reducible repeat (first | refine bN ?_ _ | refine bD ?_ | refine bA ?_ _)); refine blk_put (cs := #[.int .i64 t133, .int .i64 t134, .slice none 0 0]) ?_ 2 _ rfl; (with_reducible repeat (first | refine bN ?_ _ | refine bD ?_ | refine bA ?_ _)); refine blk_put (cs := #[.int .i64 t133, .int .i64 0, .slice none 0 0]) ?_ 1 _ rfl; (with_reducible repeat (first | refine bN ?_ _ | refine bD ?_ | refine bA ?_ _)); refine blk_put (cs := #[.int .i64 0, .int .i64 0, .slice none 0 0]) ?_ 0 _ rfl; (with_reducible repeat (first | refine bN ?_ _ | refine bD ?_ | refine bA ?_ _)); refine blk_far ?_ NB132_139.out _; (with_reducible repeat (first | refine bN ?_ _ | refine bD ?_ | refine bA ?_ _)); exact BK132.out) Try.underlying27 rfl (by kernel_rfl)) rfl ?_
    exact ⟨_, by first | rfl | (simp [errW_none, errW_some] <;> rfl) | (simp [*, errW_none, errW_some] <;> rfl), by (with_reducible repeat (first | apply Kd.Q_alloc | apply Kd.Q_drewN | apply Kd.Q_drew)); exact Kd.Q_mono (Kd.Q_far (p := ⟨gb132, 2, none⟩) (Kd.Q_far (p := ⟨gb132, 1, none⟩) (Kd.Q_far (p := ⟨gb132, 0, none⟩) (Kd.Q_far (p := ⟨gb139, 2, none⟩) (Kd.Q_types (Kd.Q_types HO150.out BK139.out (by decide)) BK132.out (by decide)) (fun _ hk => hk.1.2) (.slice A40 y148.length c40)) (fun _ hk => hk.2) (.int .i64 t133)) (fun _ hk => hk.2) (.int .i64 t134)) (fun _ hk => hk.2) (.slice A40 y148.length c40)) (fun _ hk => trivial), by repeat (first | (with_reducible first | exact HI0.out | apply IsS81.alloc | apply IsS81.drewN | apply IsS81.drew | apply IsS81.set_1 | apply IsS81.far (hne := NB0_132.out) | apply IsS81.far (hne := NB0_139.out)) | exact HI0.out), by repeat (first | (with_reducible first | exact HB.out | apply wA | apply wN | apply wD | refine bS ?_ (IsS81.ge HI0.out) | refine bS ?_ GE132.out | refine bS ?_ GE139.out) | exact HB.out), by repeat (first | (with_reducible first | exact HK.out | apply KeepBut.set_ | apply keep_drewN | apply keep_drew | apply keep_alloc | refine keep_far ?_ GW132.out _ | refine keep_far ?_ GW139.out _) | exact HK.out)⟩
   ·rw [if_neg c29] at H
    exact absurd H (by simp)
  ·rw [if_neg c28] at H
   have c28b0 : (t140 == 1) = false := beq_eq_false_iff_ne.mpr c28
   have c28b1 : (t140 != 1) = true := bne_iff_ne.mpr c28
   by_cases c43 : t140 = 2
   ·rw [if_pos c43] at H
    have c43b0 : (t140 == 2) = true := beq_iff_eq.mpr c43
    have c43b1 : (t140 != 2) = false := bne_eq_false_iff_eq.mpr c43
    clear c43
    obtain ⟨y151, hy151⟩ : ∃ y_ : List Int, y_ = (([1000000000, 1000000001, (-1000000000), (-1000000001)] : List Int)) := ⟨_, rfl⟩
    replace H : ((spec_l1Rd_below.f s0_0 t141 4).bind fun bt154 => (if 0 ≤ bt154.1 then (if bt154.1 < (y151.length : Int) then (if 0 < (t135.length : Int) then (some (t133, t134, (t135.set (0 : Int).toNat (rd y151 bt154.1)), bt154.2)) else (none)) else (none)) else (none))) = some (r1, r2, r3, r4) := by first | (rw [hy151]; with_reducible exact H) | (have H2_ := (Option.bind_some _ _).symm.trans H; rw [hy151]; with_reducible exact H2_) | (have H2_ := (Option.bind_some _ _).symm.trans H; with_reducible exact H2_) | with_reducible exact H | (rw [hy151]; exact H) | exact H
    have Ny151 := Aside0.mk hy151
    clear hy151
    replace H := Option.bind_eq_some_iff.mp H
    obtain ⟨⟨t154, t155⟩, A440, H⟩ := H
    replace H : (if 0 ≤ t154 then (if t154 < (y151.length : Int) then (if 0 < (t135.length : Int) then (some (t133, t134, (t135.set (0 : Int).toNat (rd y151 t154)), t155)) else (none)) else (none)) else (none)) = some (r1, r2, r3, r4) := H
    have A44 := Aside0.mk A440
    clear A440
    by_cases c45 : 0 ≤ t154
    ·rw [if_pos c45] at H
     have c45b0 : decide (0 ≤ t154) = true := decide_eq_true c45
     clear c45
     by_cases c46 : t154 < (y151.length : Int)
     ·rw [if_pos c46] at H
      have c46b0 : decide (t154 < (y151.length : Int)) = true := decide_eq_true c46
      clear c46
      by_cases c47 : 0 < (t135.length : Int)
      ·rw [if_pos c47] at H
       have c47b0 : decide (0 < (t135.length : Int)) = true := decide_eq_true c47
       have c47b1 : decide (0 < t135.length) = true := decide_eq_true (by omega)
       clear c47
       obtain ⟨y157, hy157⟩ : ∃ y_ : List Int, y_ = (t135.set (0 : Int).toNat (rd y151 t154)) := ⟨_, rfl⟩
       replace H : (some (t133, t134, y157, t155)) = some (r1, r2, r3, r4) := by first | (rw [hy157]; with_reducible exact H) | (have H2_ := (Option.bind_some _ _).symm.trans H; rw [hy157]; with_reducible exact H2_) | (have H2_ := (Option.bind_some _ _).symm.trans H; with_reducible exact H2_) | with_reducible exact H | (rw [hy157]; exact H) | exact H
       have Ny157 := Aside0.mk hy157
       clear hy157
       simp only [Option.some.injEq, Prod.mk.injEq] at H
       obtain ⟨rfl, rfl, rfl, rfl⟩ := H
       go_enter Try.func40, Try.ntmps40
       try go_wp2_with (first | ((with_reducible refine gate_dst (N := 2) rfl ?_); refine box_event ?hg (N := 2) ?hd (cs := #[.int .i64 0, .int .i64 0, .slice none 0 0]) (t := 27) ?hr ?_; (case hd => rfl); (case hg => rfl); (case hr => first | (go_simp; done) | (go_simp; rfl)); intro gb132 hg w49 hbox hb; have n0_ := A0 (IsS81.below HI0.out hb); have n1_ := A0 (KeepBut.trans HK.out (KeepBut.of_below hb g none) (.inl rfl)); have n2_ := A0 (below_step HB.out hb); have n3_ := A0 (hbox); have n4_ := A0 ((by rw [hg]; exact (keep_size (w := w) (g := g) (row := none) HK.out) : w.heap.size ≤ gb132)); have n5_ := A0 ((Nat.le_trans HW0.out (by rw [hg]; exact (keep_size (w := w) (g := g) (row := none) HK.out) : w.heap.size ≤ gb132) : w0.heap.size ≤ gb132)); have n6_ := A0 ((by rw [hg]; exact Nat.ne_of_lt (IsS81.lt (show IsS81 w0 _ g s0_0 s0_1 from by repeat (first | (with_reducible first | exact HI0.out | apply IsS81.alloc | apply IsS81.drewN | apply IsS81.drew | apply IsS81.set_1) | exact HI0.out))) : g ≠ gb132)); have n7_ := A0 ((by rw [hg]; exact Nat.ne_of_gt (IsS81.lt (show IsS81 w0 _ g s0_0 s0_1 from by repeat (first | (with_reducible first | exact HI0.out | apply IsS81.alloc | apply IsS81.drewN | apply IsS81.drew | apply IsS81.set_1) | exact HI0.out))) : gb132 ≠ g)); clear HI0; clear HK; clear HB; have HI0 := n0_; have HK := n1_; have HB := n2_; have BK132 := n3_; have GW132 := n4_; have GE132 := n5_; have NB0_132 := n6_; have NB132_0 := n7_; clear n0_ n1_ n2_ n3_ n4_ n5_ n6_ n7_; clear hb hbox hg) | ((with_reducible refine gate_callee (f := 50) rfl ?_); refine goesL_ (some 5) rfl rfl Try.func50 (by kernel_rfl) rfl #[.pointer (some ⟨g, 0, none⟩)] rfl (by (try simp only [lM, lC, lN]); first | done | rfl | (simp only [lD, lT]; rfl)) ?_; (with_reducible refine (spec_l1Rd_box.calls k g s0_0 s0_1 t133 t134 t135 t138 w0 _ ?side1 ?side2 A2.out).mono ?_); (case side1 => repeat (first | (with_reducible first | exact HI0.out | apply IsS81.alloc | apply IsS81.drewN | apply IsS81.drew | apply IsS81.set_1 | apply IsS81.far (hne := NB0_132.out)) | exact HI0.out)); (case side2 => repeat (first | (with_reducible first | exact HB.out | apply wA | apply wN | apply wD | refine bS ?_ (IsS81.ge HI0.out) | refine bS ?_ GE132.out) | exact HB.out)); rintro e w50 ⟨v136, rfl, ho0, hi, hb, hk⟩; refine ⟨_, rfl, ?_⟩; have n0_ := A0 (KeepBut.blk hk (g' := gb132) (o := .cells #[.int .i64 0, .int .i64 0, .slice none 0 0] 27 (0, 0)) (by (with_reducible repeat (first | refine bN ?_ _ | refine bD ?_ | refine bA ?_ _)); exact BK132.out) NB132_0.out (by simp)); have n1_ := A0 (Kd.R_lower ho0 (keep_size (w := w) (g := g) (row := none) (by repeat (first | (with_reducible first | exact HK.out | apply KeepBut.set_ | apply keep_drewN | apply keep_drew | apply keep_alloc | refine keep_far ?_ GW132.out _) | exact HK.out)))); have n2_ := A0 (KeepBut.trans (by repeat (first | (with_reducible first | exact HK.out | apply KeepBut.set_ | apply keep_drewN | apply keep_drew | apply keep_alloc | refine keep_far ?_ GW132.out _) | exact HK.out)) hk (.inl rfl)); have n3_ := A0 (hb); have n4_ := A0 (hi); clear BK132; clear HK; clear HB; clear HI0; have BK132 := n0_; have HO137 := n1_; have HK := n2_; have HB := n3_; have HI0 := n4_; clear n0_ n1_ n2_ n3_ n4_; (try clear hb); (try clear hb2); (try clear hk); (try clear hi); (try clear ho0)) | ((with_reducible refine gate_dst (N := 3) rfl ?_); refine box_event ?hg (N := 3) ?hd (cs := #[.int .i64 0, .int .i64 0, .slice none 0 0]) (t := 27) ?hr ?_; (case hd => rfl); (case hg => rfl); (case hr => first | (go_simp; done) | (go_simp; rfl)); intro gb139 hg w51 hbox hb; have n0_ := A0 (Kd.R_below HO137.out hb); have n1_ := A0 (IsS81.below (by repeat (first | (with_reducible first | exact HI0.out | apply IsS81.alloc | apply IsS81.drewN | apply IsS81.drew | apply IsS81.set_1 | apply IsS81.far (hne := NB0_132.out)) | exact HI0.out)) hb); have n2_ := A0 (blk_below (g := gb132) (o := .cells #[.int .i64 0, .int .i64 0, .slice none 0 0] 27 (0, 0)) (by (with_reducible repeat (first | refine bN ?_ _ | refine bD ?_ | refine bA ?_ _)); exact BK132.out) hb); have n3_ := A0 (KeepBut.trans (by repeat (first | (with_reducible first | exact HK.out | apply KeepBut.set_ | apply keep_drewN | apply keep_drew | apply keep_alloc | refine keep_far ?_ GW132.out _) | exact HK.out)) (KeepBut.of_below hb g none) (.inl rfl)); have n4_ := A0 (below_step (by repeat (first | (with_reducible first | exact HB.out | apply wA | apply wN | apply wD | refine bS ?_ (IsS81.ge HI0.out) | refine bS ?_ GE132.out) | exact HB.out)) hb); have n5_ := A0 (hbox); have n6_ := A0 ((by rw [hg]; exact (keep_size (w := w) (g := g) (row := none) (by repeat (first | (with_reducible first | exact HK.out | apply KeepBut.set_ | apply keep_drewN | apply keep_drew | apply keep_alloc | refine keep_far ?_ GW132.out _) | exact HK.out))) : w.heap.size ≤ gb139)); have n7_ := A0 ((Nat.le_trans HW0.out (by rw [hg]; exact (keep_size (w := w) (g := g) (row := none) (by repeat (first | (with_reducible first | exact HK.out | apply KeepBut.set_ | apply keep_drewN | apply keep_drew | apply keep_alloc | refine keep_far ?_ GW132.out _) | exact HK.out))) : w.heap.size ≤ gb139) : w0.heap.size ≤ gb139)); have n8_ := A0 ((by rw [hg]; exact Nat.ne_of_lt (blk_lt (g := gb132) (o := .cells #[.int .i64 0, .int .i64 0, .slice none 0 0] 27 (0, 0)) (by (with_reducible repeat (first | refine bN ?_ _ | refine bD ?_ | refine bA ?_ _)); exact BK132.out)) : gb132 ≠ gb139)); have n9_ := A0 ((by rw [hg]; exact Nat.ne_of_gt (blk_lt (g := gb132) (o := .cells #[.int .i64 0, .int .i64 0, .slice none 0 0] 27 (0, 0)) (by (with_reducible repeat (first | refine bN ?_ _ | refine bD ?_ | refine bA ?_ _)); exact BK132.out)) : gb139 ≠ gb132)); have n10_ := A0 ((by rw [hg]; exact Nat.ne_of_lt (IsS81.lt (show IsS81 w0 _ g s0_0 t138 from by repeat (first | (with_reducible first | exact HI0.out | apply IsS81.alloc | apply IsS81.drewN | apply IsS81.drew | apply IsS81.set_1 | apply IsS81.far (hne := NB0_132.out)) | exact HI0.out))) : g ≠ gb139)); have n11_ := A0 ((by rw [hg]; exact Nat.ne_of_gt (IsS81.lt (show IsS81 w0 _ g s0_0 t138 from by repeat (first | (with_reducible first | exact HI0.out | apply IsS81.alloc | apply IsS81.drewN | apply IsS81.drew | apply IsS81.set_1 | apply IsS81.far (hne := NB0_132.out)) | exact HI0.out))) : gb139 ≠ g)); clear HO137; clear HI0; clear BK132; clear HK; clear HB; have HO137 := n0_; have HI0 := n1_; have BK132 := n2_; have HK := n3_; have HB := n4_; have BK139 := n5_; have GW139 := n6_; have GE139 := n7_; have NB132_139 := n8_; have NB139_132 := n9_; have NB0_139 := n10_; have NB139_0 := n11_; clear n0_ n1_ n2_ n3_ n4_ n5_ n6_ n7_ n8_ n9_ n10_ n11_; clear hb hbox hg; have hnb52 := NB139_132.out; have hnc52 := NB132_139.out; have hnb53 := NB139_0.out; have hnc53 := NB0_139.out; have hcz54_0 : w51.cell? ⟨gb139, 0, none⟩ = some (.int .i64 0) := bC BK139.out 0 rfl; have hcz54_1 : w51.cell? ⟨gb139, 1, none⟩ = some (.int .i64 0) := bC BK139.out 1 rfl; have hcz54_2 : w51.cell? ⟨gb139, 2, none⟩ = some (.slice none 0 0) := bC BK139.out 2 rfl; have hfz54_0 := blk_frozen BK139.out 0; have hfz54_1 := blk_frozen BK139.out 1; have hfz54_2 := blk_frozen BK139.out 2; obtain ⟨Ao55, co55, eo55⟩ := Kd.R_slice HO137.out; subst eo55) | ((with_reducible refine gate_callee (f := 49) rfl ?_); refine goesL_ (some 7) rfl rfl Try.func49 (by kernel_rfl) rfl #[.pointer (some ⟨g, 0, none⟩), .int .i64 24] rfl (by (try simp only [lM, lC, lN]); first | done | rfl | (simp only [lD, lT]; rfl)) ?_; (with_reducible refine (spec_l1Rd_below.calls g s0_0 t138 24 t140 t141 w0 _ ?side1 ?side2 A3.out).mono ?_); (case side1 => repeat (first | (with_reducible first | exact HI0.out | apply IsS81.alloc | apply IsS81.drewN | apply IsS81.drew | apply IsS81.set_1 | apply IsS81.far (hne := NB0_132.out) | apply IsS81.far (hne := NB0_139.out)) | exact HI0.out)); (case side2 => repeat (first | (with_reducible first | exact HB.out | apply wA | apply wN | apply wD | refine bS ?_ (IsS81.ge HI0.out) | refine bS ?_ GE132.out | refine bS ?_ GE139.out) | exact HB.out)); rintro e w56 ⟨rfl, hi, hb, hk⟩; refine ⟨_, rfl, ?_⟩; have n0_ := A0 (KeepBut.blk hk (g' := gb132) (o := .cells #[.int .i64 0, .int .i64 0, .slice none 0 0] 27 (0, 0)) (by (with_reducible repeat (first | refine bN ?_ _ | refine bD ?_ | refine bA ?_ _)); refine blk_far ?_ NB132_139.out _; (with_reducible repeat (first | refine bN ?_ _ | refine bD ?_ | refine bA ?_ _)); refine blk_far ?_ NB132_139.out _; (with_reducible repeat (first | refine bN ?_ _ | refine bD ?_ | refine bA ?_ _)); refine blk_far ?_ NB132_139.out _; (with_reducible repeat (first | refine bN ?_ _ | refine bD ?_ | refine bA ?_ _)); exact BK132.out) NB132_0.out (by simp)); have n1_ := A0 (Kd.R_mono (Kd.R_keep (IsS81.apart (show IsS81 w0 _ g s0_0 t138 from by repeat (first | (with_reducible first | exact HI0.out | apply IsS81.alloc | apply IsS81.drewN | apply IsS81.drew | apply IsS81.set_1 | apply IsS81.far (hne := NB0_132.out) | apply IsS81.far (hne := NB0_139.out)) | exact HI0.out)) ((Kd.R_mono (Kd.R_far (p := ⟨gb139, 2, none⟩) (Kd.R_far (p := ⟨gb139, 1, none⟩) (Kd.R_far (p := ⟨gb139, 0, none⟩) (Kd.R_types HO137.out BK139.out (by decide)) (fun _ hk => hk.2) (.int .i64 t133)) (fun _ hk => hk.2) (.int .i64 t134)) (fun _ hk => hk.2) (.slice Ao55 t135.length co55)) (fun _ h_ => h_.1))) (by decide)) hk (fun _ h => h.2)) (fun _ h => h.1)); have n2_ := A0 (KeepBut.blk hk (g' := gb139) (o := .cells #[.int .i64 t133, .int .i64 t134, .slice Ao55 t135.length co55] 27 (0, 0)) (by (with_reducible repeat (first | refine bN ?_ _ | refine bD ?_ | refine bA ?_ _)); refine blk_put (cs := #[.int .i64 t133, .int .i64 t134, .slice none 0 0]) ?_ 2 _ rfl; (with_reducible repeat (first | refine bN ?_ _ | refine bD ?_ | refine bA ?_ _)); refine blk_put (cs := #[.int .i64 t133, .int .i64 0, .slice none 0 0]) ?_ 1 _ rfl; (with_reducible repeat (first | refine bN ?_ _ | refine bD ?_ | refine bA ?_ _)); refine blk_put (cs := #[.int .i64 0, .int .i64 0, .slice none 0 0]) ?_ 0 _ rfl; (with_reducible repeat (first | refine bN ?_ _ | refine bD ?_ | refine bA ?_ _)); exact BK139.out) NB139_0.out (by simp)); have n3_ := A0 (KeepBut.trans (by repeat (first | (with_reducible first | exact HK.out | apply KeepBut.set_ | apply keep_drewN | apply keep_drew | apply keep_alloc | refine keep_far ?_ GW132.out _ | refine keep_far ?_ GW139.out _) | exact HK.out)) hk (.inl rfl)); have n4_ := A0 (hb); have n5_ := A0 (hi); clear BK132; clear HO137; clear BK139; clear HK; clear HB; clear HI0; have BK132 := n0_; have HO137 := n1_; have BK139 := n2_; have HK := n3_; have HB := n4_; have HI0 := n5_; clear n0_ n1_ n2_ n3_ n4_ n5_; (try clear hb); (try clear hb2); (try clear hk); (try clear hi)))
       have pi156 : (0 ≤ (t154 : Int)) = True := eq_true (of_decide_eq_true (by first | (with_reducible assumption) | assumption))
       have qi156 : (t154 < (y151.length : Int)) = True := eq_true (of_decide_eq_true (by first | (with_reducible assumption) | assumption))
       have n0_ := A0 (Kd.R_drew HO137.out)
       have n1_ := A0 (blk_drew BK132.out)
       have n2_ := A0 (blk_drew BK139.out)
       have n3_ := A0 (IsS81.drew HI0.out)
       have n4_ := A0 (keep_drew HK.out)
       have n5_ := A0 (below_drew1 HB.out)
       clear HO137
       clear BK132
       clear BK139
       clear HI0
       clear HK
       clear HB
       have HO137 := n0_
       have BK132 := n1_
       have BK139 := n2_
       have HI0 := n3_
       have HK := n4_
       have HB := n5_
       clear n0_ n1_ n2_ n3_ n4_ n5_
       refine start_ (n := 9) (S := fun w' => w'.cell? ⟨gb139, 0, none⟩ = some (.int .i64 t133) ∧ w'.cell? ⟨gb139, 1, none⟩ = some (.int .i64 t134) ∧ w'.cell? ⟨gb139, 2, none⟩ = some (.slice Ao55 t135.length co55)) (ds := [8]) #[false, false, false, false, false, false, false, false, false] (by kernel_rfl) rfl rfl ⟨bC BK139.out 0 rfl, bC BK139.out 1 rfl, bC BK139.out 2 rfl⟩ (fun hHeld => ?_); refine with_tabW spec_l12DrawBox.tab8 spec_l12DrawBox.bits8 (fun HT_ HW_ => ?_)
       generalize w56.drew = w57 at HO137 BK132 BK139 HI0 HK HB hHeld ⊢
       refine pure_ (i := 0) (N := some 27) (v := ?_) (a' := ?_) #[true, false, false, false, false, false, false, false, false] rfl rfl (any_of HT_.out (by kernel_rfl)) (fun _ _ _ h => h) (Or.inl ⟨by rfl, ?_⟩) ?_ ?_
       rotate_left
       ·intro w'
        go_simp
        with_reducible rfl
       rotate_left
       ·simp only [Act.put, sqA, sqZ, sqS, i64_w, i32_w]
        rfl
       refine pure_ (i := 3) (N := some 30) (v := ?_) (a' := ?_) #[true, false, false, true, false, false, false, false, false] rfl rfl (any_of HT_.out (by kernel_rfl)) (fun _ _ _ h => h) (Or.inl ⟨by rfl, ?_⟩) ?_ ?_
       rotate_left
       ·intro w'
        go_simp
        with_reducible rfl
       rotate_left
       ·simp only [Act.put, sqA, sqZ, sqS, i64_w, i32_w]
        rfl
       refine take_ (i := 1) (N := some 28) (v := ?_) (a' := ?_) #[true, true, false, true, false, false, false, false, false] rfl rfl (take_ofW HT_.out HW_.out (by kernel_rfl)) (fun _ _ _ h => h) (Or.inl ⟨by rfl, ?_⟩) hHeld ?_ ?_
       rotate_left
       ·rintro w' ⟨s0, s1, s2⟩
        go_simp
        with_reducible rfl
       rotate_left
       ·simp only [Act.put, sqA, sqZ, sqS, i64_w, i32_w]
        rfl
       refine join_ (σ := Value × Addr) 4 #[true, true, true, true, true, false, false, false, false] (fun s_ => [(29, s_.1), (31, .int .i64 t154)]) (fun s_ w' => (w'.cell? ⟨gb139, 0, none⟩ = some (.int .i64 t133) ∧ w'.cell? ⟨gb139, 1, none⟩ = some (.int .i64 t134) ∧ w'.cell? ⟨gb139, 2, none⟩ = some (.slice Ao55 t135.length co55)) ∧ (Kd.R (Kd.int .i64) 2 w' w.heap.size (fun k_ => some k_ ≠ (s_.1 : Value).ownBlock) (.slice Ao55 t135.length co55) t135) ∧ (Kd.R (Kd.int .i64) 2 w' w.heap.size (fun k_ => some k_ ≠ (.slice Ao55 t135.length co55 : Value).ownBlock) s_.1 y151) ∧ (∃ c_, (s_.1 : Value) = .slice (some s_.2) y151.length c_) ∧ (w'.heap[gb132]? = some (.cells #[.int .i64 0, .int .i64 0, .slice none 0 0] 27 (0, 0))) ∧ (w'.heap[gb139]? = some (.cells #[.int .i64 t133, .int .i64 t134, .slice Ao55 t135.length co55] 27 (0, 0))) ∧ (IsS81 w0 w' g s0_0 t155) ∧ (KeepBut w w' g none) ∧ (Below w0.heap.size w0 w')) ?_ ?_
       rotate_left
       ·intro hCont
        refine two_ (i := 2) (j := 4) (Ni := some 29) (Nj := some 31) #[true, true, true, true, false, false, false, false, false] #[true, true, false, true, true, false, false, false, false] rfl rfl rfl rfl (two_of HT_.out (by kernel_rfl)) (by decide) (by decide) (fun K hK => ?_) (fun K hK => ?_)
        ·skip
         refine Kd.R_lit_step (Kd.int .i64) _ 2 ?hg (N := 29) ?hd (xs := ([1000000000, 1000000001, (-1000000000), (-1000000001)] : List Int)) (inner := [.int .i64 1000000000, .int .i64 1000000001, .int .i64 (-1000000000), .int .i64 (-1000000001)]) (ok := fun _ => True) (okp := fun _ => True) ?hr ?hp (fun _ hk => hk) trivial (Below.refl _ _) (Nat.le_refl _) (by simp) ?_; (case hd => rfl); (case hg => rfl); (case hr => first | (go_simp; done) | (go_simp; rfl)); (case hp => exact (Reps.one (show Kd.M (Kd.int .i64) _ _ _ 1000000000 [.int .i64 1000000000] from rfl) (Reps.one (show Kd.M (Kd.int .i64) _ _ _ 1000000001 [.int .i64 1000000001] from rfl) (Reps.one (show Kd.M (Kd.int .i64) _ _ _ (-1000000000) [.int .i64 (-1000000000)] from rfl) (Reps.one (show Kd.M (Kd.int .i64) _ _ _ (-1000000001) [.int .i64 (-1000000001)] from rfl) (Reps.none _ _))))))
         intro v152 w58 ho59 hb hg_ hnew_
         clear hg_ hnew_
         (first | rw [← Ny151.out] at ho59 | (simp only [Int.reduceToNat] at ho59; rw [← Ny151.out] at ho59))
         have n0_ := A0 (Kd.R_elder' HO137.out (Kd.R_base ho59) hb)
         have n1_ := A0 (Kd.R_lower (Kd.R_new' ho59 (Kd.R_lt HO137.out)) (keep_size (w := w) (g := g) (row := none) (by repeat (first | (with_reducible first | exact HK.out | apply KeepBut.set_ | apply keep_drewN | apply keep_drew | apply keep_alloc | refine keep_far ?_ GW132.out _ | refine keep_far ?_ GW139.out _) | exact HK.out))))
         have n2_ := A0 (IsS81.below (by repeat (first | (with_reducible first | exact HI0.out | apply IsS81.alloc | apply IsS81.drewN | apply IsS81.drew | apply IsS81.set_1 | apply IsS81.far (hne := NB0_132.out) | apply IsS81.far (hne := NB0_139.out)) | exact HI0.out)) hb)
         have n3_ := A0 (blk_below (g := gb132) (o := .cells #[.int .i64 0, .int .i64 0, .slice none 0 0] 27 (0, 0)) (by (with_reducible repeat (first | refine bN ?_ _ | refine bD ?_ | refine bA ?_ _)); exact BK132.out) hb)
         have n4_ := A0 (blk_below (g := gb139) (o := .cells #[.int .i64 t133, .int .i64 t134, .slice Ao55 t135.length co55] 27 (0, 0)) (by (with_reducible repeat (first | refine bN ?_ _ | refine bD ?_ | refine bA ?_ _)); exact BK139.out) hb)
         have n5_ := A0 (KeepBut.trans (by repeat (first | (with_reducible first | exact HK.out | apply KeepBut.set_ | apply keep_drewN | apply keep_drew | apply keep_alloc | refine keep_far ?_ GW132.out _ | refine keep_far ?_ GW139.out _) | exact HK.out)) (KeepBut.of_below hb g none) (.inl rfl))
         have n6_ := A0 (below_step (by repeat (first | (with_reducible first | exact HB.out | apply wA | apply wN | apply wD | refine bS ?_ (IsS81.ge HI0.out) | refine bS ?_ GE132.out | refine bS ?_ GE139.out) | exact HB.out)) hb)
         clear HO137
         clear HI0
         clear BK132
         clear BK139
         clear HK
         clear HB
         have HO137 := n0_
         have HO153 := n1_
         have HI0 := n2_
         have BK132 := n3_
         have BK139 := n4_
         have HK := n5_
         have HB := n6_
         clear n0_ n1_ n2_ n3_ n4_ n5_ n6_
         clear hb ho59
         obtain ⟨Ao60, co60, eo60⟩ := Kd.R_slice HO153.out
         subst eo60
         obtain ⟨ado60, fo60, _⟩ := Kd.at_int (Kd.R_reads' HO153.out).2.2 0 (by decide) (by rw [Ny151.out]; simp)
         cases fo60
         refine hK.out _ _ ⟨bC BK139.out 0 rfl, bC BK139.out 1 rfl, bC BK139.out 2 rfl⟩ (fun hHeld => ?_)
         clear hK K
         refine norm_ (a' := ?_) ?_ ?_
         rotate_left
         ·show Act.put _ (some 29) _ = _
          simp only [Act.put, sqA, sqZ, sqS, i64_w, i32_w]
          rfl
         refine one_ (i := 4) (N := some 31) #[true, true, true, true, true, false, false, false, false] rfl rfl (one_of HT_.out (by kernel_rfl)) (by decide) (fun K hK => ?_)
         refine goes_ Try.func49 (by kernel_rfl) rfl #[.pointer (some ⟨g, 0, none⟩), .int .i64 4] (by rfl) rfl rfl (by (try simp only [lM, lC, lN]); first | done | rfl | (simp only [lD, lT]; rfl)) ?_
         with_reducible refine (spec_l1Rd_below.calls g s0_0 t141 4 t154 t155 w0 _ ?side1 ?side2 A44.out).mono ?_
         (case side1 => repeat (first | (with_reducible first | exact HI0.out | apply IsS81.alloc | apply IsS81.drewN | apply IsS81.drew | apply IsS81.set_1 | apply IsS81.far (hne := NB0_132.out) | apply IsS81.far (hne := NB0_139.out)) | exact HI0.out))
         (case side2 => repeat (first | (with_reducible first | exact HB.out | apply wA | apply wN | apply wD | refine bS ?_ (IsS81.ge HI0.out) | refine bS ?_ GE132.out | refine bS ?_ GE139.out) | exact HB.out))
         rintro e w61 ⟨rfl, hi, hb, hk⟩
         refine ⟨_, rfl, ?_⟩
         have n0_ := A0 (KeepBut.blk hk (g' := gb132) (o := .cells #[.int .i64 0, .int .i64 0, .slice none 0 0] 27 (0, 0)) (by (with_reducible repeat (first | refine bN ?_ _ | refine bD ?_ | refine bA ?_ _)); exact BK132.out) NB132_0.out (by simp))
         have n1_ := A0 (Kd.R_mono (Kd.R_keep (IsS81.apart (show IsS81 w0 _ g s0_0 t141 from by repeat (first | (with_reducible first | exact HI0.out | apply IsS81.alloc | apply IsS81.drewN | apply IsS81.drew | apply IsS81.set_1 | apply IsS81.far (hne := NB0_132.out) | apply IsS81.far (hne := NB0_139.out)) | exact HI0.out)) HO137.out (by decide)) hk (fun _ h => h.2)) (fun _ h => h.1))
         have n2_ := A0 (KeepBut.blk hk (g' := gb139) (o := .cells #[.int .i64 t133, .int .i64 t134, .slice Ao55 t135.length co55] 27 (0, 0)) (by (with_reducible repeat (first | refine bN ?_ _ | refine bD ?_ | refine bA ?_ _)); exact BK139.out) NB139_0.out (by simp))
         have n3_ := A0 (Kd.R_mono (Kd.R_keep (IsS81.apart (show IsS81 w0 _ g s0_0 t141 from by repeat (first | (with_reducible first | exact HI0.out | apply IsS81.alloc | apply IsS81.drewN | apply IsS81.drew | apply IsS81.set_1 | apply IsS81.far (hne := NB0_132.out) | apply IsS81.far (hne := NB0_139.out)) | exact HI0.out)) HO153.out (by decide)) hk (fun _ h => h.2)) (fun _ h => h.1))
         have n4_ := A0 (KeepBut.trans (by repeat (first | (with_reducible first | exact HK.out | apply KeepBut.set_ | apply keep_drewN | apply keep_drew | apply keep_alloc | refine keep_far ?_ GW132.out _ | refine keep_far ?_ GW139.out _) | exact HK.out)) hk (.inl rfl))
         have n5_ := A0 (hb)
         have n6_ := A0 (hi)
         clear BK132
         clear HO137
         clear BK139
         clear HO153
         clear HK
         clear HB
         clear HI0
         have BK132 := n0_
         have HO137 := n1_
         have BK139 := n2_
         have HO153 := n3_
         have HK := n4_
         have HB := n5_
         have HI0 := n6_
         clear n0_ n1_ n2_ n3_ n4_ n5_ n6_
         (try clear hb)
         refine hK.out _ _ ⟨bC BK139.out 0 rfl, bC BK139.out 1 rfl, bC BK139.out 2 rfl⟩ (fun hHeld => ?_)
         clear hK K
         refine norm_ (a' := ?_) ?_ ?_
         rotate_left
         ·show Act.put _ (some 31) _ = _
          simp only [Act.put, sqA, sqZ, sqS, i64_w, i32_w]
          rfl
         exact norm_ (by simp only [putAll, Act.put, sqA, sqZ, sqS]) (hCont (.slice (some ado60) y151.length co60, ado60) _ ⟨hHeld, (Kd.R_mono HO137.out (fun _ hk => hk.2)), (Kd.R_mono HO153.out (fun _ hk => hk.2)), ⟨_, rfl⟩, (by (with_reducible repeat (first | refine bN ?_ _ | refine bD ?_ | refine bA ?_ _)); exact BK132.out), (by (with_reducible repeat (first | refine bN ?_ _ | refine bD ?_ | refine bA ?_ _)); exact BK139.out), (by repeat (first | (with_reducible first | exact HI0.out | apply IsS81.alloc | apply IsS81.drewN | apply IsS81.drew | apply IsS81.set_1 | apply IsS81.far (hne := NB0_132.out) | apply IsS81.far (hne := NB0_139.out)) | exact HI0.out)), (by repeat (first | (with_reducible first | exact HK.out | apply KeepBut.set_ | apply keep_drewN | apply keep_drew | apply keep_alloc | refine keep_far ?_ GW132.out _ | refine keep_far ?_ GW139.out _) | exact HK.out)), (by repeat (first | (with_reducible first | exact HB.out | apply wA | apply wN | apply wD | refine bS ?_ (IsS81.ge HI0.out) | refine bS ?_ GE132.out | refine bS ?_ GE139.out) | exact HB.out))⟩)
        ·skip
         refine goes_ Try.func49 (by kernel_rfl) rfl #[.pointer (some ⟨g, 0, none⟩), .int .i64 4] (by rfl) rfl rfl (by (try simp only [lM, lC, lN]); first | done | rfl | (simp only [lD, lT]; rfl)) ?_
         with_reducible refine (spec_l1Rd_below.calls g s0_0 t141 4 t154 t155 w0 _ ?side1 ?side2 A44.out).mono ?_
         (case side1 => repeat (first | (with_reducible first | exact HI0.out | apply IsS81.alloc | apply IsS81.drewN | apply IsS81.drew | apply IsS81.set_1 | apply IsS81.far (hne := NB0_132.out) | apply IsS81.far (hne := NB0_139.out)) | exact HI0.out))
         (case side2 => repeat (first | (with_reducible first | exact HB.out | apply wA | apply wN | apply wD | refine bS ?_ (IsS81.ge HI0.out) | refine bS ?_ GE132.out | refine bS ?_ GE139.out) | exact HB.out))
         rintro e w58 ⟨rfl, hi, hb, hk⟩
         refine ⟨_, rfl, ?_⟩
         have n0_ := A0 (KeepBut.blk hk (g' := gb132) (o := .cells #[.int .i64 0, .int .i64 0, .slice none 0 0] 27 (0, 0)) (by (with_reducible repeat (first | refine bN ?_ _ | refine bD ?_ | refine bA ?_ _)); exact BK132.out) NB132_0.out (by simp))
         have n1_ := A0 (Kd.R_mono (Kd.R_keep (IsS81.apart (show IsS81 w0 _ g s0_0 t141 from by repeat (first | (with_reducible first | exact HI0.out | apply IsS81.alloc | apply IsS81.drewN | apply IsS81.drew | apply IsS81.set_1 | apply IsS81.far (hne := NB0_132.out) | apply IsS81.far (hne := NB0_139.out)) | exact HI0.out)) HO137.out (by decide)) hk (fun _ h => h.2)) (fun _ h => h.1))
         have n2_ := A0 (KeepBut.blk hk (g' := gb139) (o := .cells #[.int .i64 t133, .int .i64 t134, .slice Ao55 t135.length co55] 27 (0, 0)) (by (with_reducible repeat (first | refine bN ?_ _ | refine bD ?_ | refine bA ?_ _)); exact BK139.out) NB139_0.out (by simp))
         have n3_ := A0 (KeepBut.trans (by repeat (first | (with_reducible first | exact HK.out | apply KeepBut.set_ | apply keep_drewN | apply keep_drew | apply keep_alloc | refine keep_far ?_ GW132.out _ | refine keep_far ?_ GW139.out _) | exact HK.out)) hk (.inl rfl))
         have n4_ := A0 (hb)
         have n5_ := A0 (hi)
         clear BK132
         clear HO137
         clear BK139
         clear HK
         clear HB
         clear HI0
         have BK132 := n0_
         have HO137 := n1_
         have BK139 := n2_
         have HK := n3_
         have HB := n4_
         have HI0 := n5_
         clear n0_ n1_ n2_ n3_ n4_ n5_
         (try clear hb)
         refine hK.out _ _ ⟨bC BK139.out 0 rfl, bC BK139.out 1 rfl, bC BK139.out 2 rfl⟩ (fun hHeld => ?_)
         clear hK K
         refine norm_ (a' := ?_) ?_ ?_
         rotate_left
         ·show Act.put _ (some 31) _ = _
          simp only [Act.put, sqA, sqZ, sqS, i64_w, i32_w]
          rfl
         refine one_ (i := 2) (N := some 29) #[true, true, true, true, true, false, false, false, false] rfl rfl (one_of HT_.out (by kernel_rfl)) (by decide) (fun K hK => ?_)
         refine Kd.R_lit_step (Kd.int .i64) _ 2 ?hg (N := 29) ?hd (xs := ([1000000000, 1000000001, (-1000000000), (-1000000001)] : List Int)) (inner := [.int .i64 1000000000, .int .i64 1000000001, .int .i64 (-1000000000), .int .i64 (-1000000001)]) (ok := fun _ => True) (okp := fun _ => True) ?hr ?hp (fun _ hk => hk) trivial (Below.refl _ _) (Nat.le_refl _) (by simp) ?_; (case hd => rfl); (case hg => rfl); (case hr => first | (go_simp; done) | (go_simp; rfl)); (case hp => exact (Reps.one (show Kd.M (Kd.int .i64) _ _ _ 1000000000 [.int .i64 1000000000] from rfl) (Reps.one (show Kd.M (Kd.int .i64) _ _ _ 1000000001 [.int .i64 1000000001] from rfl) (Reps.one (show Kd.M (Kd.int .i64) _ _ _ (-1000000000) [.int .i64 (-1000000000)] from rfl) (Reps.one (show Kd.M (Kd.int .i64) _ _ _ (-1000000001) [.int .i64 (-1000000001)] from rfl) (Reps.none _ _))))))
         intro v152 w59 ho60 hb hg_ hnew_
         clear hg_ hnew_
         (first | rw [← Ny151.out] at ho60 | (simp only [Int.reduceToNat] at ho60; rw [← Ny151.out] at ho60))
         have n0_ := A0 (Kd.R_elder' HO137.out (Kd.R_base ho60) hb)
         have n1_ := A0 (Kd.R_lower (Kd.R_new' ho60 (Kd.R_lt HO137.out)) (keep_size (w := w) (g := g) (row := none) (by repeat (first | (with_reducible first | exact HK.out | apply KeepBut.set_ | apply keep_drewN | apply keep_drew | apply keep_alloc | refine keep_far ?_ GW132.out _ | refine keep_far ?_ GW139.out _) | exact HK.out))))
         have n2_ := A0 (IsS81.below (by repeat (first | (with_reducible first | exact HI0.out | apply IsS81.alloc | apply IsS81.drewN | apply IsS81.drew | apply IsS81.set_1 | apply IsS81.far (hne := NB0_132.out) | apply IsS81.far (hne := NB0_139.out)) | exact HI0.out)) hb)
         have n3_ := A0 (blk_below (g := gb132) (o := .cells #[.int .i64 0, .int .i64 0, .slice none 0 0] 27 (0, 0)) (by (with_reducible repeat (first | refine bN ?_ _ | refine bD ?_ | refine bA ?_ _)); exact BK132.out) hb)
         have n4_ := A0 (blk_below (g := gb139) (o := .cells #[.int .i64 t133, .int .i64 t134, .slice Ao55 t135.length co55] 27 (0, 0)) (by (with_reducible repeat (first | refine bN ?_ _ | refine bD ?_ | refine bA ?_ _)); exact BK139.out) hb)
         have n5_ := A0 (KeepBut.trans (by repeat (first | (with_reducible first | exact HK.out | apply KeepBut.set_ | apply keep_drewN | apply keep_drew | apply keep_alloc | refine keep_far ?_ GW132.out _ | refine keep_far ?_ GW139.out _) | exact HK.out)) (KeepBut.of_below hb g none) (.inl rfl))
         have n6_ := A0 (below_step (by repeat (first | (with_reducible first | exact HB.out | apply wA | apply wN | apply wD | refine bS ?_ (IsS81.ge HI0.out) | refine bS ?_ GE132.out | refine bS ?_ GE139.out) | exact HB.out)) hb)
         clear HO137
         clear HI0
         clear BK132
         clear BK139
         clear HK
         clear HB
         have HO137 := n0_
         have HO153 := n1_
         have HI0 := n2_
         have BK132 := n3_
         have BK139 := n4_
         have HK := n5_
         have HB := n6_
         clear n0_ n1_ n2_ n3_ n4_ n5_ n6_
         clear hb ho60
         obtain ⟨Ao61, co61, eo61⟩ := Kd.R_slice HO153.out
         subst eo61
         obtain ⟨ado61, fo61, _⟩ := Kd.at_int (Kd.R_reads' HO153.out).2.2 0 (by decide) (by rw [Ny151.out]; simp)
         cases fo61
         refine hK.out _ _ ⟨bC BK139.out 0 rfl, bC BK139.out 1 rfl, bC BK139.out 2 rfl⟩ (fun hHeld => ?_)
         clear hK K
         refine norm_ (a' := ?_) ?_ ?_
         rotate_left
         ·show Act.put _ (some 29) _ = _
          simp only [Act.put, sqA, sqZ, sqS, i64_w, i32_w]
          rfl
         exact norm_ (by simp only [putAll, Act.put, sqA, sqZ, sqS]) (hCont (.slice (some ado61) y151.length co61, ado61) _ ⟨hHeld, (Kd.R_mono HO137.out (fun _ hk => hk.2)), (Kd.R_mono HO153.out (fun _ hk => hk.2)), ⟨_, rfl⟩, (by (with_reducible repeat (first | refine bN ?_ _ | refine bD ?_ | refine bA ?_ _)); exact BK132.out), (by (with_reducible repeat (first | refine bN ?_ _ | refine bD ?_ | refine bA ?_ _)); exact BK139.out), (by repeat (first | (with_reducible first | exact HI0.out | apply IsS81.alloc | apply IsS81.drewN | apply IsS81.drew | apply IsS81.set_1 | apply IsS81.far (hne := NB0_132.out) | apply IsS81.far (hne := NB0_139.out)) | exact HI0.out)), (by repeat (first | (with_reducible first | exact HK.out | apply KeepBut.set_ | apply keep_drewN | apply keep_drew | apply keep_alloc | refine keep_far ?_ GW132.out _ | refine keep_far ?_ GW139.out _) | exact HK.out)), (by repeat (first | (with_reducible first | exact HB.out | apply wA | apply wN | apply wD | refine bS ?_ (IsS81.ge HI0.out) | refine bS ?_ GE132.out | refine bS ?_ GE139.out) | exact HB.out))⟩)
       rintro ⟨v152, adz_v152⟩ w62 ⟨hS_, h0_, h1_, h2_, h3_, h4_, h5_, h6_, h7_⟩
       (try dsimp only at h0_ h1_ h2_ h3_ h4_ h5_ h6_ h7_)
       have n0_ := Aside0.mk h0_
       have n1_ := Aside0.mk h1_
       have n2_ := Aside0.mk h2_
       have n3_ := Aside0.mk h3_
       have n4_ := Aside0.mk h4_
       have n5_ := Aside0.mk h5_
       have n6_ := Aside0.mk h6_
       have n7_ := Aside0.mk h7_
       clear HO137
       clear BK132
       clear BK139
       clear HI0
       clear HK
       clear HB
       clear h0_ h1_ h2_ h3_ h4_ h5_ h6_ h7_
       have HO137 := n0_
       have HO153 := n1_
       have HA_HO153 := n2_
       have BK132 := n3_
       have BK139 := n4_
       have HI0 := n5_
       have HK := n6_
       have HB := n7_
       clear n0_ n1_ n2_ n3_ n4_ n5_ n6_ n7_
       have hHeld : w62.cell? ⟨gb139, 0, none⟩ = some (.int .i64 t133) ∧ w62.cell? ⟨gb139, 1, none⟩ = some (.int .i64 t134) ∧ w62.cell? ⟨gb139, 2, none⟩ = some (.slice Ao55 t135.length co55) := hS_
       obtain ⟨co63, eo63⟩ := HA_HO153.out
       clear HA_HO153
       subst eo63
       have p48 : 0 ≤ (0 : Int) := (by omega)
       have q48 : (0 : Int) < ((t135.length : Int) : Int) := of_decide_eq_true (by first | (with_reducible assumption) | assumption)
       have qi48 : (0 < t135.length) = True := eq_true (by omega)
       obtain ⟨go48, co48, eo48, gb48, gl48, cl48, HG48⟩ := Kd.R_form HO137.out (by omega)
       (first | cases eo48 | (injection eo48 with ea_ en_ ec_; (first | subst ea_ | (injection ea_ with ea_; subst ea_)); subst ec_; clear en_))
       have GB48 := Aside0.mk gb48
       have GG48 := Aside0.mk HG48
       clear gb48 gl48 HG48
       obtain ⟨hx48_0, hf48_0⟩ := Kd.R_celln 0 HO137.out (0 : Int) p48 q48
       (try rw [show ((0 : Int)).toNat = 0 from rfl] at hx48_0)
       (try simp only [Nat.reduceMul, Nat.zero_mul, Nat.zero_add, Nat.reduceAdd] at hx48_0)
       (try rw [show ((0 : Int)).toNat = 0 from rfl] at hf48_0)
       (try simp only [Nat.reduceMul, Nat.zero_mul, Nat.zero_add, Nat.reduceAdd] at hf48_0)
       replace p48 := eq_true p48
       replace q48 := eq_true q48
       have HN0_go48 := A0 (show g ≠ go48 from by have h_ := IsS81.own_ne HI0.out HO137.out (by decide); intro e_; exact h_ (by rw [e_]; rfl))
       have HP64 := Kd.R_putn HO137.out (0 : Int) (rd y151 t154)
       rw [← Ny157.out] at HP64
       have HQ64 := Aside0.mk HP64
       clear HP64
       refine norm_ (a' := ?_) ?_ ?_
       rotate_left
       ·simp only [putAll, Act.put, sqA, sqZ, sqS]
        rfl
       refine pure_ (i := 5) (N := some 32) (v := ?_) (a' := ?_) #[true, true, true, true, true, true, false, false, false] rfl rfl (any_of HT_.out (by kernel_rfl)) (fun _ _ _ h => h) (Or.inl ⟨by rfl, ?_⟩) ?_ ?_
       rotate_left
       ·intro w'
        go_simp
        with_reducible rfl
       rotate_left
       ·simp only [Act.put, sqA, sqZ, sqS, i64_w, i32_w]
        rfl
       refine one_ (i := 6) (N := some 33) #[true, true, true, true, true, true, true, false, false] rfl rfl (one_of HT_.out (by kernel_rfl)) (by decide) (fun K hK => ?_)
       (have p156 : 0 ≤ (t154 : Int) := of_decide_eq_true (by first | (with_reducible assumption) | assumption); have q156 : t154 < (y151.length : Int) := of_decide_eq_true (by first | (with_reducible assumption) | assumption); obtain ⟨ad156, e156, hx156_0⟩ := Kd.at_int (Kd.R_reads' HO153.out).2.2 t154 p156 q156; obtain rfl : adz_v152 = ad156 := (by injection e156))
       refine value_ (w1 := ?_) (v := ?_) (by rfl) rfl ?_ ?_
       rotate_left 2
       ·go_simp
        constructor
        ·rfl
        ·rfl
       clear hx156_0
       refine hK.out _ _ ⟨bC BK139.out 0 rfl, bC BK139.out 1 rfl, bC BK139.out 2 rfl⟩ (fun hHeld => ?_)
       clear hK K
       refine norm_ (a' := ?_) ?_ ?_
       rotate_left
       ·show Act.put _ (some 33) _ = _
        simp only [Act.put, sqA, sqZ, sqS, i64_w, i32_w]
        rfl
       refine pure_ (i := 7) (N := some 34) (v := ?_) (a' := ?_) #[true, true, true, true, true, true, true, true, false] rfl rfl (any_of HT_.out (by kernel_rfl)) (fun _ _ _ h => h) (Or.inl ⟨by rfl, ?_⟩) ?_ ?_
       rotate_left
       ·intro w'
        go_simp
        with_reducible rfl
       rotate_left
       ·simp only [Act.put, sqA, sqZ, sqS, i64_w, i32_w]
        rfl
       refine last_ (i := 8) (N := none) #[true, true, true, true, true, true, true, true, true] rfl rfl (one_of HT_.out (by kernel_rfl)) (by decide) (fun K hK => ?_)
       refine skip_ (w1 := ?_) (by rfl) rfl ?_ ?_
       rotate_left
       ·go_simp
        rfl
       refine hK.out _ _ ?_
       clear hK K
       refine done_ (done_of HT_.out (by kernel_rfl)) ?_
       have n0_ : Aside0 (Kd.R (Kd.int .i64) 2 (w62.setCell ⟨go48, 0, none⟩ (.int .i64 (rd y151 t154))) w.heap.size (fun k_ => some k_ ≠ (.slice (some adz_v152) y151.length co63 : Value).ownBlock) (.slice (some ⟨go48, 0, none⟩) t135.length co55) y157) := ⟨HQ64.out⟩
       have n1_ : Aside0 (Kd.R (Kd.int .i64) 2 (w62.setCell ⟨go48, 0, none⟩ (.int .i64 (rd y151 t154))) w.heap.size (fun k_ => some k_ ≠ (.slice (some ⟨go48, 0, none⟩) t135.length co55 : Value).ownBlock) (.slice (some adz_v152) y151.length co63) y151) := ⟨by (with_reducible repeat (first | apply Kd.R_alloc | apply Kd.R_drewN | apply Kd.R_drew)); exact Kd.R_mono (Kd.R_far (p := ⟨go48, 0, none⟩) (Kd.R_mono HO153.out (fun k_ hk => (⟨hk, fun e_ => hk (by rw [e_]; rfl)⟩ : _ ∧ k_ ≠ go48))) (fun _ hk => hk.2) (.int .i64 (rd y151 t154))) (fun _ hk => hk.1)⟩
       have n2_ : Aside0 ((w62.setCell ⟨go48, 0, none⟩ (.int .i64 (rd y151 t154))).heap[gb132]? = some (.cells #[.int .i64 0, .int .i64 0, .slice none 0 0] 27 (0, 0))) := ⟨by (with_reducible repeat (first | refine bN ?_ _ | refine bD ?_ | refine bA ?_ _)); refine blk_far ?_ (by have h_ := Kd.R_ne HO137.out BK132.out (by decide); intro e_; exact h_ (by rw [e_]; rfl)) _; (with_reducible repeat (first | refine bN ?_ _ | refine bD ?_ | refine bA ?_ _)); exact BK132.out⟩
       have n3_ : Aside0 ((w62.setCell ⟨go48, 0, none⟩ (.int .i64 (rd y151 t154))).heap[gb139]? = some (.cells #[.int .i64 t133, .int .i64 t134, .slice (some ⟨go48, 0, none⟩) t135.length co55] 27 (0, 0))) := ⟨by (with_reducible repeat (first | refine bN ?_ _ | refine bD ?_ | refine bA ?_ _)); refine blk_far ?_ (by have h_ := Kd.R_ne HO137.out BK139.out (by decide); intro e_; exact h_ (by rw [e_]; rfl)) _; (with_reducible repeat (first | refine bN ?_ _ | refine bD ?_ | refine bA ?_ _)); exact BK139.out⟩
       have n4_ : Aside0 (IsS81 w0 (w62.setCell ⟨go48, 0, none⟩ (.int .i64 (rd y151 t154))) g s0_0 t155) := ⟨by repeat (first | (with_reducible first | exact HI0.out | apply IsS81.alloc | apply IsS81.drewN | apply IsS81.drew | apply IsS81.set_1 | apply IsS81.far (hne := HN0_go48.out) | apply IsS81.far (hne := NB0_132.out) | apply IsS81.far (hne := NB0_139.out)) | exact HI0.out)⟩
       have n5_ : Aside0 (KeepBut w (w62.setCell ⟨go48, 0, none⟩ (.int .i64 (rd y151 t154))) g none) := ⟨by repeat (first | (with_reducible first | exact HK.out | apply KeepBut.set_ | apply keep_drewN | apply keep_drew | apply keep_alloc | refine keep_far ?_ GB48.out _ | refine keep_far ?_ GW132.out _ | refine keep_far ?_ GW139.out _) | exact HK.out)⟩
       have n6_ : Aside0 (Below w0.heap.size w0 (w62.setCell ⟨go48, 0, none⟩ (.int .i64 (rd y151 t154)))) := ⟨by repeat (first | (with_reducible first | exact HB.out | apply wA | apply wN | apply wD | refine bS ?_ (Nat.le_trans HL.out GB48.out) | refine bS ?_ (IsS81.ge HI0.out) | refine bS ?_ GE132.out | refine bS ?_ GE139.out) | exact HB.out)⟩
       (try clear HO137)
       (try clear HO153)
       (try clear BK132)
       (try clear BK139)
       (try clear HI0)
       (try clear HK)
       (try clear HB)
       generalize (w62.setCell ⟨go48, 0, none⟩ (.int .i64 (rd y151 t154))) = w65 at n0_ n1_ n2_ n3_ n4_ n5_ n6_ ⊢
       have HO137 := n0_
       have HO153 := n1_
       have BK132 := n2_
       have BK139 := n3_
       have HI0 := n4_
       have HK := n5_
       have HB := n6_
       clear n0_ n1_ n2_ n3_ n4_ n5_ n6_
       have hcz66_0 : w65.cell? ⟨gb139, 0, none⟩ = some (.int .i64 t133) := bC BK139.out 0 rfl
       have hcz66_1 : w65.cell? ⟨gb139, 1, none⟩ = some (.int .i64 t134) := bC BK139.out 1 rfl
       have hcz66_2 : w65.cell? ⟨gb139, 2, none⟩ = some (.slice (some ⟨go48, 0, none⟩) t135.length co55) := bC BK139.out 2 rfl
       have hfz66_0 := blk_frozen BK139.out 0
       have hfz66_1 := blk_frozen BK139.out 1
       have hfz66_2 := blk_frozen BK139.out 2
       have hnb67 := NB132_0.out
       have hnc67 := NB0_132.out
       have hcz68_0 : w65.cell? ⟨gb132, 0, none⟩ = some (.int .i64 0) := bC BK132.out 0 rfl
       have hcz68_1 : w65.cell? ⟨gb132, 1, none⟩ = some (.int .i64 0) := bC BK132.out 1 rfl
       have hcz68_2 : w65.cell? ⟨gb132, 2, none⟩ = some (.slice none 0 0) := bC BK132.out 2 rfl
       have hfz68_0 := blk_frozen BK132.out 0
       have hfz68_1 := blk_frozen BK132.out 1
       have hfz68_2 := blk_frozen BK132.out 2
       try go_wp2
       refine bodyPost_ret (results_cell_row rfl _ _ gb132 27 #[.int .i64 t133, .int .i64 t134, .slice (some ⟨go48, 0, none⟩) t135.length co55] (0, 0) _ rfl (by (with_reducible repeat (first | refine bN ?_ _ | refine bD ?_ | refine bA ?_ _)); refine blk_put (cs := #[.int .i64 t133, .int .i64 t134, .slice none 0 0]) ?_ 2 _ rfl; (with_reducible repeat (first | refine bN ?_ _ | refine bD ?_ | refine bA ?_ _)); refine blk_put (cs := #[.int .i64 t133, .int .i64 0, .slice none 0 0]) ?_ 1 _ rfl; (with_reducible repeat (first | refine bN ?_ _ | refine bD ?_ | refine bA ?_ _)); refine blk_put (cs := #[.int .i64 0, .int .i64 0, .slice none 0 0]) ?_ 0 _ rfl; (with_reducible repeat (first | refine bN ?_ _ | refine bD ?_ | refine bA ?_ _)); exact BK132.out) Try.underlying27 rfl (by kernel_rfl)) rfl ?_
       exact ⟨_, by first | rfl | (simp [errW_none, errW_some] <;> rfl) | (simp [*, errW_none, errW_some] <;> rfl), Kd.Q_of_R (Kd.R_mono (Kd.R_far (p := ⟨gb132, 2, none⟩) (Kd.R_far (p := ⟨gb132, 1, none⟩) (Kd.R_far (p := ⟨gb132, 0, none⟩) (Kd.R_types HO137.out BK132.out (by decide)) (fun _ hk => hk.2) (.int .i64 t133)) (fun _ hk => hk.2) (.int .i64 t134)) (fun _ hk => hk.2) (.slice (some ⟨go48, 0, none⟩) t135.length co55)) (fun _ hk => trivial)), by repeat (first | (with_reducible first | exact HI0.out | apply IsS81.alloc | apply IsS81.drewN | apply IsS81.drew | apply IsS81.set_1 | apply IsS81.far (hne := NB0_132.out) | apply IsS81.far (hne := NB0_139.out)) | exact HI0.out), by repeat (first | (with_reducible first | exact HB.out | apply wA | apply wN | apply wD | refine bS ?_ (IsS81.ge HI0.out) | refine bS ?_ GE132.out | refine bS ?_ GE139.out) | exact HB.out), by repeat (first | (with_reducible first | exact HK.out | apply KeepBut.set_ | apply keep_drewN | apply keep_drew | apply keep_alloc | refine keep_far ?_ GW132.out _ | refine keep_far ?_ GW139.out _) | exact HK.out)⟩
      ·rw [if_neg c47] at H
       exact absurd H (by simp)
     ·rw [if_neg c46] at H
      exact absurd H (by simp)
    ·rw [if_neg c45] at H
     exact absurd H (by simp)
   ·rw [if_neg c43] at H
    have c43b0 : (t140 == 2) = false := beq_eq_false_iff_ne.mpr c43
    have c43b1 : (t140 != 2) = true := bne_iff_ne.mpr c43
    simp only [Option.some.injEq, Prod.mk.injEq] at H
    obtain ⟨rfl, rfl, rfl, rfl⟩ := H
    go_enter Try.func40, Try.ntmps40
    go_wp2_with (first | ((with_reducible refine gate_dst (N := 2) rfl ?_); refine box_event ?hg (N := 2) ?hd (cs := #[.int .i64 0, .int .i64 0, .slice none 0 0]) (t := 27) ?hr ?_; (case hd => rfl); (case hg => rfl); (case hr => first | (go_simp; done) | (go_simp; rfl)); intro gb132 hg w69 hbox hb; have n0_ := A0 (IsS81.below HI0.out hb); have n1_ := A0 (KeepBut.trans HK.out (KeepBut.of_below hb g none) (.inl rfl)); have n2_ := A0 (below_step HB.out hb); have n3_ := A0 (hbox); have n4_ := A0 ((by rw [hg]; exact (keep_size (w := w) (g := g) (row := none) HK.out) : w.heap.size ≤ gb132)); have n5_ := A0 ((Nat.le_trans HW0.out (by rw [hg]; exact (keep_size (w := w) (g := g) (row := none) HK.out) : w.heap.size ≤ gb132) : w0.heap.size ≤ gb132)); have n6_ := A0 ((by rw [hg]; exact Nat.ne_of_lt (IsS81.lt (show IsS81 w0 _ g s0_0 s0_1 from by repeat (first | (with_reducible first | exact HI0.out | apply IsS81.alloc | apply IsS81.drewN | apply IsS81.drew | apply IsS81.set_1) | exact HI0.out))) : g ≠ gb132)); have n7_ := A0 ((by rw [hg]; exact Nat.ne_of_gt (IsS81.lt (show IsS81 w0 _ g s0_0 s0_1 from by repeat (first | (with_reducible first | exact HI0.out | apply IsS81.alloc | apply IsS81.drewN | apply IsS81.drew | apply IsS81.set_1) | exact HI0.out))) : gb132 ≠ g)); clear HI0; clear HK; clear HB; have HI0 := n0_; have HK := n1_; have HB := n2_; have BK132 := n3_; have GW132 := n4_; have GE132 := n5_; have NB0_132 := n6_; have NB132_0 := n7_; clear n0_ n1_ n2_ n3_ n4_ n5_ n6_ n7_; clear hb hbox hg) | ((with_reducible refine gate_callee (f := 50) rfl ?_); refine goesL_ (some 5) rfl rfl Try.func50 (by kernel_rfl) rfl #[.pointer (some ⟨g, 0, none⟩)] rfl (by (try simp only [lM, lC, lN]); first | done | rfl | (simp only [lD, lT]; rfl)) ?_; (with_reducible refine (spec_l1Rd_box.calls k g s0_0 s0_1 t133 t134 t135 t138 w0 _ ?side1 ?side2 A2.out).mono ?_); (case side1 => repeat (first | (with_reducible first | exact HI0.out | apply IsS81.alloc | apply IsS81.drewN | apply IsS81.drew | apply IsS81.set_1 | apply IsS81.far (hne := NB0_132.out)) | exact HI0.out)); (case side2 => repeat (first | (with_reducible first | exact HB.out | apply wA | apply wN | apply wD | refine bS ?_ (IsS81.ge HI0.out) | refine bS ?_ GE132.out) | exact HB.out)); rintro e w70 ⟨v136, rfl, ho0, hi, hb, hk⟩; refine ⟨_, rfl, ?_⟩; have n0_ := A0 (KeepBut.blk hk (g' := gb132) (o := .cells #[.int .i64 0, .int .i64 0, .slice none 0 0] 27 (0, 0)) (by (with_reducible repeat (first | refine bN ?_ _ | refine bD ?_ | refine bA ?_ _)); exact BK132.out) NB132_0.out (by simp)); have n1_ := A0 (Kd.R_lower ho0 (keep_size (w := w) (g := g) (row := none) (by repeat (first | (with_reducible first | exact HK.out | apply KeepBut.set_ | apply keep_drewN | apply keep_drew | apply keep_alloc | refine keep_far ?_ GW132.out _) | exact HK.out)))); have n2_ := A0 (KeepBut.trans (by repeat (first | (with_reducible first | exact HK.out | apply KeepBut.set_ | apply keep_drewN | apply keep_drew | apply keep_alloc | refine keep_far ?_ GW132.out _) | exact HK.out)) hk (.inl rfl)); have n3_ := A0 (hb); have n4_ := A0 (hi); clear BK132; clear HK; clear HB; clear HI0; have BK132 := n0_; have HO137 := n1_; have HK := n2_; have HB := n3_; have HI0 := n4_; clear n0_ n1_ n2_ n3_ n4_; (try clear hb); (try clear hb2); (try clear hk); (try clear hi); (try clear ho0)) | ((with_reducible refine gate_dst (N := 3) rfl ?_); refine box_event ?hg (N := 3) ?hd (cs := #[.int .i64 0, .int .i64 0, .slice none 0 0]) (t := 27) ?hr ?_; (case hd => rfl); (case hg => rfl); (case hr => first | (go_simp; done) | (go_simp; rfl)); intro gb139 hg w71 hbox hb; have n0_ := A0 (Kd.R_below HO137.out hb); have n1_ := A0 (IsS81.below (by repeat (first | (with_reducible first | exact HI0.out | apply IsS81.alloc | apply IsS81.drewN | apply IsS81.drew | apply IsS81.set_1 | apply IsS81.far (hne := NB0_132.out)) | exact HI0.out)) hb); have n2_ := A0 (blk_below (g := gb132) (o := .cells #[.int .i64 0, .int .i64 0, .slice none 0 0] 27 (0, 0)) (by (with_reducible repeat (first | refine bN ?_ _ | refine bD ?_ | refine bA ?_ _)); exact BK132.out) hb); have n3_ := A0 (KeepBut.trans (by repeat (first | (with_reducible first | exact HK.out | apply KeepBut.set_ | apply keep_drewN | apply keep_drew | apply keep_alloc | refine keep_far ?_ GW132.out _) | exact HK.out)) (KeepBut.of_below hb g none) (.inl rfl)); have n4_ := A0 (below_step (by repeat (first | (with_reducible first | exact HB.out | apply wA | apply wN | apply wD | refine bS ?_ (IsS81.ge HI0.out) | refine bS ?_ GE132.out) | exact HB.out)) hb); have n5_ := A0 (hbox); have n6_ := A0 ((by rw [hg]; exact (keep_size (w := w) (g := g) (row := none) (by repeat (first | (with_reducible first | exact HK.out | apply KeepBut.set_ | apply keep_drewN | apply keep_drew | apply keep_alloc | refine keep_far ?_ GW132.out _) | exact HK.out))) : w.heap.size ≤ gb139)); have n7_ := A0 ((Nat.le_trans HW0.out (by rw [hg]; exact (keep_size (w := w) (g := g) (row := none) (by repeat (first | (with_reducible first | exact HK.out | apply KeepBut.set_ | apply keep_drewN | apply keep_drew | apply keep_alloc | refine keep_far ?_ GW132.out _) | exact HK.out))) : w.heap.size ≤ gb139) : w0.heap.size ≤ gb139)); have n8_ := A0 ((by rw [hg]; exact Nat.ne_of_lt (blk_lt (g := gb132) (o := .cells #[.int .i64 0, .int .i64 0, .slice none 0 0] 27 (0, 0)) (by (with_reducible repeat (first | refine bN ?_ _ | refine bD ?_ | refine bA ?_ _)); exact BK132.out)) : gb132 ≠ gb139)); have n9_ := A0 ((by rw [hg]; exact Nat.ne_of_gt (blk_lt (g := gb132) (o := .cells #[.int .i64 0, .int .i64 0, .slice none 0 0] 27 (0, 0)) (by (with_reducible repeat (first | refine bN ?_ _ | refine bD ?_ | refine bA ?_ _)); exact BK132.out)) : gb139 ≠ gb132)); have n10_ := A0 ((by rw [hg]; exact Nat.ne_of_lt (IsS81.lt (show IsS81 w0 _ g s0_0 t138 from by repeat (first | (with_reducible first | exact HI0.out | apply IsS81.alloc | apply IsS81.drewN | apply IsS81.drew | apply IsS81.set_1 | apply IsS81.far (hne := NB0_132.out)) | exact HI0.out))) : g ≠ gb139)); have n11_ := A0 ((by rw [hg]; exact Nat.ne_of_gt (IsS81.lt (show IsS81 w0 _ g s0_0 t138 from by repeat (first | (with_reducible first | exact HI0.out | apply IsS81.alloc | apply IsS81.drewN | apply IsS81.drew | apply IsS81.set_1 | apply IsS81.far (hne := NB0_132.out)) | exact HI0.out))) : gb139 ≠ g)); clear HO137; clear HI0; clear BK132; clear HK; clear HB; have HO137 := n0_; have HI0 := n1_; have BK132 := n2_; have HK := n3_; have HB := n4_; have BK139 := n5_; have GW139 := n6_; have GE139 := n7_; have NB132_139 := n8_; have NB139_132 := n9_; have NB0_139 := n10_; have NB139_0 := n11_; clear n0_ n1_ n2_ n3_ n4_ n5_ n6_ n7_ n8_ n9_ n10_ n11_; clear hb hbox hg; have hnb72 := NB139_132.out; have hnc72 := NB132_139.out; have hnb73 := NB139_0.out; have hnc73 := NB0_139.out; have hcz74_0 : w71.cell? ⟨gb139, 0, none⟩ = some (.int .i64 0) := bC BK139.out 0 rfl; have hcz74_1 : w71.cell? ⟨gb139, 1, none⟩ = some (.int .i64 0) := bC BK139.out 1 rfl; have hcz74_2 : w71.cell? ⟨gb139, 2, none⟩ = some (.slice none 0 0) := bC BK139.out 2 rfl; have hfz74_0 := blk_frozen BK139.out 0; have hfz74_1 := blk_frozen BK139.out 1; have hfz74_2 := blk_frozen BK139.out 2; obtain ⟨Ao75, co75, eo75⟩ := Kd.R_slice HO137.out; subst eo75) | ((with_reducible refine gate_callee (f := 49) rfl ?_); refine goesL_ (some 7) rfl rfl Try.func49 (by kernel_rfl) rfl #[.pointer (some ⟨g, 0, none⟩), .int .i64 24] rfl (by (try simp only [lM, lC, lN]); first | done | rfl | (simp only [lD, lT]; rfl)) ?_; (with_reducible refine (spec_l1Rd_below.calls g s0_0 t138 24 t140 t141 w0 _ ?side1 ?side2 A3.out).mono ?_); (case side1 => repeat (first | (with_reducible first | exact HI0.out | apply IsS81.alloc | apply IsS81.drewN | apply IsS81.drew | apply IsS81.set_1 | apply IsS81.far (hne := NB0_132.out) | apply IsS81.far (hne := NB0_139.out)) | exact HI0.out)); (case side2 => repeat (first | (with_reducible first | exact HB.out | apply wA | apply wN | apply wD | refine bS ?_ (IsS81.ge HI0.out) | refine bS ?_ GE132.out | refine bS ?_ GE139.out) | exact HB.out)); rintro e w76 ⟨rfl, hi, hb, hk⟩; refine ⟨_, rfl, ?_⟩; have n0_ := A0 (KeepBut.blk hk (g' := gb132) (o := .cells #[.int .i64 0, .int .i64 0, .slice none 0 0] 27 (0, 0)) (by (with_reducible repeat (first | refine bN ?_ _ | refine bD ?_ | refine bA ?_ _)); refine blk_far ?_ NB132_139.out _; (with_reducible repeat (first | refine bN ?_ _ | refine bD ?_ | refine bA ?_ _)); refine blk_far ?_ NB132_139.out _; (with_reducible repeat (first | refine bN ?_ _ | refine bD ?_ | refine bA ?_ _)); refine blk_far ?_ NB132_139.out _; (with_reducible repeat (first | refine bN ?_ _ | refine bD ?_ | refine bA ?_ _)); exact BK132.out) NB132_0.out (by simp)); have n1_ := A0 (Kd.R_mono (Kd.R_keep (IsS81.apart (show IsS81 w0 _ g s0_0 t138 from by repeat (first | (with_reducible first | exact HI0.out | apply IsS81.alloc | apply IsS81.drewN | apply IsS81.drew | apply IsS81.set_1 | apply IsS81.far (hne := NB0_132.out) | apply IsS81.far (hne := NB0_139.out)) | exact HI0.out)) ((Kd.R_mono (Kd.R_far (p := ⟨gb139, 2, none⟩) (Kd.R_far (p := ⟨gb139, 1, none⟩) (Kd.R_far (p := ⟨gb139, 0, none⟩) (Kd.R_types HO137.out BK139.out (by decide)) (fun _ hk => hk.2) (.int .i64 t133)) (fun _ hk => hk.2) (.int .i64 t134)) (fun _ hk => hk.2) (.slice Ao75 t135.length co75)) (fun _ h_ => h_.1))) (by decide)) hk (fun _ h => h.2)) (fun _ h => h.1)); have n2_ := A0 (KeepBut.blk hk (g' := gb139) (o := .cells #[.int .i64 t133, .int .i64 t134, .slice Ao75 t135.length co75] 27 (0, 0)) (by (with_reducible repeat (first | refine bN ?_ _ | refine bD ?_ | refine bA ?_ _)); refine blk_put (cs := #[.int .i64 t133, .int .i64 t134, .slice none 0 0]) ?_ 2 _ rfl; (with_reducible repeat (first | refine bN ?_ _ | refine bD ?_ | refine bA ?_ _)); refine blk_put (cs := #[.int .i64 t133, .int .i64 0, .slice none 0 0]) ?_ 1 _ rfl; (with_reducible repeat (first | refine bN ?_ _ | refine bD ?_ | refine bA ?_ _)); refine blk_put (cs := #[.int .i64 0, .int .i64 0, .slice none 0 0]) ?_ 0 _ rfl; (with_reducible repeat (first | refine bN ?_ _ | refine bD ?_ | refine bA ?_ _)); exact BK139.out) NB139_0.out (by simp)); have n3_ := A0 (KeepBut.trans (by repeat (first | (with_reducible first | exact HK.out | apply KeepBut.set_ | apply keep_drewN | apply keep_drew | apply keep_alloc | refine keep_far ?_ GW132.out _ | refine keep_far ?_ GW139.out _) | exact HK.out)) hk (.inl rfl)); have n4_ := A0 (hb); have n5_ := A0 (hi); clear BK132; clear HO137; clear BK139; clear HK; clear HB; clear HI0; have BK132 := n0_; have HO137 := n1_; have BK139 := n2_; have HK := n3_; have HB := n4_; have HI0 := n5_; clear n0_ n1_ n2_ n3_ n4_ n5_; (try clear hb); (try clear hb2); (try clear hk); (try clear hi); have hcz77_0 : w76.cell? ⟨gb139, 0, none⟩ = some (.int .i64 t133) := bC BK139.out 0 rfl; have hcz77_1 : w76.cell? ⟨gb139, 1, none⟩ = some (.int .i64 t134) := bC BK139.out 1 rfl; have hcz77_2 : w76.cell? ⟨gb139, 2, none⟩ = some (.slice Ao75 t135.length co75) := bC BK139.out 2 rfl; have hfz77_0 := blk_frozen BK139.out 0; have hfz77_1 := blk_frozen BK139.out 1; have hfz77_2 := blk_frozen BK139.out 2; have hnb78 := NB132_0.out; have hnc78 := NB0_132.out; have hcz79_0 : w76.cell? ⟨gb132, 0, none⟩ = some (.int .i64 0) := bC BK132.out 0 rfl; have hcz79_1 : w76.cell? ⟨gb132, 1, none⟩ = some (.int .i64 0) := bC BK132.out 1 rfl; have hcz79_2 : w76.cell? ⟨gb132, 2, none⟩ = some (.slice none 0 0) := bC BK132.out 2 rfl; have hfz79_0 := blk_frozen BK132.out 0; have hfz79_1 := blk_frozen BK132.out 1; have hfz79_2 := blk_frozen BK132.out 2))
    refine bodyPost_ret (results_cell_row rfl _ _ gb132 27 #[.int .i64 t133, .int .i64 t134, .slice Ao75 t135.length co75] (0, 0) _ rfl (by (with_reducible repeat (first | refine bN ?_ _ | refine bD ?_ | refine bA ?_ _)); refine blk_put (cs := #[.int .i64 t133, .int .i64 t134, .slice none 0 0]) ?_ 2 _ rfl; (with_reducible repeat (first | refine bN ?_ _ | refine bD ?_ | refine bA ?_ _)); refine blk_put (cs := #[.int .i64 t133, .int .i64 0, .slice none 0 0]) ?_ 1 _ rfl; (with_reducible repeat (first | refine bN ?_ _ | refine bD ?_ | refine bA ?_ _)); refine blk_put (cs := #[.int .i64 0, .int .i64 0, .slice none 0 0]) ?_ 0 _ rfl; (with_reducible repeat (first | refine bN ?_ _ | refine bD ?_ | refine bA ?_ _)); exact BK132.out) Try.underlying27 rfl (by kernel_rfl)) rfl ?_
    exact ⟨_, by first | rfl | (simp [errW_none, errW_some] <;> rfl) | (simp [*, errW_none, errW_some] <;> rfl), Kd.Q_of_R (Kd.R_mono (Kd.R_far (p := ⟨gb132, 2, none⟩) (Kd.R_far (p := ⟨gb132, 1, none⟩) (Kd.R_far (p := ⟨gb132, 0, none⟩) (Kd.R_types HO137.out BK132.out (by decide)) (fun _ hk => hk.2) (.int .i64 t133)) (fun _ hk => hk.2) (.int .i64 t134)) (fun _ hk => hk.2) (.slice Ao75 t135.length co75)) (fun _ hk => trivial)), by repeat (first | (with_reducible first | exact HI0.out | apply IsS81.alloc | apply IsS81.drewN | apply IsS81.drew | apply IsS81.set_1 | apply IsS81.far (hne := NB0_132.out) | apply IsS81.far (hne := NB0_139.out)) | exact HI0.out), by repeat (first | (with_reducible first | exact HB.out | apply wA | apply wN | apply wD | refine bS ?_ (IsS81.ge HI0.out) | refine bS ?_ GE132.out | refine bS ?_ GE139.out) | exact HB.out), by repeat (first | (with_reducible first | exact HK.out | apply KeepBut.set_ | apply keep_drewN | apply keep_drew | apply keep_alloc | refine keep_far ?_ GW132.out _ | refine keep_far ?_ GW139.out _) | exact HK.out)⟩

end Go.Proofs.Ytcdghhihfjojaab.Q
