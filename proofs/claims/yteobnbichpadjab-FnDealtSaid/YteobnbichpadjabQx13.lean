/- Plain Lean functions with the same answers as the Go functions of this seat, and a proof for each that the Go code comes to just these answers; no condition. Written by a program of this session (the kit's printer, turned). -/
import Derived.Test.YteobnbichpadjabQx0
import Derived.Test.YteobnbichpadjabQx2
import Derived.Test.YteobnbichpadjabQx4
namespace Go.Proofs.Yteobnbichpadjab.Q
open Go.RowKit Go.Proofs.YteobnbichpadjabW.PrintWords Go.Proofs.YteobnbichpadjabW.PrintLast Go.Proofs.YteobnbichpadjabW.PrintMore Go.Proofs.YteobnbichpadjabW.PrintFlt
attribute [local go_sem] cmp_lss cmp_leq cmp_gtr cmp_geq cmp_eql cmp_neq flt_l flt_r fgt_l fgt_r feq_l feq_r fne_l fne_r ord_lt ord_gt ord_eq ord_ne conv_int foi_fold run_store_flt
attribute [local go_sem] max2_int min2_int max_two min_two max_three min_three max_four min_four   -- for this text's walks alone
set_option linter.unusedVariables false
set_option linter.unusedSimpArgs false

/-! ### spec_l1Rd_entry: function 80 -/
def spec_l1Rd_entry.f (s0_0 : List Int) (s0_1 : Int) : Option (ByteArray × Int × Int × Int × Int × Int) := (some (([(⟨#[116]⟩ : ByteArray), (⟨#[117]⟩ : ByteArray), (⟨#[118]⟩ : ByteArray), (⟨#[109, 115, 108]⟩ : ByteArray), (⟨#[116, 112]⟩ : ByteArray)] : List ByteArray) : List ByteArray)).bind fun y154 => ((spec_l1Rd_below.f s0_0 s0_1 5).bind fun bt157 => (if 0 ≤ bt157.1 then (if bt157.1 < (y154.length : Int) then ((spec_l1Rd_below.f s0_0 bt157.2 3).bind fun bt160 => ((spec_l1Rd_below.f s0_0 bt160.2 5).bind fun bt162 => ((some (([0, 500, 850] : List Int) : List Int)).bind fun y164 => ((spec_l1Rd_below.f s0_0 bt162.2 3).bind fun bt167 => (if 0 ≤ bt167.1 then (if bt167.1 < (y164.length : Int) then ((spec_l1Rd_below.f s0_0 bt167.2 90).bind fun bt170 => (some (rdOf ByteArray.empty y154 bt157.1, wrap64 (14130000 + (wrap64 (bt160.1 * 720))), wrap64 (bt162.1 * 6), rd y164 bt167.1, bt170.1, bt170.2))) else (none)) else (none)))))) else (none)) else (none)))
def spec_l1Rd_entry.T1 : Bool × List (List Nat × List Nat) := (true, [([], []), ([], []), ([1], [1]), ([0, 2], [0, 2]), ([3], [3]), ([], []), ([5, 2], [5]), ([6], [6]), ([7], [7]), ([], []), ([9, 6], [9]), ([10], [10]), ([], []), ([], []), ([13, 10], [13]), ([12, 14], [12, 14]), ([15], [15]), ([], []), ([17, 14], [17]), ([4, 8, 11, 16, 18], [4, 8, 11, 16, 18]), ([19, 18, 0, 1, 2, 3, 4, 5, 6, 7, 8, 9, 10, 11, 12, 13, 14, 15, 16, 17, 18, 19], [19])])
def spec_l1Rd_entry.B1 : List Nat := [0, 0, 2, 7, 15, 0, 38, 102, 230, 0, 614, 1638, 0, 0, 9830, 30310, 63078, 0, 157286, 524287, 1048575]
theorem spec_l1Rd_entry.tab1 : rtab .any (opsOf Try.f80 1) = spec_l1Rd_entry.T1 := by kernel_rfl
theorem spec_l1Rd_entry.bits1 : waitsOk spec_l1Rd_entry.T1.2 spec_l1Rd_entry.B1 = true := by kernel_rfl
set_option maxHeartbeats 8000000 in
set_option maxRecDepth 100000 in
theorem spec_l1Rd_entry.calls (g : Nat) (s0_0 : List Int) (s0_1 : Int) (r1 : ByteArray) (r2 : Int) (r3 : Int) (r4 : Int) (r5 : Int) (r6 : Int) (w0 w : World) (hI : IsS78 w0 w g s0_0 s0_1) (hB : Below w0.heap.size w0 w) (h : spec_l1Rd_entry.f s0_0 s0_1 = some (r1, r2, r3, r4, r5, r6)) :
  Calls Try.prog 80 #[.pointer (some ⟨g, 0, none⟩)] w fun e w' => e = .returned (.agg #[.string r1, .int .i64 r2, .int .i64 r3, .int .i64 r4, .int .i64 r5]) ∧ IsS78 w0 w' g s0_0 r6 ∧ Below w0.heap.size w0 w' ∧ KeepBut w w' g none := by
 have hu31 := Try.underlying31
 have HI0 := Aside0.mk hI
 have HK := Aside0.mk (KeepBut.refl w g none)
 have HL := Aside0.mk hB.size
 clear hI
 have HW0 := Aside0.mk hB.size
 have HB := Aside0.mk hB
 clear hB
 have H : ((some (([(⟨#[116]⟩ : ByteArray), (⟨#[117]⟩ : ByteArray), (⟨#[118]⟩ : ByteArray), (⟨#[109, 115, 108]⟩ : ByteArray), (⟨#[116, 112]⟩ : ByteArray)] : List ByteArray) : List ByteArray)).bind fun y154 => ((spec_l1Rd_below.f s0_0 s0_1 5).bind fun bt157 => (if 0 ≤ bt157.1 then (if bt157.1 < (y154.length : Int) then ((spec_l1Rd_below.f s0_0 bt157.2 3).bind fun bt160 => ((spec_l1Rd_below.f s0_0 bt160.2 5).bind fun bt162 => ((some (([0, 500, 850] : List Int) : List Int)).bind fun y164 => ((spec_l1Rd_below.f s0_0 bt162.2 3).bind fun bt167 => (if 0 ≤ bt167.1 then (if bt167.1 < (y164.length : Int) then ((spec_l1Rd_below.f s0_0 bt167.2 90).bind fun bt170 => (some (rdOf ByteArray.empty y154 bt157.1, wrap64 (14130000 + (wrap64 (bt160.1 * 720))), wrap64 (bt162.1 * 6), rd y164 bt167.1, bt170.1, bt170.2))) else (none)) else (none)))))) else (none)) else (none)))) = some (r1, r2, r3, r4, r5, r6) := h
 clear h
 obtain ⟨y154, hy154⟩ : ∃ y_ : List ByteArray, y_ = (([(⟨#[116]⟩ : ByteArray), (⟨#[117]⟩ : ByteArray), (⟨#[118]⟩ : ByteArray), (⟨#[109, 115, 108]⟩ : ByteArray), (⟨#[116, 112]⟩ : ByteArray)] : List ByteArray)) := ⟨_, rfl⟩
 replace H : ((spec_l1Rd_below.f s0_0 s0_1 5).bind fun bt157 => (if 0 ≤ bt157.1 then (if bt157.1 < (y154.length : Int) then ((spec_l1Rd_below.f s0_0 bt157.2 3).bind fun bt160 => ((spec_l1Rd_below.f s0_0 bt160.2 5).bind fun bt162 => ((some (([0, 500, 850] : List Int) : List Int)).bind fun y164 => ((spec_l1Rd_below.f s0_0 bt162.2 3).bind fun bt167 => (if 0 ≤ bt167.1 then (if bt167.1 < (y164.length : Int) then ((spec_l1Rd_below.f s0_0 bt167.2 90).bind fun bt170 => (some (rdOf ByteArray.empty y154 bt157.1, wrap64 (14130000 + (wrap64 (bt160.1 * 720))), wrap64 (bt162.1 * 6), rd y164 bt167.1, bt170.1, bt170.2))) else (none)) else (none)))))) else (none)) else (none))) = some (r1, r2, r3, r4, r5, r6) := by first | (rw [hy154]; with_reducible exact H) | (have H2_ := (Option.bind_some _ _).symm.trans H; rw [hy154]; with_reducible exact H2_) | (have H2_ := (Option.bind_some _ _).symm.trans H; with_reducible exact H2_) | with_reducible exact H | (rw [hy154]; exact H) | exact H
 have Ny154 := Aside0.mk hy154
 clear hy154
 replace H := Option.bind_eq_some_iff.mp H
 obtain ⟨⟨t157, t158⟩, A20, H⟩ := H
 replace H : (if 0 ≤ t157 then (if t157 < (y154.length : Int) then ((spec_l1Rd_below.f s0_0 t158 3).bind fun bt160 => ((spec_l1Rd_below.f s0_0 bt160.2 5).bind fun bt162 => ((some (([0, 500, 850] : List Int) : List Int)).bind fun y164 => ((spec_l1Rd_below.f s0_0 bt162.2 3).bind fun bt167 => (if 0 ≤ bt167.1 then (if bt167.1 < (y164.length : Int) then ((spec_l1Rd_below.f s0_0 bt167.2 90).bind fun bt170 => (some (rdOf ByteArray.empty y154 t157, wrap64 (14130000 + (wrap64 (bt160.1 * 720))), wrap64 (bt162.1 * 6), rd y164 bt167.1, bt170.1, bt170.2))) else (none)) else (none)))))) else (none)) else (none)) = some (r1, r2, r3, r4, r5, r6) := H
 have A2 := Aside0.mk A20
 clear A20
 by_cases c3 : 0 ≤ t157
 ·rw [if_pos c3] at H
  have c3b0 : decide (0 ≤ t157) = true := decide_eq_true c3
  clear c3
  by_cases c4 : t157 < (y154.length : Int)
  ·rw [if_pos c4] at H
   have c4b0 : decide (t157 < (y154.length : Int)) = true := decide_eq_true c4
   clear c4
   replace H := Option.bind_eq_some_iff.mp H
   obtain ⟨⟨t160, t161⟩, A50, H⟩ := H
   replace H : ((spec_l1Rd_below.f s0_0 t161 5).bind fun bt162 => ((some (([0, 500, 850] : List Int) : List Int)).bind fun y164 => ((spec_l1Rd_below.f s0_0 bt162.2 3).bind fun bt167 => (if 0 ≤ bt167.1 then (if bt167.1 < (y164.length : Int) then ((spec_l1Rd_below.f s0_0 bt167.2 90).bind fun bt170 => (some (rdOf ByteArray.empty y154 t157, wrap64 (14130000 + (wrap64 (t160 * 720))), wrap64 (bt162.1 * 6), rd y164 bt167.1, bt170.1, bt170.2))) else (none)) else (none))))) = some (r1, r2, r3, r4, r5, r6) := H
   have A5 := Aside0.mk A50
   clear A50
   replace H := Option.bind_eq_some_iff.mp H
   obtain ⟨⟨t162, t163⟩, A60, H⟩ := H
   replace H : ((some (([0, 500, 850] : List Int) : List Int)).bind fun y164 => ((spec_l1Rd_below.f s0_0 t163 3).bind fun bt167 => (if 0 ≤ bt167.1 then (if bt167.1 < (y164.length : Int) then ((spec_l1Rd_below.f s0_0 bt167.2 90).bind fun bt170 => (some (rdOf ByteArray.empty y154 t157, wrap64 (14130000 + (wrap64 (t160 * 720))), wrap64 (t162 * 6), rd y164 bt167.1, bt170.1, bt170.2))) else (none)) else (none)))) = some (r1, r2, r3, r4, r5, r6) := H
   have A6 := Aside0.mk A60
   clear A60
   obtain ⟨y164, hy164⟩ : ∃ y_ : List Int, y_ = (([0, 500, 850] : List Int)) := ⟨_, rfl⟩
   replace H : ((spec_l1Rd_below.f s0_0 t163 3).bind fun bt167 => (if 0 ≤ bt167.1 then (if bt167.1 < (y164.length : Int) then ((spec_l1Rd_below.f s0_0 bt167.2 90).bind fun bt170 => (some (rdOf ByteArray.empty y154 t157, wrap64 (14130000 + (wrap64 (t160 * 720))), wrap64 (t162 * 6), rd y164 bt167.1, bt170.1, bt170.2))) else (none)) else (none))) = some (r1, r2, r3, r4, r5, r6) := by first | (rw [hy164]; with_reducible exact H) | (have H2_ := (Option.bind_some _ _).symm.trans H; rw [hy164]; with_reducible exact H2_) | (have H2_ := (Option.bind_some _ _).symm.trans H; with_reducible exact H2_) | with_reducible exact H | (rw [hy164]; exact H) | exact H
   have Ny164 := Aside0.mk hy164
   clear hy164
   replace H := Option.bind_eq_some_iff.mp H
   obtain ⟨⟨t167, t168⟩, A70, H⟩ := H
   replace H : (if 0 ≤ t167 then (if t167 < (y164.length : Int) then ((spec_l1Rd_below.f s0_0 t168 90).bind fun bt170 => (some (rdOf ByteArray.empty y154 t157, wrap64 (14130000 + (wrap64 (t160 * 720))), wrap64 (t162 * 6), rd y164 t167, bt170.1, bt170.2))) else (none)) else (none)) = some (r1, r2, r3, r4, r5, r6) := H
   have A7 := Aside0.mk A70
   clear A70
   by_cases c8 : 0 ≤ t167
   ·rw [if_pos c8] at H
    have c8b0 : decide (0 ≤ t167) = true := decide_eq_true c8
    clear c8
    by_cases c9 : t167 < (y164.length : Int)
    ·rw [if_pos c9] at H
     have c9b0 : decide (t167 < (y164.length : Int)) = true := decide_eq_true c9
     clear c9
     replace H := Option.bind_eq_some_iff.mp H
     obtain ⟨⟨t170, t171⟩, A100, H⟩ := H
     replace H : (some (rdOf ByteArray.empty y154 t157, wrap64 (14130000 + (wrap64 (t160 * 720))), wrap64 (t162 * 6), rd y164 t167, t170, t171)) = some (r1, r2, r3, r4, r5, r6) := H
     have A10 := Aside0.mk A100
     clear A100
     simp only [Option.some.injEq, Prod.mk.injEq] at H
     obtain ⟨rfl, rfl, rfl, rfl, rfl, rfl⟩ := H
     go_enter Try.func80, Try.ntmps80
     try go_wp2_with (first | ((with_reducible refine gate_dst (N := 2) rfl ?_); refine box_event ?hg (N := 2) ?hd (cs := #[.string (⟨#[]⟩ : ByteArray), .int .i64 0, .int .i64 0, .int .i64 0, .int .i64 0]) (t := 31) ?hr ?_; (case hd => rfl); (case hg => rfl); (case hr => first | (go_simp; done) | (go_simp; rfl)); intro gb153 hg w11 hbox hb; have n0_ := Aside0.mk (IsS78.below (by repeat (first | (with_reducible first | exact HI0.out | apply IsS78.alloc | apply IsS78.drewN | apply IsS78.drew | apply IsS78.set_1) | exact HI0.out)) hb); have n1_ := Aside0.mk (KeepBut.trans (by repeat (first | (with_reducible first | exact HK.out | apply KeepBut.set_ | apply keep_drewN | apply keep_drew | apply keep_alloc) | exact HK.out)) (KeepBut.of_below hb g none) (.inl rfl)); have n2_ := Aside0.mk (below_step (by repeat (first | (with_reducible first | exact HB.out | apply below_alloc | apply pw_below_drewN | apply below_drew1 | refine below_set ?_ (IsS78.ge HI0.out)) | exact HB.out)) hb); have n3_ := Aside0.mk (hbox); have n4_ := Aside0.mk ((by rw [hg]; exact (keep_size (w := w) (g := g) (row := none) (by repeat (first | (with_reducible first | exact HK.out | apply KeepBut.set_ | apply keep_drewN | apply keep_drew | apply keep_alloc) | exact HK.out))) : w.heap.size ≤ gb153)); have n5_ := Aside0.mk ((Nat.le_trans HW0.out (by rw [hg]; exact (keep_size (w := w) (g := g) (row := none) (by repeat (first | (with_reducible first | exact HK.out | apply KeepBut.set_ | apply keep_drewN | apply keep_drew | apply keep_alloc) | exact HK.out))) : w.heap.size ≤ gb153) : w0.heap.size ≤ gb153)); have n6_ := Aside0.mk ((by rw [hg]; exact Nat.ne_of_lt (IsS78.lt (show IsS78 w0 _ g s0_0 s0_1 from by repeat (first | (with_reducible first | exact HI0.out | apply IsS78.alloc | apply IsS78.drewN | apply IsS78.drew | apply IsS78.set_1) | exact HI0.out))) : g ≠ gb153)); have n7_ := Aside0.mk ((by rw [hg]; exact Nat.ne_of_gt (IsS78.lt (show IsS78 w0 _ g s0_0 s0_1 from by repeat (first | (with_reducible first | exact HI0.out | apply IsS78.alloc | apply IsS78.drewN | apply IsS78.drew | apply IsS78.set_1) | exact HI0.out))) : gb153 ≠ g)); clear HI0; clear HK; clear HB; have HI0 := n0_; have HK := n1_; have HB := n2_; have BK153 := n3_; have GW153 := n4_; have GE153 := n5_; have NB0_153 := n6_; have NB153_0 := n7_; clear n0_ n1_ n2_ n3_ n4_ n5_ n6_ n7_; clear hb hbox hg))
     have pi159 : (0 ≤ (t157 : Int)) = True := eq_true (of_decide_eq_true (by first | (with_reducible assumption) | assumption))
     have qi159 : (t157 < (y154.length : Int)) = True := eq_true (of_decide_eq_true (by first | (with_reducible assumption) | assumption))
     have pi169 : (0 ≤ (t167 : Int)) = True := eq_true (of_decide_eq_true (by first | (with_reducible assumption) | assumption))
     have qi169 : (t167 < (y164.length : Int)) = True := eq_true (of_decide_eq_true (by first | (with_reducible assumption) | assumption))
     have n0_ := Aside0.mk (blk_drew BK153.out)
     have n1_ := Aside0.mk (IsS78.drew HI0.out)
     have n2_ := Aside0.mk (keep_drew HK.out)
     have n3_ := Aside0.mk (below_drew1 HB.out)
     clear BK153
     clear HI0
     clear HK
     clear HB
     have BK153 := n0_
     have HI0 := n1_
     have HK := n2_
     have HB := n3_
     clear n0_ n1_ n2_ n3_
     refine start_ (n := 21) (S := fun w' => True) (ds := []) #[false, false, false, false, false, false, false, false, false, false, false, false, false, false, false, false, false, false, false, false, false] (by kernel_rfl) rfl rfl trivial (fun hHeld => ?_); refine with_tabW spec_l1Rd_entry.tab1 spec_l1Rd_entry.bits1 (fun HT_ HW_ => ?_)
     generalize w11.drew = w12 at BK153 HI0 HK HB hHeld ⊢
     refine pure_ (i := 1) (N := some 4) (v := ?_) (a' := ?_) #[false, true, false, false, false, false, false, false, false, false, false, false, false, false, false, false, false, false, false, false, false] rfl rfl (any_of HT_.out (by kernel_rfl)) (fun _ _ _ h => h) (Or.inl ⟨by rfl, ?_⟩) ?_ ?_
     rotate_left
     ·intro w'
      go_simp
      with_reducible rfl
     rotate_left
     ·simp only [Act.put, sqA, sqZ, sqS, i64_w, i32_w]
      rfl
     refine pure_ (i := 5) (N := some 8) (v := ?_) (a' := ?_) #[false, true, false, false, false, true, false, false, false, false, false, false, false, false, false, false, false, false, false, false, false] rfl rfl (any_of HT_.out (by kernel_rfl)) (fun _ _ _ h => h) (Or.inl ⟨by rfl, ?_⟩) ?_ ?_
     rotate_left
     ·intro w'
      go_simp
      with_reducible rfl
     rotate_left
     ·simp only [Act.put, sqA, sqZ, sqS, i64_w, i32_w]
      rfl
     refine pure_ (i := 9) (N := some 12) (v := ?_) (a' := ?_) #[false, true, false, false, false, true, false, false, false, true, false, false, false, false, false, false, false, false, false, false, false] rfl rfl (any_of HT_.out (by kernel_rfl)) (fun _ _ _ h => h) (Or.inl ⟨by rfl, ?_⟩) ?_ ?_
     rotate_left
     ·intro w'
      go_simp
      with_reducible rfl
     rotate_left
     ·simp only [Act.put, sqA, sqZ, sqS, i64_w, i32_w]
      rfl
     refine pure_ (i := 13) (N := some 16) (v := ?_) (a' := ?_) #[false, true, false, false, false, true, false, false, false, true, false, false, false, true, false, false, false, false, false, false, false] rfl rfl (any_of HT_.out (by kernel_rfl)) (fun _ _ _ h => h) (Or.inl ⟨by rfl, ?_⟩) ?_ ?_
     rotate_left
     ·intro w'
      go_simp
      with_reducible rfl
     rotate_left
     ·simp only [Act.put, sqA, sqZ, sqS, i64_w, i32_w]
      rfl
     refine pure_ (i := 17) (N := some 20) (v := ?_) (a' := ?_) #[false, true, false, false, false, true, false, false, false, true, false, false, false, true, false, false, false, true, false, false, false] rfl rfl (any_of HT_.out (by kernel_rfl)) (fun _ _ _ h => h) (Or.inl ⟨by rfl, ?_⟩) ?_ ?_
     rotate_left
     ·intro w'
      go_simp
      with_reducible rfl
     rotate_left
     ·simp only [Act.put, sqA, sqZ, sqS, i64_w, i32_w]
      rfl
     refine inv_at [0, 2, 3, 4, 6, 7, 8, 10, 11, 12, 14, 15, 16, 18, 19, 20] (fun a0_ b a w' => ∃ (v155 : Value) (adz_v155 : Addr) (v165 : Value) (adz_v165 : Addr) (m3_ : Value) (m15_ : Value), a = putSel a0_ b [(0, 3, v155), (2, 5, .int .i64 t157), (3, 6, m3_), (4, 7, .string (rdOf ByteArray.empty y154 t157)), (6, 9, .int .i64 t160), (7, 10, .int .i64 (wrap64 (t160 * 720))), (8, 11, .int .i64 (wrap64 (14130000 + (wrap64 (t160 * 720))))), (10, 13, .int .i64 t162), (11, 14, .int .i64 (wrap64 (t162 * 6))), (12, 15, v165), (14, 17, .int .i64 t167), (15, 18, m15_), (16, 19, .int .i64 (rd y164 t167)), (18, 21, .int .i64 t170), (19, 22, .agg #[.string (rdOf ByteArray.empty y154 t157), .int .i64 (wrap64 (14130000 + (wrap64 (t160 * 720)))), .int .i64 (wrap64 (t162 * 6)), .int .i64 (rd y164 t167), .int .i64 t170])] ∧ (b 20 = false → w'.heap[gb153]? = some (.cells #[.string (⟨#[]⟩ : ByteArray), .int .i64 0, .int .i64 0, .int .i64 0, .int .i64 0] 31 (0, 0))) ∧ (b 2 = false → IsS78 w0 w' g s0_0 s0_1) ∧ (KeepBut w w' g none) ∧ (Below w0.heap.size w0 w') ∧ (b 0 = true → Kd.R Kd.string 9 w' w.heap.size (fun _ => True) v155 y154) ∧ (b 0 = true → ∃ c_, (v155 : Value) = .slice (some adz_v155) y154.length c_) ∧ (b 2 = true → b 6 = false → IsS78 w0 w' g s0_0 t158) ∧ (b 6 = true → b 10 = false → IsS78 w0 w' g s0_0 t161) ∧ (b 10 = true → b 14 = false → IsS78 w0 w' g s0_0 t163) ∧ (b 12 = true → Kd.R (Kd.int .i64) 2 w' w.heap.size (fun _ => True) v165 y164) ∧ (b 12 = true → ∃ c_, (v165 : Value) = .slice (some adz_v165) y164.length c_) ∧ (b 14 = true → b 18 = false → IsS78 w0 w' g s0_0 t168) ∧ (b 18 = true → IsS78 w0 w' g s0_0 t171) ∧ (b 20 = true → w'.heap[gb153]? = some (.cells #[.string (rdOf ByteArray.empty y154 t157), .int .i64 (wrap64 (14130000 + (wrap64 (t160 * 720)))), .int .i64 (wrap64 (t162 * 6)), .int .i64 (rd y164 t167), .int .i64 t170] 31 (0, 0))) ∧ (b 3 = true → (m3_ : Value) = .pointer (some (adz_v155.add (t157).toNat))) ∧ (b 15 = true → (m15_ : Value) = .pointer (some (adz_v165.add (t167).toNat)))) HT_.out HW_.out (by kernel_rfl) (by kernel_rfl) ?_ ?_ ?_
     ·exact ⟨.bool false, ⟨0, 0, none⟩, .bool false, ⟨0, 0, none⟩, .bool false, .bool false, by simp only [putSel, Bool.false_eq_true, if_false], fun _ => BK153.out, fun _ => HI0.out, HK.out, HB.out, fun h_ => absurd h_ (by decide), fun h_ => absurd h_ (by decide), fun h_ => absurd h_ (by decide), fun h_ => absurd h_ (by decide), fun h_ => absurd h_ (by decide), fun h_ => absurd h_ (by decide), fun h_ => absurd h_ (by decide), fun h_ => absurd h_ (by decide), fun h_ => absurd h_ (by decide), fun h_ => absurd h_ (by decide), fun h_ => absurd h_ (by decide), fun h_ => absurd h_ (by decide)⟩
     ·skip
      clear BK153 HB HI0 HK
      refine steps_cons ?_ ?_
      ·rintro b a w' ⟨v155, adz_v155, v165, adz_v165, m3_, m15_, ha, Q_BK153, Q_HI0, Q_HK, Q_HB, Q_HO156, Q_HA_HO156, Q_HI0_e2, Q_HI0_e6, Q_HI0_e10, Q_HO166, Q_HA_HO166, Q_HI0_e14, Q_HI0_e18, Q_BK153_e20, Q_X3_, Q_X15_⟩ hb_ hon hoff
       refine ⟨_, rfl, fun K hK => ?_⟩
       replace ha := Aside0.mk ha
       have BK153 := Aside0.mk (Q_BK153 (hoff 20 (by kernel_rfl)))
       have HK := Aside0.mk Q_HK
       have HB := Aside0.mk Q_HB
       refine Kd.R_lit_step Kd.string _ 9 ?hg (N := 3) ?hd (xs := ([(⟨#[116]⟩ : ByteArray), (⟨#[117]⟩ : ByteArray), (⟨#[118]⟩ : ByteArray), (⟨#[109, 115, 108]⟩ : ByteArray), (⟨#[116, 112]⟩ : ByteArray)] : List ByteArray)) (inner := [.string (⟨#[116]⟩ : ByteArray), .string (⟨#[117]⟩ : ByteArray), .string (⟨#[118]⟩ : ByteArray), .string (⟨#[109, 115, 108]⟩ : ByteArray), .string (⟨#[116, 112]⟩ : ByteArray)]) (ok := fun _ => True) (okp := fun _ => True) ?hr ?hp (fun _ hk => hk) trivial (Below.refl _ _) (Nat.le_refl _) (by simp) ?_; (case hd => rfl); (case hg => rfl); (case hr => first | (go_simp; done) | (go_simp; rfl)); (case hp => exact (Reps.one (show Kd.M Kd.string _ _ _ (⟨#[116]⟩ : ByteArray) [.string (⟨#[116]⟩ : ByteArray)] from rfl) (Reps.one (show Kd.M Kd.string _ _ _ (⟨#[117]⟩ : ByteArray) [.string (⟨#[117]⟩ : ByteArray)] from rfl) (Reps.one (show Kd.M Kd.string _ _ _ (⟨#[118]⟩ : ByteArray) [.string (⟨#[118]⟩ : ByteArray)] from rfl) (Reps.one (show Kd.M Kd.string _ _ _ (⟨#[109, 115, 108]⟩ : ByteArray) [.string (⟨#[109, 115, 108]⟩ : ByteArray)] from rfl) (Reps.one (show Kd.M Kd.string _ _ _ (⟨#[116, 112]⟩ : ByteArray) [.string (⟨#[116, 112]⟩ : ByteArray)] from rfl) (Reps.none _ _)))))))
       intro v155 w13 ho14 hb hg_ hnew_
       clear hg_ hnew_
       (first | rw [← Ny154.out] at ho14 | (simp only [Int.reduceToNat] at ho14; rw [← Ny154.out] at ho14))
       have n0_ := Aside0.mk (Kd.R_lower ho14 (keep_size (w := w) (g := g) (row := none) (by repeat (first | (with_reducible first | exact HK.out | apply KeepBut.set_ | apply keep_drewN | apply keep_drew | apply keep_alloc | refine keep_far ?_ GW153.out _) | exact HK.out))))
       have n2_ := Aside0.mk (blk_below (g := gb153) (o := .cells #[.string (⟨#[]⟩ : ByteArray), .int .i64 0, .int .i64 0, .int .i64 0, .int .i64 0] 31 (0, 0)) (by (with_reducible repeat (first | refine blk_drewN ?_ _ | refine blk_drew ?_ | refine blk_alloc ?_ _)); exact BK153.out) hb)
       have n3_ := Aside0.mk (KeepBut.trans (by repeat (first | (with_reducible first | exact HK.out | apply KeepBut.set_ | apply keep_drewN | apply keep_drew | apply keep_alloc | refine keep_far ?_ GW153.out _) | exact HK.out)) (KeepBut.of_below hb g none) (.inl rfl))
       have n4_ := Aside0.mk (below_step (by repeat (first | (with_reducible first | exact HB.out | apply below_alloc | apply pw_below_drewN | apply below_drew1 | refine below_set ?_ GE153.out) | exact HB.out)) hb)
       have z_HI0 := fun (h0_ : b 2 = false) => (show IsS78 w0 w13 g s0_0 s0_1 from by first | exact (IsS78.below (by repeat (first | (with_reducible first | exact (Q_HI0 h0_) | apply IsS78.alloc | apply IsS78.drewN | apply IsS78.drew | apply IsS78.set_1 | apply IsS78.far (hne := NB0_153.out)) | exact (Q_HI0 h0_))) hb))
       have z_HI0_e2 := fun (h0_ : b 2 = true) (h1_ : b 6 = false) => (show IsS78 w0 w13 g s0_0 t158 from by first | exact (IsS78.below (by repeat (first | (with_reducible first | exact (Q_HI0_e2 h0_ h1_) | apply IsS78.alloc | apply IsS78.drewN | apply IsS78.drew | apply IsS78.set_1 | apply IsS78.far (hne := NB0_153.out)) | exact (Q_HI0_e2 h0_ h1_))) hb))
       have z_HI0_e6 := fun (h0_ : b 6 = true) (h1_ : b 10 = false) => (show IsS78 w0 w13 g s0_0 t161 from by first | exact (IsS78.below (by repeat (first | (with_reducible first | exact (Q_HI0_e6 h0_ h1_) | apply IsS78.alloc | apply IsS78.drewN | apply IsS78.drew | apply IsS78.set_1 | apply IsS78.far (hne := NB0_153.out)) | exact (Q_HI0_e6 h0_ h1_))) hb))
       have z_HI0_e10 := fun (h0_ : b 10 = true) (h1_ : b 14 = false) => (show IsS78 w0 w13 g s0_0 t163 from by first | exact (IsS78.below (by repeat (first | (with_reducible first | exact (Q_HI0_e10 h0_ h1_) | apply IsS78.alloc | apply IsS78.drewN | apply IsS78.drew | apply IsS78.set_1 | apply IsS78.far (hne := NB0_153.out)) | exact (Q_HI0_e10 h0_ h1_))) hb))
       have z_HO166 := fun (h0_ : b 12 = true) => (show Kd.R (Kd.int .i64) 2 w13 w.heap.size (fun _ => True) v165 y164 from by first | exact (Kd.R_below (by (with_reducible repeat (first | apply Kd.R_alloc | apply Kd.R_drewN | apply Kd.R_drew)); exact (Q_HO166 h0_)) hb) | exact Kd.R_mono (Kd.R_below (by (with_reducible repeat (first | apply Kd.R_alloc | apply Kd.R_drewN | apply Kd.R_drew)); exact (Q_HO166 h0_)) hb) (fun _ h_ => by first | trivial | exact h_ | exact h_.1))
       have z_HI0_e14 := fun (h0_ : b 14 = true) (h1_ : b 18 = false) => (show IsS78 w0 w13 g s0_0 t168 from by first | exact (IsS78.below (by repeat (first | (with_reducible first | exact (Q_HI0_e14 h0_ h1_) | apply IsS78.alloc | apply IsS78.drewN | apply IsS78.drew | apply IsS78.set_1 | apply IsS78.far (hne := NB0_153.out)) | exact (Q_HI0_e14 h0_ h1_))) hb))
       have z_HI0_e18 := fun (h0_ : b 18 = true) => (show IsS78 w0 w13 g s0_0 t171 from by first | exact (IsS78.below (by repeat (first | (with_reducible first | exact (Q_HI0_e18 h0_) | apply IsS78.alloc | apply IsS78.drewN | apply IsS78.drew | apply IsS78.set_1 | apply IsS78.far (hne := NB0_153.out)) | exact (Q_HI0_e18 h0_))) hb))
       clear BK153
       clear HK
       clear HB
       have HO156 := n0_
       have BK153 := n2_
       have HK := n3_
       have HB := n4_
       clear n0_ n2_ n3_ n4_
       clear hb ho14
       obtain ⟨Ao15, co15, eo15⟩ := Kd.R_slice HO156.out
       subst eo15
       obtain ⟨ado15, fo15, _⟩ := Kd.at_string (Kd.R_reads' HO156.out).2.2 0 (by decide) (by rw [Ny154.out]; simp)
       cases fo15
       refine hK.out _ _ ⟨.slice (some ado15) y154.length co15, ado15, v165, adz_v165, m3_, m15_, (by rw [ha.out]; exact putSel_upk 0 hb_ rfl rfl rfl), fun _ => (by (with_reducible repeat (first | refine blk_drewN ?_ _ | refine blk_drew ?_ | refine blk_alloc ?_ _)); exact BK153.out), z_HI0, (by repeat (first | (with_reducible first | exact HK.out | apply KeepBut.set_ | apply keep_drewN | apply keep_drew | apply keep_alloc | refine keep_far ?_ GW153.out _) | exact HK.out)), (by repeat (first | (with_reducible first | exact HB.out | apply below_alloc | apply pw_below_drewN | apply below_drew1 | refine below_set ?_ GE153.out) | exact HB.out)), fun _ => (by (with_reducible repeat (first | apply Kd.R_alloc | apply Kd.R_drewN | apply Kd.R_drew)); exact HO156.out), fun _ => ⟨_, rfl⟩, z_HI0_e2, z_HI0_e6, z_HI0_e10, z_HO166, Q_HA_HO166, z_HI0_e14, z_HI0_e18, fun h0_ => absurd ((hoff 20 (by kernel_rfl)).symm.trans h0_) (by decide), fun h0_ => absurd ((hoff 3 (by kernel_rfl)).symm.trans h0_) (by decide), Q_X15_⟩
      refine steps_cons ?_ ?_
      ·rintro b a w' ⟨v155, adz_v155, v165, adz_v165, m3_, m15_, ha, Q_BK153, Q_HI0, Q_HK, Q_HB, Q_HO156, Q_HA_HO156, Q_HI0_e2, Q_HI0_e6, Q_HI0_e10, Q_HO166, Q_HA_HO166, Q_HI0_e14, Q_HI0_e18, Q_BK153_e20, Q_X3_, Q_X15_⟩ hb_ hon hoff
       refine ⟨_, rfl, fun K hK => ?_⟩
       have e4 : a.tmps[4]? = some (.pointer (some ⟨g, 0, none⟩)) := by rw [ha]; exact (putSel_off rfl).trans rfl
       replace ha := Aside0.mk ha
       have BK153 := Aside0.mk (Q_BK153 (hoff 20 (by kernel_rfl)))
       have HI0 := Aside0.mk (Q_HI0 hb_)
       have HK := Aside0.mk Q_HK
       have HB := Aside0.mk Q_HB
       refine goes_ Try.func39 (by kernel_rfl) rfl #[.pointer (some ⟨g, 0, none⟩), .int .i64 5] (by rfl) rfl rfl (by first | (simp only [List.map_toArray, List.map_cons, List.map_nil, Act.eval, Array.getD_eq_getD_getElem?, Option.getD_some, e4]; done) | (simp only [List.map_toArray, List.map_cons, List.map_nil, Act.eval, Array.getD_eq_getD_getElem?, Option.getD_some, e4]; rfl)) ?_
       with_reducible refine (spec_l1Rd_below.calls g s0_0 s0_1 5 t157 t158 w0 _ ?side1 ?side2 A2.out).mono ?_
       (case side1 => repeat (first | (with_reducible first | exact HI0.out | apply IsS78.alloc | apply IsS78.drewN | apply IsS78.drew | apply IsS78.set_1 | apply IsS78.far (hne := NB0_153.out)) | exact HI0.out))
       (case side2 => repeat (first | (with_reducible first | exact HB.out | apply below_alloc | apply pw_below_drewN | apply below_drew1 | refine below_set ?_ (IsS78.ge HI0.out) | refine below_set ?_ GE153.out) | exact HB.out))
       rintro e w13 ⟨rfl, hi, hb, hk⟩
       refine ⟨_, rfl, ?_⟩
       have n0_ := Aside0.mk (KeepBut.blk hk (g' := gb153) (o := .cells #[.string (⟨#[]⟩ : ByteArray), .int .i64 0, .int .i64 0, .int .i64 0, .int .i64 0] 31 (0, 0)) (by (with_reducible repeat (first | refine blk_drewN ?_ _ | refine blk_drew ?_ | refine blk_alloc ?_ _)); exact BK153.out) NB153_0.out (by simp))
       have n1_ := Aside0.mk (KeepBut.trans (by repeat (first | (with_reducible first | exact HK.out | apply KeepBut.set_ | apply keep_drewN | apply keep_drew | apply keep_alloc | refine keep_far ?_ GW153.out _) | exact HK.out)) hk (.inl rfl))
       have n2_ := Aside0.mk (hb)
       have n3_ := Aside0.mk (hi)
       have z_HO156 := fun (h0_ : b 0 = true) => (show Kd.R Kd.string 9 w13 w.heap.size (fun _ => True) v155 y154 from by first | exact (Kd.R_mono (Kd.R_keep (IsS78.apart (show IsS78 w0 _ g s0_0 s0_1 from by repeat (first | (with_reducible first | exact HI0.out | apply IsS78.alloc | apply IsS78.drewN | apply IsS78.drew | apply IsS78.set_1 | apply IsS78.far (hne := NB0_153.out)) | exact HI0.out)) (by (with_reducible repeat (first | apply Kd.R_alloc | apply Kd.R_drewN | apply Kd.R_drew)); exact (Q_HO156 h0_)) (by decide)) hk (fun _ h => h.2)) (fun _ h => h.1)) | exact Kd.R_mono (Kd.R_mono (Kd.R_keep (IsS78.apart (show IsS78 w0 _ g s0_0 s0_1 from by repeat (first | (with_reducible first | exact HI0.out | apply IsS78.alloc | apply IsS78.drewN | apply IsS78.drew | apply IsS78.set_1 | apply IsS78.far (hne := NB0_153.out)) | exact HI0.out)) (by (with_reducible repeat (first | apply Kd.R_alloc | apply Kd.R_drewN | apply Kd.R_drew)); exact (Q_HO156 h0_)) (by decide)) hk (fun _ h => h.2)) (fun _ h => h.1)) (fun _ h_ => by first | trivial | exact h_ | exact h_.1))
       have z_HO166 := fun (h0_ : b 12 = true) => (show Kd.R (Kd.int .i64) 2 w13 w.heap.size (fun _ => True) v165 y164 from by first | exact (Kd.R_mono (Kd.R_keep (IsS78.apart (show IsS78 w0 _ g s0_0 s0_1 from by repeat (first | (with_reducible first | exact HI0.out | apply IsS78.alloc | apply IsS78.drewN | apply IsS78.drew | apply IsS78.set_1 | apply IsS78.far (hne := NB0_153.out)) | exact HI0.out)) (by (with_reducible repeat (first | apply Kd.R_alloc | apply Kd.R_drewN | apply Kd.R_drew)); exact (Q_HO166 h0_)) (by decide)) hk (fun _ h => h.2)) (fun _ h => h.1)) | exact Kd.R_mono (Kd.R_mono (Kd.R_keep (IsS78.apart (show IsS78 w0 _ g s0_0 s0_1 from by repeat (first | (with_reducible first | exact HI0.out | apply IsS78.alloc | apply IsS78.drewN | apply IsS78.drew | apply IsS78.set_1 | apply IsS78.far (hne := NB0_153.out)) | exact HI0.out)) (by (with_reducible repeat (first | apply Kd.R_alloc | apply Kd.R_drewN | apply Kd.R_drew)); exact (Q_HO166 h0_)) (by decide)) hk (fun _ h => h.2)) (fun _ h => h.1)) (fun _ h_ => by first | trivial | exact h_ | exact h_.1))
       clear BK153
       clear HK
       clear HB
       clear HI0
       have BK153 := n0_
       have HK := n1_
       have HB := n2_
       have HI0 := n3_
       clear n0_ n1_ n2_ n3_
       (try clear hb)
       (try clear hb2)
       (try clear hk)
       (try clear hi)
       refine hK.out _ _ ⟨v155, adz_v155, v165, adz_v165, m3_, m15_, (by rw [ha.out]; exact putSel_upk 1 hb_ rfl rfl rfl), fun _ => (by (with_reducible repeat (first | refine blk_drewN ?_ _ | refine blk_drew ?_ | refine blk_alloc ?_ _)); exact BK153.out), fun h0_ => absurd ((up_self b 2).symm.trans h0_) (by decide), (by repeat (first | (with_reducible first | exact HK.out | apply KeepBut.set_ | apply keep_drewN | apply keep_drew | apply keep_alloc | refine keep_far ?_ GW153.out _) | exact HK.out)), (by repeat (first | (with_reducible first | exact HB.out | apply below_alloc | apply pw_below_drewN | apply below_drew1 | refine below_set ?_ (IsS78.ge HI0.out) | refine below_set ?_ GE153.out) | exact HB.out)), z_HO156, Q_HA_HO156, fun _ _ => (by repeat (first | (with_reducible first | exact HI0.out | apply IsS78.alloc | apply IsS78.drewN | apply IsS78.drew | apply IsS78.set_1 | apply IsS78.far (hne := NB0_153.out)) | exact HI0.out)), fun h0_ _ => absurd ((hoff 6 (by kernel_rfl)).symm.trans h0_) (by decide), fun h0_ _ => absurd ((hoff 10 (by kernel_rfl)).symm.trans h0_) (by decide), z_HO166, Q_HA_HO166, fun h0_ _ => absurd ((hoff 14 (by kernel_rfl)).symm.trans h0_) (by decide), fun h0_ => absurd ((hoff 18 (by kernel_rfl)).symm.trans h0_) (by decide), fun h0_ => absurd ((hoff 20 (by kernel_rfl)).symm.trans h0_) (by decide), fun h0_ => absurd ((hoff 3 (by kernel_rfl)).symm.trans h0_) (by decide), fun h0_ => absurd ((hoff 15 (by kernel_rfl)).symm.trans h0_) (by decide)⟩
      refine steps_cons ?_ ?_
      ·rintro b a w' ⟨v155, adz_v155, v165, adz_v165, m3_, m15_, ha, Q_BK153, Q_HI0, Q_HK, Q_HB, Q_HO156, Q_HA_HO156, Q_HI0_e2, Q_HI0_e6, Q_HI0_e10, Q_HO166, Q_HA_HO166, Q_HI0_e14, Q_HI0_e18, Q_BK153_e20, Q_X3_, Q_X15_⟩ hb_ hon hoff
       refine ⟨_, rfl, fun K hK => ?_⟩
       have e3 : a.tmps[3]? = some (v155) := by rw [ha]; exact putSel_on (e := (0, 3, v155)) 0 rfl rfl (hon 0 (by kernel_rfl)) rfl
       have e5 : a.tmps[5]? = some (.int .i64 t157) := by rw [ha]; exact putSel_on (e := (2, 5, .int .i64 t157)) 1 rfl rfl (hon 2 (by kernel_rfl)) rfl
       replace ha := Aside0.mk ha
       have BK153 := Aside0.mk (Q_BK153 (hoff 20 (by kernel_rfl)))
       have HK := Aside0.mk Q_HK
       have HB := Aside0.mk Q_HB
       have HO156 := Aside0.mk (Q_HO156 (hon 0 (by kernel_rfl)))
       have HA_HO156 := Aside0.mk (Q_HA_HO156 (hon 0 (by kernel_rfl)))
       obtain ⟨c_, hv_⟩ := HA_HO156.out
       rw [hv_] at e3
       refine value_ (w1 := w') (v := .pointer (some (adz_v155.add (t157).toNat))) (by rfl) rfl ?_ ?_
       ·go_simp
        (try simp only [i64_w])
        try rfl
       refine hK.out _ _ ⟨v155, adz_v155, v165, adz_v165, (.pointer (some (adz_v155.add (t157).toNat))), m15_, (by rw [ha.out]; exact putSel_upk 2 hb_ rfl rfl rfl), Q_BK153, fun h0_ => absurd ((hon 2 (by kernel_rfl)).symm.trans h0_) (by decide), Q_HK, Q_HB, Q_HO156, Q_HA_HO156, Q_HI0_e2, Q_HI0_e6, Q_HI0_e10, Q_HO166, Q_HA_HO166, Q_HI0_e14, Q_HI0_e18, fun h0_ => absurd ((hoff 20 (by kernel_rfl)).symm.trans h0_) (by decide), fun _ => rfl, Q_X15_⟩
      refine steps_cons ?_ ?_
      ·rintro b a w' ⟨v155, adz_v155, v165, adz_v165, m3_, m15_, ha, Q_BK153, Q_HI0, Q_HK, Q_HB, Q_HO156, Q_HA_HO156, Q_HI0_e2, Q_HI0_e6, Q_HI0_e10, Q_HO166, Q_HA_HO166, Q_HI0_e14, Q_HI0_e18, Q_BK153_e20, Q_X3_, Q_X15_⟩ hb_ hon hoff
       refine ⟨_, rfl, fun K hK => ?_⟩
       have e6 : a.tmps[6]? = some (m3_) := by rw [ha]; exact putSel_on (e := (3, 6, m3_)) 2 rfl rfl (hon 3 (by kernel_rfl)) rfl
       rw [Q_X3_ (hon 3 (by kernel_rfl))] at e6
       replace ha := Aside0.mk ha
       have BK153 := Aside0.mk (Q_BK153 (hoff 20 (by kernel_rfl)))
       have HK := Aside0.mk Q_HK
       have HB := Aside0.mk Q_HB
       have HO156 := Aside0.mk (Q_HO156 (hon 0 (by kernel_rfl)))
       have HA_HO156 := Aside0.mk (Q_HA_HO156 (hon 0 (by kernel_rfl)))
       obtain ⟨c_, hv_⟩ := HA_HO156.out
       have hF_ := HO156.out
       rw [hv_] at hF_
       obtain ⟨ad_, ea_, hx_⟩ := Kd.at_string (Kd.R_reads' hF_).2.2 t157 (of_eq_true pi159) (of_eq_true qi159)
       cases ea_
       refine value_ (w1 := w') (v := .string (rdOf ByteArray.empty y154 t157)) (by rfl) rfl ?_ ?_
       ·go_simp
        (try simp only [i64_w])
        try rfl
       refine hK.out _ _ ⟨v155, adz_v155, v165, adz_v165, m3_, m15_, (by rw [ha.out]; exact putSel_upk 3 hb_ rfl rfl rfl), Q_BK153, fun h0_ => absurd ((hon 2 (by kernel_rfl)).symm.trans h0_) (by decide), Q_HK, Q_HB, Q_HO156, Q_HA_HO156, Q_HI0_e2, Q_HI0_e6, Q_HI0_e10, Q_HO166, Q_HA_HO166, Q_HI0_e14, Q_HI0_e18, fun h0_ => absurd ((hoff 20 (by kernel_rfl)).symm.trans h0_) (by decide), Q_X3_, Q_X15_⟩
      refine steps_cons ?_ ?_
      ·rintro b a w' ⟨v155, adz_v155, v165, adz_v165, m3_, m15_, ha, Q_BK153, Q_HI0, Q_HK, Q_HB, Q_HO156, Q_HA_HO156, Q_HI0_e2, Q_HI0_e6, Q_HI0_e10, Q_HO166, Q_HA_HO166, Q_HI0_e14, Q_HI0_e18, Q_BK153_e20, Q_X3_, Q_X15_⟩ hb_ hon hoff
       refine ⟨_, rfl, fun K hK => ?_⟩
       have e8 : a.tmps[8]? = some (.pointer (some ⟨g, 0, none⟩)) := by rw [ha]; exact (putSel_off rfl).trans rfl
       replace ha := Aside0.mk ha
       have BK153 := Aside0.mk (Q_BK153 (hoff 20 (by kernel_rfl)))
       have HK := Aside0.mk Q_HK
       have HB := Aside0.mk Q_HB
       have HI0 := Aside0.mk (Q_HI0_e2 (hon 2 (by kernel_rfl)) hb_)
       refine goes_ Try.func39 (by kernel_rfl) rfl #[.pointer (some ⟨g, 0, none⟩), .int .i64 3] (by rfl) rfl rfl (by first | (simp only [List.map_toArray, List.map_cons, List.map_nil, Act.eval, Array.getD_eq_getD_getElem?, Option.getD_some, e8]; done) | (simp only [List.map_toArray, List.map_cons, List.map_nil, Act.eval, Array.getD_eq_getD_getElem?, Option.getD_some, e8]; rfl)) ?_
       with_reducible refine (spec_l1Rd_below.calls g s0_0 t158 3 t160 t161 w0 _ ?side1 ?side2 A5.out).mono ?_
       (case side1 => repeat (first | (with_reducible first | exact HI0.out | apply IsS78.alloc | apply IsS78.drewN | apply IsS78.drew | apply IsS78.set_1 | apply IsS78.far (hne := NB0_153.out)) | exact HI0.out))
       (case side2 => repeat (first | (with_reducible first | exact HB.out | apply below_alloc | apply pw_below_drewN | apply below_drew1 | refine below_set ?_ (IsS78.ge HI0.out) | refine below_set ?_ GE153.out) | exact HB.out))
       rintro e w15 ⟨rfl, hi, hb, hk⟩
       refine ⟨_, rfl, ?_⟩
       have n0_ := Aside0.mk (KeepBut.blk hk (g' := gb153) (o := .cells #[.string (⟨#[]⟩ : ByteArray), .int .i64 0, .int .i64 0, .int .i64 0, .int .i64 0] 31 (0, 0)) (by (with_reducible repeat (first | refine blk_drewN ?_ _ | refine blk_drew ?_ | refine blk_alloc ?_ _)); exact BK153.out) NB153_0.out (by simp))
       have n1_ := Aside0.mk (KeepBut.trans (by repeat (first | (with_reducible first | exact HK.out | apply KeepBut.set_ | apply keep_drewN | apply keep_drew | apply keep_alloc | refine keep_far ?_ GW153.out _) | exact HK.out)) hk (.inl rfl))
       have n2_ := Aside0.mk (hb)
       have n3_ := Aside0.mk (hi)
       have z_HO156 := fun (h0_ : b 0 = true) => (show Kd.R Kd.string 9 w15 w.heap.size (fun _ => True) v155 y154 from by first | exact (Kd.R_mono (Kd.R_keep (IsS78.apart (show IsS78 w0 _ g s0_0 t158 from by repeat (first | (with_reducible first | exact HI0.out | apply IsS78.alloc | apply IsS78.drewN | apply IsS78.drew | apply IsS78.set_1 | apply IsS78.far (hne := NB0_153.out)) | exact HI0.out)) (by (with_reducible repeat (first | apply Kd.R_alloc | apply Kd.R_drewN | apply Kd.R_drew)); exact (Q_HO156 h0_)) (by decide)) hk (fun _ h => h.2)) (fun _ h => h.1)) | exact Kd.R_mono (Kd.R_mono (Kd.R_keep (IsS78.apart (show IsS78 w0 _ g s0_0 t158 from by repeat (first | (with_reducible first | exact HI0.out | apply IsS78.alloc | apply IsS78.drewN | apply IsS78.drew | apply IsS78.set_1 | apply IsS78.far (hne := NB0_153.out)) | exact HI0.out)) (by (with_reducible repeat (first | apply Kd.R_alloc | apply Kd.R_drewN | apply Kd.R_drew)); exact (Q_HO156 h0_)) (by decide)) hk (fun _ h => h.2)) (fun _ h => h.1)) (fun _ h_ => by first | trivial | exact h_ | exact h_.1))
       have z_HO166 := fun (h0_ : b 12 = true) => (show Kd.R (Kd.int .i64) 2 w15 w.heap.size (fun _ => True) v165 y164 from by first | exact (Kd.R_mono (Kd.R_keep (IsS78.apart (show IsS78 w0 _ g s0_0 t158 from by repeat (first | (with_reducible first | exact HI0.out | apply IsS78.alloc | apply IsS78.drewN | apply IsS78.drew | apply IsS78.set_1 | apply IsS78.far (hne := NB0_153.out)) | exact HI0.out)) (by (with_reducible repeat (first | apply Kd.R_alloc | apply Kd.R_drewN | apply Kd.R_drew)); exact (Q_HO166 h0_)) (by decide)) hk (fun _ h => h.2)) (fun _ h => h.1)) | exact Kd.R_mono (Kd.R_mono (Kd.R_keep (IsS78.apart (show IsS78 w0 _ g s0_0 t158 from by repeat (first | (with_reducible first | exact HI0.out | apply IsS78.alloc | apply IsS78.drewN | apply IsS78.drew | apply IsS78.set_1 | apply IsS78.far (hne := NB0_153.out)) | exact HI0.out)) (by (with_reducible repeat (first | apply Kd.R_alloc | apply Kd.R_drewN | apply Kd.R_drew)); exact (Q_HO166 h0_)) (by decide)) hk (fun _ h => h.2)) (fun _ h => h.1)) (fun _ h_ => by first | trivial | exact h_ | exact h_.1))
       clear BK153
       clear HK
       clear HB
       clear HI0
       have BK153 := n0_
       have HK := n1_
       have HB := n2_
       have HI0 := n3_
       clear n0_ n1_ n2_ n3_
       (try clear hb)
       (try clear hb2)
       (try clear hk)
       (try clear hi)
       refine hK.out _ _ ⟨v155, adz_v155, v165, adz_v165, m3_, m15_, (by rw [ha.out]; exact putSel_upk 4 hb_ rfl rfl rfl), fun _ => (by (with_reducible repeat (first | refine blk_drewN ?_ _ | refine blk_drew ?_ | refine blk_alloc ?_ _)); exact BK153.out), fun h0_ => absurd ((hon 2 (by kernel_rfl)).symm.trans h0_) (by decide), (by repeat (first | (with_reducible first | exact HK.out | apply KeepBut.set_ | apply keep_drewN | apply keep_drew | apply keep_alloc | refine keep_far ?_ GW153.out _) | exact HK.out)), (by repeat (first | (with_reducible first | exact HB.out | apply below_alloc | apply pw_below_drewN | apply below_drew1 | refine below_set ?_ (IsS78.ge HI0.out) | refine below_set ?_ GE153.out) | exact HB.out)), z_HO156, Q_HA_HO156, fun _ h1_ => absurd ((up_self b 6).symm.trans h1_) (by decide), fun _ _ => (by repeat (first | (with_reducible first | exact HI0.out | apply IsS78.alloc | apply IsS78.drewN | apply IsS78.drew | apply IsS78.set_1 | apply IsS78.far (hne := NB0_153.out)) | exact HI0.out)), fun h0_ _ => absurd ((hoff 10 (by kernel_rfl)).symm.trans h0_) (by decide), z_HO166, Q_HA_HO166, fun h0_ _ => absurd ((hoff 14 (by kernel_rfl)).symm.trans h0_) (by decide), fun h0_ => absurd ((hoff 18 (by kernel_rfl)).symm.trans h0_) (by decide), fun h0_ => absurd ((hoff 20 (by kernel_rfl)).symm.trans h0_) (by decide), Q_X3_, fun h0_ => absurd ((hoff 15 (by kernel_rfl)).symm.trans h0_) (by decide)⟩
      refine steps_cons ?_ ?_
      ·rintro b a w' ⟨v155, adz_v155, v165, adz_v165, m3_, m15_, ha, Q_BK153, Q_HI0, Q_HK, Q_HB, Q_HO156, Q_HA_HO156, Q_HI0_e2, Q_HI0_e6, Q_HI0_e10, Q_HO166, Q_HA_HO166, Q_HI0_e14, Q_HI0_e18, Q_BK153_e20, Q_X3_, Q_X15_⟩ hb_ hon hoff
       refine ⟨_, rfl, fun K hK => ?_⟩
       have e9 : a.tmps[9]? = some (.int .i64 t160) := by rw [ha]; exact putSel_on (e := (6, 9, .int .i64 t160)) 4 rfl rfl (hon 6 (by kernel_rfl)) rfl
       replace ha := Aside0.mk ha
       have BK153 := Aside0.mk (Q_BK153 (hoff 20 (by kernel_rfl)))
       have HK := Aside0.mk Q_HK
       have HB := Aside0.mk Q_HB
       refine value_ (w1 := w') (v := .int .i64 (wrap64 (t160 * 720))) (by rfl) rfl ?_ ?_
       ·go_simp
        (try simp only [i64_w])
        try rfl
       refine hK.out _ _ ⟨v155, adz_v155, v165, adz_v165, m3_, m15_, (by rw [ha.out]; exact putSel_upk 5 hb_ rfl rfl rfl), Q_BK153, fun h0_ => absurd ((hon 2 (by kernel_rfl)).symm.trans h0_) (by decide), Q_HK, Q_HB, Q_HO156, Q_HA_HO156, fun _ h1_ => absurd ((hon 6 (by kernel_rfl)).symm.trans h1_) (by decide), Q_HI0_e6, Q_HI0_e10, Q_HO166, Q_HA_HO166, Q_HI0_e14, Q_HI0_e18, fun h0_ => absurd ((hoff 20 (by kernel_rfl)).symm.trans h0_) (by decide), Q_X3_, Q_X15_⟩
      refine steps_cons ?_ ?_
      ·rintro b a w' ⟨v155, adz_v155, v165, adz_v165, m3_, m15_, ha, Q_BK153, Q_HI0, Q_HK, Q_HB, Q_HO156, Q_HA_HO156, Q_HI0_e2, Q_HI0_e6, Q_HI0_e10, Q_HO166, Q_HA_HO166, Q_HI0_e14, Q_HI0_e18, Q_BK153_e20, Q_X3_, Q_X15_⟩ hb_ hon hoff
       refine ⟨_, rfl, fun K hK => ?_⟩
       have e10 : a.tmps[10]? = some (.int .i64 (wrap64 (t160 * 720))) := by rw [ha]; exact putSel_on (e := (7, 10, .int .i64 (wrap64 (t160 * 720)))) 5 rfl rfl (hon 7 (by kernel_rfl)) rfl
       replace ha := Aside0.mk ha
       have BK153 := Aside0.mk (Q_BK153 (hoff 20 (by kernel_rfl)))
       have HK := Aside0.mk Q_HK
       have HB := Aside0.mk Q_HB
       refine value_ (w1 := w') (v := .int .i64 (wrap64 (14130000 + (wrap64 (t160 * 720))))) (by rfl) rfl ?_ ?_
       ·go_simp
        (try simp only [i64_w])
        try rfl
       refine hK.out _ _ ⟨v155, adz_v155, v165, adz_v165, m3_, m15_, (by rw [ha.out]; exact putSel_upk 6 hb_ rfl rfl rfl), Q_BK153, fun h0_ => absurd ((hon 2 (by kernel_rfl)).symm.trans h0_) (by decide), Q_HK, Q_HB, Q_HO156, Q_HA_HO156, fun _ h1_ => absurd ((hon 6 (by kernel_rfl)).symm.trans h1_) (by decide), Q_HI0_e6, Q_HI0_e10, Q_HO166, Q_HA_HO166, Q_HI0_e14, Q_HI0_e18, fun h0_ => absurd ((hoff 20 (by kernel_rfl)).symm.trans h0_) (by decide), Q_X3_, Q_X15_⟩
      refine steps_cons ?_ ?_
      ·rintro b a w' ⟨v155, adz_v155, v165, adz_v165, m3_, m15_, ha, Q_BK153, Q_HI0, Q_HK, Q_HB, Q_HO156, Q_HA_HO156, Q_HI0_e2, Q_HI0_e6, Q_HI0_e10, Q_HO166, Q_HA_HO166, Q_HI0_e14, Q_HI0_e18, Q_BK153_e20, Q_X3_, Q_X15_⟩ hb_ hon hoff
       refine ⟨_, rfl, fun K hK => ?_⟩
       have e12 : a.tmps[12]? = some (.pointer (some ⟨g, 0, none⟩)) := by rw [ha]; exact (putSel_off rfl).trans rfl
       replace ha := Aside0.mk ha
       have BK153 := Aside0.mk (Q_BK153 (hoff 20 (by kernel_rfl)))
       have HK := Aside0.mk Q_HK
       have HB := Aside0.mk Q_HB
       have HI0 := Aside0.mk (Q_HI0_e6 (hon 6 (by kernel_rfl)) hb_)
       refine goes_ Try.func39 (by kernel_rfl) rfl #[.pointer (some ⟨g, 0, none⟩), .int .i64 5] (by rfl) rfl rfl (by first | (simp only [List.map_toArray, List.map_cons, List.map_nil, Act.eval, Array.getD_eq_getD_getElem?, Option.getD_some, e12]; done) | (simp only [List.map_toArray, List.map_cons, List.map_nil, Act.eval, Array.getD_eq_getD_getElem?, Option.getD_some, e12]; rfl)) ?_
       with_reducible refine (spec_l1Rd_below.calls g s0_0 t161 5 t162 t163 w0 _ ?side1 ?side2 A6.out).mono ?_
       (case side1 => repeat (first | (with_reducible first | exact HI0.out | apply IsS78.alloc | apply IsS78.drewN | apply IsS78.drew | apply IsS78.set_1 | apply IsS78.far (hne := NB0_153.out)) | exact HI0.out))
       (case side2 => repeat (first | (with_reducible first | exact HB.out | apply below_alloc | apply pw_below_drewN | apply below_drew1 | refine below_set ?_ (IsS78.ge HI0.out) | refine below_set ?_ GE153.out) | exact HB.out))
       rintro e w16 ⟨rfl, hi, hb, hk⟩
       refine ⟨_, rfl, ?_⟩
       have n0_ := Aside0.mk (KeepBut.blk hk (g' := gb153) (o := .cells #[.string (⟨#[]⟩ : ByteArray), .int .i64 0, .int .i64 0, .int .i64 0, .int .i64 0] 31 (0, 0)) (by (with_reducible repeat (first | refine blk_drewN ?_ _ | refine blk_drew ?_ | refine blk_alloc ?_ _)); exact BK153.out) NB153_0.out (by simp))
       have n1_ := Aside0.mk (KeepBut.trans (by repeat (first | (with_reducible first | exact HK.out | apply KeepBut.set_ | apply keep_drewN | apply keep_drew | apply keep_alloc | refine keep_far ?_ GW153.out _) | exact HK.out)) hk (.inl rfl))
       have n2_ := Aside0.mk (hb)
       have n3_ := Aside0.mk (hi)
       have z_HO156 := fun (h0_ : b 0 = true) => (show Kd.R Kd.string 9 w16 w.heap.size (fun _ => True) v155 y154 from by first | exact (Kd.R_mono (Kd.R_keep (IsS78.apart (show IsS78 w0 _ g s0_0 t161 from by repeat (first | (with_reducible first | exact HI0.out | apply IsS78.alloc | apply IsS78.drewN | apply IsS78.drew | apply IsS78.set_1 | apply IsS78.far (hne := NB0_153.out)) | exact HI0.out)) (by (with_reducible repeat (first | apply Kd.R_alloc | apply Kd.R_drewN | apply Kd.R_drew)); exact (Q_HO156 h0_)) (by decide)) hk (fun _ h => h.2)) (fun _ h => h.1)) | exact Kd.R_mono (Kd.R_mono (Kd.R_keep (IsS78.apart (show IsS78 w0 _ g s0_0 t161 from by repeat (first | (with_reducible first | exact HI0.out | apply IsS78.alloc | apply IsS78.drewN | apply IsS78.drew | apply IsS78.set_1 | apply IsS78.far (hne := NB0_153.out)) | exact HI0.out)) (by (with_reducible repeat (first | apply Kd.R_alloc | apply Kd.R_drewN | apply Kd.R_drew)); exact (Q_HO156 h0_)) (by decide)) hk (fun _ h => h.2)) (fun _ h => h.1)) (fun _ h_ => by first | trivial | exact h_ | exact h_.1))
       have z_HO166 := fun (h0_ : b 12 = true) => (show Kd.R (Kd.int .i64) 2 w16 w.heap.size (fun _ => True) v165 y164 from by first | exact (Kd.R_mono (Kd.R_keep (IsS78.apart (show IsS78 w0 _ g s0_0 t161 from by repeat (first | (with_reducible first | exact HI0.out | apply IsS78.alloc | apply IsS78.drewN | apply IsS78.drew | apply IsS78.set_1 | apply IsS78.far (hne := NB0_153.out)) | exact HI0.out)) (by (with_reducible repeat (first | apply Kd.R_alloc | apply Kd.R_drewN | apply Kd.R_drew)); exact (Q_HO166 h0_)) (by decide)) hk (fun _ h => h.2)) (fun _ h => h.1)) | exact Kd.R_mono (Kd.R_mono (Kd.R_keep (IsS78.apart (show IsS78 w0 _ g s0_0 t161 from by repeat (first | (with_reducible first | exact HI0.out | apply IsS78.alloc | apply IsS78.drewN | apply IsS78.drew | apply IsS78.set_1 | apply IsS78.far (hne := NB0_153.out)) | exact HI0.out)) (by (with_reducible repeat (first | apply Kd.R_alloc | apply Kd.R_drewN | apply Kd.R_drew)); exact (Q_HO166 h0_)) (by decide)) hk (fun _ h => h.2)) (fun _ h => h.1)) (fun _ h_ => by first | trivial | exact h_ | exact h_.1))
       clear BK153
       clear HK
       clear HB
       clear HI0
       have BK153 := n0_
       have HK := n1_
       have HB := n2_
       have HI0 := n3_
       clear n0_ n1_ n2_ n3_
       (try clear hb)
       (try clear hb2)
       (try clear hk)
       (try clear hi)
       refine hK.out _ _ ⟨v155, adz_v155, v165, adz_v165, m3_, m15_, (by rw [ha.out]; exact putSel_upk 7 hb_ rfl rfl rfl), fun _ => (by (with_reducible repeat (first | refine blk_drewN ?_ _ | refine blk_drew ?_ | refine blk_alloc ?_ _)); exact BK153.out), fun h0_ => absurd ((hon 2 (by kernel_rfl)).symm.trans h0_) (by decide), (by repeat (first | (with_reducible first | exact HK.out | apply KeepBut.set_ | apply keep_drewN | apply keep_drew | apply keep_alloc | refine keep_far ?_ GW153.out _) | exact HK.out)), (by repeat (first | (with_reducible first | exact HB.out | apply below_alloc | apply pw_below_drewN | apply below_drew1 | refine below_set ?_ (IsS78.ge HI0.out) | refine below_set ?_ GE153.out) | exact HB.out)), z_HO156, Q_HA_HO156, fun _ h1_ => absurd ((hon 6 (by kernel_rfl)).symm.trans h1_) (by decide), fun _ h1_ => absurd ((up_self b 10).symm.trans h1_) (by decide), fun _ _ => (by repeat (first | (with_reducible first | exact HI0.out | apply IsS78.alloc | apply IsS78.drewN | apply IsS78.drew | apply IsS78.set_1 | apply IsS78.far (hne := NB0_153.out)) | exact HI0.out)), z_HO166, Q_HA_HO166, fun h0_ _ => absurd ((hoff 14 (by kernel_rfl)).symm.trans h0_) (by decide), fun h0_ => absurd ((hoff 18 (by kernel_rfl)).symm.trans h0_) (by decide), fun h0_ => absurd ((hoff 20 (by kernel_rfl)).symm.trans h0_) (by decide), Q_X3_, fun h0_ => absurd ((hoff 15 (by kernel_rfl)).symm.trans h0_) (by decide)⟩
      refine steps_cons ?_ ?_
      ·rintro b a w' ⟨v155, adz_v155, v165, adz_v165, m3_, m15_, ha, Q_BK153, Q_HI0, Q_HK, Q_HB, Q_HO156, Q_HA_HO156, Q_HI0_e2, Q_HI0_e6, Q_HI0_e10, Q_HO166, Q_HA_HO166, Q_HI0_e14, Q_HI0_e18, Q_BK153_e20, Q_X3_, Q_X15_⟩ hb_ hon hoff
       refine ⟨_, rfl, fun K hK => ?_⟩
       have e13 : a.tmps[13]? = some (.int .i64 t162) := by rw [ha]; exact putSel_on (e := (10, 13, .int .i64 t162)) 7 rfl rfl (hon 10 (by kernel_rfl)) rfl
       replace ha := Aside0.mk ha
       have BK153 := Aside0.mk (Q_BK153 (hoff 20 (by kernel_rfl)))
       have HK := Aside0.mk Q_HK
       have HB := Aside0.mk Q_HB
       refine value_ (w1 := w') (v := .int .i64 (wrap64 (t162 * 6))) (by rfl) rfl ?_ ?_
       ·go_simp
        (try simp only [i64_w])
        try rfl
       refine hK.out _ _ ⟨v155, adz_v155, v165, adz_v165, m3_, m15_, (by rw [ha.out]; exact putSel_upk 8 hb_ rfl rfl rfl), Q_BK153, fun h0_ => absurd ((hon 2 (by kernel_rfl)).symm.trans h0_) (by decide), Q_HK, Q_HB, Q_HO156, Q_HA_HO156, fun _ h1_ => absurd ((hon 6 (by kernel_rfl)).symm.trans h1_) (by decide), fun _ h1_ => absurd ((hon 10 (by kernel_rfl)).symm.trans h1_) (by decide), Q_HI0_e10, Q_HO166, Q_HA_HO166, Q_HI0_e14, Q_HI0_e18, fun h0_ => absurd ((hoff 20 (by kernel_rfl)).symm.trans h0_) (by decide), Q_X3_, Q_X15_⟩
      refine steps_cons ?_ ?_
      ·rintro b a w' ⟨v155, adz_v155, v165, adz_v165, m3_, m15_, ha, Q_BK153, Q_HI0, Q_HK, Q_HB, Q_HO156, Q_HA_HO156, Q_HI0_e2, Q_HI0_e6, Q_HI0_e10, Q_HO166, Q_HA_HO166, Q_HI0_e14, Q_HI0_e18, Q_BK153_e20, Q_X3_, Q_X15_⟩ hb_ hon hoff
       refine ⟨_, rfl, fun K hK => ?_⟩
       replace ha := Aside0.mk ha
       have BK153 := Aside0.mk (Q_BK153 (hoff 20 (by kernel_rfl)))
       have HK := Aside0.mk Q_HK
       have HB := Aside0.mk Q_HB
       refine Kd.R_lit_step (Kd.int .i64) _ 2 ?hg (N := 15) ?hd (xs := ([0, 500, 850] : List Int)) (inner := [.int .i64 0, .int .i64 500, .int .i64 850]) (ok := fun _ => True) (okp := fun _ => True) ?hr ?hp (fun _ hk => hk) trivial (Below.refl _ _) (Nat.le_refl _) (by simp) ?_; (case hd => rfl); (case hg => rfl); (case hr => first | (go_simp; done) | (go_simp; rfl)); (case hp => exact (Reps.one (show Kd.M (Kd.int .i64) _ _ _ 0 [.int .i64 0] from rfl) (Reps.one (show Kd.M (Kd.int .i64) _ _ _ 500 [.int .i64 500] from rfl) (Reps.one (show Kd.M (Kd.int .i64) _ _ _ 850 [.int .i64 850] from rfl) (Reps.none _ _)))))
       intro v165 w13 ho14 hb hg_ hnew_
       clear hg_ hnew_
       (first | rw [← Ny164.out] at ho14 | (simp only [Int.reduceToNat] at ho14; rw [← Ny164.out] at ho14))
       have n0_ := Aside0.mk (Kd.R_lower ho14 (keep_size (w := w) (g := g) (row := none) (by repeat (first | (with_reducible first | exact HK.out | apply KeepBut.set_ | apply keep_drewN | apply keep_drew | apply keep_alloc | refine keep_far ?_ GW153.out _) | exact HK.out))))
       have n2_ := Aside0.mk (blk_below (g := gb153) (o := .cells #[.string (⟨#[]⟩ : ByteArray), .int .i64 0, .int .i64 0, .int .i64 0, .int .i64 0] 31 (0, 0)) (by (with_reducible repeat (first | refine blk_drewN ?_ _ | refine blk_drew ?_ | refine blk_alloc ?_ _)); exact BK153.out) hb)
       have n3_ := Aside0.mk (KeepBut.trans (by repeat (first | (with_reducible first | exact HK.out | apply KeepBut.set_ | apply keep_drewN | apply keep_drew | apply keep_alloc | refine keep_far ?_ GW153.out _) | exact HK.out)) (KeepBut.of_below hb g none) (.inl rfl))
       have n4_ := Aside0.mk (below_step (by repeat (first | (with_reducible first | exact HB.out | apply below_alloc | apply pw_below_drewN | apply below_drew1 | refine below_set ?_ GE153.out) | exact HB.out)) hb)
       have z_HI0 := fun (h0_ : b 2 = false) => (show IsS78 w0 w13 g s0_0 s0_1 from by first | exact (IsS78.below (by repeat (first | (with_reducible first | exact (Q_HI0 h0_) | apply IsS78.alloc | apply IsS78.drewN | apply IsS78.drew | apply IsS78.set_1 | apply IsS78.far (hne := NB0_153.out)) | exact (Q_HI0 h0_))) hb))
       have z_HO156 := fun (h0_ : b 0 = true) => (show Kd.R Kd.string 9 w13 w.heap.size (fun _ => True) v155 y154 from by first | exact (Kd.R_below (by (with_reducible repeat (first | apply Kd.R_alloc | apply Kd.R_drewN | apply Kd.R_drew)); exact (Q_HO156 h0_)) hb) | exact Kd.R_mono (Kd.R_below (by (with_reducible repeat (first | apply Kd.R_alloc | apply Kd.R_drewN | apply Kd.R_drew)); exact (Q_HO156 h0_)) hb) (fun _ h_ => by first | trivial | exact h_ | exact h_.1))
       have z_HI0_e2 := fun (h0_ : b 2 = true) (h1_ : b 6 = false) => (show IsS78 w0 w13 g s0_0 t158 from by first | exact (IsS78.below (by repeat (first | (with_reducible first | exact (Q_HI0_e2 h0_ h1_) | apply IsS78.alloc | apply IsS78.drewN | apply IsS78.drew | apply IsS78.set_1 | apply IsS78.far (hne := NB0_153.out)) | exact (Q_HI0_e2 h0_ h1_))) hb))
       have z_HI0_e6 := fun (h0_ : b 6 = true) (h1_ : b 10 = false) => (show IsS78 w0 w13 g s0_0 t161 from by first | exact (IsS78.below (by repeat (first | (with_reducible first | exact (Q_HI0_e6 h0_ h1_) | apply IsS78.alloc | apply IsS78.drewN | apply IsS78.drew | apply IsS78.set_1 | apply IsS78.far (hne := NB0_153.out)) | exact (Q_HI0_e6 h0_ h1_))) hb))
       have z_HI0_e10 := fun (h0_ : b 10 = true) (h1_ : b 14 = false) => (show IsS78 w0 w13 g s0_0 t163 from by first | exact (IsS78.below (by repeat (first | (with_reducible first | exact (Q_HI0_e10 h0_ h1_) | apply IsS78.alloc | apply IsS78.drewN | apply IsS78.drew | apply IsS78.set_1 | apply IsS78.far (hne := NB0_153.out)) | exact (Q_HI0_e10 h0_ h1_))) hb))
       have z_HI0_e14 := fun (h0_ : b 14 = true) (h1_ : b 18 = false) => (show IsS78 w0 w13 g s0_0 t168 from by first | exact (IsS78.below (by repeat (first | (with_reducible first | exact (Q_HI0_e14 h0_ h1_) | apply IsS78.alloc | apply IsS78.drewN | apply IsS78.drew | apply IsS78.set_1 | apply IsS78.far (hne := NB0_153.out)) | exact (Q_HI0_e14 h0_ h1_))) hb))
       have z_HI0_e18 := fun (h0_ : b 18 = true) => (show IsS78 w0 w13 g s0_0 t171 from by first | exact (IsS78.below (by repeat (first | (with_reducible first | exact (Q_HI0_e18 h0_) | apply IsS78.alloc | apply IsS78.drewN | apply IsS78.drew | apply IsS78.set_1 | apply IsS78.far (hne := NB0_153.out)) | exact (Q_HI0_e18 h0_))) hb))
       clear BK153
       clear HK
       clear HB
       have HO166 := n0_
       have BK153 := n2_
       have HK := n3_
       have HB := n4_
       clear n0_ n2_ n3_ n4_
       clear hb ho14
       obtain ⟨Ao15, co15, eo15⟩ := Kd.R_slice HO166.out
       subst eo15
       obtain ⟨ado15, fo15, _⟩ := Kd.at_int (Kd.R_reads' HO166.out).2.2 0 (by decide) (by rw [Ny164.out]; simp)
       cases fo15
       refine hK.out _ _ ⟨v155, adz_v155, .slice (some ado15) y164.length co15, ado15, m3_, m15_, (by rw [ha.out]; exact putSel_upk 9 hb_ rfl rfl rfl), fun _ => (by (with_reducible repeat (first | refine blk_drewN ?_ _ | refine blk_drew ?_ | refine blk_alloc ?_ _)); exact BK153.out), z_HI0, (by repeat (first | (with_reducible first | exact HK.out | apply KeepBut.set_ | apply keep_drewN | apply keep_drew | apply keep_alloc | refine keep_far ?_ GW153.out _) | exact HK.out)), (by repeat (first | (with_reducible first | exact HB.out | apply below_alloc | apply pw_below_drewN | apply below_drew1 | refine below_set ?_ GE153.out) | exact HB.out)), z_HO156, Q_HA_HO156, z_HI0_e2, z_HI0_e6, z_HI0_e10, fun _ => (by (with_reducible repeat (first | apply Kd.R_alloc | apply Kd.R_drewN | apply Kd.R_drew)); exact HO166.out), fun _ => ⟨_, rfl⟩, z_HI0_e14, z_HI0_e18, fun h0_ => absurd ((hoff 20 (by kernel_rfl)).symm.trans h0_) (by decide), Q_X3_, fun h0_ => absurd ((hoff 15 (by kernel_rfl)).symm.trans h0_) (by decide)⟩
      refine steps_cons ?_ ?_
      ·rintro b a w' ⟨v155, adz_v155, v165, adz_v165, m3_, m15_, ha, Q_BK153, Q_HI0, Q_HK, Q_HB, Q_HO156, Q_HA_HO156, Q_HI0_e2, Q_HI0_e6, Q_HI0_e10, Q_HO166, Q_HA_HO166, Q_HI0_e14, Q_HI0_e18, Q_BK153_e20, Q_X3_, Q_X15_⟩ hb_ hon hoff
       refine ⟨_, rfl, fun K hK => ?_⟩
       have e16 : a.tmps[16]? = some (.pointer (some ⟨g, 0, none⟩)) := by rw [ha]; exact (putSel_off rfl).trans rfl
       replace ha := Aside0.mk ha
       have BK153 := Aside0.mk (Q_BK153 (hoff 20 (by kernel_rfl)))
       have HK := Aside0.mk Q_HK
       have HB := Aside0.mk Q_HB
       have HI0 := Aside0.mk (Q_HI0_e10 (hon 10 (by kernel_rfl)) hb_)
       refine goes_ Try.func39 (by kernel_rfl) rfl #[.pointer (some ⟨g, 0, none⟩), .int .i64 3] (by rfl) rfl rfl (by first | (simp only [List.map_toArray, List.map_cons, List.map_nil, Act.eval, Array.getD_eq_getD_getElem?, Option.getD_some, e16]; done) | (simp only [List.map_toArray, List.map_cons, List.map_nil, Act.eval, Array.getD_eq_getD_getElem?, Option.getD_some, e16]; rfl)) ?_
       with_reducible refine (spec_l1Rd_below.calls g s0_0 t163 3 t167 t168 w0 _ ?side1 ?side2 A7.out).mono ?_
       (case side1 => repeat (first | (with_reducible first | exact HI0.out | apply IsS78.alloc | apply IsS78.drewN | apply IsS78.drew | apply IsS78.set_1 | apply IsS78.far (hne := NB0_153.out)) | exact HI0.out))
       (case side2 => repeat (first | (with_reducible first | exact HB.out | apply below_alloc | apply pw_below_drewN | apply below_drew1 | refine below_set ?_ (IsS78.ge HI0.out) | refine below_set ?_ GE153.out) | exact HB.out))
       rintro e w17 ⟨rfl, hi, hb, hk⟩
       refine ⟨_, rfl, ?_⟩
       have n0_ := Aside0.mk (KeepBut.blk hk (g' := gb153) (o := .cells #[.string (⟨#[]⟩ : ByteArray), .int .i64 0, .int .i64 0, .int .i64 0, .int .i64 0] 31 (0, 0)) (by (with_reducible repeat (first | refine blk_drewN ?_ _ | refine blk_drew ?_ | refine blk_alloc ?_ _)); exact BK153.out) NB153_0.out (by simp))
       have n1_ := Aside0.mk (KeepBut.trans (by repeat (first | (with_reducible first | exact HK.out | apply KeepBut.set_ | apply keep_drewN | apply keep_drew | apply keep_alloc | refine keep_far ?_ GW153.out _) | exact HK.out)) hk (.inl rfl))
       have n2_ := Aside0.mk (hb)
       have n3_ := Aside0.mk (hi)
       have z_HO156 := fun (h0_ : b 0 = true) => (show Kd.R Kd.string 9 w17 w.heap.size (fun _ => True) v155 y154 from by first | exact (Kd.R_mono (Kd.R_keep (IsS78.apart (show IsS78 w0 _ g s0_0 t163 from by repeat (first | (with_reducible first | exact HI0.out | apply IsS78.alloc | apply IsS78.drewN | apply IsS78.drew | apply IsS78.set_1 | apply IsS78.far (hne := NB0_153.out)) | exact HI0.out)) (by (with_reducible repeat (first | apply Kd.R_alloc | apply Kd.R_drewN | apply Kd.R_drew)); exact (Q_HO156 h0_)) (by decide)) hk (fun _ h => h.2)) (fun _ h => h.1)) | exact Kd.R_mono (Kd.R_mono (Kd.R_keep (IsS78.apart (show IsS78 w0 _ g s0_0 t163 from by repeat (first | (with_reducible first | exact HI0.out | apply IsS78.alloc | apply IsS78.drewN | apply IsS78.drew | apply IsS78.set_1 | apply IsS78.far (hne := NB0_153.out)) | exact HI0.out)) (by (with_reducible repeat (first | apply Kd.R_alloc | apply Kd.R_drewN | apply Kd.R_drew)); exact (Q_HO156 h0_)) (by decide)) hk (fun _ h => h.2)) (fun _ h => h.1)) (fun _ h_ => by first | trivial | exact h_ | exact h_.1))
       have z_HO166 := fun (h0_ : b 12 = true) => (show Kd.R (Kd.int .i64) 2 w17 w.heap.size (fun _ => True) v165 y164 from by first | exact (Kd.R_mono (Kd.R_keep (IsS78.apart (show IsS78 w0 _ g s0_0 t163 from by repeat (first | (with_reducible first | exact HI0.out | apply IsS78.alloc | apply IsS78.drewN | apply IsS78.drew | apply IsS78.set_1 | apply IsS78.far (hne := NB0_153.out)) | exact HI0.out)) (by (with_reducible repeat (first | apply Kd.R_alloc | apply Kd.R_drewN | apply Kd.R_drew)); exact (Q_HO166 h0_)) (by decide)) hk (fun _ h => h.2)) (fun _ h => h.1)) | exact Kd.R_mono (Kd.R_mono (Kd.R_keep (IsS78.apart (show IsS78 w0 _ g s0_0 t163 from by repeat (first | (with_reducible first | exact HI0.out | apply IsS78.alloc | apply IsS78.drewN | apply IsS78.drew | apply IsS78.set_1 | apply IsS78.far (hne := NB0_153.out)) | exact HI0.out)) (by (with_reducible repeat (first | apply Kd.R_alloc | apply Kd.R_drewN | apply Kd.R_drew)); exact (Q_HO166 h0_)) (by decide)) hk (fun _ h => h.2)) (fun _ h => h.1)) (fun _ h_ => by first | trivial | exact h_ | exact h_.1))
       clear BK153
       clear HK
       clear HB
       clear HI0
       have BK153 := n0_
       have HK := n1_
       have HB := n2_
       have HI0 := n3_
       clear n0_ n1_ n2_ n3_
       (try clear hb)
       (try clear hb2)
       (try clear hk)
       (try clear hi)
       refine hK.out _ _ ⟨v155, adz_v155, v165, adz_v165, m3_, m15_, (by rw [ha.out]; exact putSel_upk 10 hb_ rfl rfl rfl), fun _ => (by (with_reducible repeat (first | refine blk_drewN ?_ _ | refine blk_drew ?_ | refine blk_alloc ?_ _)); exact BK153.out), fun h0_ => absurd ((hon 2 (by kernel_rfl)).symm.trans h0_) (by decide), (by repeat (first | (with_reducible first | exact HK.out | apply KeepBut.set_ | apply keep_drewN | apply keep_drew | apply keep_alloc | refine keep_far ?_ GW153.out _) | exact HK.out)), (by repeat (first | (with_reducible first | exact HB.out | apply below_alloc | apply pw_below_drewN | apply below_drew1 | refine below_set ?_ (IsS78.ge HI0.out) | refine below_set ?_ GE153.out) | exact HB.out)), z_HO156, Q_HA_HO156, fun _ h1_ => absurd ((hon 6 (by kernel_rfl)).symm.trans h1_) (by decide), fun _ h1_ => absurd ((hon 10 (by kernel_rfl)).symm.trans h1_) (by decide), fun _ h1_ => absurd ((up_self b 14).symm.trans h1_) (by decide), z_HO166, Q_HA_HO166, fun _ _ => (by repeat (first | (with_reducible first | exact HI0.out | apply IsS78.alloc | apply IsS78.drewN | apply IsS78.drew | apply IsS78.set_1 | apply IsS78.far (hne := NB0_153.out)) | exact HI0.out)), fun h0_ => absurd ((hoff 18 (by kernel_rfl)).symm.trans h0_) (by decide), fun h0_ => absurd ((hoff 20 (by kernel_rfl)).symm.trans h0_) (by decide), Q_X3_, fun h0_ => absurd ((hoff 15 (by kernel_rfl)).symm.trans h0_) (by decide)⟩
      refine steps_cons ?_ ?_
      ·rintro b a w' ⟨v155, adz_v155, v165, adz_v165, m3_, m15_, ha, Q_BK153, Q_HI0, Q_HK, Q_HB, Q_HO156, Q_HA_HO156, Q_HI0_e2, Q_HI0_e6, Q_HI0_e10, Q_HO166, Q_HA_HO166, Q_HI0_e14, Q_HI0_e18, Q_BK153_e20, Q_X3_, Q_X15_⟩ hb_ hon hoff
       refine ⟨_, rfl, fun K hK => ?_⟩
       have e15 : a.tmps[15]? = some (v165) := by rw [ha]; exact putSel_on (e := (12, 15, v165)) 9 rfl rfl (hon 12 (by kernel_rfl)) rfl
       have e17 : a.tmps[17]? = some (.int .i64 t167) := by rw [ha]; exact putSel_on (e := (14, 17, .int .i64 t167)) 10 rfl rfl (hon 14 (by kernel_rfl)) rfl
       replace ha := Aside0.mk ha
       have BK153 := Aside0.mk (Q_BK153 (hoff 20 (by kernel_rfl)))
       have HK := Aside0.mk Q_HK
       have HB := Aside0.mk Q_HB
       have HO166 := Aside0.mk (Q_HO166 (hon 12 (by kernel_rfl)))
       have HA_HO166 := Aside0.mk (Q_HA_HO166 (hon 12 (by kernel_rfl)))
       obtain ⟨c_, hv_⟩ := HA_HO166.out
       rw [hv_] at e15
       refine value_ (w1 := w') (v := .pointer (some (adz_v165.add (t167).toNat))) (by rfl) rfl ?_ ?_
       ·go_simp
        (try simp only [i64_w])
        try rfl
       refine hK.out _ _ ⟨v155, adz_v155, v165, adz_v165, m3_, (.pointer (some (adz_v165.add (t167).toNat))), (by rw [ha.out]; exact putSel_upk 11 hb_ rfl rfl rfl), Q_BK153, fun h0_ => absurd ((hon 2 (by kernel_rfl)).symm.trans h0_) (by decide), Q_HK, Q_HB, Q_HO156, Q_HA_HO156, fun _ h1_ => absurd ((hon 6 (by kernel_rfl)).symm.trans h1_) (by decide), fun _ h1_ => absurd ((hon 10 (by kernel_rfl)).symm.trans h1_) (by decide), fun _ h1_ => absurd ((hon 14 (by kernel_rfl)).symm.trans h1_) (by decide), Q_HO166, Q_HA_HO166, Q_HI0_e14, Q_HI0_e18, fun h0_ => absurd ((hoff 20 (by kernel_rfl)).symm.trans h0_) (by decide), Q_X3_, fun _ => rfl⟩
      refine steps_cons ?_ ?_
      ·rintro b a w' ⟨v155, adz_v155, v165, adz_v165, m3_, m15_, ha, Q_BK153, Q_HI0, Q_HK, Q_HB, Q_HO156, Q_HA_HO156, Q_HI0_e2, Q_HI0_e6, Q_HI0_e10, Q_HO166, Q_HA_HO166, Q_HI0_e14, Q_HI0_e18, Q_BK153_e20, Q_X3_, Q_X15_⟩ hb_ hon hoff
       refine ⟨_, rfl, fun K hK => ?_⟩
       have e18 : a.tmps[18]? = some (m15_) := by rw [ha]; exact putSel_on (e := (15, 18, m15_)) 11 rfl rfl (hon 15 (by kernel_rfl)) rfl
       rw [Q_X15_ (hon 15 (by kernel_rfl))] at e18
       replace ha := Aside0.mk ha
       have BK153 := Aside0.mk (Q_BK153 (hoff 20 (by kernel_rfl)))
       have HK := Aside0.mk Q_HK
       have HB := Aside0.mk Q_HB
       have HO166 := Aside0.mk (Q_HO166 (hon 12 (by kernel_rfl)))
       have HA_HO166 := Aside0.mk (Q_HA_HO166 (hon 12 (by kernel_rfl)))
       obtain ⟨c_, hv_⟩ := HA_HO166.out
       have hF_ := HO166.out
       rw [hv_] at hF_
       obtain ⟨ad_, ea_, hx_⟩ := Kd.at_int (Kd.R_reads' hF_).2.2 t167 (of_eq_true pi169) (of_eq_true qi169)
       cases ea_
       refine value_ (w1 := w') (v := .int .i64 (rd y164 t167)) (by rfl) rfl ?_ ?_
       ·go_simp
        (try simp only [i64_w])
        try rfl
       refine hK.out _ _ ⟨v155, adz_v155, v165, adz_v165, m3_, m15_, (by rw [ha.out]; exact putSel_upk 12 hb_ rfl rfl rfl), Q_BK153, fun h0_ => absurd ((hon 2 (by kernel_rfl)).symm.trans h0_) (by decide), Q_HK, Q_HB, Q_HO156, Q_HA_HO156, fun _ h1_ => absurd ((hon 6 (by kernel_rfl)).symm.trans h1_) (by decide), fun _ h1_ => absurd ((hon 10 (by kernel_rfl)).symm.trans h1_) (by decide), fun _ h1_ => absurd ((hon 14 (by kernel_rfl)).symm.trans h1_) (by decide), Q_HO166, Q_HA_HO166, Q_HI0_e14, Q_HI0_e18, fun h0_ => absurd ((hoff 20 (by kernel_rfl)).symm.trans h0_) (by decide), Q_X3_, Q_X15_⟩
      refine steps_cons ?_ ?_
      ·rintro b a w' ⟨v155, adz_v155, v165, adz_v165, m3_, m15_, ha, Q_BK153, Q_HI0, Q_HK, Q_HB, Q_HO156, Q_HA_HO156, Q_HI0_e2, Q_HI0_e6, Q_HI0_e10, Q_HO166, Q_HA_HO166, Q_HI0_e14, Q_HI0_e18, Q_BK153_e20, Q_X3_, Q_X15_⟩ hb_ hon hoff
       refine ⟨_, rfl, fun K hK => ?_⟩
       have e20 : a.tmps[20]? = some (.pointer (some ⟨g, 0, none⟩)) := by rw [ha]; exact (putSel_off rfl).trans rfl
       replace ha := Aside0.mk ha
       have BK153 := Aside0.mk (Q_BK153 (hoff 20 (by kernel_rfl)))
       have HK := Aside0.mk Q_HK
       have HB := Aside0.mk Q_HB
       have HI0 := Aside0.mk (Q_HI0_e14 (hon 14 (by kernel_rfl)) hb_)
       refine goes_ Try.func39 (by kernel_rfl) rfl #[.pointer (some ⟨g, 0, none⟩), .int .i64 90] (by rfl) rfl rfl (by first | (simp only [List.map_toArray, List.map_cons, List.map_nil, Act.eval, Array.getD_eq_getD_getElem?, Option.getD_some, e20]; done) | (simp only [List.map_toArray, List.map_cons, List.map_nil, Act.eval, Array.getD_eq_getD_getElem?, Option.getD_some, e20]; rfl)) ?_
       with_reducible refine (spec_l1Rd_below.calls g s0_0 t168 90 t170 t171 w0 _ ?side1 ?side2 A10.out).mono ?_
       (case side1 => repeat (first | (with_reducible first | exact HI0.out | apply IsS78.alloc | apply IsS78.drewN | apply IsS78.drew | apply IsS78.set_1 | apply IsS78.far (hne := NB0_153.out)) | exact HI0.out))
       (case side2 => repeat (first | (with_reducible first | exact HB.out | apply below_alloc | apply pw_below_drewN | apply below_drew1 | refine below_set ?_ (IsS78.ge HI0.out) | refine below_set ?_ GE153.out) | exact HB.out))
       rintro e w18 ⟨rfl, hi, hb, hk⟩
       refine ⟨_, rfl, ?_⟩
       have n0_ := Aside0.mk (KeepBut.blk hk (g' := gb153) (o := .cells #[.string (⟨#[]⟩ : ByteArray), .int .i64 0, .int .i64 0, .int .i64 0, .int .i64 0] 31 (0, 0)) (by (with_reducible repeat (first | refine blk_drewN ?_ _ | refine blk_drew ?_ | refine blk_alloc ?_ _)); exact BK153.out) NB153_0.out (by simp))
       have n1_ := Aside0.mk (KeepBut.trans (by repeat (first | (with_reducible first | exact HK.out | apply KeepBut.set_ | apply keep_drewN | apply keep_drew | apply keep_alloc | refine keep_far ?_ GW153.out _) | exact HK.out)) hk (.inl rfl))
       have n2_ := Aside0.mk (hb)
       have n3_ := Aside0.mk (hi)
       have z_HO156 := fun (h0_ : b 0 = true) => (show Kd.R Kd.string 9 w18 w.heap.size (fun _ => True) v155 y154 from by first | exact (Kd.R_mono (Kd.R_keep (IsS78.apart (show IsS78 w0 _ g s0_0 t168 from by repeat (first | (with_reducible first | exact HI0.out | apply IsS78.alloc | apply IsS78.drewN | apply IsS78.drew | apply IsS78.set_1 | apply IsS78.far (hne := NB0_153.out)) | exact HI0.out)) (by (with_reducible repeat (first | apply Kd.R_alloc | apply Kd.R_drewN | apply Kd.R_drew)); exact (Q_HO156 h0_)) (by decide)) hk (fun _ h => h.2)) (fun _ h => h.1)) | exact Kd.R_mono (Kd.R_mono (Kd.R_keep (IsS78.apart (show IsS78 w0 _ g s0_0 t168 from by repeat (first | (with_reducible first | exact HI0.out | apply IsS78.alloc | apply IsS78.drewN | apply IsS78.drew | apply IsS78.set_1 | apply IsS78.far (hne := NB0_153.out)) | exact HI0.out)) (by (with_reducible repeat (first | apply Kd.R_alloc | apply Kd.R_drewN | apply Kd.R_drew)); exact (Q_HO156 h0_)) (by decide)) hk (fun _ h => h.2)) (fun _ h => h.1)) (fun _ h_ => by first | trivial | exact h_ | exact h_.1))
       have z_HO166 := fun (h0_ : b 12 = true) => (show Kd.R (Kd.int .i64) 2 w18 w.heap.size (fun _ => True) v165 y164 from by first | exact (Kd.R_mono (Kd.R_keep (IsS78.apart (show IsS78 w0 _ g s0_0 t168 from by repeat (first | (with_reducible first | exact HI0.out | apply IsS78.alloc | apply IsS78.drewN | apply IsS78.drew | apply IsS78.set_1 | apply IsS78.far (hne := NB0_153.out)) | exact HI0.out)) (by (with_reducible repeat (first | apply Kd.R_alloc | apply Kd.R_drewN | apply Kd.R_drew)); exact (Q_HO166 h0_)) (by decide)) hk (fun _ h => h.2)) (fun _ h => h.1)) | exact Kd.R_mono (Kd.R_mono (Kd.R_keep (IsS78.apart (show IsS78 w0 _ g s0_0 t168 from by repeat (first | (with_reducible first | exact HI0.out | apply IsS78.alloc | apply IsS78.drewN | apply IsS78.drew | apply IsS78.set_1 | apply IsS78.far (hne := NB0_153.out)) | exact HI0.out)) (by (with_reducible repeat (first | apply Kd.R_alloc | apply Kd.R_drewN | apply Kd.R_drew)); exact (Q_HO166 h0_)) (by decide)) hk (fun _ h => h.2)) (fun _ h => h.1)) (fun _ h_ => by first | trivial | exact h_ | exact h_.1))
       clear BK153
       clear HK
       clear HB
       clear HI0
       have BK153 := n0_
       have HK := n1_
       have HB := n2_
       have HI0 := n3_
       clear n0_ n1_ n2_ n3_
       (try clear hb)
       (try clear hb2)
       (try clear hk)
       (try clear hi)
       refine hK.out _ _ ⟨v155, adz_v155, v165, adz_v165, m3_, m15_, (by rw [ha.out]; exact putSel_upk 13 hb_ rfl rfl rfl), fun _ => (by (with_reducible repeat (first | refine blk_drewN ?_ _ | refine blk_drew ?_ | refine blk_alloc ?_ _)); exact BK153.out), fun h0_ => absurd ((hon 2 (by kernel_rfl)).symm.trans h0_) (by decide), (by repeat (first | (with_reducible first | exact HK.out | apply KeepBut.set_ | apply keep_drewN | apply keep_drew | apply keep_alloc | refine keep_far ?_ GW153.out _) | exact HK.out)), (by repeat (first | (with_reducible first | exact HB.out | apply below_alloc | apply pw_below_drewN | apply below_drew1 | refine below_set ?_ (IsS78.ge HI0.out) | refine below_set ?_ GE153.out) | exact HB.out)), z_HO156, Q_HA_HO156, fun _ h1_ => absurd ((hon 6 (by kernel_rfl)).symm.trans h1_) (by decide), fun _ h1_ => absurd ((hon 10 (by kernel_rfl)).symm.trans h1_) (by decide), fun _ h1_ => absurd ((hon 14 (by kernel_rfl)).symm.trans h1_) (by decide), z_HO166, Q_HA_HO166, fun _ h1_ => absurd ((up_self b 18).symm.trans h1_) (by decide), fun _ => (by repeat (first | (with_reducible first | exact HI0.out | apply IsS78.alloc | apply IsS78.drewN | apply IsS78.drew | apply IsS78.set_1 | apply IsS78.far (hne := NB0_153.out)) | exact HI0.out)), fun h0_ => absurd ((hoff 20 (by kernel_rfl)).symm.trans h0_) (by decide), Q_X3_, Q_X15_⟩
      refine steps_cons ?_ ?_
      ·rintro b a w' ⟨v155, adz_v155, v165, adz_v165, m3_, m15_, ha, Q_BK153, Q_HI0, Q_HK, Q_HB, Q_HO156, Q_HA_HO156, Q_HI0_e2, Q_HI0_e6, Q_HI0_e10, Q_HO166, Q_HA_HO166, Q_HI0_e14, Q_HI0_e18, Q_BK153_e20, Q_X3_, Q_X15_⟩ hb_ hon hoff
       refine ⟨_, rfl, fun K hK => ?_⟩
       have e7 : a.tmps[7]? = some (.string (rdOf ByteArray.empty y154 t157)) := by rw [ha]; exact putSel_on (e := (4, 7, .string (rdOf ByteArray.empty y154 t157))) 3 rfl rfl (hon 4 (by kernel_rfl)) rfl
       have e11 : a.tmps[11]? = some (.int .i64 (wrap64 (14130000 + (wrap64 (t160 * 720))))) := by rw [ha]; exact putSel_on (e := (8, 11, .int .i64 (wrap64 (14130000 + (wrap64 (t160 * 720)))))) 6 rfl rfl (hon 8 (by kernel_rfl)) rfl
       have e14 : a.tmps[14]? = some (.int .i64 (wrap64 (t162 * 6))) := by rw [ha]; exact putSel_on (e := (11, 14, .int .i64 (wrap64 (t162 * 6)))) 8 rfl rfl (hon 11 (by kernel_rfl)) rfl
       have e19 : a.tmps[19]? = some (.int .i64 (rd y164 t167)) := by rw [ha]; exact putSel_on (e := (16, 19, .int .i64 (rd y164 t167))) 12 rfl rfl (hon 16 (by kernel_rfl)) rfl
       have e21 : a.tmps[21]? = some (.int .i64 t170) := by rw [ha]; exact putSel_on (e := (18, 21, .int .i64 t170)) 13 rfl rfl (hon 18 (by kernel_rfl)) rfl
       replace ha := Aside0.mk ha
       have BK153 := Aside0.mk (Q_BK153 (hoff 20 (by kernel_rfl)))
       have HK := Aside0.mk Q_HK
       have HB := Aside0.mk Q_HB
       have HO156 := Aside0.mk (Q_HO156 (hon 0 (by kernel_rfl)))
       have HA_HO156 := Aside0.mk (Q_HA_HO156 (hon 0 (by kernel_rfl)))
       have HO166 := Aside0.mk (Q_HO166 (hon 12 (by kernel_rfl)))
       have HA_HO166 := Aside0.mk (Q_HA_HO166 (hon 12 (by kernel_rfl)))
       have HI0 := Aside0.mk (Q_HI0_e18 (hon 18 (by kernel_rfl)))
       refine value_ (w1 := w') (v := .agg #[.string (rdOf ByteArray.empty y154 t157), .int .i64 (wrap64 (14130000 + (wrap64 (t160 * 720)))), .int .i64 (wrap64 (t162 * 6)), .int .i64 (rd y164 t167), .int .i64 t170]) (by rfl) rfl ?_ ?_
       ·go_simp
        (try simp only [i64_w])
        try rfl
       refine hK.out _ _ ⟨v155, adz_v155, v165, adz_v165, m3_, m15_, (by rw [ha.out]; exact putSel_upk 14 hb_ rfl rfl rfl), Q_BK153, fun h0_ => absurd ((hon 2 (by kernel_rfl)).symm.trans h0_) (by decide), Q_HK, Q_HB, Q_HO156, Q_HA_HO156, fun _ h1_ => absurd ((hon 6 (by kernel_rfl)).symm.trans h1_) (by decide), fun _ h1_ => absurd ((hon 10 (by kernel_rfl)).symm.trans h1_) (by decide), fun _ h1_ => absurd ((hon 14 (by kernel_rfl)).symm.trans h1_) (by decide), Q_HO166, Q_HA_HO166, fun _ h1_ => absurd ((hon 18 (by kernel_rfl)).symm.trans h1_) (by decide), Q_HI0_e18, fun h0_ => absurd ((hoff 20 (by kernel_rfl)).symm.trans h0_) (by decide), Q_X3_, Q_X15_⟩
      refine steps_cons ?_ ?_
      ·rintro b a w' ⟨v155, adz_v155, v165, adz_v165, m3_, m15_, ha, Q_BK153, Q_HI0, Q_HK, Q_HB, Q_HO156, Q_HA_HO156, Q_HI0_e2, Q_HI0_e6, Q_HI0_e10, Q_HO166, Q_HA_HO166, Q_HI0_e14, Q_HI0_e18, Q_BK153_e20, Q_X3_, Q_X15_⟩ hb_ hon hoff
       refine ⟨_, rfl, fun K hK => ?_⟩
       have e2 : a.tmps[2]? = some (.pointer (some ⟨gb153, 0, none⟩)) := by rw [ha]; exact (putSel_off rfl).trans rfl
       have e22 : a.tmps[22]? = some (.agg #[.string (rdOf ByteArray.empty y154 t157), .int .i64 (wrap64 (14130000 + (wrap64 (t160 * 720)))), .int .i64 (wrap64 (t162 * 6)), .int .i64 (rd y164 t167), .int .i64 t170]) := by rw [ha]; exact putSel_on (e := (19, 22, .agg #[.string (rdOf ByteArray.empty y154 t157), .int .i64 (wrap64 (14130000 + (wrap64 (t160 * 720)))), .int .i64 (wrap64 (t162 * 6)), .int .i64 (rd y164 t167), .int .i64 t170])) 14 rfl rfl (hon 19 (by kernel_rfl)) rfl
       replace ha := Aside0.mk ha
       have BK153 := Aside0.mk (Q_BK153 hb_)
       have HK := Aside0.mk Q_HK
       have HB := Aside0.mk Q_HB
       have HO156 := Aside0.mk (Q_HO156 (hon 0 (by kernel_rfl)))
       have HA_HO156 := Aside0.mk (Q_HA_HO156 (hon 0 (by kernel_rfl)))
       have HO166 := Aside0.mk (Q_HO166 (hon 12 (by kernel_rfl)))
       have HA_HO166 := Aside0.mk (Q_HA_HO166 (hon 12 (by kernel_rfl)))
       have HI0 := Aside0.mk (Q_HI0_e18 (hon 18 (by kernel_rfl)))
       obtain ⟨co25, eo25⟩ := HA_HO156.out
       clear HA_HO156
       subst eo25
       obtain ⟨co26, eo26⟩ := HA_HO166.out
       clear HA_HO166
       subst eo26
       have hs27 : w'.cell? ⟨gb153, 0, none⟩ = some (.string (⟨#[]⟩ : ByteArray)) := (blk_cell BK153.out 0).trans rfl
       have hfs27 := blk_frozen BK153.out 0
       have hs28 : w'.cell? ⟨gb153, 1, none⟩ = some (.int .i64 0) := (blk_cell BK153.out 1).trans rfl
       have hfs28 := blk_frozen BK153.out 1
       have hs29 : w'.cell? ⟨gb153, 2, none⟩ = some (.int .i64 0) := (blk_cell BK153.out 2).trans rfl
       have hfs29 := blk_frozen BK153.out 2
       have hs30 : w'.cell? ⟨gb153, 3, none⟩ = some (.int .i64 0) := (blk_cell BK153.out 3).trans rfl
       have hfs30 := blk_frozen BK153.out 3
       have hs31 : w'.cell? ⟨gb153, 4, none⟩ = some (.int .i64 0) := (blk_cell BK153.out 4).trans rfl
       have hfs31 := blk_frozen BK153.out 4
       refine skip_ (w1 := ?_) (by rfl) rfl ?_ ?_
       rotate_left
       ·go_simp
        rfl
       refine hK.out _ _ ⟨.slice (some adz_v155) y154.length co25, adz_v155, .slice (some adz_v165) y164.length co26, adz_v165, m3_, m15_, (by rw [ha.out]; exact putSel_none (v := undef) rfl), fun h0_ => absurd ((up_self b 20).symm.trans h0_) (by decide), fun h0_ => absurd ((hon 2 (by kernel_rfl)).symm.trans h0_) (by decide), (by repeat (first | (with_reducible first | exact HK.out | apply KeepBut.set_ | apply keep_drewN | apply keep_drew | apply keep_alloc | refine keep_far ?_ GW153.out _) | exact HK.out)), (by repeat (first | (with_reducible first | exact HB.out | apply below_alloc | apply pw_below_drewN | apply below_drew1 | refine below_set ?_ (IsS78.ge HI0.out) | refine below_set ?_ GE153.out) | exact HB.out)), fun _ => (by (with_reducible repeat (first | apply Kd.R_alloc | apply Kd.R_drewN | apply Kd.R_drew)); exact Kd.R_mono (Kd.R_far (p := ⟨gb153, 4, none⟩) (Kd.R_far (p := ⟨gb153, 3, none⟩) (Kd.R_far (p := ⟨gb153, 2, none⟩) (Kd.R_far (p := ⟨gb153, 1, none⟩) (Kd.R_far (p := ⟨gb153, 0, none⟩) (Kd.R_types HO156.out BK153.out (by decide)) (fun _ hk => hk.2) (.string (rdOf ByteArray.empty y154 t157))) (fun _ hk => hk.2) (.int .i64 (wrap64 (14130000 + (wrap64 (t160 * 720)))))) (fun _ hk => hk.2) (.int .i64 (wrap64 (t162 * 6)))) (fun _ hk => hk.2) (.int .i64 (rd y164 t167))) (fun _ hk => hk.2) (.int .i64 t170)) (fun _ hk => trivial)), fun _ => ⟨_, rfl⟩, fun _ h1_ => absurd ((hon 6 (by kernel_rfl)).symm.trans h1_) (by decide), fun _ h1_ => absurd ((hon 10 (by kernel_rfl)).symm.trans h1_) (by decide), fun _ h1_ => absurd ((hon 14 (by kernel_rfl)).symm.trans h1_) (by decide), fun _ => (by (with_reducible repeat (first | apply Kd.R_alloc | apply Kd.R_drewN | apply Kd.R_drew)); exact Kd.R_mono (Kd.R_far (p := ⟨gb153, 4, none⟩) (Kd.R_far (p := ⟨gb153, 3, none⟩) (Kd.R_far (p := ⟨gb153, 2, none⟩) (Kd.R_far (p := ⟨gb153, 1, none⟩) (Kd.R_far (p := ⟨gb153, 0, none⟩) (Kd.R_types HO166.out BK153.out (by decide)) (fun _ hk => hk.2) (.string (rdOf ByteArray.empty y154 t157))) (fun _ hk => hk.2) (.int .i64 (wrap64 (14130000 + (wrap64 (t160 * 720)))))) (fun _ hk => hk.2) (.int .i64 (wrap64 (t162 * 6)))) (fun _ hk => hk.2) (.int .i64 (rd y164 t167))) (fun _ hk => hk.2) (.int .i64 t170)) (fun _ hk => trivial)), fun _ => ⟨_, rfl⟩, fun _ h1_ => absurd ((hon 18 (by kernel_rfl)).symm.trans h1_) (by decide), fun _ => (by repeat (first | (with_reducible first | exact HI0.out | apply IsS78.alloc | apply IsS78.drewN | apply IsS78.drew | apply IsS78.set_1 | apply IsS78.far (hne := NB0_153.out)) | exact HI0.out)), fun _ => (by (with_reducible repeat (first | refine blk_drewN ?_ _ | refine blk_drew ?_ | refine blk_alloc ?_ _)); refine blk_put (cs := #[.string (rdOf ByteArray.empty y154 t157), .int .i64 (wrap64 (14130000 + (wrap64 (t160 * 720)))), .int .i64 (wrap64 (t162 * 6)), .int .i64 (rd y164 t167), .int .i64 0]) ?_ 4 _ rfl; (with_reducible repeat (first | refine blk_drewN ?_ _ | refine blk_drew ?_ | refine blk_alloc ?_ _)); refine blk_put (cs := #[.string (rdOf ByteArray.empty y154 t157), .int .i64 (wrap64 (14130000 + (wrap64 (t160 * 720)))), .int .i64 (wrap64 (t162 * 6)), .int .i64 0, .int .i64 0]) ?_ 3 _ rfl; (with_reducible repeat (first | refine blk_drewN ?_ _ | refine blk_drew ?_ | refine blk_alloc ?_ _)); refine blk_put (cs := #[.string (rdOf ByteArray.empty y154 t157), .int .i64 (wrap64 (14130000 + (wrap64 (t160 * 720)))), .int .i64 0, .int .i64 0, .int .i64 0]) ?_ 2 _ rfl; (with_reducible repeat (first | refine blk_drewN ?_ _ | refine blk_drew ?_ | refine blk_alloc ?_ _)); refine blk_put (cs := #[.string (rdOf ByteArray.empty y154 t157), .int .i64 0, .int .i64 0, .int .i64 0, .int .i64 0]) ?_ 1 _ rfl; (with_reducible repeat (first | refine blk_drewN ?_ _ | refine blk_drew ?_ | refine blk_alloc ?_ _)); refine blk_put (cs := #[.string (⟨#[]⟩ : ByteArray), .int .i64 0, .int .i64 0, .int .i64 0, .int .i64 0]) ?_ 0 _ rfl; (with_reducible repeat (first | refine blk_drewN ?_ _ | refine blk_drew ?_ | refine blk_alloc ?_ _)); exact BK153.out), Q_X3_, Q_X15_⟩
      exact steps_nil
     rintro b a w29 hall ⟨v155, adz_v155, v165, adz_v165, m3_, m15_, ha, Q_BK153, Q_HI0, Q_HK, Q_HB, Q_HO156, Q_HA_HO156, Q_HI0_e2, Q_HI0_e6, Q_HI0_e10, Q_HO166, Q_HA_HO166, Q_HI0_e14, Q_HI0_e18, Q_BK153_e20, Q_X3_, Q_X15_⟩
     clear BK153 HB HI0 HK
     have hb0_ := hall 0 (by kernel_rfl)
     have hb2_ := hall 2 (by kernel_rfl)
     have hb3_ := hall 3 (by kernel_rfl)
     have hb4_ := hall 4 (by kernel_rfl)
     have hb6_ := hall 6 (by kernel_rfl)
     have hb7_ := hall 7 (by kernel_rfl)
     have hb8_ := hall 8 (by kernel_rfl)
     have hb10_ := hall 10 (by kernel_rfl)
     have hb11_ := hall 11 (by kernel_rfl)
     have hb12_ := hall 12 (by kernel_rfl)
     have hb14_ := hall 14 (by kernel_rfl)
     have hb15_ := hall 15 (by kernel_rfl)
     have hb16_ := hall 16 (by kernel_rfl)
     have hb18_ := hall 18 (by kernel_rfl)
     have hb19_ := hall 19 (by kernel_rfl)
     have hb20_ := hall 20 (by kernel_rfl)
     subst ha
     obtain rfl := Q_X3_ hb3_
     obtain rfl := Q_X15_ hb15_
     simp only [putSel, hb0_, hb2_, hb3_, hb4_, hb6_, hb7_, hb8_, hb10_, hb11_, hb12_, hb14_, hb15_, hb16_, hb18_, hb19_, hb20_, if_true, Act.put, sqA, sqZ, sqS]
     clear Q_BK153
     clear Q_HI0
     have HK := Aside0.mk Q_HK
     clear Q_HK
     have HB := Aside0.mk Q_HB
     clear Q_HB
     have HO156 := Aside0.mk (Q_HO156 hb0_)
     clear Q_HO156
     have HA_HO156 := Aside0.mk (Q_HA_HO156 hb0_)
     clear Q_HA_HO156
     clear Q_HI0_e2
     clear Q_HI0_e6
     clear Q_HI0_e10
     have HO166 := Aside0.mk (Q_HO166 hb12_)
     clear Q_HO166
     have HA_HO166 := Aside0.mk (Q_HA_HO166 hb12_)
     clear Q_HA_HO166
     clear Q_HI0_e14
     have HI0 := Aside0.mk (Q_HI0_e18 hb18_)
     clear Q_HI0_e18
     have BK153 := Aside0.mk (Q_BK153_e20 hb20_)
     clear Q_BK153_e20
     clear hall hb0_ hb2_ hb3_ hb4_ hb6_ hb7_ hb8_ hb10_ hb11_ hb12_ hb14_ hb15_ hb16_ hb18_ hb19_ hb20_
     obtain ⟨co30, eo30⟩ := HA_HO156.out
     clear HA_HO156
     subst eo30
     obtain ⟨co31, eo31⟩ := HA_HO166.out
     clear HA_HO166
     subst eo31
     try go_wp2
     refine bodyPost_ret (results_cell_row rfl _ _ gb153 31 #[.string (rdOf ByteArray.empty y154 t157), .int .i64 (wrap64 (14130000 + (wrap64 (t160 * 720)))), .int .i64 (wrap64 (t162 * 6)), .int .i64 (rd y164 t167), .int .i64 t170] (0, 0) _ rfl (by (with_reducible repeat (first | refine blk_drewN ?_ _ | refine blk_drew ?_ | refine blk_alloc ?_ _)); exact BK153.out) Try.underlying31 rfl (by kernel_rfl)) rfl ?_
     exact ⟨by first | rfl | (simp [errW_none, errW_some] <;> rfl) | (simp [*, errW_none, errW_some] <;> rfl), by repeat (first | (with_reducible first | exact HI0.out | apply IsS78.alloc | apply IsS78.drewN | apply IsS78.drew | apply IsS78.set_1 | apply IsS78.far (hne := NB0_153.out)) | exact HI0.out), by repeat (first | (with_reducible first | exact HB.out | apply below_alloc | apply pw_below_drewN | apply below_drew1 | refine below_set ?_ (IsS78.ge HI0.out) | refine below_set ?_ GE153.out) | exact HB.out), by repeat (first | (with_reducible first | exact HK.out | apply KeepBut.set_ | apply keep_drewN | apply keep_drew | apply keep_alloc | refine keep_far ?_ GW153.out _) | exact HK.out)⟩
    ·rw [if_neg c9] at H
     exact absurd H (by simp)
   ·rw [if_neg c8] at H
    exact absurd H (by simp)
  ·rw [if_neg c4] at H
   exact absurd H (by simp)
 ·rw [if_neg c3] at H
  exact absurd H (by simp)

end Go.Proofs.Yteobnbichpadjab.Q
