/- Plain Lean functions with the same answers as the Go functions of this seat, and a proof for each that the Go code comes to just these answers; no condition. Written by a program of this session (the kit's printer, turned). -/
import Derived.Test.YtcdghhihfjojaabQx0
import Derived.Test.YtcdghhihfjojaabQx4
import Derived.Test.YtcdghhihfjojaabQx5
import Derived.Test.YtcdghhihfjojaabQx6
namespace Go.Proofs.Ytcdghhihfjojaab.Q
open Go.RowKit Go.Proofs.YtcdghhihfjojaabW.PrintWords Go.Proofs.YtcdghhihfjojaabW.PrintLast Go.Proofs.YtcdghhihfjojaabW.PrintMore Go.Proofs.YtcdghhihfjojaabW.PrintFlt
attribute [local go_sem] cmp_lss cmp_leq cmp_gtr cmp_geq cmp_eql cmp_neq flt_l flt_r fgt_l fgt_r feq_l feq_r fne_l fne_r ord_lt ord_gt ord_eq ord_ne conv_int conv_flt foi_fold run_store_flt
attribute [local go_sem] max2_int min2_int max_two min_two max_three min_three max_four min_four   -- for this text's walks alone
set_option linter.unusedVariables false
set_option linter.unusedSimpArgs false

/-! ### spec_l1Rd_box: function 50 -/
mutual
def spec_l1Rd_box.j0 : Nat → Bool → List Int → Int → Int → Int → Option (Int × Int × List Int × Int)
 | 0, _, _, _, _, _ => none
 | k + 1, x20, x1000, x1001, x121000, x121001 => if x20 = true then ((spec_l1Rd_below.f x1000 x1001 5).bind fun bt123 => ((spec_l1Rd_below.f x1000 bt123.2 5).bind fun bt125 => (spec_l1Rd_box.j1 k x1000 bt125.2 (wrap64 (x121000 + bt123.1)) (wrap64 (x121001 + bt125.1))))) else (spec_l1Rd_box.j1 k x1000 x1001 x121000 x121001)
def spec_l1Rd_box.j1 : Nat → List Int → Int → Int → Int → Option (Int × Int × List Int × Int)
 | 0, _, _, _, _ => none
 | k + 1, x1000, x1001, x121000, x121001 => spec_l1Rd_box.l0 k x1000 x1001 x121000 x121001 ([] : List Int)
def spec_l1Rd_box.l0 : Nat → List Int → Int → Int → Int → List Int → Option (Int × Int × List Int × Int)
 | 0, _, _, _, _, _ => none
 | k + 1, x1000, x1001, x121000, x121001, x121002 => if (x121002.length : Int) < (wrap64 (x121000 * x121001)) then ((spec_l1Rd_below.f x1000 x1001 9).bind fun bt127 => (if x121002.length < 17592186044416 then (spec_l1Rd_box.l0 k x1000 bt127.2 x121000 x121001 (x121002 ++ [bt127.1])) else (none))) else (some (x121000, x121001, x121002, x1001))
end
def spec_l1Rd_box.f (k : Nat) (s0_0 : List Int) (s0_1 : Int) : Option (Int × Int × List Int × Int) := (spec_l1Rd_below.f s0_0 s0_1 5).bind fun bt116 => ((spec_l1Rd_below.f s0_0 bt116.2 6).bind fun bt118 => (if (s0_0.length : Int) > 60 then ((spec_l1Rd_once.f s0_0 bt118.2 2).bind fun bt121 => (spec_l1Rd_box.j0 k bt121.1 s0_0 bt121.2 (wrap64 (1 + bt116.1)) (wrap64 (1 + bt118.1)))) else (spec_l1Rd_box.j0 k false s0_0 bt118.2 (wrap64 (1 + bt116.1)) (wrap64 (1 + bt118.1)))))
theorem spec_l1Rd_box.mono_l : ∀ k, (∀ y0 y1 y2 y3 y4, LeO (spec_l1Rd_box.j0 k y0 y1 y2 y3 y4) (spec_l1Rd_box.j0 (k + 1) y0 y1 y2 y3 y4)) ∧ (∀ y0 y1 y2 y3, LeO (spec_l1Rd_box.j1 k y0 y1 y2 y3) (spec_l1Rd_box.j1 (k + 1) y0 y1 y2 y3)) ∧ (∀ y0 y1 y2 y3 y4, LeO (spec_l1Rd_box.l0 k y0 y1 y2 y3 y4) (spec_l1Rd_box.l0 (k + 1) y0 y1 y2 y3 y4))
 | 0 => ⟨fun _ _ _ _ _ r h => by simp [spec_l1Rd_box.j0] at h, fun _ _ _ _ r h => by simp [spec_l1Rd_box.j1] at h, fun _ _ _ _ _ r h => by simp [spec_l1Rd_box.l0] at h⟩
 | k + 1 => by
  obtain ⟨ih0, ih1, ih2⟩ := spec_l1Rd_box.mono_l k
  refine ⟨?_, ?_, ?_⟩
  ·intro y0 y1 y2 y3 y4
   unfold spec_l1Rd_box.j0
   repeat' first
   | (with_reducible exact ih0 _ _ _ _ _)
   | (with_reducible exact ih1 _ _ _ _)
   | (with_reducible exact ih2 _ _ _ _ _)
   | (with_reducible exact LeO.refl _)
   | (with_reducible exact LeO.none _)
   | (with_reducible refine LeO.ite ?_ ?_)
   | (with_reducible refine LeO.bind ?_ (fun _ => ?_))
   | exact ih0 _ _ _ _ _
   | exact ih1 _ _ _ _
   | exact ih2 _ _ _ _ _
   | exact LeO.none _
   | refine LeO.ite ?_ ?_
   | refine LeO.bind ?_ (fun _ => ?_)
  ·intro y0 y1 y2 y3
   unfold spec_l1Rd_box.j1
   repeat' first
   | (with_reducible exact ih0 _ _ _ _ _)
   | (with_reducible exact ih1 _ _ _ _)
   | (with_reducible exact ih2 _ _ _ _ _)
   | (with_reducible exact LeO.refl _)
   | (with_reducible exact LeO.none _)
   | (with_reducible refine LeO.ite ?_ ?_)
   | (with_reducible refine LeO.bind ?_ (fun _ => ?_))
   | exact ih0 _ _ _ _ _
   | exact ih1 _ _ _ _
   | exact ih2 _ _ _ _ _
   | exact LeO.none _
   | refine LeO.ite ?_ ?_
   | refine LeO.bind ?_ (fun _ => ?_)
  ·intro y0 y1 y2 y3 y4
   unfold spec_l1Rd_box.l0
   repeat' first
   | (with_reducible exact ih0 _ _ _ _ _)
   | (with_reducible exact ih1 _ _ _ _)
   | (with_reducible exact ih2 _ _ _ _ _)
   | (with_reducible exact LeO.refl _)
   | (with_reducible exact LeO.none _)
   | (with_reducible refine LeO.ite ?_ ?_)
   | (with_reducible refine LeO.bind ?_ (fun _ => ?_))
   | exact ih0 _ _ _ _ _
   | exact ih1 _ _ _ _
   | exact ih2 _ _ _ _ _
   | exact LeO.none _
   | refine LeO.ite ?_ ?_
   | refine LeO.bind ?_ (fun _ => ?_)
theorem spec_l1Rd_box.mono : ∀ a0 a1 k, LeO (spec_l1Rd_box.f k a0 a1) (spec_l1Rd_box.f (k + 1) a0 a1) := by
 intro a0 a1 k
 obtain ⟨ih0, ih1, ih2⟩ := spec_l1Rd_box.mono_l k
 unfold spec_l1Rd_box.f
 repeat' first
   | (with_reducible exact ih0 _ _ _ _ _)
   | (with_reducible exact ih1 _ _ _ _)
   | (with_reducible exact ih2 _ _ _ _ _)
   | (with_reducible exact LeO.refl _)
   | (with_reducible exact LeO.none _)
   | (with_reducible refine LeO.ite ?_ ?_)
   | (with_reducible refine LeO.bind ?_ (fun _ => ?_))
   | exact ih0 _ _ _ _ _
   | exact ih1 _ _ _ _
   | exact ih2 _ _ _ _ _
   | exact LeO.none _
   | refine LeO.ite ?_ ?_
   | refine LeO.bind ?_ (fun _ => ?_)
def spec_l1Rd_box.T6 : Bool × List (List Nat × List Nat) := (true, [([], []), ([0], [0]), ([], []), ([2], [2]), ([3], [3]), ([1, 4, 3], [1, 4]), ([0, 1, 2, 3, 4, 5], []), ([6, 5, 5, 0, 1, 2, 3, 4, 5], [5, 6])])
def spec_l1Rd_box.B6 : List Nat := [0, 1, 0, 4, 12, 31, 63, 127]
theorem spec_l1Rd_box.tab6 : rtab .any (opsOf Try.f50 6) = spec_l1Rd_box.T6 := by kernel_rfl
theorem spec_l1Rd_box.bits6 : waitsOk spec_l1Rd_box.T6.2 spec_l1Rd_box.B6 = true := by kernel_rfl
set_option maxHeartbeats 8000000 in
set_option maxRecDepth 100000 in
theorem spec_l1Rd_box.calls (k : Nat) (g : Nat) (s0_0 : List Int) (s0_1 : Int) (r1 : Int) (r2 : Int) (r3 : List Int) (r4 : Int) (w0 w : World) (hI : IsS81 w0 w g s0_0 s0_1) (hB : Below w0.heap.size w0 w) (h : spec_l1Rd_box.f k s0_0 s0_1 = some (r1, r2, r3, r4)) :
  Calls Try.prog 50 #[.pointer (some ⟨g, 0, none⟩)] w fun e w' => ∃ v2_ : Value, e = .returned (.agg #[.int .i64 r1, .int .i64 r2, v2_]) ∧ Kd.R (Kd.int .i64) 2 w' w.heap.size (fun _ => True) v2_ r3 ∧ IsS81 w0 w' g s0_0 r4 ∧ Below w0.heap.size w0 w' ∧ KeepBut w w' g none := by
 have hu27 := Try.underlying27
 have HI0 := Aside0.mk hI
 have HK := A0 (KeepBut.refl w g none)
 have HL := Aside0.mk hB.size
 clear hI
 have HW0 := Aside0.mk hB.size
 have HB := Aside0.mk hB
 clear hB
 have H : ((spec_l1Rd_below.f s0_0 s0_1 5).bind fun bt116 => ((spec_l1Rd_below.f s0_0 bt116.2 6).bind fun bt118 => (if (s0_0.length : Int) > 60 then ((spec_l1Rd_once.f s0_0 bt118.2 2).bind fun bt121 => (spec_l1Rd_box.j0 k bt121.1 s0_0 bt121.2 (wrap64 (1 + bt116.1)) (wrap64 (1 + bt118.1)))) else (spec_l1Rd_box.j0 k false s0_0 bt118.2 (wrap64 (1 + bt116.1)) (wrap64 (1 + bt118.1)))))) = some (r1, r2, r3, r4) := h
 clear h
 replace H := Option.bind_eq_some_iff.mp H
 obtain ⟨⟨t116, t117⟩, A20, H⟩ := H
 replace H : ((spec_l1Rd_below.f s0_0 t117 6).bind fun bt118 => (if (s0_0.length : Int) > 60 then ((spec_l1Rd_once.f s0_0 bt118.2 2).bind fun bt121 => (spec_l1Rd_box.j0 k bt121.1 s0_0 bt121.2 (wrap64 (1 + t116)) (wrap64 (1 + bt118.1)))) else (spec_l1Rd_box.j0 k false s0_0 bt118.2 (wrap64 (1 + t116)) (wrap64 (1 + bt118.1))))) = some (r1, r2, r3, r4) := H
 have A2 := Aside0.mk A20
 clear A20
 replace H := Option.bind_eq_some_iff.mp H
 obtain ⟨⟨t118, t119⟩, A30, H⟩ := H
 replace H : (if (s0_0.length : Int) > 60 then ((spec_l1Rd_once.f s0_0 t119 2).bind fun bt121 => (spec_l1Rd_box.j0 k bt121.1 s0_0 bt121.2 (wrap64 (1 + t116)) (wrap64 (1 + t118)))) else (spec_l1Rd_box.j0 k false s0_0 t119 (wrap64 (1 + t116)) (wrap64 (1 + t118)))) = some (r1, r2, r3, r4) := H
 have A3 := Aside0.mk A30
 clear A30
 have HC4 := Aside0.mk H
 clear H
 go_enter Try.func50, Try.ntmps50
 go_upto_region 2 with (first | ((with_reducible refine gate_dst (N := 2) rfl ?_); refine box_event ?hg (N := 2) ?hd (cs := #[.int .i64 0, .int .i64 0, .slice none 0 0]) (t := 27) ?hr ?_; (case hd => rfl); (case hg => rfl); (case hr => first | (go_simp; done) | (go_simp; rfl)); intro gb115 hg w5 hbox hb; have n0_ := A0 (IsS81.below HI0.out hb); have n1_ := A0 (KeepBut.trans HK.out (KeepBut.of_below hb g none) (.inl rfl)); have n2_ := A0 (below_step HB.out hb); have n3_ := A0 (hbox); have n4_ := A0 ((by rw [hg]; exact (keep_size (w := w) (g := g) (row := none) HK.out) : w.heap.size ≤ gb115)); have n5_ := A0 ((Nat.le_trans HW0.out (by rw [hg]; exact (keep_size (w := w) (g := g) (row := none) HK.out) : w.heap.size ≤ gb115) : w0.heap.size ≤ gb115)); have n6_ := A0 ((by rw [hg]; exact Nat.ne_of_lt (IsS81.lt (show IsS81 w0 _ g s0_0 s0_1 from by repeat (first | (with_reducible first | exact HI0.out | apply IsS81.alloc | apply IsS81.drewN | apply IsS81.drew | apply IsS81.set_1) | exact HI0.out))) : g ≠ gb115)); have n7_ := A0 ((by rw [hg]; exact Nat.ne_of_gt (IsS81.lt (show IsS81 w0 _ g s0_0 s0_1 from by repeat (first | (with_reducible first | exact HI0.out | apply IsS81.alloc | apply IsS81.drewN | apply IsS81.drew | apply IsS81.set_1) | exact HI0.out))) : gb115 ≠ g)); clear HI0; clear HK; clear HB; have HI0 := n0_; have HK := n1_; have HB := n2_; have BK115 := n3_; have GW115 := n4_; have GE115 := n5_; have NB0_115 := n6_; have NB115_0 := n7_; clear n0_ n1_ n2_ n3_ n4_ n5_ n6_ n7_; clear hb hbox hg) | ((with_reducible refine gate_callee (f := 49) rfl ?_); refine goesL_ (some 5) rfl rfl Try.func49 (by kernel_rfl) rfl #[.pointer (some ⟨g, 0, none⟩), .int .i64 5] rfl (by (try simp only [lM, lC, lN]); first | done | rfl | (simp only [lD, lT]; rfl)) ?_; (with_reducible refine (spec_l1Rd_below.calls g s0_0 s0_1 5 t116 t117 w0 _ ?side1 ?side2 A2.out).mono ?_); (case side1 => repeat (first | (with_reducible first | exact HI0.out | apply IsS81.alloc | apply IsS81.drewN | apply IsS81.drew | apply IsS81.set_1 | apply IsS81.far (hne := NB0_115.out)) | exact HI0.out)); (case side2 => repeat (first | (with_reducible first | exact HB.out | apply wA | apply wN | apply wD | refine bS ?_ (IsS81.ge HI0.out) | refine bS ?_ GE115.out) | exact HB.out)); rintro e w6 ⟨rfl, hi, hb, hk⟩; refine ⟨_, rfl, ?_⟩; have n0_ := A0 (KeepBut.blk hk (g' := gb115) (o := .cells #[.int .i64 0, .int .i64 0, .slice none 0 0] 27 (0, 0)) (by (with_reducible repeat (first | refine bN ?_ _ | refine bD ?_ | refine bA ?_ _)); exact BK115.out) NB115_0.out (by simp)); have n1_ := A0 (KeepBut.trans (by repeat (first | (with_reducible first | exact HK.out | apply KeepBut.set_ | apply keep_drewN | apply keep_drew | apply keep_alloc | refine keep_far ?_ GW115.out _) | exact HK.out)) hk (.inl rfl)); have n2_ := A0 (hb); have n3_ := A0 (hi); clear BK115; clear HK; clear HB; clear HI0; have BK115 := n0_; have HK := n1_; have HB := n2_; have HI0 := n3_; clear n0_ n1_ n2_ n3_; (try clear hb); (try clear hb2); (try clear hk); (try clear hi)) | ((with_reducible refine gate_callee (f := 49) rfl ?_); refine goesL_ (some 8) rfl rfl Try.func49 (by kernel_rfl) rfl #[.pointer (some ⟨g, 0, none⟩), .int .i64 6] rfl (by (try simp only [lM, lC, lN]); first | done | rfl | (simp only [lD, lT]; rfl)) ?_; (with_reducible refine (spec_l1Rd_below.calls g s0_0 t117 6 t118 t119 w0 _ ?side1 ?side2 A3.out).mono ?_); (case side1 => repeat (first | (with_reducible first | exact HI0.out | apply IsS81.alloc | apply IsS81.drewN | apply IsS81.drew | apply IsS81.set_1 | apply IsS81.far (hne := NB0_115.out)) | exact HI0.out)); (case side2 => repeat (first | (with_reducible first | exact HB.out | apply wA | apply wN | apply wD | refine bS ?_ (IsS81.ge HI0.out) | refine bS ?_ GE115.out) | exact HB.out)); rintro e w7 ⟨rfl, hi, hb, hk⟩; refine ⟨_, rfl, ?_⟩; have n0_ := A0 (KeepBut.blk hk (g' := gb115) (o := .cells #[.int .i64 0, .int .i64 0, .slice none 0 0] 27 (0, 0)) (by (with_reducible repeat (first | refine bN ?_ _ | refine bD ?_ | refine bA ?_ _)); exact BK115.out) NB115_0.out (by simp)); have n1_ := A0 (KeepBut.trans (by repeat (first | (with_reducible first | exact HK.out | apply KeepBut.set_ | apply keep_drewN | apply keep_drew | apply keep_alloc | refine keep_far ?_ GW115.out _) | exact HK.out)) hk (.inl rfl)); have n2_ := A0 (hb); have n3_ := A0 (hi); clear BK115; clear HK; clear HB; clear HI0; have BK115 := n0_; have HK := n1_; have HB := n2_; have HI0 := n3_; clear n0_ n1_ n2_ n3_; (try clear hb); (try clear hb2); (try clear hk); (try clear hi)) | ((with_reducible refine gate_dst (N := 3) rfl ?_); refine box_event ?hg (N := 3) ?hd (cs := #[.int .i64 0, .int .i64 0, .slice none 0 0]) (t := 27) ?hr ?_; (case hd => rfl); (case hg => rfl); (case hr => first | (go_simp; done) | (go_simp; rfl)); intro gb120 hg w8 hbox hb; have n0_ := A0 (IsS81.below (by repeat (first | (with_reducible first | exact HI0.out | apply IsS81.alloc | apply IsS81.drewN | apply IsS81.drew | apply IsS81.set_1 | apply IsS81.far (hne := NB0_115.out)) | exact HI0.out)) hb); have n1_ := A0 (blk_below (g := gb115) (o := .cells #[.int .i64 0, .int .i64 0, .slice none 0 0] 27 (0, 0)) (by (with_reducible repeat (first | refine bN ?_ _ | refine bD ?_ | refine bA ?_ _)); exact BK115.out) hb); have n2_ := A0 (KeepBut.trans (by repeat (first | (with_reducible first | exact HK.out | apply KeepBut.set_ | apply keep_drewN | apply keep_drew | apply keep_alloc | refine keep_far ?_ GW115.out _) | exact HK.out)) (KeepBut.of_below hb g none) (.inl rfl)); have n3_ := A0 (below_step (by repeat (first | (with_reducible first | exact HB.out | apply wA | apply wN | apply wD | refine bS ?_ (IsS81.ge HI0.out) | refine bS ?_ GE115.out) | exact HB.out)) hb); have n4_ := A0 (hbox); have n5_ := A0 ((by rw [hg]; exact (keep_size (w := w) (g := g) (row := none) (by repeat (first | (with_reducible first | exact HK.out | apply KeepBut.set_ | apply keep_drewN | apply keep_drew | apply keep_alloc | refine keep_far ?_ GW115.out _) | exact HK.out))) : w.heap.size ≤ gb120)); have n6_ := A0 ((Nat.le_trans HW0.out (by rw [hg]; exact (keep_size (w := w) (g := g) (row := none) (by repeat (first | (with_reducible first | exact HK.out | apply KeepBut.set_ | apply keep_drewN | apply keep_drew | apply keep_alloc | refine keep_far ?_ GW115.out _) | exact HK.out))) : w.heap.size ≤ gb120) : w0.heap.size ≤ gb120)); have n7_ := A0 ((by rw [hg]; exact Nat.ne_of_lt (blk_lt (g := gb115) (o := .cells #[.int .i64 0, .int .i64 0, .slice none 0 0] 27 (0, 0)) (by (with_reducible repeat (first | refine bN ?_ _ | refine bD ?_ | refine bA ?_ _)); exact BK115.out)) : gb115 ≠ gb120)); have n8_ := A0 ((by rw [hg]; exact Nat.ne_of_gt (blk_lt (g := gb115) (o := .cells #[.int .i64 0, .int .i64 0, .slice none 0 0] 27 (0, 0)) (by (with_reducible repeat (first | refine bN ?_ _ | refine bD ?_ | refine bA ?_ _)); exact BK115.out)) : gb120 ≠ gb115)); have n9_ := A0 ((by rw [hg]; exact Nat.ne_of_lt (IsS81.lt (show IsS81 w0 _ g s0_0 t119 from by repeat (first | (with_reducible first | exact HI0.out | apply IsS81.alloc | apply IsS81.drewN | apply IsS81.drew | apply IsS81.set_1 | apply IsS81.far (hne := NB0_115.out)) | exact HI0.out))) : g ≠ gb120)); have n10_ := A0 ((by rw [hg]; exact Nat.ne_of_gt (IsS81.lt (show IsS81 w0 _ g s0_0 t119 from by repeat (first | (with_reducible first | exact HI0.out | apply IsS81.alloc | apply IsS81.drewN | apply IsS81.drew | apply IsS81.set_1 | apply IsS81.far (hne := NB0_115.out)) | exact HI0.out))) : gb120 ≠ g)); clear HI0; clear BK115; clear HK; clear HB; have HI0 := n0_; have BK115 := n1_; have HK := n2_; have HB := n3_; have BK120 := n4_; have GW120 := n5_; have GE120 := n6_; have NB115_120 := n7_; have NB120_115 := n8_; have NB0_120 := n9_; have NB120_0 := n10_; clear n0_ n1_ n2_ n3_ n4_ n5_ n6_ n7_ n8_ n9_ n10_; clear hb hbox hg; have hnb9 := NB120_115.out; have hnc9 := NB115_120.out; have hnb10 := NB120_0.out; have hnc10 := NB0_120.out; have hcz11_0 : w8.cell? ⟨gb120, 0, none⟩ = some (.int .i64 0) := bC BK120.out 0 rfl; have hcz11_1 : w8.cell? ⟨gb120, 1, none⟩ = some (.int .i64 0) := bC BK120.out 1 rfl; have hcz11_2 : w8.cell? ⟨gb120, 2, none⟩ = some (.slice none 0 0) := bC BK120.out 2 rfl; have hfz11_0 := blk_frozen BK120.out 0; have hfz11_1 := blk_frozen BK120.out 1; have hfz11_2 := blk_frozen BK120.out 2))
 (try simp only [Act.put, sqA, sqZ, sqS])
 go_cut [20] (fun v20 wc => ∃ (kq : Nat) (x20_3 : Bool) (x1001_3 : Int), v20 = .bool x20_3 ∧ Aside0 (spec_l1Rd_box.j0 kq x20_3 s0_0 x1001_3 (wrap64 (1 + t116)) (wrap64 (1 + t118)) = some (r1, r2, r3, r4)) ∧ Aside0 (kq ≤ k) ∧ Aside0 (wc.heap[gb115]? = some (.cells #[.int .i64 0, .int .i64 0, (.slice none 0 0)] 27 (0, 0))) ∧ Aside0 (wc.heap[gb120]? = some (.cells #[.int .i64 (wrap64 (1 + t116)), .int .i64 (wrap64 (1 + t118)), (.slice none 0 0)] 27 (0, 0))) ∧ Aside0 (IsS81 w0 wc g s0_0 x1001_3) ∧ Aside0 (KeepBut w wc g none) ∧ Aside0 (Below w0.heap.size w0 wc))
 case first =>
  have H := HC4.out
  clear HC4
  by_cases c12 : (s0_0.length : Int) > 60
  ·rw [if_pos c12] at H
   have c12b0 : decide (60 < (s0_0.length : Int)) = true := decide_eq_true c12
   have c12b1 : decide (60 < s0_0.length) = true := decide_eq_true (by omega)
   clear c12
   (first | rw [c12b0] | (simp only [i64_w, i32_w]; rw [c12b0]) | skip)
   replace H := Option.bind_eq_some_iff.mp H
   obtain ⟨⟨t121, t122⟩, A130, H⟩ := H
   replace H : (spec_l1Rd_box.j0 k t121 s0_0 t122 (wrap64 (1 + t116)) (wrap64 (1 + t118))) = some (r1, r2, r3, r4) := H
   have A13 := Aside0.mk A130
   clear A130
   have H' := Aside0.mk H
   clear H
   obtain ⟨ASz14_0, cSz14_0, HGz14, hgz14, HSz14_0⟩ := HI0.out
   have hcz14_0 := cellS81_0 HGz14
   have hcz14_1 := cellS81_1 HGz14
   have hfz14_1 := blk_frozen HGz14 1
   clear HGz14 hgz14
   go_wp2_with (first | (go_at_call 47; (with_reducible refine (spec_l1Rd_once.calls g s0_0 t119 2 t121 t122 w0 _ ?side1 ?side2 A13.out).mono ?_); (case side1 => repeat (first | (with_reducible first | exact HI0.out | apply IsS81.alloc | apply IsS81.drewN | apply IsS81.drew | apply IsS81.set_1 | apply IsS81.far (hne := NB0_115.out) | apply IsS81.far (hne := NB0_120.out)) | exact HI0.out)); (case side2 => repeat (first | (with_reducible first | exact HB.out | apply wA | apply wN | apply wD | refine bS ?_ (IsS81.ge HI0.out) | refine bS ?_ GE115.out | refine bS ?_ GE120.out) | exact HB.out)); rintro e w15 ⟨rfl, hi, hb, hk⟩; have n0_ := A0 (KeepBut.blk hk (g' := gb115) (o := .cells #[.int .i64 0, .int .i64 0, .slice none 0 0] 27 (0, 0)) (by (with_reducible repeat (first | refine bN ?_ _ | refine bD ?_ | refine bA ?_ _)); refine blk_far ?_ NB115_120.out _; (with_reducible repeat (first | refine bN ?_ _ | refine bD ?_ | refine bA ?_ _)); refine blk_far ?_ NB115_120.out _; (with_reducible repeat (first | refine bN ?_ _ | refine bD ?_ | refine bA ?_ _)); refine blk_far ?_ NB115_120.out _; (with_reducible repeat (first | refine bN ?_ _ | refine bD ?_ | refine bA ?_ _)); exact BK115.out) NB115_0.out (by simp)); have n1_ := A0 (KeepBut.blk hk (g' := gb120) (o := .cells #[.int .i64 (wrap64 (1 + t116)), .int .i64 (wrap64 (1 + t118)), .slice none 0 0] 27 (0, 0)) (by (with_reducible repeat (first | refine bN ?_ _ | refine bD ?_ | refine bA ?_ _)); refine blk_put (cs := #[.int .i64 (wrap64 (1 + t116)), .int .i64 (wrap64 (1 + t118)), .slice none 0 0]) ?_ 2 _ rfl; (with_reducible repeat (first | refine bN ?_ _ | refine bD ?_ | refine bA ?_ _)); refine blk_put (cs := #[.int .i64 (wrap64 (1 + t116)), .int .i64 0, .slice none 0 0]) ?_ 1 _ rfl; (with_reducible repeat (first | refine bN ?_ _ | refine bD ?_ | refine bA ?_ _)); refine blk_put (cs := #[.int .i64 0, .int .i64 0, .slice none 0 0]) ?_ 0 _ rfl; (with_reducible repeat (first | refine bN ?_ _ | refine bD ?_ | refine bA ?_ _)); exact BK120.out) NB120_0.out (by simp)); have n2_ := A0 (KeepBut.trans (by repeat (first | (with_reducible first | exact HK.out | apply KeepBut.set_ | apply keep_drewN | apply keep_drew | apply keep_alloc | refine keep_far ?_ GW115.out _ | refine keep_far ?_ GW120.out _) | exact HK.out)) hk (.inl rfl)); have n3_ := A0 (hb); have n4_ := A0 (hi); clear BK115; clear BK120; clear HK; clear HB; clear HI0; have BK115 := n0_; have BK120 := n1_; have HK := n2_; have HB := n3_; have HI0 := n4_; clear n0_ n1_ n2_ n3_ n4_; (try clear hb); (try clear hb2); (try clear hk); (try clear hi)))
   go_meet
   case rel => exact ⟨_, (t121), (t122), (by first | rfl | (simp; done) | (simp [*]; done)), H', ⟨by first | omega | exact Nat.le_refl _⟩, ⟨by (with_reducible repeat (first | refine bN ?_ _ | refine bD ?_ | refine bA ?_ _)); exact BK115.out⟩, ⟨by (with_reducible repeat (first | refine bN ?_ _ | refine bD ?_ | refine bA ?_ _)); exact BK120.out⟩, ⟨by repeat (first | (with_reducible first | exact HI0.out | apply IsS81.alloc | apply IsS81.drewN | apply IsS81.drew | apply IsS81.set_1 | apply IsS81.far (hne := NB0_115.out) | apply IsS81.far (hne := NB0_120.out)) | exact HI0.out)⟩, ⟨by repeat (first | (with_reducible first | exact HK.out | apply KeepBut.set_ | apply keep_drewN | apply keep_drew | apply keep_alloc | refine keep_far ?_ GW115.out _ | refine keep_far ?_ GW120.out _) | exact HK.out)⟩, ⟨by repeat (first | (with_reducible first | exact HB.out | apply wA | apply wN | apply wD | refine bS ?_ (IsS81.ge HI0.out) | refine bS ?_ GE115.out | refine bS ?_ GE120.out) | exact HB.out)⟩⟩
  ·rw [if_neg c12] at H
   have c12b0 : decide (60 < (s0_0.length : Int)) = false := decide_eq_false c12
   have c12b1 : decide (60 < s0_0.length) = false := decide_eq_false (by omega)
   clear c12
   (first | rw [c12b0] | (simp only [i64_w, i32_w]; rw [c12b0]) | skip)
   have H' := Aside0.mk H
   clear H
   obtain ⟨ASz16_0, cSz16_0, HGz16, hgz16, HSz16_0⟩ := HI0.out
   have hcz16_0 := cellS81_0 HGz16
   have hcz16_1 := cellS81_1 HGz16
   have hfz16_1 := blk_frozen HGz16 1
   clear HGz16 hgz16
   go_wp2
   go_meet
   case rel => exact ⟨_, (false), (t119), (by first | rfl | (simp; done) | (simp [*]; done)), H', ⟨by first | omega | exact Nat.le_refl _⟩, ⟨by (with_reducible repeat (first | refine bN ?_ _ | refine bD ?_ | refine bA ?_ _)); refine blk_far ?_ NB115_120.out _; (with_reducible repeat (first | refine bN ?_ _ | refine bD ?_ | refine bA ?_ _)); refine blk_far ?_ NB115_120.out _; (with_reducible repeat (first | refine bN ?_ _ | refine bD ?_ | refine bA ?_ _)); refine blk_far ?_ NB115_120.out _; (with_reducible repeat (first | refine bN ?_ _ | refine bD ?_ | refine bA ?_ _)); exact BK115.out⟩, ⟨by (with_reducible repeat (first | refine bN ?_ _ | refine bD ?_ | refine bA ?_ _)); refine blk_put (cs := #[.int .i64 (wrap64 (1 + t116)), .int .i64 (wrap64 (1 + t118)), .slice none 0 0]) ?_ 2 _ rfl; (with_reducible repeat (first | refine bN ?_ _ | refine bD ?_ | refine bA ?_ _)); refine blk_put (cs := #[.int .i64 (wrap64 (1 + t116)), .int .i64 0, .slice none 0 0]) ?_ 1 _ rfl; (with_reducible repeat (first | refine bN ?_ _ | refine bD ?_ | refine bA ?_ _)); refine blk_put (cs := #[.int .i64 0, .int .i64 0, .slice none 0 0]) ?_ 0 _ rfl; (with_reducible repeat (first | refine bN ?_ _ | refine bD ?_ | refine bA ?_ _)); exact BK120.out⟩, ⟨by repeat (first | (with_reducible first | exact HI0.out | apply IsS81.alloc | apply IsS81.drewN | apply IsS81.drew | apply IsS81.set_1 | apply IsS81.far (hne := NB0_115.out) | apply IsS81.far (hne := NB0_120.out)) | exact HI0.out)⟩, ⟨by repeat (first | (with_reducible first | exact HK.out | apply KeepBut.set_ | apply keep_drewN | apply keep_drew | apply keep_alloc | refine keep_far ?_ GW115.out _ | refine keep_far ?_ GW120.out _) | exact HK.out)⟩, ⟨by repeat (first | (with_reducible first | exact HB.out | apply wA | apply wN | apply wD | refine bS ?_ (IsS81.ge HI0.out) | refine bS ?_ GE115.out | refine bS ?_ GE120.out) | exact HB.out)⟩⟩
 case rest =>
  clear HC4
  try clear c1
  try clear p2
  try clear c4
  try clear c5
  try clear p6
  try clear c9
  try clear c10
  try clear c12
  try clear c12b0
  try clear c12b1
  try clear hcz11_0
  try clear hcz11_1
  try clear hcz11_2
  try clear hcz14_0
  try clear hcz14_1
  try clear hcz16_0
  try clear hcz16_1
  try clear hfz11_0
  try clear hfz11_1
  try clear hfz11_2
  try clear hfz14_1
  try clear hfz16_1
  obtain ⟨kq, x20_3, x1001_3, rfl, HA, HJ3, BK115, BK120, HI0, HK, HB⟩ := hcut
  cases kq with
  | zero => exact absurd HA.out (by simp [spec_l1Rd_box.j0])
  | succ kj3 =>
   have H := HA.out
   clear HA
   simp only [spec_l1Rd_box.j0] at H
   have HC17 := Aside0.mk H
   clear H
   go_upto_if 20 with (fail)
   go_cut [] (fun wc => ∃ (kq : Nat) (x1001_16 : Int) (x121000_16 : Int) (x121001_16 : Int), Aside0 (spec_l1Rd_box.j1 kq s0_0 x1001_16 x121000_16 x121001_16 = some (r1, r2, r3, r4)) ∧ Aside0 (kq ≤ kj3) ∧ Aside0 (wc.heap[gb115]? = some (.cells #[.int .i64 0, .int .i64 0, (.slice none 0 0)] 27 (0, 0))) ∧ Aside0 (wc.heap[gb120]? = some (.cells #[.int .i64 x121000_16, .int .i64 x121001_16, (.slice none 0 0)] 27 (0, 0))) ∧ Aside0 (IsS81 w0 wc g s0_0 x1001_16) ∧ Aside0 (KeepBut w wc g none) ∧ Aside0 (Below w0.heap.size w0 wc))
   case first =>
    have H := HC17.out
    clear HC17
    by_cases c18 : x20_3 = true
    ·subst c18
     have H1 : ((spec_l1Rd_below.f s0_0 x1001_3 5).bind fun bt123 => ((spec_l1Rd_below.f s0_0 bt123.2 5).bind fun bt125 => (spec_l1Rd_box.j1 kj3 s0_0 bt125.2 (wrap64 ((wrap64 (1 + t116)) + bt123.1)) (wrap64 ((wrap64 (1 + t118)) + bt125.1))))) = some (r1, r2, r3, r4) := by rw [if_pos rfl] at H; exact H
     clear H
     have H := H1
     clear H1
     replace H := Option.bind_eq_some_iff.mp H
     obtain ⟨⟨t123, t124⟩, A190, H⟩ := H
     replace H : ((spec_l1Rd_below.f s0_0 t124 5).bind fun bt125 => (spec_l1Rd_box.j1 kj3 s0_0 bt125.2 (wrap64 ((wrap64 (1 + t116)) + t123)) (wrap64 ((wrap64 (1 + t118)) + bt125.1)))) = some (r1, r2, r3, r4) := H
     have A19 := Aside0.mk A190
     clear A190
     replace H := Option.bind_eq_some_iff.mp H
     obtain ⟨⟨t125, t126⟩, A200, H⟩ := H
     replace H : (spec_l1Rd_box.j1 kj3 s0_0 t126 (wrap64 ((wrap64 (1 + t116)) + t123)) (wrap64 ((wrap64 (1 + t118)) + t125))) = some (r1, r2, r3, r4) := H
     have A20 := Aside0.mk A200
     clear A200
     have H' := Aside0.mk H
     clear H
     try go_wp2
     have n0_ := A0 (blk_drew BK115.out)
     have n1_ := A0 (blk_drew BK120.out)
     have n2_ := A0 (IsS81.drew HI0.out)
     have n3_ := A0 (keep_drew HK.out)
     have n4_ := A0 (below_drew1 HB.out)
     clear BK115
     clear BK120
     clear HI0
     clear HK
     clear HB
     have BK115 := n0_
     have BK120 := n1_
     have HI0 := n2_
     have HK := n3_
     have HB := n4_
     clear n0_ n1_ n2_ n3_ n4_
     refine start_ (n := 7) (S := fun w' => w'.cell? ⟨gb120, 0, none⟩ = some (.int .i64 (wrap64 (1 + t116))) ∧ w'.cell? ⟨gb120, 1, none⟩ = some (.int .i64 (wrap64 (1 + t118))) ∧ w'.cell? ⟨gb120, 2, none⟩ = some (.slice none 0 0)) (ds := [6]) #[false, false, false, false, false, false, false] (by kernel_rfl) rfl rfl ⟨bC BK120.out 0 rfl, bC BK120.out 1 rfl, bC BK120.out 2 rfl⟩ (fun hHeld => ?_)
     generalize wc.drew = w21 at BK115 BK120 HI0 HK HB hHeld ⊢
     refine pure_ (i := 0) (N := some 21) (v := ?_) (a' := ?_) #[true, false, false, false, false, false, false] rfl rfl (by kernel_rfl) (fun _ _ _ h => h) (Or.inl ⟨by rfl, ?_⟩) ?_ ?_
     rotate_left
     ·intro w'
      go_simp
      with_reducible rfl
     rotate_left
     ·simp only [Act.put, sqA, sqZ, sqS, i64_w, i32_w]
      rfl
     refine pure_ (i := 2) (N := some 23) (v := ?_) (a' := ?_) #[true, false, true, false, false, false, false] rfl rfl (by kernel_rfl) (fun _ _ _ h => h) (Or.inl ⟨by rfl, ?_⟩) ?_ ?_
     rotate_left
     ·intro w'
      go_simp
      with_reducible rfl
     rotate_left
     ·simp only [Act.put, sqA, sqZ, sqS, i64_w, i32_w]
      rfl
     refine take_ (i := 1) (N := some 22) (v := ?_) (a' := ?_) #[true, true, true, false, false, false, false] rfl rfl (by kernel_rfl) (fun _ _ _ h => h) (Or.inl ⟨by rfl, ?_⟩) hHeld ?_ ?_
     rotate_left
     ·rintro w' ⟨s0, s1, s2⟩
      go_simp
      with_reducible rfl
     rotate_left
     ·simp only [Act.put, sqA, sqZ, sqS, i64_w, i32_w]
      rfl
     refine one_ (i := 3) (N := some 24) #[true, true, true, true, false, false, false] rfl rfl (by kernel_rfl) (by decide) (fun K hK => ?_)
     refine goes_ Try.func49 (by kernel_rfl) rfl #[.pointer (some ⟨g, 0, none⟩), .int .i64 5] (by rfl) rfl rfl (by (try simp only [lM, lC, lN]); first | done | rfl | (simp only [lD, lT]; rfl)) ?_
     with_reducible refine (spec_l1Rd_below.calls g s0_0 x1001_3 5 t123 t124 w0 _ ?side1 ?side2 A19.out).mono ?_
     (case side1 => repeat (first | (with_reducible first | exact HI0.out | apply IsS81.alloc | apply IsS81.drewN | apply IsS81.drew | apply IsS81.set_1 | apply IsS81.far (hne := NB0_115.out) | apply IsS81.far (hne := NB0_120.out)) | exact HI0.out))
     (case side2 => repeat (first | (with_reducible first | exact HB.out | apply wA | apply wN | apply wD | refine bS ?_ (IsS81.ge HI0.out) | refine bS ?_ GE115.out | refine bS ?_ GE120.out) | exact HB.out))
     rintro e w22 ⟨rfl, hi, hb, hk⟩
     refine ⟨_, rfl, ?_⟩
     have n0_ := A0 (KeepBut.blk hk (g' := gb115) (o := .cells #[.int .i64 0, .int .i64 0, .slice none 0 0] 27 (0, 0)) (by (with_reducible repeat (first | refine bN ?_ _ | refine bD ?_ | refine bA ?_ _)); exact BK115.out) NB115_0.out (by simp))
     have n1_ := A0 (KeepBut.blk hk (g' := gb120) (o := .cells #[.int .i64 (wrap64 (1 + t116)), .int .i64 (wrap64 (1 + t118)), .slice none 0 0] 27 (0, 0)) (by (with_reducible repeat (first | refine bN ?_ _ | refine bD ?_ | refine bA ?_ _)); exact BK120.out) NB120_0.out (by simp))
     have n2_ := A0 (KeepBut.trans (by repeat (first | (with_reducible first | exact HK.out | apply KeepBut.set_ | apply keep_drewN | apply keep_drew | apply keep_alloc | refine keep_far ?_ GW115.out _ | refine keep_far ?_ GW120.out _) | exact HK.out)) hk (.inl rfl))
     have n3_ := A0 (hb)
     have n4_ := A0 (hi)
     clear BK115
     clear BK120
     clear HK
     clear HB
     clear HI0
     have BK115 := n0_
     have BK120 := n1_
     have HK := n2_
     have HB := n3_
     have HI0 := n4_
     clear n0_ n1_ n2_ n3_ n4_
     (try clear hb)
     refine hK.out _ _ ⟨bC BK120.out 0 rfl, bC BK120.out 1 rfl, bC BK120.out 2 rfl⟩ (fun hHeld => ?_)
     clear hK K
     refine norm_ (a' := ?_) ?_ ?_
     rotate_left
     ·show Act.put _ (some 24) _ = _
      simp only [Act.put, sqA, sqZ, sqS, i64_w, i32_w]
      rfl
     refine pure_ (i := 4) (N := some 25) (v := ?_) (a' := ?_) #[true, true, true, true, true, false, false] rfl rfl (by kernel_rfl) (fun _ _ _ h => h) (Or.inl ⟨by rfl, ?_⟩) ?_ ?_
     rotate_left
     ·intro w'
      go_simp
      with_reducible rfl
     rotate_left
     ·simp only [Act.put, sqA, sqZ, sqS, i64_w, i32_w]
      rfl
     refine pure_ (i := 5) (N := some 26) (v := ?_) (a' := ?_) #[true, true, true, true, true, true, false] rfl rfl (by kernel_rfl) (fun _ _ _ h => h) (Or.inl ⟨by rfl, ?_⟩) ?_ ?_
     rotate_left
     ·intro w'
      go_simp
      with_reducible rfl
     rotate_left
     ·simp only [Act.put, sqA, sqZ, sqS, i64_w, i32_w]
      rfl
     refine last_ (i := 6) (N := none) #[true, true, true, true, true, true, true] rfl rfl (by kernel_rfl) (by decide) (fun K hK => ?_)
     have hs23 : w22.cell? ⟨gb120, 0, none⟩ = some (.int .i64 (wrap64 (1 + t116))) := bC BK120.out 0 rfl
     have hfs23 := blk_frozen BK120.out 0
     have hns23_0 := NB115_120.out
     have hms23_0 := NB120_115.out
     refine skip_ (w1 := ?_) (by rfl) rfl ?_ ?_
     rotate_left
     ·go_simp
      rfl
     refine hK.out _ _ ?_
     clear hK K
     refine done_ (by kernel_rfl) ?_
     try go_wp2
     have n0_ : Aside0 ((w22.setCell ⟨gb120, 0, none⟩ (.int .i64 (wrap64 ((wrap64 (1 + t116)) + t123)))).heap[gb115]? = some (.cells #[.int .i64 0, .int .i64 0, .slice none 0 0] 27 (0, 0))) := ⟨by (with_reducible repeat (first | refine bN ?_ _ | refine bD ?_ | refine bA ?_ _)); refine blk_far ?_ NB115_120.out _; (with_reducible repeat (first | refine bN ?_ _ | refine bD ?_ | refine bA ?_ _)); exact BK115.out⟩
     have n1_ : Aside0 ((w22.setCell ⟨gb120, 0, none⟩ (.int .i64 (wrap64 ((wrap64 (1 + t116)) + t123)))).heap[gb120]? = some (.cells #[.int .i64 (wrap64 ((wrap64 (1 + t116)) + t123)), .int .i64 (wrap64 (1 + t118)), .slice none 0 0] 27 (0, 0))) := ⟨by (with_reducible repeat (first | refine bN ?_ _ | refine bD ?_ | refine bA ?_ _)); refine blk_put (cs := #[.int .i64 (wrap64 (1 + t116)), .int .i64 (wrap64 (1 + t118)), .slice none 0 0]) ?_ 0 _ rfl; (with_reducible repeat (first | refine bN ?_ _ | refine bD ?_ | refine bA ?_ _)); exact BK120.out⟩
     have n2_ : Aside0 (IsS81 w0 (w22.setCell ⟨gb120, 0, none⟩ (.int .i64 (wrap64 ((wrap64 (1 + t116)) + t123)))) g s0_0 t124) := ⟨by repeat (first | (with_reducible first | exact HI0.out | apply IsS81.alloc | apply IsS81.drewN | apply IsS81.drew | apply IsS81.set_1 | apply IsS81.far (hne := NB0_115.out) | apply IsS81.far (hne := NB0_120.out)) | exact HI0.out)⟩
     have n3_ : Aside0 (KeepBut w (w22.setCell ⟨gb120, 0, none⟩ (.int .i64 (wrap64 ((wrap64 (1 + t116)) + t123)))) g none) := ⟨by repeat (first | (with_reducible first | exact HK.out | apply KeepBut.set_ | apply keep_drewN | apply keep_drew | apply keep_alloc | refine keep_far ?_ GW115.out _ | refine keep_far ?_ GW120.out _) | exact HK.out)⟩
     have n4_ : Aside0 (Below w0.heap.size w0 (w22.setCell ⟨gb120, 0, none⟩ (.int .i64 (wrap64 ((wrap64 (1 + t116)) + t123))))) := ⟨by repeat (first | (with_reducible first | exact HB.out | apply wA | apply wN | apply wD | refine bS ?_ (IsS81.ge HI0.out) | refine bS ?_ GE115.out | refine bS ?_ GE120.out) | exact HB.out)⟩
     (try clear BK115)
     (try clear BK120)
     (try clear HI0)
     (try clear HK)
     (try clear HB)
     generalize (w22.setCell ⟨gb120, 0, none⟩ (.int .i64 (wrap64 ((wrap64 (1 + t116)) + t123)))) = w24 at n0_ n1_ n2_ n3_ n4_ ⊢
     have BK115 := n0_
     have BK120 := n1_
     have HI0 := n2_
     have HK := n3_
     have HB := n4_
     clear n0_ n1_ n2_ n3_ n4_
     have n0_ := A0 (blk_drew BK115.out)
     have n1_ := A0 (blk_drew BK120.out)
     have n2_ := A0 (IsS81.drew HI0.out)
     have n3_ := A0 (keep_drew HK.out)
     have n4_ := A0 (below_drew1 HB.out)
     clear BK115
     clear BK120
     clear HI0
     clear HK
     clear HB
     have BK115 := n0_
     have BK120 := n1_
     have HI0 := n2_
     have HK := n3_
     have HB := n4_
     clear n0_ n1_ n2_ n3_ n4_
     refine start_ (n := 7) (S := fun w' => w'.cell? ⟨gb120, 0, none⟩ = some (.int .i64 (wrap64 ((wrap64 (1 + t116)) + t123))) ∧ w'.cell? ⟨gb120, 1, none⟩ = some (.int .i64 (wrap64 (1 + t118))) ∧ w'.cell? ⟨gb120, 2, none⟩ = some (.slice none 0 0)) (ds := [6]) #[false, false, false, false, false, false, false] (by kernel_rfl) rfl rfl ⟨bC BK120.out 0 rfl, bC BK120.out 1 rfl, bC BK120.out 2 rfl⟩ (fun hHeld => ?_)
     generalize w24.drew = w25 at BK115 BK120 HI0 HK HB hHeld ⊢
     refine pure_ (i := 0) (N := some 27) (v := ?_) (a' := ?_) #[true, false, false, false, false, false, false] rfl rfl (by kernel_rfl) (fun _ _ _ h => h) (Or.inl ⟨by rfl, ?_⟩) ?_ ?_
     rotate_left
     ·intro w'
      go_simp
      with_reducible rfl
     rotate_left
     ·simp only [Act.put, sqA, sqZ, sqS, i64_w, i32_w]
      rfl
     refine pure_ (i := 2) (N := some 29) (v := ?_) (a' := ?_) #[true, false, true, false, false, false, false] rfl rfl (by kernel_rfl) (fun _ _ _ h => h) (Or.inl ⟨by rfl, ?_⟩) ?_ ?_
     rotate_left
     ·intro w'
      go_simp
      with_reducible rfl
     rotate_left
     ·simp only [Act.put, sqA, sqZ, sqS, i64_w, i32_w]
      rfl
     refine take_ (i := 1) (N := some 28) (v := ?_) (a' := ?_) #[true, true, true, false, false, false, false] rfl rfl (by kernel_rfl) (fun _ _ _ h => h) (Or.inl ⟨by rfl, ?_⟩) hHeld ?_ ?_
     rotate_left
     ·rintro w' ⟨s0, s1, s2⟩
      go_simp
      with_reducible rfl
     rotate_left
     ·simp only [Act.put, sqA, sqZ, sqS, i64_w, i32_w]
      rfl
     refine one_ (i := 3) (N := some 30) #[true, true, true, true, false, false, false] rfl rfl (by kernel_rfl) (by decide) (fun K hK => ?_)
     refine goes_ Try.func49 (by kernel_rfl) rfl #[.pointer (some ⟨g, 0, none⟩), .int .i64 5] (by rfl) rfl rfl (by (try simp only [lM, lC, lN]); first | done | rfl | (simp only [lD, lT]; rfl)) ?_
     with_reducible refine (spec_l1Rd_below.calls g s0_0 t124 5 t125 t126 w0 _ ?side1 ?side2 A20.out).mono ?_
     (case side1 => repeat (first | (with_reducible first | exact HI0.out | apply IsS81.alloc | apply IsS81.drewN | apply IsS81.drew | apply IsS81.set_1 | apply IsS81.far (hne := NB0_115.out) | apply IsS81.far (hne := NB0_120.out)) | exact HI0.out))
     (case side2 => repeat (first | (with_reducible first | exact HB.out | apply wA | apply wN | apply wD | refine bS ?_ (IsS81.ge HI0.out) | refine bS ?_ GE115.out | refine bS ?_ GE120.out) | exact HB.out))
     rintro e w26 ⟨rfl, hi, hb, hk⟩
     refine ⟨_, rfl, ?_⟩
     have n0_ := A0 (KeepBut.blk hk (g' := gb115) (o := .cells #[.int .i64 0, .int .i64 0, .slice none 0 0] 27 (0, 0)) (by (with_reducible repeat (first | refine bN ?_ _ | refine bD ?_ | refine bA ?_ _)); exact BK115.out) NB115_0.out (by simp))
     have n1_ := A0 (KeepBut.blk hk (g' := gb120) (o := .cells #[.int .i64 (wrap64 ((wrap64 (1 + t116)) + t123)), .int .i64 (wrap64 (1 + t118)), .slice none 0 0] 27 (0, 0)) (by (with_reducible repeat (first | refine bN ?_ _ | refine bD ?_ | refine bA ?_ _)); exact BK120.out) NB120_0.out (by simp))
     have n2_ := A0 (KeepBut.trans (by repeat (first | (with_reducible first | exact HK.out | apply KeepBut.set_ | apply keep_drewN | apply keep_drew | apply keep_alloc | refine keep_far ?_ GW115.out _ | refine keep_far ?_ GW120.out _) | exact HK.out)) hk (.inl rfl))
     have n3_ := A0 (hb)
     have n4_ := A0 (hi)
     clear BK115
     clear BK120
     clear HK
     clear HB
     clear HI0
     have BK115 := n0_
     have BK120 := n1_
     have HK := n2_
     have HB := n3_
     have HI0 := n4_
     clear n0_ n1_ n2_ n3_ n4_
     (try clear hb)
     refine hK.out _ _ ⟨bC BK120.out 0 rfl, bC BK120.out 1 rfl, bC BK120.out 2 rfl⟩ (fun hHeld => ?_)
     clear hK K
     refine norm_ (a' := ?_) ?_ ?_
     rotate_left
     ·show Act.put _ (some 30) _ = _
      simp only [Act.put, sqA, sqZ, sqS, i64_w, i32_w]
      rfl
     refine pure_ (i := 4) (N := some 31) (v := ?_) (a' := ?_) #[true, true, true, true, true, false, false] rfl rfl (by kernel_rfl) (fun _ _ _ h => h) (Or.inl ⟨by rfl, ?_⟩) ?_ ?_
     rotate_left
     ·intro w'
      go_simp
      with_reducible rfl
     rotate_left
     ·simp only [Act.put, sqA, sqZ, sqS, i64_w, i32_w]
      rfl
     refine pure_ (i := 5) (N := some 32) (v := ?_) (a' := ?_) #[true, true, true, true, true, true, false] rfl rfl (by kernel_rfl) (fun _ _ _ h => h) (Or.inl ⟨by rfl, ?_⟩) ?_ ?_
     rotate_left
     ·intro w'
      go_simp
      with_reducible rfl
     rotate_left
     ·simp only [Act.put, sqA, sqZ, sqS, i64_w, i32_w]
      rfl
     refine last_ (i := 6) (N := none) #[true, true, true, true, true, true, true] rfl rfl (by kernel_rfl) (by decide) (fun K hK => ?_)
     have hs27 : w26.cell? ⟨gb120, 1, none⟩ = some (.int .i64 (wrap64 (1 + t118))) := bC BK120.out 1 rfl
     have hfs27 := blk_frozen BK120.out 1
     have hns27_0 := NB115_120.out
     have hms27_0 := NB120_115.out
     refine skip_ (w1 := ?_) (by rfl) rfl ?_ ?_
     rotate_left
     ·go_simp
      rfl
     refine hK.out _ _ ?_
     clear hK K
     refine done_ (by kernel_rfl) ?_
     try go_wp2
     go_meet
     case rel => exact ⟨_, (t126), (wrap64 ((wrap64 (1 + t116)) + t123)), (wrap64 ((wrap64 (1 + t118)) + t125)), H', ⟨by have := HJ3.out; first | omega | exact Nat.le_refl _⟩, ⟨by (with_reducible repeat (first | refine bN ?_ _ | refine bD ?_ | refine bA ?_ _)); refine blk_far ?_ NB115_120.out _; (with_reducible repeat (first | refine bN ?_ _ | refine bD ?_ | refine bA ?_ _)); exact BK115.out⟩, ⟨by (with_reducible repeat (first | refine bN ?_ _ | refine bD ?_ | refine bA ?_ _)); refine blk_put (cs := #[.int .i64 (wrap64 ((wrap64 (1 + t116)) + t123)), .int .i64 (wrap64 (1 + t118)), .slice none 0 0]) ?_ 1 _ rfl; (with_reducible repeat (first | refine bN ?_ _ | refine bD ?_ | refine bA ?_ _)); exact BK120.out⟩, ⟨by repeat (first | (with_reducible first | exact HI0.out | apply IsS81.alloc | apply IsS81.drewN | apply IsS81.drew | apply IsS81.set_1 | apply IsS81.far (hne := NB0_115.out) | apply IsS81.far (hne := NB0_120.out)) | exact HI0.out)⟩, ⟨by repeat (first | (with_reducible first | exact HK.out | apply KeepBut.set_ | apply keep_drewN | apply keep_drew | apply keep_alloc | refine keep_far ?_ GW115.out _ | refine keep_far ?_ GW120.out _) | exact HK.out)⟩, ⟨by repeat (first | (with_reducible first | exact HB.out | apply wA | apply wN | apply wD | refine bS ?_ (IsS81.ge HI0.out) | refine bS ?_ GE115.out | refine bS ?_ GE120.out) | exact HB.out)⟩⟩
    ·replace c18 := Bool.eq_false_iff.mpr c18
     subst c18
     have H1 : (spec_l1Rd_box.j1 kj3 s0_0 x1001_3 (wrap64 (1 + t116)) (wrap64 (1 + t118))) = some (r1, r2, r3, r4) := by rw [if_neg (show ¬ (false = true) by decide)] at H; exact H
     clear H
     have H := H1
     clear H1
     have H' := Aside0.mk H
     clear H
     go_wp2
     go_meet
     case rel => exact ⟨_, (x1001_3), ((wrap64 (1 + t116))), ((wrap64 (1 + t118))), H', ⟨by have := HJ3.out; first | omega | exact Nat.le_refl _⟩, ⟨by (with_reducible repeat (first | refine bN ?_ _ | refine bD ?_ | refine bA ?_ _)); exact BK115.out⟩, ⟨by (with_reducible repeat (first | refine bN ?_ _ | refine bD ?_ | refine bA ?_ _)); exact BK120.out⟩, ⟨by repeat (first | (with_reducible first | exact HI0.out | apply IsS81.alloc | apply IsS81.drewN | apply IsS81.drew | apply IsS81.set_1 | apply IsS81.far (hne := NB0_115.out) | apply IsS81.far (hne := NB0_120.out)) | exact HI0.out)⟩, ⟨by repeat (first | (with_reducible first | exact HK.out | apply KeepBut.set_ | apply keep_drewN | apply keep_drew | apply keep_alloc | refine keep_far ?_ GW115.out _ | refine keep_far ?_ GW120.out _) | exact HK.out)⟩, ⟨by repeat (first | (with_reducible first | exact HB.out | apply wA | apply wN | apply wD | refine bS ?_ (IsS81.ge HI0.out) | refine bS ?_ GE115.out | refine bS ?_ GE120.out) | exact HB.out)⟩⟩
   case rest =>
    clear HC17
    try clear c1
    try clear p2
    try clear c4
    try clear c5
    try clear p6
    try clear c9
    try clear c10
    try clear c12
    try clear c12b0
    try clear c12b1
    try clear c18
    try clear hcz11_0
    try clear hcz11_1
    try clear hcz11_2
    try clear hcz14_0
    try clear hcz14_1
    try clear hcz16_0
    try clear hcz16_1
    try clear hfz11_0
    try clear hfz11_1
    try clear hfz11_2
    try clear hfz14_1
    try clear hfz16_1
    try clear p2
    try clear p6
    obtain ⟨kq, x1001_16, x121000_16, x121001_16, HA, HJ16, BK115, BK120, HI0, HK, HB⟩ := hcut
    cases kq with
    | zero => exact absurd HA.out (by simp [spec_l1Rd_box.j1])
    | succ kj16 =>
     have H := HA.out
     clear HA
     simp only [spec_l1Rd_box.j1] at H
     have H' := Aside0.mk H
     clear H
     go_wp2
     go_loopg [] kj16 (fun kq w' => ∃ (x1001_3 : Int) (x121002_3 : List Int) (u121002 : Value), Aside0 (spec_l1Rd_box.l0 kq s0_0 x1001_3 x121000_16 x121001_16 x121002_3 = some (r1, r2, r3, r4)) ∧ Aside0 (kq ≤ kj16) ∧ Aside0 (Kd.R (Kd.int .i64) 2 w' w.heap.size (fun _ => True) u121002 x121002_3) ∧ Aside0 (w'.heap[gb115]? = some (.cells #[.int .i64 0, .int .i64 0, (.slice none 0 0)] 27 (0, 0))) ∧ Aside0 (w'.heap[gb120]? = some (.cells #[.int .i64 x121000_16, .int .i64 x121001_16, u121002] 27 (0, 0))) ∧ Aside0 (IsS81 w0 w' g s0_0 x1001_3) ∧ Aside0 (KeepBut w w' g none) ∧ Aside0 (Below w0.heap.size w0 w'))
     case atStart => exact ⟨(x1001_16), (([] : List Int)), (.slice none 0 0), H', ⟨Nat.le_refl _⟩, ⟨by first | exact Kd.R_nil _ _ _ _ _ | exact Kd.N_nil _ _ _ _ _ | exact Kd.V_nil _ _ _ _ _ | exact Kd.Q_nil _ _ _ _ _ | exact Kd.S_nil _ _ _ _ _⟩, ⟨by (with_reducible repeat (first | refine bN ?_ _ | refine bD ?_ | refine bA ?_ _)); exact BK115.out⟩, ⟨by (with_reducible repeat (first | refine bN ?_ _ | refine bD ?_ | refine bA ?_ _)); exact BK120.out⟩, ⟨by repeat (first | (with_reducible first | exact HI0.out | apply IsS81.alloc | apply IsS81.drewN | apply IsS81.drew | apply IsS81.set_1 | apply IsS81.far (hne := NB0_115.out) | apply IsS81.far (hne := NB0_120.out)) | exact HI0.out)⟩, ⟨by repeat (first | (with_reducible first | exact HK.out | apply KeepBut.set_ | apply keep_drewN | apply keep_drew | apply keep_alloc | refine keep_far ?_ GW115.out _ | refine keep_far ?_ GW120.out _) | exact HK.out)⟩, ⟨by repeat (first | (with_reducible first | exact HB.out | apply wA | apply wN | apply wD | refine bS ?_ (IsS81.ge HI0.out) | refine bS ?_ GE115.out | refine bS ?_ GE120.out) | exact HB.out)⟩⟩
     case round =>
      clear H'
      try clear c1
      try clear p2
      try clear c4
      try clear c5
      try clear p6
      try clear c9
      try clear c10
      try clear c12
      try clear c12b0
      try clear c12b1
      try clear c18
      try clear hcz11_0
      try clear hcz11_1
      try clear hcz11_2
      try clear hcz14_0
      try clear hcz14_1
      try clear hcz16_0
      try clear hcz16_1
      try clear hfz11_0
      try clear hfz11_1
      try clear hfz11_2
      try clear hfz14_1
      try clear hfz16_1
      try clear p2
      try clear p6
      obtain ⟨x1001_3, x121002_3, u121002, HA, HK3, HO_121002, BK115, BK120, HI0, HK, HB⟩ := hrel
      cases gk with
      | zero => exact absurd HA.out (by simp [spec_l1Rd_box.l0])
      | succ k3 =>
       have H := HA.out
       clear HA
       simp only [spec_l1Rd_box.l0] at H
       by_cases c28 : (x121002_3.length : Int) < (wrap64 (x121000_16 * x121001_16))
       ·rw [if_pos c28] at H
        have c28b0 : decide ((x121002_3.length : Int) < (wrap64 (x121000_16 * x121001_16))) = true := decide_eq_true c28
        clear c28
        replace H := Option.bind_eq_some_iff.mp H
        obtain ⟨⟨t127, t128⟩, A290, H⟩ := H
        replace H : (if x121002_3.length < 17592186044416 then (spec_l1Rd_box.l0 k3 s0_0 t128 x121000_16 x121001_16 (x121002_3 ++ [t127])) else (none)) = some (r1, r2, r3, r4) := H
        have A29 := Aside0.mk A290
        clear A290
        by_cases c30 : x121002_3.length < 17592186044416
        ·rw [if_pos c30] at H
         have LMc30 := Aside0.mk c30
         clear c30
         obtain ⟨y129, hy129⟩ : ∃ y_ : List Int, y_ = (x121002_3 ++ [t127]) := ⟨_, rfl⟩
         replace H : (spec_l1Rd_box.l0 k3 s0_0 t128 x121000_16 x121001_16 y129) = some (r1, r2, r3, r4) := by first | (rw [hy129]; with_reducible exact H) | (have H2_ := (Option.bind_some _ _).symm.trans H; rw [hy129]; with_reducible exact H2_) | (have H2_ := (Option.bind_some _ _).symm.trans H; with_reducible exact H2_) | with_reducible exact H | (rw [hy129]; exact H) | exact H
         have Ny129 := Aside0.mk hy129
         clear hy129
         have H' := Aside0.mk H
         clear H
         have hnb31 := NB120_115.out
         have hnc31 := NB115_120.out
         have hnb32 := NB120_0.out
         have hnc32 := NB0_120.out
         have hcz33_0 : wr.cell? ⟨gb120, 0, none⟩ = some (.int .i64 x121000_16) := bC BK120.out 0 rfl
         have hcz33_1 : wr.cell? ⟨gb120, 1, none⟩ = some (.int .i64 x121001_16) := bC BK120.out 1 rfl
         have hcz33_2 : wr.cell? ⟨gb120, 2, none⟩ = some (u121002) := bC BK120.out 2 rfl
         have hfz33_0 := blk_frozen BK120.out 0
         have hfz33_1 := blk_frozen BK120.out 1
         have hfz33_2 := blk_frozen BK120.out 2
         obtain ⟨Ao34, co34, eo34⟩ := Kd.R_slice HO_121002.out
         subst eo34
         try go_wp2
         have n0_ := A0 (Kd.R_drew HO_121002.out)
         have n1_ := A0 (blk_drew BK115.out)
         have n2_ := A0 (blk_drew BK120.out)
         have n3_ := A0 (IsS81.drew HI0.out)
         have n4_ := A0 (keep_drew HK.out)
         have n5_ := A0 (below_drew1 HB.out)
         clear HO_121002
         clear BK115
         clear BK120
         clear HI0
         clear HK
         clear HB
         have HO_121002 := n0_
         have BK115 := n1_
         have BK120 := n2_
         have HI0 := n3_
         have HK := n4_
         have HB := n5_
         clear n0_ n1_ n2_ n3_ n4_ n5_
         refine start_ (n := 8) (S := fun w' => w'.cell? ⟨gb120, 0, none⟩ = some (.int .i64 x121000_16) ∧ w'.cell? ⟨gb120, 1, none⟩ = some (.int .i64 x121001_16) ∧ w'.cell? ⟨gb120, 2, none⟩ = some (.slice Ao34 x121002_3.length co34)) (ds := [7]) #[false, false, false, false, false, false, false, false] (by kernel_rfl) rfl rfl ⟨bC BK120.out 0 rfl, bC BK120.out 1 rfl, bC BK120.out 2 rfl⟩ (fun hHeld => ?_); refine with_tabW spec_l1Rd_box.tab6 spec_l1Rd_box.bits6 (fun HT_ HW_ => ?_)
         generalize wr.drew = w35 at HO_121002 BK115 BK120 HI0 HK HB hHeld ⊢
         refine pure_ (i := 0) (N := some 42) (v := ?_) (a' := ?_) #[true, false, false, false, false, false, false, false] rfl rfl (any_of HT_.out (by kernel_rfl)) (fun _ _ _ h => h) (Or.inl ⟨by rfl, ?_⟩) ?_ ?_
         rotate_left
         ·intro w'
          go_simp
          with_reducible rfl
         rotate_left
         ·simp only [Act.put, sqA, sqZ, sqS, i64_w, i32_w]
          rfl
         refine pure_ (i := 2) (N := some 44) (v := ?_) (a' := ?_) #[true, false, true, false, false, false, false, false] rfl rfl (any_of HT_.out (by kernel_rfl)) (fun _ _ _ h => h) (Or.inl ⟨by rfl, ?_⟩) ?_ ?_
         rotate_left
         ·intro w'
          go_simp
          with_reducible rfl
         rotate_left
         ·simp only [Act.put, sqA, sqZ, sqS, i64_w, i32_w]
          rfl
         refine take_ (i := 1) (N := some 43) (v := ?_) (a' := ?_) #[true, true, true, false, false, false, false, false] rfl rfl (take_ofW HT_.out HW_.out (by kernel_rfl)) (fun _ _ _ h => h) (Or.inl ⟨by rfl, ?_⟩) hHeld ?_ ?_
         rotate_left
         ·rintro w' ⟨s0, s1, s2⟩
          go_simp
          with_reducible rfl
         rotate_left
         ·simp only [Act.put, sqA, sqZ, sqS, i64_w, i32_w]
          rfl
         refine one_ (i := 3) (N := some 45) #[true, true, true, true, false, false, false, false] rfl rfl (one_of HT_.out (by kernel_rfl)) (by decide) (fun K hK => ?_)
         refine goes_ Try.func49 (by kernel_rfl) rfl #[.pointer (some ⟨g, 0, none⟩), .int .i64 9] (by rfl) rfl rfl (by (try simp only [lM, lC, lN]); first | done | rfl | (simp only [lD, lT]; rfl)) ?_
         with_reducible refine (spec_l1Rd_below.calls g s0_0 x1001_3 9 t127 t128 w0 _ ?side1 ?side2 A29.out).mono ?_
         (case side1 => repeat (first | (with_reducible first | exact HI0.out | apply IsS81.alloc | apply IsS81.drewN | apply IsS81.drew | apply IsS81.set_1 | apply IsS81.far (hne := NB0_115.out) | apply IsS81.far (hne := NB0_120.out)) | exact HI0.out))
         (case side2 => repeat (first | (with_reducible first | exact HB.out | apply wA | apply wN | apply wD | refine bS ?_ (IsS81.ge HI0.out) | refine bS ?_ GE115.out | refine bS ?_ GE120.out) | exact HB.out))
         rintro e w36 ⟨rfl, hi, hb, hk⟩
         refine ⟨_, rfl, ?_⟩
         have n0_ := A0 (Kd.R_mono (Kd.R_keep (IsS81.apart (show IsS81 w0 _ g s0_0 x1001_3 from by repeat (first | (with_reducible first | exact HI0.out | apply IsS81.alloc | apply IsS81.drewN | apply IsS81.drew | apply IsS81.set_1 | apply IsS81.far (hne := NB0_115.out) | apply IsS81.far (hne := NB0_120.out)) | exact HI0.out)) HO_121002.out (by decide)) hk (fun _ h => h.2)) (fun _ h => h.1))
         have n1_ := A0 (KeepBut.blk hk (g' := gb115) (o := .cells #[.int .i64 0, .int .i64 0, .slice none 0 0] 27 (0, 0)) (by (with_reducible repeat (first | refine bN ?_ _ | refine bD ?_ | refine bA ?_ _)); exact BK115.out) NB115_0.out (by simp))
         have n2_ := A0 (KeepBut.blk hk (g' := gb120) (o := .cells #[.int .i64 x121000_16, .int .i64 x121001_16, .slice Ao34 x121002_3.length co34] 27 (0, 0)) (by (with_reducible repeat (first | refine bN ?_ _ | refine bD ?_ | refine bA ?_ _)); exact BK120.out) NB120_0.out (by simp))
         have n3_ := A0 (KeepBut.trans (by repeat (first | (with_reducible first | exact HK.out | apply KeepBut.set_ | apply keep_drewN | apply keep_drew | apply keep_alloc | refine keep_far ?_ GW115.out _ | refine keep_far ?_ GW120.out _) | exact HK.out)) hk (.inl rfl))
         have n4_ := A0 (hb)
         have n5_ := A0 (hi)
         clear HO_121002
         clear BK115
         clear BK120
         clear HK
         clear HB
         clear HI0
         have HO_121002 := n0_
         have BK115 := n1_
         have BK120 := n2_
         have HK := n3_
         have HB := n4_
         have HI0 := n5_
         clear n0_ n1_ n2_ n3_ n4_ n5_
         (try clear hb)
         refine hK.out _ _ ⟨bC BK120.out 0 rfl, bC BK120.out 1 rfl, bC BK120.out 2 rfl⟩ (fun hHeld => ?_)
         clear hK K
         refine norm_ (a' := ?_) ?_ ?_
         rotate_left
         ·show Act.put _ (some 45) _ = _
          simp only [Act.put, sqA, sqZ, sqS, i64_w, i32_w]
          rfl
         refine one_ (i := 4) (N := some 46) #[true, true, true, true, true, false, false, false] rfl rfl (one_of HT_.out (by kernel_rfl)) (by decide) (fun K hK => ?_)
         refine value_ (w1 := ?_) (v := ?_) (by rfl) rfl ?_ ?_
         rotate_left 2
         ·go_simp
          constructor
          ·rfl
          ·rfl
         refine hK.out _ _ ⟨(blk_cell (blk_alloc BK120.out _) 0).trans rfl, (blk_cell (blk_alloc BK120.out _) 1).trans rfl, (blk_cell (blk_alloc BK120.out _) 2).trans rfl⟩ (fun hHeld => ?_)
         clear hK K
         refine norm_ (a' := ?_) ?_ ?_
         rotate_left
         ·show Act.put _ (some 46) _ = _
          simp only [Act.put, sqA, sqZ, sqS, i64_w, i32_w]
          rfl
         refine one_ (i := 5) (N := some 47) #[true, true, true, true, true, true, false, false] rfl rfl (one_of HT_.out (by kernel_rfl)) (by decide) (fun K hK => ?_)
         refine Kd.R_append_step (Kd.int .i64) w.heap.size (by rfl) (.tmp 43) (.tmp 46) 22 2 (.int .i64 0) 8 rfl Try.underlying22 info2 rfl (by decide) (by omega) (.slice Ao34 x121002_3.length co34) x121002_3 t127 [.int .i64 t127] (fun _ => True) (fun _ => False) rfl rfl ?aP (fun _ hk => hk.elim) ?aF ?aO (Below.refl _ _) ?aS ?aL ?_
         (case aP => exact rfl)
         (case aF => exact (fun _ _ => trivial))
         (case aO => exact HO_121002.out)
         (case aS => exact (keep_size (w := w) (g := g) (row := none) (by repeat (first | (with_reducible first | exact HK.out | apply KeepBut.set_ | apply keep_drewN | apply keep_drew | apply keep_alloc | refine keep_far ?_ GW115.out _ | refine keep_far ?_ GW120.out _) | exact HK.out))))
         (case aL => have := LMc30.out; omega)
         intro v130 w37 ho hb hg hat
         rw [← Ny129.out] at ho
         have n0_ := A0 (blk_grown (g := gb115) (o := .cells #[.int .i64 0, .int .i64 0, .slice none 0 0] 27 (0, 0)) (by (with_reducible repeat (first | refine bN ?_ _ | refine bD ?_ | refine bA ?_ _)); exact BK115.out) hg (Kd.R_ne HO_121002.out BK115.out (by decide)))
         have n1_ := A0 (blk_grown (g := gb120) (o := .cells #[.int .i64 x121000_16, .int .i64 x121001_16, .slice Ao34 x121002_3.length co34] 27 (0, 0)) (by (with_reducible repeat (first | refine bN ?_ _ | refine bD ?_ | refine bA ?_ _)); exact BK120.out) hg (Kd.R_ne HO_121002.out BK120.out (by decide)))
         have n2_ := A0 (IsS81.grown (by repeat (first | (with_reducible first | exact HI0.out | apply IsS81.alloc | apply IsS81.drewN | apply IsS81.drew | apply IsS81.set_1 | apply IsS81.far (hne := NB0_115.out) | apply IsS81.far (hne := NB0_120.out)) | exact HI0.out)) hg (IsS81.own_ne HI0.out HO_121002.out (by decide)))
         have n3_ := A0 (below_weaken (by repeat (first | (with_reducible first | exact HB.out | apply wA | apply wN | apply wD | refine bS ?_ (IsS81.ge HI0.out) | refine bS ?_ GE115.out | refine bS ?_ GE120.out) | exact HB.out)) HL.out hb)
         have n4_ := A0 (KeepBut.trans (by repeat (first | (with_reducible first | exact HK.out | apply KeepBut.set_ | apply keep_drewN | apply keep_drew | apply keep_alloc | refine keep_far ?_ GW115.out _ | refine keep_far ?_ GW120.out _) | exact HK.out)) (KeepBut.of_grown hg g) (Kd.R_base2 HO_121002.out))
         have n5_ := A0 (ho)
         clear BK115
         clear BK120
         clear HI0
         clear HB
         clear HK
         clear HO_121002
         have BK115 := n0_
         have BK120 := n1_
         have HI0 := n2_
         have HB := n3_
         have HK := n4_
         have HO131 := n5_
         clear n0_ n1_ n2_ n3_ n4_ n5_
         clear ho hb hg hat
         obtain ⟨Ao38, co38, eo38⟩ := Kd.R_slice HO131.out
         (first | subst eo38 | (injection eo38 with f1_ f2_ f3_; have f4_ := f1_.symm; have f5_ := f3_.symm; clear f1_ f2_ f3_; subst f4_; subst f5_))
         refine hK.out _ _ ⟨bC BK120.out 0 rfl, bC BK120.out 1 rfl, bC BK120.out 2 rfl⟩ (fun hHeld => ?_)
         clear hK K
         refine norm_ (a' := ?_) ?_ ?_
         rotate_left
         ·show Act.put _ (some 47) _ = _
          simp only [Act.put, sqA, sqZ, sqS, i64_w, i32_w]
          rfl
         refine pure_ (i := 6) (N := some 48) (v := ?_) (a' := ?_) #[true, true, true, true, true, true, true, false] rfl rfl (any_of HT_.out (by kernel_rfl)) (fun _ _ _ h => h) (Or.inl ⟨by rfl, ?_⟩) ?_ ?_
         rotate_left
         ·intro w'
          go_simp
          with_reducible rfl
         rotate_left
         ·simp only [Act.put, sqA, sqZ, sqS, i64_w, i32_w]
          rfl
         refine last_ (i := 7) (N := none) #[true, true, true, true, true, true, true, true] rfl rfl (one_of HT_.out (by kernel_rfl)) (by decide) (fun K hK => ?_)
         have hs39 : w37.cell? ⟨gb120, 2, none⟩ = some (.slice Ao34 x121002_3.length co34) := bC BK120.out 2 rfl
         have hfs39 := blk_frozen BK120.out 2
         have hns39_0 := NB115_120.out
         have hms39_0 := NB120_115.out
         refine skip_ (w1 := ?_) (by rfl) rfl ?_ ?_
         rotate_left
         ·go_simp
          rfl
         refine hK.out _ _ ?_
         clear hK K
         refine done_ (done_of HT_.out (by kernel_rfl)) ?_
         try go_wp2
         go_roundg k3
         case measure => have := HJ3.out; have := HJ16.out; have := HK3.out; omega
         case rel => exact ⟨(t128), (y129), (.slice Ao38 y129.length co38), H', ⟨by have := HJ3.out; have := HJ16.out; have := HK3.out; omega⟩, ⟨by (with_reducible repeat (first | apply Kd.R_alloc | apply Kd.R_drewN | apply Kd.R_drew)); exact Kd.R_mono (Kd.R_far (p := ⟨gb120, 2, none⟩) (Kd.R_types HO131.out BK120.out (by decide)) (fun _ hk => hk.2) (.slice Ao38 y129.length co38)) (fun _ hk => trivial)⟩, ⟨by (with_reducible repeat (first | refine bN ?_ _ | refine bD ?_ | refine bA ?_ _)); refine blk_far ?_ NB115_120.out _; (with_reducible repeat (first | refine bN ?_ _ | refine bD ?_ | refine bA ?_ _)); exact BK115.out⟩, ⟨by (with_reducible repeat (first | refine bN ?_ _ | refine bD ?_ | refine bA ?_ _)); refine blk_put (cs := #[.int .i64 x121000_16, .int .i64 x121001_16, .slice Ao34 x121002_3.length co34]) ?_ 2 _ rfl; (with_reducible repeat (first | refine bN ?_ _ | refine bD ?_ | refine bA ?_ _)); exact BK120.out⟩, ⟨by repeat (first | (with_reducible first | exact HI0.out | apply IsS81.alloc | apply IsS81.drewN | apply IsS81.drew | apply IsS81.set_1 | apply IsS81.far (hne := NB0_115.out) | apply IsS81.far (hne := NB0_120.out)) | exact HI0.out)⟩, ⟨by repeat (first | (with_reducible first | exact HK.out | apply KeepBut.set_ | apply keep_drewN | apply keep_drew | apply keep_alloc | refine keep_far ?_ GW115.out _ | refine keep_far ?_ GW120.out _) | exact HK.out)⟩, ⟨by repeat (first | (with_reducible first | exact HB.out | apply wA | apply wN | apply wD | refine bS ?_ (IsS81.ge HI0.out) | refine bS ?_ GE115.out | refine bS ?_ GE120.out) | exact HB.out)⟩⟩
        ·rw [if_neg c30] at H
         exact absurd H (by simp)
       ·rw [if_neg c28] at H
        have c28b0 : decide ((x121002_3.length : Int) < (wrap64 (x121000_16 * x121001_16))) = false := decide_eq_false c28
        clear c28
        simp only [Option.some.injEq, Prod.mk.injEq] at H
        obtain ⟨rfl, rfl, rfl, rfl⟩ := H
        have hnb40 := NB120_115.out
        have hnc40 := NB115_120.out
        have hnb41 := NB120_0.out
        have hnc41 := NB0_120.out
        have hcz42_0 : wr.cell? ⟨gb120, 0, none⟩ = some (.int .i64 x121000_16) := bC BK120.out 0 rfl
        have hcz42_1 : wr.cell? ⟨gb120, 1, none⟩ = some (.int .i64 x121001_16) := bC BK120.out 1 rfl
        have hcz42_2 : wr.cell? ⟨gb120, 2, none⟩ = some (u121002) := bC BK120.out 2 rfl
        have hfz42_0 := blk_frozen BK120.out 0
        have hfz42_1 := blk_frozen BK120.out 1
        have hfz42_2 := blk_frozen BK120.out 2
        obtain ⟨Ao43, co43, eo43⟩ := Kd.R_slice HO_121002.out
        subst eo43
        have hnb44 := NB115_0.out
        have hnc44 := NB0_115.out
        have hcz45_0 : wr.cell? ⟨gb115, 0, none⟩ = some (.int .i64 0) := bC BK115.out 0 rfl
        have hcz45_1 : wr.cell? ⟨gb115, 1, none⟩ = some (.int .i64 0) := bC BK115.out 1 rfl
        have hcz45_2 : wr.cell? ⟨gb115, 2, none⟩ = some (.slice none 0 0) := bC BK115.out 2 rfl
        have hfz45_0 := blk_frozen BK115.out 0
        have hfz45_1 := blk_frozen BK115.out 1
        have hfz45_2 := blk_frozen BK115.out 2
        go_wp2
        refine bodyPost_ret (results_cell_row rfl _ _ gb115 27 #[.int .i64 x121000_16, .int .i64 x121001_16, .slice Ao43 x121002_3.length co43] (0, 0) _ rfl (by (with_reducible repeat (first | refine bN ?_ _ | refine bD ?_ | refine bA ?_ _)); refine blk_put (cs := #[.int .i64 x121000_16, .int .i64 x121001_16, .slice none 0 0]) ?_ 2 _ rfl; (with_reducible repeat (first | refine bN ?_ _ | refine bD ?_ | refine bA ?_ _)); refine blk_put (cs := #[.int .i64 x121000_16, .int .i64 0, .slice none 0 0]) ?_ 1 _ rfl; (with_reducible repeat (first | refine bN ?_ _ | refine bD ?_ | refine bA ?_ _)); refine blk_put (cs := #[.int .i64 0, .int .i64 0, .slice none 0 0]) ?_ 0 _ rfl; (with_reducible repeat (first | refine bN ?_ _ | refine bD ?_ | refine bA ?_ _)); exact BK115.out) Try.underlying27 rfl (by kernel_rfl)) rfl ?_
        exact ⟨_, by first | rfl | (simp [errW_none, errW_some] <;> rfl) | (simp [*, errW_none, errW_some] <;> rfl), by (with_reducible repeat (first | apply Kd.R_alloc | apply Kd.R_drewN | apply Kd.R_drew)); exact Kd.R_mono (Kd.R_far (p := ⟨gb115, 2, none⟩) (Kd.R_far (p := ⟨gb115, 1, none⟩) (Kd.R_far (p := ⟨gb115, 0, none⟩) (Kd.R_types HO_121002.out BK115.out (by decide)) (fun _ hk => hk.2) (.int .i64 x121000_16)) (fun _ hk => hk.2) (.int .i64 x121001_16)) (fun _ hk => hk.2) (.slice Ao43 x121002_3.length co43)) (fun _ hk => trivial), by repeat (first | (with_reducible first | exact HI0.out | apply IsS81.alloc | apply IsS81.drewN | apply IsS81.drew | apply IsS81.set_1 | apply IsS81.far (hne := NB0_115.out) | apply IsS81.far (hne := NB0_120.out)) | exact HI0.out), by repeat (first | (with_reducible first | exact HB.out | apply wA | apply wN | apply wD | refine bS ?_ (IsS81.ge HI0.out) | refine bS ?_ GE115.out | refine bS ?_ GE120.out) | exact HB.out), by repeat (first | (with_reducible first | exact HK.out | apply KeepBut.set_ | apply keep_drewN | apply keep_drew | apply keep_alloc | refine keep_far ?_ GW115.out _ | refine keep_far ?_ GW120.out _) | exact HK.out)⟩

end Go.Proofs.Ytcdghhihfjojaab.Q
