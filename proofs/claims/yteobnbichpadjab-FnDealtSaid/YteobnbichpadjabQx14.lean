/- Plain Lean functions with the same answers as the Go functions of this seat, and a proof for each that the Go code comes to just these answers; no condition. Written by a program of this session (the kit's printer, turned). -/
import Derived.Test.YteobnbichpadjabQx0
import Derived.Test.YteobnbichpadjabQx2
import Derived.Test.YteobnbichpadjabQx5
import Derived.Test.YteobnbichpadjabQx12
import Derived.Test.YteobnbichpadjabQx13
namespace Go.Proofs.Yteobnbichpadjab.Q
open Go.RowKit Go.Proofs.YteobnbichpadjabW.PrintWords Go.Proofs.YteobnbichpadjabW.PrintLast Go.Proofs.YteobnbichpadjabW.PrintMore Go.Proofs.YteobnbichpadjabW.PrintFlt
attribute [local go_sem] cmp_lss cmp_leq cmp_gtr cmp_geq cmp_eql cmp_neq flt_l flt_r fgt_l fgt_r feq_l feq_r fne_l fne_r ord_lt ord_gt ord_eq ord_ne conv_int foi_fold run_store_flt
attribute [local go_sem] max2_int min2_int max_two min_two max_three min_three max_four min_four   -- for this text's walks alone
set_option linter.unusedVariables false
set_option linter.unusedSimpArgs false

/-! ### spec_l1Rd_archive: function 69 -/
def spec_l1Rd_archive.l0 : Nat → List (S31) → Int → Int → List Int → Int → Option ((List (S31)) × Int)
 | 0, _, _, _, _, _ => none
 | k + 1, x5, x6, x7, x1000, x1001 => if x7 < x6 then ((spec_l1Rd_entry.f x1000 x1001).bind fun bt177 => ((spec_Store.f k x5 bt177.1 bt177.2.1 bt177.2.2.1 bt177.2.2.2.1 bt177.2.2.2.2.1).bind fun bt183 => (spec_l1Rd_archive.l0 k bt183.1 x6 (wrap64 (x7 + 1)) x1000 bt177.2.2.2.2.2))) else (some (x5, x1001))
def spec_l1Rd_archive.f (k : Nat) (s0_0 : List Int) (s0_1 : Int) (a1 : Int) : Option ((List (S31)) × Int) := (spec_l1Rd_size.f s0_0 s0_1 4 a1).bind fun bt175 => (spec_l1Rd_archive.l0 k (([] : List (S31))) bt175.1 0 s0_0 bt175.2)
theorem spec_l1Rd_archive.mono_l : ∀ k, (∀ y0 y1 y2 y3 y4, LeO (spec_l1Rd_archive.l0 k y0 y1 y2 y3 y4) (spec_l1Rd_archive.l0 (k + 1) y0 y1 y2 y3 y4))
 | 0 => fun _ _ _ _ _ r h => by simp [spec_l1Rd_archive.l0] at h
 | k + 1 => by
  have ih0 := spec_l1Rd_archive.mono_l k
  ·intro y0 y1 y2 y3 y4
   unfold spec_l1Rd_archive.l0
   repeat' first
   | (with_reducible exact ih0 _ _ _ _ _)
   | (with_reducible exact spec_Store.mono _ _ _ _ _ _ _)
   | (with_reducible exact LeO.refl _)
   | (with_reducible exact LeO.none _)
   | (with_reducible refine LeO.ite ?_ ?_)
   | (with_reducible refine LeO.bind ?_ (fun _ => ?_))
   | exact ih0 _ _ _ _ _
   | exact spec_Store.mono _ _ _ _ _ _ _
   | exact LeO.none _
   | refine LeO.ite ?_ ?_
   | refine LeO.bind ?_ (fun _ => ?_)
theorem spec_l1Rd_archive.mono : ∀ a0 a1 a2 k, LeO (spec_l1Rd_archive.f k a0 a1 a2) (spec_l1Rd_archive.f (k + 1) a0 a1 a2) := by
 intro a0 a1 a2 k
 have ih0 := spec_l1Rd_archive.mono_l k
 unfold spec_l1Rd_archive.f
 repeat' first
   | (with_reducible exact ih0 _ _ _ _ _)
   | (with_reducible exact spec_Store.mono _ _ _ _ _ _ _)
   | (with_reducible exact LeO.refl _)
   | (with_reducible exact LeO.none _)
   | (with_reducible refine LeO.ite ?_ ?_)
   | (with_reducible refine LeO.bind ?_ (fun _ => ?_))
   | exact ih0 _ _ _ _ _
   | exact spec_Store.mono _ _ _ _ _ _ _
   | exact LeO.none _
   | refine LeO.ite ?_ ?_
   | refine LeO.bind ?_ (fun _ => ?_)
set_option maxHeartbeats 8000000 in
set_option maxRecDepth 100000 in
theorem spec_l1Rd_archive.calls (k : Nat) (g : Nat) (s0_0 : List Int) (s0_1 : Int) (a1 : Int) (r1 : List (S31)) (r2 : Int) (w0 w : World) (hI : IsS78 w0 w g s0_0 s0_1) (hB : Below w0.heap.size w0 w) (h : spec_l1Rd_archive.f k s0_0 s0_1 a1 = some (r1, r2)) :
  Calls Try.prog 69 #[.pointer (some ⟨g, 0, none⟩), .int .i64 a1] w fun e w' => ∃ v0_ : Value, e = .returned (v0_) ∧ Kd.R k31 31 w' w.heap.size (fun _ => True) v0_ r1 ∧ IsS78 w0 w' g s0_0 r2 ∧ Below w0.heap.size w0 w' ∧ KeepBut w w' g none := by
 have HI0 := Aside0.mk hI
 have HK := Aside0.mk (KeepBut.refl w g none)
 have HL := Aside0.mk hB.size
 clear hI
 have HW0 := Aside0.mk hB.size
 have HB := Aside0.mk hB
 clear hB
 have H : ((spec_l1Rd_size.f s0_0 s0_1 4 a1).bind fun bt175 => (spec_l1Rd_archive.l0 k (([] : List (S31))) bt175.1 0 s0_0 bt175.2)) = some (r1, r2) := h
 clear h
 obtain ⟨y172, hy172⟩ : ∃ y_ : List (S31), y_ = (([] : List (S31))) := ⟨_, rfl⟩
 replace H : ((spec_l1Rd_size.f s0_0 s0_1 4 a1).bind fun bt175 => (spec_l1Rd_archive.l0 k y172 bt175.1 0 s0_0 bt175.2)) = some (r1, r2) := by first | (rw [hy172]; with_reducible exact H) | (have H2_ := (Option.bind_some _ _).symm.trans H; rw [hy172]; with_reducible exact H2_) | (have H2_ := (Option.bind_some _ _).symm.trans H; with_reducible exact H2_) | with_reducible exact H | (rw [hy172]; exact H) | exact H
 have Ny172 := Aside0.mk hy172
 clear hy172
 replace H := Option.bind_eq_some_iff.mp H
 obtain ⟨⟨t175, t176⟩, A30, H⟩ := H
 replace H : (spec_l1Rd_archive.l0 k y172 t175 0 s0_0 t176) = some (r1, r2) := H
 have A3 := Aside0.mk A30
 clear A30
 have H' := Aside0.mk H
 clear H
 go_enter Try.func69, Try.ntmps69
 go_wp2_with (first | ((with_reducible refine gate_dst (N := 8) rfl ?_); refine Kd.R_lit k31 _ 31 ?hg (N := 8) ?hd (xs := ([] : List (S31))) (inner := []) (ok := fun _ => True) (okp := fun _ => True) ?hr ?hp (fun _ hk => hk) trivial (Below.refl _ _) (Nat.le_refl _) (by simp) ?_; (case hd => rfl); (case hg => rfl); (case hr => first | (go_simp; done) | (go_simp; rfl)); (case hp => exact (Reps.none _ _)); intro v173 w4 ho5 hb hg_ hnew_; clear hg_ hnew_; (first | rw [← Ny172.out] at ho5 | (simp only [Int.reduceToNat] at ho5; rw [← Ny172.out] at ho5)); have n0_ := Aside0.mk (Kd.R_lower ho5 (keep_size (w := w) (g := g) (row := none) (by repeat (first | (with_reducible first | exact HK.out | apply KeepBut.set_ | apply keep_drewN | apply keep_drew | apply keep_alloc) | exact HK.out)))); have n1_ := Aside0.mk (IsS78.below (by repeat (first | (with_reducible first | exact HI0.out | apply IsS78.alloc | apply IsS78.drewN | apply IsS78.drew | apply IsS78.set_1) | exact HI0.out)) hb); have n2_ := Aside0.mk (KeepBut.trans (by repeat (first | (with_reducible first | exact HK.out | apply KeepBut.set_ | apply keep_drewN | apply keep_drew | apply keep_alloc) | exact HK.out)) (KeepBut.of_below hb g none) (.inl rfl)); have n3_ := Aside0.mk (below_step (by repeat (first | (with_reducible first | exact HB.out | apply below_alloc | apply pw_below_drewN | apply below_drew1 | refine below_set ?_ (IsS78.ge HI0.out)) | exact HB.out)) hb); clear HI0; clear HK; clear HB; have HO174 := n0_; have HI0 := n1_; have HK := n2_; have HB := n3_; clear n0_ n1_ n2_ n3_; clear hb ho5) | ((with_reducible refine gate_callee (f := 75) rfl ?_); refine goesL_ (some 11) rfl rfl Try.func75 (by kernel_rfl) rfl #[.pointer (some ⟨g, 0, none⟩), .int .i64 4, .int .i64 a1] rfl (by (try simp only [List.map_toArray, List.map_cons, List.map_nil]); first | done | rfl | (simp only [List.length_drop, List.length_take]; rfl)) ?_; (with_reducible refine (spec_l1Rd_size.calls g s0_0 s0_1 4 a1 t175 t176 w0 _ ?side1 ?side2 A3.out).mono ?_); (case side1 => repeat (first | (with_reducible first | exact HI0.out | apply IsS78.alloc | apply IsS78.drewN | apply IsS78.drew | apply IsS78.set_1) | exact HI0.out)); (case side2 => repeat (first | (with_reducible first | exact HB.out | apply below_alloc | apply pw_below_drewN | apply below_drew1 | refine below_set ?_ (IsS78.ge HI0.out)) | exact HB.out)); rintro e w6 ⟨rfl, hi, hb, hk⟩; refine ⟨_, rfl, ?_⟩; have n0_ := Aside0.mk (Kd.R_mono (Kd.R_keep (IsS78.apart (show IsS78 w0 _ g s0_0 s0_1 from by repeat (first | (with_reducible first | exact HI0.out | apply IsS78.alloc | apply IsS78.drewN | apply IsS78.drew | apply IsS78.set_1) | exact HI0.out)) (by (with_reducible repeat (first | apply Kd.R_alloc | apply Kd.R_drewN | apply Kd.R_drew)); exact HO174.out) (by decide)) hk (fun _ h => h.2)) (fun _ h => h.1)); have n1_ := Aside0.mk (KeepBut.trans (by repeat (first | (with_reducible first | exact HK.out | apply KeepBut.set_ | apply keep_drewN | apply keep_drew | apply keep_alloc) | exact HK.out)) hk (.inl rfl)); have n2_ := Aside0.mk (hb); have n3_ := Aside0.mk (hi); clear HO174; clear HK; clear HB; clear HI0; have HO174 := n0_; have HK := n1_; have HB := n2_; have HI0 := n3_; clear n0_ n1_ n2_ n3_; (try clear hb); (try clear hb2); (try clear hk); (try clear hi)))
 go_loopg [5, 7] k (fun kq v5 v7 w' => ∃ (x5_1 : List (S31)) (x7_1 : Int) (x1001_1 : Int), v7 = .int .i64 x7_1 ∧ Aside0 (spec_l1Rd_archive.l0 kq x5_1 t175 x7_1 s0_0 x1001_1 = some (r1, r2)) ∧ Aside0 (kq ≤ k) ∧ Aside0 (Kd.R k31 31 w' w.heap.size (fun _ => True) v5 x5_1) ∧ Aside0 (IsS78 w0 w' g s0_0 x1001_1) ∧ Aside0 (KeepBut w w' g none) ∧ Aside0 (Below w0.heap.size w0 w'))
 case atStart => exact ⟨(y172), (0), (t176), (by first | rfl | (simp; done) | (simp [*]; done)), H', ⟨Nat.le_refl _⟩, ⟨by (with_reducible repeat (first | apply Kd.R_alloc | apply Kd.R_drewN | apply Kd.R_drew)); exact HO174.out⟩, ⟨by repeat (first | (with_reducible first | exact HI0.out | apply IsS78.alloc | apply IsS78.drewN | apply IsS78.drew | apply IsS78.set_1) | exact HI0.out)⟩, ⟨by repeat (first | (with_reducible first | exact HK.out | apply KeepBut.set_ | apply keep_drewN | apply keep_drew | apply keep_alloc) | exact HK.out)⟩, ⟨by repeat (first | (with_reducible first | exact HB.out | apply below_alloc | apply pw_below_drewN | apply below_drew1 | refine below_set ?_ (IsS78.ge HI0.out)) | exact HB.out)⟩⟩
 case round =>
  clear H'
  try clear p2
  try clear c6
  obtain ⟨x5_1, x7_1, x1001_1, rfl, HA, HK1, HO_5, HI0, HK, HB⟩ := hrel
  cases gk with
  | zero => exact absurd HA.out (by simp [spec_l1Rd_archive.l0])
  | succ k1 =>
   have H := HA.out
   clear HA
   simp only [spec_l1Rd_archive.l0] at H
   by_cases c7 : x7_1 < t175
   ·rw [if_pos c7] at H
    have c7b0 : decide (x7_1 < t175) = true := decide_eq_true c7
    clear c7
    replace H := Option.bind_eq_some_iff.mp H
    obtain ⟨⟨t177, t178, t179, t180, t181, t182⟩, A80, H⟩ := H
    replace H : ((spec_Store.f k1 x5_1 t177 t178 t179 t180 t181).bind fun bt183 => (spec_l1Rd_archive.l0 k1 bt183.1 t175 (wrap64 (x7_1 + 1)) s0_0 t182)) = some (r1, r2) := H
    have A8 := Aside0.mk A80
    clear A80
    replace H := Option.bind_eq_some_iff.mp H
    obtain ⟨⟨t183, t186⟩, A90, H⟩ := H
    replace H : (spec_l1Rd_archive.l0 k1 t183 t175 (wrap64 (x7_1 + 1)) s0_0 t182) = some (r1, r2) := H
    have A9 := Aside0.mk A90
    clear A90
    have H' := Aside0.mk H
    clear H
    go_wp2_with (first | ((with_reducible refine gate_callee (f := 80) rfl ?_); refine goesL_ (some 20) rfl rfl Try.func80 (by kernel_rfl) rfl #[.pointer (some ⟨g, 0, none⟩)] rfl (by (try simp only [List.map_toArray, List.map_cons, List.map_nil]); first | done | rfl | (simp only [List.length_drop, List.length_take]; rfl)) ?_; (with_reducible refine (spec_l1Rd_entry.calls g s0_0 x1001_1 t177 t178 t179 t180 t181 t182 w0 _ ?side1 ?side2 A8.out).mono ?_); (case side1 => repeat (first | (with_reducible first | exact HI0.out | apply IsS78.alloc | apply IsS78.drewN | apply IsS78.drew | apply IsS78.set_1) | exact HI0.out)); (case side2 => repeat (first | (with_reducible first | exact HB.out | apply below_alloc | apply pw_below_drewN | apply below_drew1 | refine below_set ?_ (IsS78.ge HI0.out)) | exact HB.out)); rintro e w10 ⟨rfl, hi, hb, hk⟩; refine ⟨_, rfl, ?_⟩; have n0_ := Aside0.mk (Kd.R_mono (Kd.R_keep (IsS78.apart (show IsS78 w0 _ g s0_0 x1001_1 from by repeat (first | (with_reducible first | exact HI0.out | apply IsS78.alloc | apply IsS78.drewN | apply IsS78.drew | apply IsS78.set_1) | exact HI0.out)) (by (with_reducible repeat (first | apply Kd.R_alloc | apply Kd.R_drewN | apply Kd.R_drew)); exact HO_5.out) (by decide)) hk (fun _ h => h.2)) (fun _ h => h.1)); have n1_ := Aside0.mk (KeepBut.trans (by repeat (first | (with_reducible first | exact HK.out | apply KeepBut.set_ | apply keep_drewN | apply keep_drew | apply keep_alloc) | exact HK.out)) hk (.inl rfl)); have n2_ := Aside0.mk (hb); have n3_ := Aside0.mk (hi); clear HO_5; clear HK; clear HB; clear HI0; have HO_5 := n0_; have HK := n1_; have HB := n2_; have HI0 := n3_; clear n0_ n1_ n2_ n3_; (try clear hb); (try clear hb2); (try clear hk); (try clear hi); obtain ⟨Ao11, co11, eo11⟩ := Kd.R_slice HO_5.out; subst eo11) | ((with_reducible refine gate_callee (f := 79) rfl ?_); refine goesL_ (some 21) rfl rfl Try.func79 (by kernel_rfl) rfl #[.slice Ao11 x5_1.length co11, .agg #[.string t177, .int .i64 t178, .int .i64 t179, .int .i64 t180, .int .i64 t181]] rfl (by (try simp only [List.map_toArray, List.map_cons, List.map_nil]); first | done | rfl | (simp only [List.length_drop, List.length_take]; rfl)) ?_; (with_reducible refine (spec_Store.calls k1 _ _ x5_1 t177 t178 t179 t180 t181 t183 t186 _ ?side1 ?side2 A9.out).mono ?_); (case side1 => repeat (first | exact (Kd.R_reads' HO_5.out).2.2 | (with_reducible refine Kd.C_alloc ?_ _) | (with_reducible refine Kd.C_drewN ?_ _) | (with_reducible refine Kd.C_drew ?_))); (case side2 => exact (Kd.R_reads' HO_5.out).2.1); rintro e w12 ⟨v184, rfl, ho0, hb⟩; refine ⟨_, rfl, ?_⟩; have n0_ := Aside0.mk (Kd.R_elder' (by (with_reducible repeat (first | apply Kd.R_alloc | apply Kd.R_drewN | apply Kd.R_drew)); exact HO_5.out) (Kd.R_base ho0) hb); have n1_ := Aside0.mk (Kd.R_lower (Kd.R_new' ho0 (Kd.R_lt (by (with_reducible repeat (first | apply Kd.R_alloc | apply Kd.R_drewN | apply Kd.R_drew)); exact HO_5.out))) (keep_size (w := w) (g := g) (row := none) (by repeat (first | (with_reducible first | exact HK.out | apply KeepBut.set_ | apply keep_drewN | apply keep_drew | apply keep_alloc) | exact HK.out)))); have n2_ := Aside0.mk (IsS78.below (by repeat (first | (with_reducible first | exact HI0.out | apply IsS78.alloc | apply IsS78.drewN | apply IsS78.drew | apply IsS78.set_1) | exact HI0.out)) hb); have n3_ := Aside0.mk (KeepBut.trans (by repeat (first | (with_reducible first | exact HK.out | apply KeepBut.set_ | apply keep_drewN | apply keep_drew | apply keep_alloc) | exact HK.out)) (KeepBut.of_below hb g none) (.inl rfl)); have n4_ := Aside0.mk (below_step (by repeat (first | (with_reducible first | exact HB.out | apply below_alloc | apply pw_below_drewN | apply below_drew1 | refine below_set ?_ (IsS78.ge HI0.out)) | exact HB.out)) hb); clear HO_5; clear HI0; clear HK; clear HB; have HO_5 := n0_; have HO185 := n1_; have HI0 := n2_; have HK := n3_; have HB := n4_; clear n0_ n1_ n2_ n3_ n4_; (try clear hb); (try clear hb2); (try clear hk); (try clear hi); (try clear ho0)))
    go_roundg k1
    case measure => have := HK1.out; omega
    case rel => exact ⟨(t183), (wrap64 (x7_1 + 1)), (t182), (by first | rfl | (simp; done) | (simp [*]; done)), H', ⟨by have := HK1.out; omega⟩, ⟨by (with_reducible repeat (first | apply Kd.R_alloc | apply Kd.R_drewN | apply Kd.R_drew)); exact Kd.R_mono HO185.out (fun _ hk => trivial)⟩, ⟨by repeat (first | (with_reducible first | exact HI0.out | apply IsS78.alloc | apply IsS78.drewN | apply IsS78.drew | apply IsS78.set_1) | exact HI0.out)⟩, ⟨by repeat (first | (with_reducible first | exact HK.out | apply KeepBut.set_ | apply keep_drewN | apply keep_drew | apply keep_alloc) | exact HK.out)⟩, ⟨by repeat (first | (with_reducible first | exact HB.out | apply below_alloc | apply pw_below_drewN | apply below_drew1 | refine below_set ?_ (IsS78.ge HI0.out)) | exact HB.out)⟩⟩
   ·rw [if_neg c7] at H
    have c7b0 : decide (x7_1 < t175) = false := decide_eq_false c7
    clear c7
    simp only [Option.some.injEq, Prod.mk.injEq] at H
    obtain ⟨rfl, rfl⟩ := H
    go_wp2
    go_ret
    exact ⟨_, by first | rfl | (simp [errW_none, errW_some] <;> rfl) | (simp [*, errW_none, errW_some] <;> rfl), by (with_reducible repeat (first | apply Kd.R_alloc | apply Kd.R_drewN | apply Kd.R_drew)); exact HO_5.out, by repeat (first | (with_reducible first | exact HI0.out | apply IsS78.alloc | apply IsS78.drewN | apply IsS78.drew | apply IsS78.set_1) | exact HI0.out), by repeat (first | (with_reducible first | exact HB.out | apply below_alloc | apply pw_below_drewN | apply below_drew1 | refine below_set ?_ (IsS78.ge HI0.out)) | exact HB.out), by repeat (first | (with_reducible first | exact HK.out | apply KeepBut.set_ | apply keep_drewN | apply keep_drew | apply keep_alloc) | exact HK.out)⟩

end Go.Proofs.Yteobnbichpadjab.Q
