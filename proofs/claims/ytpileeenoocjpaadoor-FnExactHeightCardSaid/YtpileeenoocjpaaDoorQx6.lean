/- Plain Lean functions with the same answers as the Go functions of this seat, and a proof for each that the Go code comes to just these answers; no condition. Written by a program of this session (the kit's printer, turned). -/
import Derived.Test.YtpileeenoocjpaaDoorQx0
import Derived.Test.YtpileeenoocjpaaDoorQx3
import Derived.Test.YtpileeenoocjpaaDoorQx4
import Derived.Test.YtpileeenoocjpaaDoorQx5
namespace Go.Proofs.YtpileeenoocjpaaDoor.Q
open Go.RowKit Go.Proofs.YtpileeenoocjpaaDoorW.PrintWords Go.Proofs.YtpileeenoocjpaaDoorW.PrintLast Go.Proofs.YtpileeenoocjpaaDoorW.PrintMore Go.Proofs.YtpileeenoocjpaaDoorW.PrintFlt
attribute [local go_sem] cmp_lss cmp_leq cmp_gtr cmp_geq cmp_eql cmp_neq flt_l flt_r fgt_l fgt_r feq_l feq_r fne_l fne_r ord_lt ord_gt ord_eq ord_ne conv_int foi_fold run_store_flt
attribute [local go_sem] max2_int min2_int max_two min_two max_three min_three max_four min_four   -- for this text's walks alone
set_option linter.unusedVariables false
set_option linter.unusedSimpArgs false

/-! ### impl_Height: function 12 -/
mutual
def impl_Height.j0 : Nat → List (S63) → Int → Bool → List (Nat) → Option (Nat)
 | 0, _, _, _, _ => none
 | k + 1, x0, x1, x15, x950 => if x15 = true then ((impl_nan.f).bind fun t193 => (some t193)) else (impl_Height.l0 k x1 0 x0 (x0.length : Int) 0 x950)
def impl_Height.l0 : Nat → Int → Nat → List (S63) → Int → Int → List (Nat) → Option (Nat)
 | 0, _, _, _, _, _, _ => none
 | k + 1, x1, x5, x17, x18, x19, x950 => if x19 < x18 then (if 0 ≤ x19 then (if x19 < (x17.length : Int) then ((impl_Turn.f (wrap64 (((rd_T63 x17 x19).f0) * x1)) x950).bind fun bt197 => ((impl_MulPair.f ((rd_T63 x17 x19).f1.f0) ((rd_T63 x17 x19).f1.f1) bt197.1 bt197.2).bind fun bt201 => (impl_Height.l0 k x1 (fadd x5 bt201.1) x17 x18 (wrap64 (x19 + 1)) x950))) else (none)) else (none)) else (some x5)
end
def impl_Height.f (k : Nat) (l0 : List (S63)) (a1 : Int) (l2 : List (Nat)) : Option (Nat) := (impl_partsOk.f k l0).bind fun t191 => (if t191 = true then ((impl_hourOk.f a1).bind fun t192 => (impl_Height.j0 k l0 a1 (!t192) l2)) else (impl_Height.j0 k l0 a1 true l2))
theorem impl_Height.mono_l : ∀ k, (∀ y0 y1 y2 y3, LeO (impl_Height.j0 k y0 y1 y2 y3) (impl_Height.j0 (k + 1) y0 y1 y2 y3)) ∧ (∀ y0 y1 y2 y3 y4 y5, LeO (impl_Height.l0 k y0 y1 y2 y3 y4 y5) (impl_Height.l0 (k + 1) y0 y1 y2 y3 y4 y5))
 | 0 => ⟨fun _ _ _ _ r h => by simp [impl_Height.j0] at h, fun _ _ _ _ _ _ r h => by simp [impl_Height.l0] at h⟩
 | k + 1 => by
  obtain ⟨ih0, ih1⟩ := impl_Height.mono_l k
  refine ⟨?_, ?_⟩
  ·intro y0 y1 y2 y3
   unfold impl_Height.j0
   repeat' first
   | (with_reducible exact ih0 _ _ _ _)
   | (with_reducible exact ih1 _ _ _ _ _ _)
   | (with_reducible exact impl_partsOk.mono _ _)
   | (with_reducible exact LeO.refl _)
   | (with_reducible exact LeO.none _)
   | (with_reducible refine LeO.ite ?_ ?_)
   | (with_reducible refine LeO.bind ?_ (fun _ => ?_))
   | exact ih0 _ _ _ _
   | exact ih1 _ _ _ _ _ _
   | exact impl_partsOk.mono _ _
   | exact LeO.none _
   | refine LeO.ite ?_ ?_
   | refine LeO.bind ?_ (fun _ => ?_)
  ·intro y0 y1 y2 y3 y4 y5
   unfold impl_Height.l0
   repeat' first
   | (with_reducible exact ih0 _ _ _ _)
   | (with_reducible exact ih1 _ _ _ _ _ _)
   | (with_reducible exact impl_partsOk.mono _ _)
   | (with_reducible exact LeO.refl _)
   | (with_reducible exact LeO.none _)
   | (with_reducible refine LeO.ite ?_ ?_)
   | (with_reducible refine LeO.bind ?_ (fun _ => ?_))
   | exact ih0 _ _ _ _
   | exact ih1 _ _ _ _ _ _
   | exact impl_partsOk.mono _ _
   | exact LeO.none _
   | refine LeO.ite ?_ ?_
   | refine LeO.bind ?_ (fun _ => ?_)
theorem impl_Height.mono : ∀ a0 a1 a2 k, LeO (impl_Height.f k a0 a1 a2) (impl_Height.f (k + 1) a0 a1 a2) := by
 intro a0 a1 a2 k
 obtain ⟨ih0, ih1⟩ := impl_Height.mono_l k
 unfold impl_Height.f
 repeat' first
   | (with_reducible exact ih0 _ _ _ _)
   | (with_reducible exact ih1 _ _ _ _ _ _)
   | (with_reducible exact impl_partsOk.mono _ _)
   | (with_reducible exact LeO.refl _)
   | (with_reducible exact LeO.none _)
   | (with_reducible refine LeO.ite ?_ ?_)
   | (with_reducible refine LeO.bind ?_ (fun _ => ?_))
   | exact ih0 _ _ _ _
   | exact ih1 _ _ _ _ _ _
   | exact impl_partsOk.mono _ _
   | exact LeO.none _
   | refine LeO.ite ?_ ?_
   | refine LeO.bind ?_ (fun _ => ?_)
def impl_Height.T7 : Bool × List (List Nat × List Nat) := (true, [([], []), ([], []), ([1], [1]), ([], []), ([3], [3]), ([], []), ([4, 5], [4, 5]), ([6], [6]), ([2, 7, 7], [2, 7]), ([8], [8]), ([0, 9], [0, 9]), ([10, 8, 0, 1, 2, 3, 4, 5, 6, 7, 8, 9, 10], [0, 10])])
def impl_Height.B7 : List Nat := [0, 0, 2, 0, 8, 0, 56, 120, 254, 510, 1023, 2047]
theorem impl_Height.tab7 : rtab .any (opsOf Tryd.f12 7) = impl_Height.T7 := by kernel_rfl
theorem impl_Height.bits7 : waitsOk impl_Height.T7.2 impl_Height.B7 = true := by kernel_rfl
set_option maxHeartbeats 8000000 in
set_option maxRecDepth 100000 in
theorem impl_Height.calls (k : Nat) (A0 : Option Addr) (c0 : Nat) (l0 : List (S63)) (a1 : Int) (l2 : List (Nat)) (r : Nat) (w : World) (hr0 : Kd.C k63 w A0 l0.length l0) (hc0 : l0.length ≤ c0) (hr2 : Kd.C Kd.flt w (some ⟨1, 0, none⟩) l2.length l2) (hc2 : l2.length ≤ l2.length) (hn2 : l2.length = 10) (h : impl_Height.f k l0 a1 l2 = some r) :
  Calls Tryd.prog 12 #[.slice A0 l0.length c0, .int .i64 a1] w fun e w' => ∃ q0_ : Nat, e = .returned (.float .f64 (un q0_ r)) ∧ Below w.heap.size w w' := by
 have hu63 := Tryd.underlying63
 have hu42 := Tryd.underlying42
 have HR0 := Aside0.mk hr0
 have HC0 := Aside0.mk hc0
 clear hr0 hc0
 have HR2 := Aside0.mk hr2
 have HC2 := Aside0.mk hc2
 clear hr2 hc2
 have HN2 := Aside0.mk hn2
 clear hn2
 have HB := Aside0.mk (Below.refl w.heap.size w)
 have H : ((impl_partsOk.f k l0).bind fun t191 => (if t191 = true then ((impl_hourOk.f a1).bind fun t192 => (impl_Height.j0 k l0 a1 (!t192) l2)) else (impl_Height.j0 k l0 a1 true l2))) = some r := h
 clear h
 have HC4 := Aside0.mk H
 clear H
 go_enter Tryd.func12, Tryd.ntmps12
 go_upto_region 1 with (fail)
 go_cut [15] (fun v15 wc => ∃ (kq : Nat) (x15_3 : Bool), v15 = .bool x15_3 ∧ Aside0 (impl_Height.j0 kq l0 a1 x15_3 l2 = some r) ∧ Aside0 (kq ≤ k) ∧ Aside0 (Below w.heap.size w wc))
 case first =>
  have H := HC4.out
  clear HC4
  replace H := Option.bind_eq_some_iff.mp H
  obtain ⟨t191, A50, H⟩ := H
  replace H : (if t191 = true then ((impl_hourOk.f a1).bind fun t192 => (impl_Height.j0 k l0 a1 (!t192) l2)) else (impl_Height.j0 k l0 a1 true l2)) = some r := H
  have A5 := Aside0.mk A50
  clear A50
  by_cases c6 : t191 = true
  ·subst c6
   have H1 : ((impl_hourOk.f a1).bind fun t192 => (impl_Height.j0 k l0 a1 (!t192) l2)) = some r := by rw [if_pos rfl] at H; exact H
   clear H
   have H := H1
   clear H1
   replace H := Option.bind_eq_some_iff.mp H
   obtain ⟨t192, A70, H⟩ := H
   replace H : (impl_Height.j0 k l0 a1 (!t192) l2) = some r := H
   have A7 := Aside0.mk A70
   clear A70
   have H' := Aside0.mk H
   clear H
   go_wp2_with (first | ((with_reducible refine gate_callee (f := 47) rfl ?_); refine goesL_ (some 9) rfl rfl Tryd.func47 (by kernel_rfl) rfl #[.slice A0 l0.length c0] rfl (by (try simp only [List.map_toArray, List.map_cons, List.map_nil]); first | done | rfl | (simp only [List.length_drop, List.length_take]; rfl)) ?_; (with_reducible refine (impl_partsOk.calls k _ _ l0 true _ ?side1 ?side2 A5.out).mono ?_); (case side1 => repeat (first | exact (Kd.C_below HR0.out HB.out) | (with_reducible refine Kd.C_alloc ?_ _) | (with_reducible refine Kd.C_drewN ?_ _) | (with_reducible refine Kd.C_drew ?_))); (case side2 => exact HC0.out); rintro e w8 ⟨rfl, hb⟩; refine ⟨_, rfl, ?_⟩; have n0_ := Aside0.mk (below_step (by repeat (first | (with_reducible first | exact HB.out | apply below_alloc | apply pw_below_drewN | apply below_drew1) | exact HB.out)) hb); clear HB; have HB := n0_; clear n0_; (try clear hb); (try clear hb2); (try clear hk); (try clear hi)) | (go_at_call 48; (with_reducible refine (impl_hourOk.calls a1 t192 _ A7.out).mono ?_); rintro e w' ⟨rfl, ⟨nd, rfl⟩⟩))
   go_meet
   case rel => exact ⟨_, (!t192), (by first | rfl | (simp; done) | (simp [*]; done)), H', ⟨by first | omega | exact Nat.le_refl _⟩, ⟨by repeat (first | (with_reducible first | exact HB.out | apply below_alloc | apply pw_below_drewN | apply below_drew1) | exact HB.out)⟩⟩
  ·replace c6 := Bool.eq_false_iff.mpr c6
   subst c6
   have H1 : (impl_Height.j0 k l0 a1 true l2) = some r := by rw [if_neg (show ¬ (false = true) by decide)] at H; exact H
   clear H
   have H := H1
   clear H1
   have H' := Aside0.mk H
   clear H
   go_wp2_with (first | ((with_reducible refine gate_callee (f := 47) rfl ?_); refine goesL_ (some 9) rfl rfl Tryd.func47 (by kernel_rfl) rfl #[.slice A0 l0.length c0] rfl (by (try simp only [List.map_toArray, List.map_cons, List.map_nil]); first | done | rfl | (simp only [List.length_drop, List.length_take]; rfl)) ?_; (with_reducible refine (impl_partsOk.calls k _ _ l0 false _ ?side1 ?side2 A5.out).mono ?_); (case side1 => repeat (first | exact (Kd.C_below HR0.out HB.out) | (with_reducible refine Kd.C_alloc ?_ _) | (with_reducible refine Kd.C_drewN ?_ _) | (with_reducible refine Kd.C_drew ?_))); (case side2 => exact HC0.out); rintro e w9 ⟨rfl, hb⟩; refine ⟨_, rfl, ?_⟩; have n0_ := Aside0.mk (below_step (by repeat (first | (with_reducible first | exact HB.out | apply below_alloc | apply pw_below_drewN | apply below_drew1) | exact HB.out)) hb); clear HB; have HB := n0_; clear n0_; (try clear hb); (try clear hb2); (try clear hk); (try clear hi)))
   go_meet
   case rel => exact ⟨_, (true), (by first | rfl | (simp; done) | (simp [*]; done)), H', ⟨by first | omega | exact Nat.le_refl _⟩, ⟨by repeat (first | (with_reducible first | exact HB.out | apply below_alloc | apply pw_below_drewN | apply below_drew1) | exact HB.out)⟩⟩
 case rest =>
  clear HC4
  try clear c1
  try clear c2
  try clear p2
  try clear c4
  try clear c6
  obtain ⟨kq, x15_3, rfl, HA, HJ3, HB⟩ := hcut
  cases kq with
  | zero => exact absurd HA.out (by simp [impl_Height.j0])
  | succ kj3 =>
   have H := HA.out
   clear HA
   simp only [impl_Height.j0] at H
   by_cases c10 : x15_3 = true
   ·subst c10
    have H1 : ((impl_nan.f).bind fun t193 => (some t193)) = some r := by rw [if_pos rfl] at H; exact H
    clear H
    have H := H1
    clear H1
    replace H := Option.bind_eq_some_iff.mp H
    obtain ⟨t193, A110, H⟩ := H
    replace H : (some t193) = some r := H
    have A11 := Aside0.mk A110
    clear A110
    obtain rfl := Option.some.inj H
    go_wp2_with (first | ((with_reducible refine gate_callee (f := 49) rfl ?_); refine goesL_ (some 16) rfl rfl Tryd.func49 (by kernel_rfl) rfl #[] rfl (by (try simp only [List.map_toArray, List.map_cons, List.map_nil]); first | done | rfl | (simp only [List.length_drop, List.length_take]; rfl)) ?_; (with_reducible refine (impl_nan.calls  t193 _ A11.out).mono ?_); rintro e w' ⟨pr194, rfl, ⟨nd, rfl⟩⟩; refine ⟨_, rfl, ?_⟩))
    go_ret
    first | (exact ⟨pr194, by first | rfl | (simp [errW_none, errW_some] <;> rfl) | (simp [*, errW_none, errW_some] <;> rfl), by repeat (first | (with_reducible first | exact HB.out | apply below_alloc | apply pw_below_drewN | apply below_drew1) | exact HB.out)⟩) | (exact ⟨⟨pr194, by first | rfl | (simp [errW_none, errW_some] <;> rfl) | (simp [*, errW_none, errW_some] <;> rfl)⟩, by repeat (first | (with_reducible first | exact HB.out | apply below_alloc | apply pw_below_drewN | apply below_drew1) | exact HB.out)⟩)
   ·replace c10 := Bool.eq_false_iff.mpr c10
    subst c10
    have H1 : (impl_Height.l0 kj3 a1 0 l0 (l0.length : Int) 0 l2) = some r := by rw [if_neg (show ¬ (false = true) by decide)] at H; exact H
    clear H
    have H := H1
    clear H1
    have H' := Aside0.mk H
    clear H
    go_wp2
    go_loopg [5, 19] kj3 (fun kq v5 v19 w' => ∃ (x5_2 : Nat) (x19_2 : Int) (pg5 : Nat), v5 = .float .f64 (un pg5 x5_2) ∧ v19 = .int .i64 x19_2 ∧ Aside0 (impl_Height.l0 kq a1 x5_2 l0 (l0.length : Int) x19_2 l2 = some r) ∧ Aside0 (kq ≤ kj3) ∧ Aside0 (Below w.heap.size w w'))
    case atStart => exact ⟨(0), (0), (0), (by first | rfl | (simp; done) | (simp [*]; done)), (by first | rfl | (simp; done) | (simp [*]; done)), H', ⟨Nat.le_refl _⟩, ⟨by repeat (first | (with_reducible first | exact HB.out | apply below_alloc | apply pw_below_drewN | apply below_drew1) | exact HB.out)⟩⟩
    case round =>
     clear H'
     try clear c1
     try clear c2
     try clear p2
     try clear c4
     try clear c6
     try clear c10
     try clear p2
     obtain ⟨x5_2, x19_2, pg5, rfl, rfl, HA, HK2, HB⟩ := hrel
     cases gk with
     | zero => exact absurd HA.out (by simp [impl_Height.l0])
     | succ k2 =>
      have H := HA.out
      clear HA
      simp only [impl_Height.l0] at H
      by_cases c12 : x19_2 < (l0.length : Int)
      ·rw [if_pos c12] at H
       have c12b0 : decide (x19_2 < (l0.length : Int)) = true := decide_eq_true c12
       clear c12
       by_cases c13 : 0 ≤ x19_2
       ·rw [if_pos c13] at H
        have c13b0 : decide (0 ≤ x19_2) = true := decide_eq_true c13
        clear c13
        by_cases c14 : x19_2 < (l0.length : Int)
        ·rw [if_pos c14] at H
         have c14b0 : decide (x19_2 < (l0.length : Int)) = true := decide_eq_true c14
         clear c14
         replace H := Option.bind_eq_some_iff.mp H
         obtain ⟨⟨t197, t199⟩, A150, H⟩ := H
         replace H : ((impl_MulPair.f ((rd_T63 l0 x19_2).f1.f0) ((rd_T63 l0 x19_2).f1.f1) t197 t199).bind fun bt201 => (impl_Height.l0 k2 a1 (fadd x5_2 bt201.1) l0 (l0.length : Int) (wrap64 (x19_2 + 1)) l2)) = some r := H
         have A15 := Aside0.mk A150
         clear A150
         replace H := Option.bind_eq_some_iff.mp H
         obtain ⟨⟨t201, t203⟩, A160, H⟩ := H
         replace H : (impl_Height.l0 k2 a1 (fadd x5_2 t201) l0 (l0.length : Int) (wrap64 (x19_2 + 1)) l2) = some r := H
         have A16 := Aside0.mk A160
         clear A160
         have H' := Aside0.mk H
         clear H
         have p195 : 0 ≤ (x19_2 : Int) := of_decide_eq_true (by first | (with_reducible assumption) | assumption)
         have q195 : x19_2 < (l0.length : Int) := of_decide_eq_true (by first | (with_reducible assumption) | assumption)
         obtain ⟨ad195, pf195_1, pf195_2, e195, hx195_0, hx195_1, hx195_2⟩ := at_T63 HR0.out x19_2 p195 q195
         cases e195
         replace hx195_0 := (HB.out.cell (World.block_lt_of_cell? w _ hx195_0)).trans hx195_0
         replace hx195_1 := (HB.out.cell (World.block_lt_of_cell? w _ hx195_1)).trans hx195_1
         replace hx195_2 := (HB.out.cell (World.block_lt_of_cell? w _ hx195_2)).trans hx195_2
         replace p195 := eq_true p195
         replace q195 := eq_true q195
         try go_wp2_with (first | ((with_reducible refine gate_dst (N := 7) rfl ?_); refine box_event ?hg (N := 7) ?hd (cs := #[.int .i64 0, .float .f64 0, .float .f64 0]) (t := 63) ?hr ?_; (case hd => rfl); (case hg => rfl); (case hr => first | (go_simp; done) | (go_simp; rfl)); intro gb196 hg w17 hbox hb; have n0_ := Aside0.mk (below_step (by repeat (first | (with_reducible first | exact HB.out | apply below_alloc | apply pw_below_drewN | apply below_drew1) | exact HB.out)) hb); have n1_ := Aside0.mk (hbox); have n2_ := Aside0.mk ((by rw [hg]; exact (below_size (by repeat (first | (with_reducible first | exact HB.out | apply below_alloc | apply pw_below_drewN | apply below_drew1) | exact HB.out))) : w.heap.size ≤ gb196)); have n3_ := Aside0.mk ((by rw [hg]; exact (below_size (by repeat (first | (with_reducible first | exact HB.out | apply below_alloc | apply pw_below_drewN | apply below_drew1) | exact HB.out))) : w.heap.size ≤ gb196)); clear HB; have HB := n0_; have BK196 := n1_; have GW196 := n2_; have GE196 := n3_; clear n0_ n1_ n2_ n3_; clear hb hbox hg; have hcz18_0 : w17.cell? ⟨gb196, 0, none⟩ = some (.int .i64 0) := (blk_cell BK196.out 0).trans rfl; have hcz18_1 : w17.cell? ⟨gb196, 1, none⟩ = some (.float .f64 0) := (blk_cell BK196.out 1).trans rfl; have hcz18_2 : w17.cell? ⟨gb196, 2, none⟩ = some (.float .f64 0) := (blk_cell BK196.out 2).trans rfl; have hfz18_0 := blk_frozen BK196.out 0; have hfz18_1 := blk_frozen BK196.out 1; have hfz18_2 := blk_frozen BK196.out 2))
         have n0_ : Aside0 ((((w17.setCell ⟨gb196, 0, none⟩ (.int .i64 ((rd_T63 l0 x19_2).f0))).setCell ⟨gb196, 1, none⟩ (.float .f64 (un pf195_1 ((rd_T63 l0 x19_2).f1.f0)))).setCell ⟨gb196, 2, none⟩ (.float .f64 (un pf195_2 ((rd_T63 l0 x19_2).f1.f1)))).heap[gb196]? = some (.cells #[.int .i64 ((rd_T63 l0 x19_2).f0), .float .f64 (un pf195_1 ((rd_T63 l0 x19_2).f1.f0)), .float .f64 (un pf195_2 ((rd_T63 l0 x19_2).f1.f1))] 63 (0, 0))) := ⟨by (with_reducible repeat (first | refine blk_drewN ?_ _ | refine blk_drew ?_ | refine blk_alloc ?_ _)); refine blk_put (cs := #[.int .i64 ((rd_T63 l0 x19_2).f0), .float .f64 (un pf195_1 ((rd_T63 l0 x19_2).f1.f0)), .float .f64 0]) ?_ 2 _ rfl; (with_reducible repeat (first | refine blk_drewN ?_ _ | refine blk_drew ?_ | refine blk_alloc ?_ _)); refine blk_put (cs := #[.int .i64 ((rd_T63 l0 x19_2).f0), .float .f64 0, .float .f64 0]) ?_ 1 _ rfl; (with_reducible repeat (first | refine blk_drewN ?_ _ | refine blk_drew ?_ | refine blk_alloc ?_ _)); refine blk_put (cs := #[.int .i64 0, .float .f64 0, .float .f64 0]) ?_ 0 _ rfl; (with_reducible repeat (first | refine blk_drewN ?_ _ | refine blk_drew ?_ | refine blk_alloc ?_ _)); exact BK196.out⟩
         have n1_ : Aside0 (Below w.heap.size w (((w17.setCell ⟨gb196, 0, none⟩ (.int .i64 ((rd_T63 l0 x19_2).f0))).setCell ⟨gb196, 1, none⟩ (.float .f64 (un pf195_1 ((rd_T63 l0 x19_2).f1.f0)))).setCell ⟨gb196, 2, none⟩ (.float .f64 (un pf195_2 ((rd_T63 l0 x19_2).f1.f1))))) := ⟨by repeat (first | (with_reducible first | exact HB.out | apply below_alloc | apply pw_below_drewN | apply below_drew1 | refine below_set ?_ GE196.out) | exact HB.out)⟩
         (try clear BK196)
         (try clear HB)
         generalize (((w17.setCell ⟨gb196, 0, none⟩ (.int .i64 ((rd_T63 l0 x19_2).f0))).setCell ⟨gb196, 1, none⟩ (.float .f64 (un pf195_1 ((rd_T63 l0 x19_2).f1.f0)))).setCell ⟨gb196, 2, none⟩ (.float .f64 (un pf195_2 ((rd_T63 l0 x19_2).f1.f1)))) = w19 at n0_ n1_ ⊢
         have BK196 := n0_
         have HB := n1_
         clear n0_ n1_
         have n0_ := Aside0.mk (blk_drew BK196.out)
         have n1_ := Aside0.mk (below_drew1 HB.out)
         clear BK196
         clear HB
         have BK196 := n0_
         have HB := n1_
         clear n0_ n1_
         refine start_ (n := 12) (S := fun w' => w'.cell? ⟨gb196, 0, none⟩ = some (.int .i64 ((rd_T63 l0 x19_2).f0)) ∧ w'.cell? ⟨gb196, 1, none⟩ = some (.float .f64 (un pf195_1 ((rd_T63 l0 x19_2).f1.f0))) ∧ w'.cell? ⟨gb196, 2, none⟩ = some (.float .f64 (un pf195_2 ((rd_T63 l0 x19_2).f1.f1)))) (ds := []) #[false, false, false, false, false, false, false, false, false, false, false, false] (by kernel_rfl) rfl rfl ⟨(blk_cell BK196.out 0).trans rfl, (blk_cell BK196.out 1).trans rfl, (blk_cell BK196.out 2).trans rfl⟩ (fun hHeld => ?_); refine with_tabW impl_Height.tab7 impl_Height.bits7 (fun HT_ HW_ => ?_)
         generalize w19.drew = w20 at BK196 HB hHeld ⊢
         refine pure_ (i := 0) (N := some 23) (v := ?_) (a' := ?_) #[true, false, false, false, false, false, false, false, false, false, false, false] rfl rfl (any_of HT_.out (by kernel_rfl)) (fun _ _ _ h => h) (Or.inl ⟨by rfl, ?_⟩) ?_ ?_
         rotate_left
         ·intro w'
          go_simp
          with_reducible rfl
         rotate_left
         ·simp only [Act.put, sqA, sqZ, sqS, i64_w, i32_w]
          rfl
         refine pure_ (i := 1) (N := some 24) (v := ?_) (a' := ?_) #[true, true, false, false, false, false, false, false, false, false, false, false] rfl rfl (any_of HT_.out (by kernel_rfl)) (fun _ _ _ h => h) (Or.inl ⟨by rfl, ?_⟩) ?_ ?_
         rotate_left
         ·intro w'
          go_simp
          with_reducible rfl
         rotate_left
         ·simp only [Act.put, sqA, sqZ, sqS, i64_w, i32_w]
          rfl
         refine pure_ (i := 3) (N := some 26) (v := ?_) (a' := ?_) #[true, true, false, true, false, false, false, false, false, false, false, false] rfl rfl (any_of HT_.out (by kernel_rfl)) (fun _ _ _ h => h) (Or.inl ⟨by rfl, ?_⟩) ?_ ?_
         rotate_left
         ·intro w'
          go_simp
          with_reducible rfl
         rotate_left
         ·simp only [Act.put, sqA, sqZ, sqS, i64_w, i32_w]
          rfl
         refine pure_ (i := 5) (N := some 28) (v := ?_) (a' := ?_) #[true, true, false, true, false, true, false, false, false, false, false, false] rfl rfl (any_of HT_.out (by kernel_rfl)) (fun _ _ _ h => h) (Or.inl ⟨by rfl, ?_⟩) ?_ ?_
         rotate_left
         ·intro w'
          go_simp
          with_reducible rfl
         rotate_left
         ·simp only [Act.put, sqA, sqZ, sqS, i64_w, i32_w]
          rfl
         refine take_ (i := 2) (N := some 25) (v := ?_) (a' := ?_) #[true, true, true, true, false, true, false, false, false, false, false, false] rfl rfl (take_ofW HT_.out HW_.out (by kernel_rfl)) (fun _ _ _ h => h) (Or.inl ⟨by rfl, ?_⟩) hHeld ?_ ?_
         rotate_left
         ·rintro w' ⟨s0, s1, s2⟩
          go_simp
          with_reducible rfl
         rotate_left
         ·simp only [Act.put, sqA, sqZ, sqS, i64_w, i32_w]
          rfl
         refine take_ (i := 4) (N := some 27) (v := ?_) (a' := ?_) #[true, true, true, true, true, true, false, false, false, false, false, false] rfl rfl (take_ofW HT_.out HW_.out (by kernel_rfl)) (fun _ _ _ h => h) (Or.inl ⟨by rfl, ?_⟩) hHeld ?_ ?_
         rotate_left
         ·rintro w' ⟨s0, s1, s2⟩
          go_simp
          with_reducible rfl
         rotate_left
         ·simp only [Act.put, sqA, sqZ, sqS, i64_w, i32_w]
          rfl
         refine pure_ (i := 6) (N := some 29) (v := ?_) (a' := ?_) #[true, true, true, true, true, true, true, false, false, false, false, false] rfl rfl (any_of HT_.out (by kernel_rfl)) (fun _ _ _ h => h) (Or.inl ⟨by rfl, ?_⟩) ?_ ?_
         rotate_left
         ·intro w'
          go_simp
          with_reducible rfl
         rotate_left
         ·simp only [Act.put, sqA, sqZ, sqS, i64_w, i32_w]
          rfl
         refine one_ (i := 7) (N := some 30) #[true, true, true, true, true, true, true, true, false, false, false, false] rfl rfl (one_of HT_.out (by kernel_rfl)) (by decide) (fun K hK => ?_)
         refine goes_ Tryd.func51 (by kernel_rfl) rfl #[.int .i64 (wrap64 (((rd_T63 l0 x19_2).f0) * a1))] (by rfl) rfl rfl (by (try simp only [List.map_toArray, List.map_cons, List.map_nil]); first | done | rfl | (simp only [List.length_drop, List.length_take]; rfl)) ?_
         with_reducible refine (impl_Turn.calls (wrap64 (((rd_T63 l0 x19_2).f0) * a1)) l2 t197 t199 _ ?side1 ?side2 ?side3 A15.out).mono ?_
         (case side1 => repeat (first | exact (Kd.C_below HR2.out HB.out) | (with_reducible refine Kd.C_alloc ?_ _) | (with_reducible refine Kd.C_drewN ?_ _) | (with_reducible refine Kd.C_drew ?_)))
         (case side2 => exact HC2.out)
         (case side3 => exact HN2.out)
         rintro e w21 ⟨pr198, pr200, rfl, hb⟩
         refine ⟨_, rfl, ?_⟩
         have n0_ := Aside0.mk (blk_below (g := gb196) (o := .cells #[.int .i64 ((rd_T63 l0 x19_2).f0), .float .f64 (un pf195_1 ((rd_T63 l0 x19_2).f1.f0)), .float .f64 (un pf195_2 ((rd_T63 l0 x19_2).f1.f1))] 63 (0, 0)) (by (with_reducible repeat (first | refine blk_drewN ?_ _ | refine blk_drew ?_ | refine blk_alloc ?_ _)); exact BK196.out) hb)
         have n1_ := Aside0.mk (below_step (by repeat (first | (with_reducible first | exact HB.out | apply below_alloc | apply pw_below_drewN | apply below_drew1 | refine below_set ?_ GE196.out) | exact HB.out)) hb)
         clear BK196
         clear HB
         have BK196 := n0_
         have HB := n1_
         clear n0_ n1_
         (try clear hb)
         (try clear hb2)
         (try clear hk)
         (try clear hi)
         refine hK.out _ _ ⟨(blk_cell BK196.out 0).trans rfl, (blk_cell BK196.out 1).trans rfl, (blk_cell BK196.out 2).trans rfl⟩ (fun hHeld => ?_)
         clear hK K
         refine norm_ (a' := ?_) ?_ ?_
         rotate_left
         ·show Act.put _ (some 30) _ = _
          simp only [Act.put, sqA, sqZ, sqS, i64_w, i32_w]
          rfl
         refine one_ (i := 8) (N := some 31) #[true, true, true, true, true, true, true, true, true, false, false, false] rfl rfl (one_of HT_.out (by kernel_rfl)) (by decide) (fun K hK => ?_)
         refine goes_ Tryd.func50 (by kernel_rfl) rfl #[.agg #[.float .f64 (un pf195_1 ((rd_T63 l0 x19_2).f1.f0)), .float .f64 (un pf195_2 ((rd_T63 l0 x19_2).f1.f1))], .agg #[.float .f64 (un pr198 t197), .float .f64 (un pr200 t199)]] (by rfl) rfl rfl (by (try simp only [List.map_toArray, List.map_cons, List.map_nil]); first | done | rfl | (simp only [List.length_drop, List.length_take]; rfl)) ?_
         with_reducible refine (impl_MulPair.calls pf195_1 ((rd_T63 l0 x19_2).f1.f0) pf195_2 ((rd_T63 l0 x19_2).f1.f1) pr198 t197 pr200 t199 t201 t203 _ A16.out).mono ?_
         rintro e w22 ⟨pr202, pr204, rfl, hb⟩
         refine ⟨_, rfl, ?_⟩
         have n0_ := Aside0.mk (blk_below (g := gb196) (o := .cells #[.int .i64 ((rd_T63 l0 x19_2).f0), .float .f64 (un pf195_1 ((rd_T63 l0 x19_2).f1.f0)), .float .f64 (un pf195_2 ((rd_T63 l0 x19_2).f1.f1))] 63 (0, 0)) (by (with_reducible repeat (first | refine blk_drewN ?_ _ | refine blk_drew ?_ | refine blk_alloc ?_ _)); exact BK196.out) hb)
         have n1_ := Aside0.mk (below_step (by repeat (first | (with_reducible first | exact HB.out | apply below_alloc | apply pw_below_drewN | apply below_drew1 | refine below_set ?_ GE196.out) | exact HB.out)) hb)
         clear BK196
         clear HB
         have BK196 := n0_
         have HB := n1_
         clear n0_ n1_
         (try clear hb)
         (try clear hb2)
         (try clear hk)
         (try clear hi)
         refine hK.out _ _ ⟨(blk_cell BK196.out 0).trans rfl, (blk_cell BK196.out 1).trans rfl, (blk_cell BK196.out 2).trans rfl⟩ (fun hHeld => ?_)
         clear hK K
         refine norm_ (a' := ?_) ?_ ?_
         rotate_left
         ·show Act.put _ (some 31) _ = _
          simp only [Act.put, sqA, sqZ, sqS, i64_w, i32_w]
          rfl
         refine pure_ (i := 9) (N := some 32) (v := ?_) (a' := ?_) #[true, true, true, true, true, true, true, true, true, true, false, false] rfl rfl (any_of HT_.out (by kernel_rfl)) (fun _ _ _ h => h) (Or.inl ⟨by rfl, ?_⟩) ?_ ?_
         rotate_left
         ·intro w'
          go_simp
          first | with_reducible rfl | rfl
         rotate_left
         ·simp only [Act.put, sqA, sqZ, sqS, i64_w, i32_w]
          rfl
         refine one_ (i := 10) (N := some 33) #[true, true, true, true, true, true, true, true, true, true, true, false] rfl rfl (one_of HT_.out (by kernel_rfl)) (by decide) (fun K hK => ?_)
         refine fop_stepB (by rfl) (N := 33) rfl (op := .add) rfl rfl pg5 x5_2 pr202 t201 rfl rfl ?hA ?hB fadd rfl ?_; (case hA => first | rfl | exact (un_zero _).symm); (case hB => first | rfl | exact (un_zero _).symm)
         intro pb205 w23 hb
         have n0_ := Aside0.mk (blk_below (g := gb196) (o := .cells #[.int .i64 ((rd_T63 l0 x19_2).f0), .float .f64 (un pf195_1 ((rd_T63 l0 x19_2).f1.f0)), .float .f64 (un pf195_2 ((rd_T63 l0 x19_2).f1.f1))] 63 (0, 0)) (by (with_reducible repeat (first | refine blk_drewN ?_ _ | refine blk_drew ?_ | refine blk_alloc ?_ _)); exact BK196.out) hb)
         have n1_ := Aside0.mk (below_step (by repeat (first | (with_reducible first | exact HB.out | apply below_alloc | apply pw_below_drewN | apply below_drew1 | refine below_set ?_ GE196.out) | exact HB.out)) hb)
         clear BK196
         clear HB
         have BK196 := n0_
         have HB := n1_
         clear n0_ n1_
         (try clear hb)
         refine hK.out _ _ ⟨(blk_cell BK196.out 0).trans rfl, (blk_cell BK196.out 1).trans rfl, (blk_cell BK196.out 2).trans rfl⟩ (fun hHeld => ?_)
         clear hK K
         refine norm_ (a' := ?_) ?_ ?_
         rotate_left
         ·show Act.put _ (some 33) _ = _
          simp only [Act.put, sqA, sqZ, sqS, i64_w, i32_w]
          rfl
         refine pure_ (i := 11) (N := some 5) (v := ?_) (a' := ?_) #[true, true, true, true, true, true, true, true, true, true, true, true] rfl rfl (any_of HT_.out (by kernel_rfl)) (fun _ _ _ h => h) (Or.inl ⟨by rfl, ?_⟩) ?_ ?_
         rotate_left
         ·intro w'
          go_simp
          with_reducible rfl
         rotate_left
         ·simp only [Act.put, sqA, sqZ, sqS, i64_w, i32_w]
          rfl
         refine done_ (done_of HT_.out (by kernel_rfl)) ?_
         try go_wp2
         go_roundg k2
         case measure => have := HJ3.out; have := HK2.out; omega
         case rel => exact ⟨(fadd x5_2 t201), (wrap64 (x19_2 + 1)), (pb205), (by first | rfl | (simp; done) | (simp [*]; done)), (by first | rfl | (simp; done) | (simp [*]; done)), H', ⟨by have := HJ3.out; have := HK2.out; omega⟩, ⟨by repeat (first | (with_reducible first | exact HB.out | apply below_alloc | apply pw_below_drewN | apply below_drew1 | refine below_set ?_ GE196.out) | exact HB.out)⟩⟩
        ·rw [if_neg c14] at H
         exact absurd H (by simp)
       ·rw [if_neg c13] at H
        exact absurd H (by simp)
      ·rw [if_neg c12] at H
       have c12b0 : decide (x19_2 < (l0.length : Int)) = false := decide_eq_false c12
       clear c12
       obtain rfl := Option.some.inj H
       go_wp2
       go_ret
       first | (exact ⟨pg5, by first | rfl | (simp [errW_none, errW_some] <;> rfl) | (simp [*, errW_none, errW_some] <;> rfl), by repeat (first | (with_reducible first | exact HB.out | apply below_alloc | apply pw_below_drewN | apply below_drew1) | exact HB.out)⟩) | (exact ⟨⟨pg5, by first | rfl | (simp [errW_none, errW_some] <;> rfl) | (simp [*, errW_none, errW_some] <;> rfl)⟩, by repeat (first | (with_reducible first | exact HB.out | apply below_alloc | apply pw_below_drewN | apply below_drew1) | exact HB.out)⟩)

end Go.Proofs.YtpileeenoocjpaaDoor.Q
