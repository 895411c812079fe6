/- Plain Lean functions with the same answers as the Go functions of this seat, and a proof for each that the Go code comes to just these answers; no condition. Written by a program of this session (the kit's printer, turned). -/
import Derived.Test.YteobnbichpadjabQx0
import Derived.Test.YteobnbichpadjabQx18
import Derived.Test.YteobnbichpadjabQx21
import Derived.Test.YteobnbichpadjabQx24
namespace Go.Proofs.Yteobnbichpadjab.Q
open Go.RowKit Go.Proofs.YteobnbichpadjabW.PrintWords Go.Proofs.YteobnbichpadjabW.PrintLast Go.Proofs.YteobnbichpadjabW.PrintMore Go.Proofs.YteobnbichpadjabW.PrintFlt
attribute [local go_sem] cmp_lss cmp_leq cmp_gtr cmp_geq cmp_eql cmp_neq flt_l flt_r fgt_l fgt_r feq_l feq_r fne_l fne_r ord_lt ord_gt ord_eq ord_ne conv_int foi_fold run_store_flt
attribute [local go_sem] max2_int min2_int max_two min_two max_three min_three max_four min_four   -- for this text's walks alone
set_option linter.unusedVariables false
set_option linter.unusedSimpArgs false

/-! ### impl_Deal: function 12 -/
mutual
def impl_Deal.j0 : Nat → List (S31) → Int → Bool → Int → Option (List Int × Bool)
 | 0, _, _, _, _ => none
 | k + 1, x0, x2, x27, x278000 => if x27 = true then (some (([] : List Int), false)) else (impl_Deal.l0 k x0 x2 x0 (x0.length : Int) 0 x278000)
def impl_Deal.l0 : Nat → List (S31) → Int → List (S31) → Int → Int → Int → Option (List Int × Bool)
 | 0, _, _, _, _, _, _ => none
 | k + 1, x0, x2, x28, x29, x30, x278000 => if x30 < x29 then (if 0 ≤ x30 then (if x30 < (x28.length : Int) then ((impl_entryOk.f k ((rd_T31 x28 x30).f0) ((rd_T31 x28 x30).f1) ((rd_T31 x28 x30).f2) ((rd_T31 x28 x30).f3) ((rd_T31 x28 x30).f4)).bind fun t282 => (if t282 = true then (impl_Deal.l0 k x0 x2 x28 x29 (wrap64 (x30 + 1)) x278000) else (some (([] : List Int), false)))) else (none)) else (none)) else (if 0 ≤ x2 then (if (x2 : Int).toNat ≤ 35184372088832 then (impl_Deal.l1 k (List.replicate (x2 : Int).toNat 0) (([] : List Int)) x0 (x0.length : Int) 0 x278000) else (none)) else (none))
def impl_Deal.l1 : Nat → List Int → List Int → List (S31) → Int → Int → Int → Option (List Int × Bool)
 | 0, _, _, _, _, _, _ => none
 | k + 1, x10, x11, x41, x42, x43, x278000 => if x43 < x42 then (if 0 ≤ x43 then (if x43 < (x41.length : Int) then ((slices_IndexFunc_int64_int64_impl_Deal_1.f k x10 [(⟨(rd_T31 x41 x43).f0, (rd_T31 x41 x43).f1, (rd_T31 x41 x43).f2, (rd_T31 x41 x43).f3, (rd_T31 x41 x43).f4⟩ : S31)] [x278000]).bind fun t291 => (if t291 ≥ 0 then (if 0 ≤ t291 then (if t291 < (x10.length : Int) then (if x11.length < 17592186044416 then (impl_Deal.l1 k (x10.set (t291 : Int).toNat (wrap64 ((rd x10 t291) + ((rd_T31 x41 x43).f4)))) (x11 ++ [t291]) x41 x42 (wrap64 (x43 + 1)) x278000) else (none)) else (none)) else (none)) else (if x11.length < 17592186044416 then (impl_Deal.l1 k x10 (x11 ++ [t291]) x41 x42 (wrap64 (x43 + 1)) x278000) else (none)))) else (none)) else (none)) else (some (x11, true))
end
def impl_Deal.f (k : Nat) (l0 : List (S31)) (a1 : Int) (a2 : Int) : Option (List Int × Bool) := if (l0.length : Int) > 300 then (impl_Deal.j0 k l0 a2 true a1) else ((impl_in.f a1 0 1000000000000).bind fun t278 => (if t278 = true then ((impl_in.f a2 1 100).bind fun t279 => (impl_Deal.j0 k l0 a2 (!t279) a1)) else (impl_Deal.j0 k l0 a2 true a1)))
theorem impl_Deal.mono_l : ∀ k, (∀ y0 y1 y2 y3, LeO (impl_Deal.j0 k y0 y1 y2 y3) (impl_Deal.j0 (k + 1) y0 y1 y2 y3)) ∧ (∀ y0 y1 y2 y3 y4 y5, LeO (impl_Deal.l0 k y0 y1 y2 y3 y4 y5) (impl_Deal.l0 (k + 1) y0 y1 y2 y3 y4 y5)) ∧ (∀ y0 y1 y2 y3 y4 y5, LeO (impl_Deal.l1 k y0 y1 y2 y3 y4 y5) (impl_Deal.l1 (k + 1) y0 y1 y2 y3 y4 y5))
 | 0 => ⟨fun _ _ _ _ r h => by simp [impl_Deal.j0] at h, fun _ _ _ _ _ _ r h => by simp [impl_Deal.l0] at h, fun _ _ _ _ _ _ r h => by simp [impl_Deal.l1] at h⟩
 | k + 1 => by
  obtain ⟨ih0, ih1, ih2⟩ := impl_Deal.mono_l k
  refine ⟨?_, ?_, ?_⟩
  ·intro y0 y1 y2 y3
   unfold impl_Deal.j0
   repeat' first
   | (with_reducible exact ih0 _ _ _ _)
   | (with_reducible exact ih1 _ _ _ _ _ _)
   | (with_reducible exact ih2 _ _ _ _ _ _)
   | (with_reducible exact impl_entryOk.mono _ _ _ _ _ _)
   | (with_reducible exact slices_IndexFunc_int64_int64_impl_Deal_1.mono _ _ _ _)
   | (with_reducible exact LeO.refl _)
   | (with_reducible exact LeO.none _)
   | (with_reducible refine LeO.ite ?_ ?_)
   | (with_reducible refine LeO.bind ?_ (fun _ => ?_))
   | exact ih0 _ _ _ _
   | exact ih1 _ _ _ _ _ _
   | exact ih2 _ _ _ _ _ _
   | exact impl_entryOk.mono _ _ _ _ _ _
   | exact slices_IndexFunc_int64_int64_impl_Deal_1.mono _ _ _ _
   | exact LeO.none _
   | refine LeO.ite ?_ ?_
   | refine LeO.bind ?_ (fun _ => ?_)
  ·intro y0 y1 y2 y3 y4 y5
   unfold impl_Deal.l0
   repeat' first
   | (with_reducible exact ih0 _ _ _ _)
   | (with_reducible exact ih1 _ _ _ _ _ _)
   | (with_reducible exact ih2 _ _ _ _ _ _)
   | (with_reducible exact impl_entryOk.mono _ _ _ _ _ _)
   | (with_reducible exact slices_IndexFunc_int64_int64_impl_Deal_1.mono _ _ _ _)
   | (with_reducible exact LeO.refl _)
   | (with_reducible exact LeO.none _)
   | (with_reducible refine LeO.ite ?_ ?_)
   | (with_reducible refine LeO.bind ?_ (fun _ => ?_))
   | exact ih0 _ _ _ _
   | exact ih1 _ _ _ _ _ _
   | exact ih2 _ _ _ _ _ _
   | exact impl_entryOk.mono _ _ _ _ _ _
   | exact slices_IndexFunc_int64_int64_impl_Deal_1.mono _ _ _ _
   | exact LeO.none _
   | refine LeO.ite ?_ ?_
   | refine LeO.bind ?_ (fun _ => ?_)
  ·intro y0 y1 y2 y3 y4 y5
   unfold impl_Deal.l1
   repeat' first
   | (with_reducible exact ih0 _ _ _ _)
   | (with_reducible exact ih1 _ _ _ _ _ _)
   | (with_reducible exact ih2 _ _ _ _ _ _)
   | (with_reducible exact impl_entryOk.mono _ _ _ _ _ _)
   | (with_reducible exact slices_IndexFunc_int64_int64_impl_Deal_1.mono _ _ _ _)
   | (with_reducible exact LeO.refl _)
   | (with_reducible exact LeO.none _)
   | (with_reducible refine LeO.ite ?_ ?_)
   | (with_reducible refine LeO.bind ?_ (fun _ => ?_))
   | exact ih0 _ _ _ _
   | exact ih1 _ _ _ _ _ _
   | exact ih2 _ _ _ _ _ _
   | exact impl_entryOk.mono _ _ _ _ _ _
   | exact slices_IndexFunc_int64_int64_impl_Deal_1.mono _ _ _ _
   | exact LeO.none _
   | refine LeO.ite ?_ ?_
   | refine LeO.bind ?_ (fun _ => ?_)
theorem impl_Deal.mono : ∀ a0 a1 a2 k, LeO (impl_Deal.f k a0 a1 a2) (impl_Deal.f (k + 1) a0 a1 a2) := by
 intro a0 a1 a2 k
 obtain ⟨ih0, ih1, ih2⟩ := impl_Deal.mono_l k
 unfold impl_Deal.f
 repeat' first
   | (with_reducible exact ih0 _ _ _ _)
   | (with_reducible exact ih1 _ _ _ _ _ _)
   | (with_reducible exact ih2 _ _ _ _ _ _)
   | (with_reducible exact impl_entryOk.mono _ _ _ _ _ _)
   | (with_reducible exact slices_IndexFunc_int64_int64_impl_Deal_1.mono _ _ _ _)
   | (with_reducible exact LeO.refl _)
   | (with_reducible exact LeO.none _)
   | (with_reducible refine LeO.ite ?_ ?_)
   | (with_reducible refine LeO.bind ?_ (fun _ => ?_))
   | exact ih0 _ _ _ _
   | exact ih1 _ _ _ _ _ _
   | exact ih2 _ _ _ _ _ _
   | exact impl_entryOk.mono _ _ _ _ _ _
   | exact slices_IndexFunc_int64_int64_impl_Deal_1.mono _ _ _ _
   | exact LeO.none _
   | refine LeO.ite ?_ ?_
   | refine LeO.bind ?_ (fun _ => ?_)
def impl_Deal.T16 : Bool × List (List Nat × List Nat) := (true, [([], []), ([], []), ([0, 1], [0, 1]), ([2], [2]), ([], []), ([4], [4]), ([3, 5], [3, 5]), ([0, 1, 0, 1, 2, 3, 4, 5, 6], [0, 1]), ([7, 6, 0, 1, 2, 3, 4, 5, 6], [6, 7])])
def impl_Deal.B16 : List Nat := [0, 0, 3, 7, 0, 16, 63, 127, 255]
theorem impl_Deal.tab16 : rtab .any (opsOf Try.f12 16) = impl_Deal.T16 := by kernel_rfl
theorem impl_Deal.bits16 : waitsOk impl_Deal.T16.2 impl_Deal.B16 = true := by kernel_rfl
set_option maxHeartbeats 8000000 in
set_option maxRecDepth 100000 in
theorem impl_Deal.calls (k : Nat) (A0 : Option Addr) (c0 : Nat) (l0 : List (S31)) (a1 : Int) (a2 : Int) (r1 : List Int) (r2 : Bool) (w : World) (hr0 : Kd.C k31 w A0 l0.length l0) (hc0 : l0.length ≤ c0) (h : impl_Deal.f k l0 a1 a2 = some (r1, r2)) :
  Calls Try.prog 12 #[.slice A0 l0.length c0, .int .i64 a1, .int .i64 a2] w fun e w' => ∃ v0_ : Value, e = .returned (.tuple #[v0_, .bool r2]) ∧ Kd.R (Kd.int .i64) 2 w' w.heap.size (fun _ => True) v0_ r1 ∧ Below w.heap.size w w' := by
 have hu31 := Try.underlying31
 have HR0 := Aside0.mk hr0
 have HC0 := Aside0.mk hc0
 clear hr0 hc0
 have HB := Aside0.mk (Below.refl w.heap.size w)
 have H : (if (l0.length : Int) > 300 then (impl_Deal.j0 k l0 a2 true a1) else ((impl_in.f a1 0 1000000000000).bind fun t278 => (if t278 = true then ((impl_in.f a2 1 100).bind fun t279 => (impl_Deal.j0 k l0 a2 (!t279) a1)) else (impl_Deal.j0 k l0 a2 true a1)))) = some (r1, r2) := h
 clear h
 have HC4 := Aside0.mk H
 clear H
 go_enter Try.func12, Try.ntmps12
 go_upto_region 1 with (first | ((with_reducible refine gate_dst (N := 4) rfl ?_); refine box_event ?hg (N := 4) ?hd (cs := #[.int .i64 a1]) (t := 2) ?hr ?_; (case hd => rfl); (case hg => rfl); (case hr => first | (go_simp; done) | (go_simp; rfl)); intro gb277 hg w5 hbox hb; have n0_ := Aside0.mk (below_step (by repeat (first | (with_reducible first | exact HB.out | apply below_alloc | apply pw_below_drewN | apply below_drew1) | exact HB.out)) hb); have n1_ := Aside0.mk (hbox); have n2_ := Aside0.mk ((by rw [hg]; exact (below_size (by repeat (first | (with_reducible first | exact HB.out | apply below_alloc | apply pw_below_drewN | apply below_drew1) | exact HB.out))) : w.heap.size ≤ gb277)); have n3_ := Aside0.mk ((by rw [hg]; exact (below_size (by repeat (first | (with_reducible first | exact HB.out | apply below_alloc | apply pw_below_drewN | apply below_drew1) | exact HB.out))) : w.heap.size ≤ gb277)); clear HB; have HB := n0_; have BK277 := n1_; have GW277 := n2_; have GE277 := n3_; clear n0_ n1_ n2_ n3_; clear hb hbox hg))
 (try simp only [Act.put, sqA, sqZ, sqS])
 go_cut [27] (fun v27 wc => ∃ (kq : Nat) (x27_3 : Bool), v27 = .bool x27_3 ∧ Aside0 (impl_Deal.j0 kq l0 a2 x27_3 a1 = some (r1, r2)) ∧ Aside0 (kq ≤ k) ∧ Aside0 (wc.heap[gb277]? = some (.cells #[.int .i64 a1] 2 (0, 0))) ∧ Aside0 (Below w.heap.size w wc))
 case first =>
  have H := HC4.out
  clear HC4
  by_cases c6 : (l0.length : Int) > 300
  ·rw [if_pos c6] at H
   have c6b0 : decide (300 < (l0.length : Int)) = true := decide_eq_true c6
   have c6b1 : decide (300 < l0.length) = true := decide_eq_true (by omega)
   clear c6
   (first | rw [c6b0] | (simp only [i64_w, i32_w]; rw [c6b0]) | skip)
   have H' := Aside0.mk H
   clear H
   go_wp2
   go_meet
   case rel => exact ⟨_, (true), (by first | rfl | (simp; done) | (simp [*]; done)), H', ⟨by first | omega | exact Nat.le_refl _⟩, ⟨by (with_reducible repeat (first | refine blk_drewN ?_ _ | refine blk_drew ?_ | refine blk_alloc ?_ _)); exact BK277.out⟩, ⟨by repeat (first | (with_reducible first | exact HB.out | apply below_alloc | apply pw_below_drewN | apply below_drew1 | refine below_set ?_ GE277.out) | exact HB.out)⟩⟩
  ·rw [if_neg c6] at H
   have c6b0 : decide (300 < (l0.length : Int)) = false := decide_eq_false c6
   have c6b1 : decide (300 < l0.length) = false := decide_eq_false (by omega)
   clear c6
   (first | rw [c6b0] | (simp only [i64_w, i32_w]; rw [c6b0]) | skip)
   replace H := Option.bind_eq_some_iff.mp H
   obtain ⟨t278, A70, H⟩ := H
   replace H : (if t278 = true then ((impl_in.f a2 1 100).bind fun t279 => (impl_Deal.j0 k l0 a2 (!t279) a1)) else (impl_Deal.j0 k l0 a2 true a1)) = some (r1, r2) := H
   have A7 := Aside0.mk A70
   clear A70
   by_cases c8 : t278 = true
   ·subst c8
    have H1 : ((impl_in.f a2 1 100).bind fun t279 => (impl_Deal.j0 k l0 a2 (!t279) a1)) = some (r1, r2) := by rw [if_pos rfl] at H; exact H
    clear H
    have H := H1
    clear H1
    replace H := Option.bind_eq_some_iff.mp H
    obtain ⟨t279, A90, H⟩ := H
    replace H : (impl_Deal.j0 k l0 a2 (!t279) a1) = some (r1, r2) := H
    have A9 := Aside0.mk A90
    clear A90
    have H' := Aside0.mk H
    clear H
    have hcz10_0 : w5.cell? ⟨gb277, 0, none⟩ = some (.int .i64 a1) := (blk_cell BK277.out 0).trans rfl
    have hfz10_0 := blk_frozen BK277.out 0
    go_wp2_with (first | (go_at_call 42; (with_reducible refine (impl_in.calls a1 0 1000000000000 true _ A7.out).mono ?_); rintro e w' ⟨rfl, ⟨nd, rfl⟩⟩) | (go_at_call 42; (with_reducible refine (impl_in.calls a2 1 100 t279 _ A9.out).mono ?_); rintro e w' ⟨rfl, ⟨nd, rfl⟩⟩))
    go_meet
    case rel => exact ⟨_, (!t279), (by first | rfl | (simp; done) | (simp [*]; done)), H', ⟨by first | omega | exact Nat.le_refl _⟩, ⟨by (with_reducible repeat (first | refine blk_drewN ?_ _ | refine blk_drew ?_ | refine blk_alloc ?_ _)); exact BK277.out⟩, ⟨by repeat (first | (with_reducible first | exact HB.out | apply below_alloc | apply pw_below_drewN | apply below_drew1 | refine below_set ?_ GE277.out) | exact HB.out)⟩⟩
   ·replace c8 := Bool.eq_false_iff.mpr c8
    subst c8
    have H1 : (impl_Deal.j0 k l0 a2 true a1) = some (r1, r2) := by rw [if_neg (show ¬ (false = true) by decide)] at H; exact H
    clear H
    have H := H1
    clear H1
    have H' := Aside0.mk H
    clear H
    have hcz11_0 : w5.cell? ⟨gb277, 0, none⟩ = some (.int .i64 a1) := (blk_cell BK277.out 0).trans rfl
    have hfz11_0 := blk_frozen BK277.out 0
    go_wp2_with (first | (go_at_call 42; (with_reducible refine (impl_in.calls a1 0 1000000000000 false _ A7.out).mono ?_); rintro e w' ⟨rfl, ⟨nd, rfl⟩⟩))
    go_meet
    case rel => exact ⟨_, (true), (by first | rfl | (simp; done) | (simp [*]; done)), H', ⟨by first | omega | exact Nat.le_refl _⟩, ⟨by (with_reducible repeat (first | refine blk_drewN ?_ _ | refine blk_drew ?_ | refine blk_alloc ?_ _)); exact BK277.out⟩, ⟨by repeat (first | (with_reducible first | exact HB.out | apply below_alloc | apply pw_below_drewN | apply below_drew1 | refine below_set ?_ GE277.out) | exact HB.out)⟩⟩
 case rest =>
  clear HC4
  try clear c1
  try clear p2
  try clear c6
  try clear c6b0
  try clear c6b1
  try clear c8
  try clear hcz10_0
  try clear hcz11_0
  try clear hfz10_0
  try clear hfz11_0
  obtain ⟨kq, x27_3, rfl, HA, HJ3, BK277, HB⟩ := hcut
  cases kq with
  | zero => exact absurd HA.out (by simp [impl_Deal.j0])
  | succ kj3 =>
   have H := HA.out
   clear HA
   simp only [impl_Deal.j0] at H
   by_cases c12 : x27_3 = true
   ·subst c12
    have H1 : (some (([] : List Int), false)) = some (r1, r2) := by rw [if_pos rfl] at H; exact H
    clear H
    have H := H1
    clear H1
    simp only [Option.some.injEq, Prod.mk.injEq] at H
    obtain ⟨rfl, rfl⟩ := H
    go_wp2
    go_ret2
    exact ⟨_, by first | rfl | (simp [errW_none, errW_some] <;> rfl) | (simp [*, errW_none, errW_some] <;> rfl), by first | exact Kd.R_nil _ _ _ _ _ | exact Kd.N_nil _ _ _ _ _ | exact Kd.V_nil _ _ _ _ _ | exact Kd.Q_nil _ _ _ _ _ | exact Kd.S_nil _ _ _ _ _, by repeat (first | (with_reducible first | exact HB.out | apply below_alloc | apply pw_below_drewN | apply below_drew1 | refine below_set ?_ GE277.out) | exact HB.out)⟩
   ·replace c12 := Bool.eq_false_iff.mpr c12
    subst c12
    have H1 : (impl_Deal.l0 kj3 l0 a2 l0 (l0.length : Int) 0 a1) = some (r1, r2) := by rw [if_neg (show ¬ (false = true) by decide)] at H; exact H
    clear H
    have H := H1
    clear H1
    have H' := Aside0.mk H
    clear H
    go_wp2
    go_loopg [30] kj3 (fun kq v30 w' => ∃ (x30_2 : Int), v30 = .int .i64 x30_2 ∧ Aside0 (impl_Deal.l0 kq l0 a2 l0 (l0.length : Int) x30_2 a1 = some (r1, r2)) ∧ Aside0 (kq ≤ kj3) ∧ Aside0 (w'.heap[gb277]? = some (.cells #[.int .i64 a1] 2 (0, 0))) ∧ Aside0 (Below w.heap.size w w'))
    case atStart => exact ⟨(0), (by first | rfl | (simp; done) | (simp [*]; done)), H', ⟨Nat.le_refl _⟩, ⟨by (with_reducible repeat (first | refine blk_drewN ?_ _ | refine blk_drew ?_ | refine blk_alloc ?_ _)); exact BK277.out⟩, ⟨by repeat (first | (with_reducible first | exact HB.out | apply below_alloc | apply pw_below_drewN | apply below_drew1 | refine below_set ?_ GE277.out) | exact HB.out)⟩⟩
    case round =>
     clear H'
     try clear c1
     try clear p2
     try clear c6
     try clear c6b0
     try clear c6b1
     try clear c8
     try clear c12
     try clear hcz10_0
     try clear hcz11_0
     try clear hfz10_0
     try clear hfz11_0
     try clear p2
     obtain ⟨x30_2, rfl, HA, HK2, BK277, HB⟩ := hrel
     cases gk with
     | zero => exact absurd HA.out (by simp [impl_Deal.l0])
     | succ k2 =>
      have H := HA.out
      clear HA
      simp only [impl_Deal.l0] at H
      by_cases c13 : x30_2 < (l0.length : Int)
      ·rw [if_pos c13] at H
       have c13b0 : decide (x30_2 < (l0.length : Int)) = true := decide_eq_true c13
       clear c13
       by_cases c14 : 0 ≤ x30_2
       ·rw [if_pos c14] at H
        have c14b0 : decide (0 ≤ x30_2) = true := decide_eq_true c14
        clear c14
        by_cases c15 : x30_2 < (l0.length : Int)
        ·rw [if_pos c15] at H
         have c15b0 : decide (x30_2 < (l0.length : Int)) = true := decide_eq_true c15
         clear c15
         replace H := Option.bind_eq_some_iff.mp H
         obtain ⟨t282, A160, H⟩ := H
         replace H : (if t282 = true then (impl_Deal.l0 k2 l0 a2 l0 (l0.length : Int) (wrap64 (x30_2 + 1)) a1) else (some (([] : List Int), false))) = some (r1, r2) := H
         have A16 := Aside0.mk A160
         clear A160
         by_cases c17 : t282 = true
         ·subst c17
          have H1 : (impl_Deal.l0 k2 l0 a2 l0 (l0.length : Int) (wrap64 (x30_2 + 1)) a1) = some (r1, r2) := by rw [if_pos rfl] at H; exact H
          clear H
          have H := H1
          clear H1
          have H' := Aside0.mk H
          clear H
          have p280 : 0 ≤ (x30_2 : Int) := of_decide_eq_true (by first | (with_reducible assumption) | assumption)
          have q280 : x30_2 < (l0.length : Int) := of_decide_eq_true (by first | (with_reducible assumption) | assumption)
          obtain ⟨ad280, e280, hx280_0, hx280_1, hx280_2, hx280_3, hx280_4⟩ := at_T31 HR0.out x30_2 p280 q280
          cases e280
          replace hx280_0 := (HB.out.cell (World.block_lt_of_cell? w _ hx280_0)).trans hx280_0
          replace hx280_1 := (HB.out.cell (World.block_lt_of_cell? w _ hx280_1)).trans hx280_1
          replace hx280_2 := (HB.out.cell (World.block_lt_of_cell? w _ hx280_2)).trans hx280_2
          replace hx280_3 := (HB.out.cell (World.block_lt_of_cell? w _ hx280_3)).trans hx280_3
          replace hx280_4 := (HB.out.cell (World.block_lt_of_cell? w _ hx280_4)).trans hx280_4
          replace p280 := eq_true p280
          replace q280 := eq_true q280
          go_wp2_with (first | ((with_reducible refine gate_dst (N := 9) rfl ?_); refine box_event ?hg (N := 9) ?hd (cs := #[.string (⟨#[]⟩ : ByteArray), .int .i64 0, .int .i64 0, .int .i64 0, .int .i64 0]) (t := 31) ?hr ?_; (case hd => rfl); (case hg => rfl); (case hr => first | (go_simp; done) | (go_simp; rfl)); intro gb281 hg w18 hbox hb; have n0_ := Aside0.mk (blk_below (g := gb277) (o := .cells #[.int .i64 a1] 2 (0, 0)) (by (with_reducible repeat (first | refine blk_drewN ?_ _ | refine blk_drew ?_ | refine blk_alloc ?_ _)); exact BK277.out) hb); have n1_ := Aside0.mk (below_step (by repeat (first | (with_reducible first | exact HB.out | apply below_alloc | apply pw_below_drewN | apply below_drew1 | refine below_set ?_ GE277.out) | exact HB.out)) hb); have n2_ := Aside0.mk (hbox); have n3_ := Aside0.mk ((by rw [hg]; exact (below_size (by repeat (first | (with_reducible first | exact HB.out | apply below_alloc | apply pw_below_drewN | apply below_drew1 | refine below_set ?_ GE277.out) | exact HB.out))) : w.heap.size ≤ gb281)); have n4_ := Aside0.mk ((by rw [hg]; exact (below_size (by repeat (first | (with_reducible first | exact HB.out | apply below_alloc | apply pw_below_drewN | apply below_drew1 | refine below_set ?_ GE277.out) | exact HB.out))) : w.heap.size ≤ gb281)); have n5_ := Aside0.mk ((by rw [hg]; exact Nat.ne_of_lt (blk_lt (g := gb277) (o := .cells #[.int .i64 a1] 2 (0, 0)) (by (with_reducible repeat (first | refine blk_drewN ?_ _ | refine blk_drew ?_ | refine blk_alloc ?_ _)); exact BK277.out)) : gb277 ≠ gb281)); have n6_ := Aside0.mk ((by rw [hg]; exact Nat.ne_of_gt (blk_lt (g := gb277) (o := .cells #[.int .i64 a1] 2 (0, 0)) (by (with_reducible repeat (first | refine blk_drewN ?_ _ | refine blk_drew ?_ | refine blk_alloc ?_ _)); exact BK277.out)) : gb281 ≠ gb277)); clear BK277; clear HB; have BK277 := n0_; have HB := n1_; have BK281 := n2_; have GW281 := n3_; have GE281 := n4_; have NB277_281 := n5_; have NB281_277 := n6_; clear n0_ n1_ n2_ n3_ n4_ n5_ n6_; clear hb hbox hg; have hnb19 := NB281_277.out; have hnc19 := NB277_281.out; have hcz20_0 : w18.cell? ⟨gb281, 0, none⟩ = some (.string (⟨#[]⟩ : ByteArray)) := (blk_cell BK281.out 0).trans rfl; have hcz20_1 : w18.cell? ⟨gb281, 1, none⟩ = some (.int .i64 0) := (blk_cell BK281.out 1).trans rfl; have hcz20_2 : w18.cell? ⟨gb281, 2, none⟩ = some (.int .i64 0) := (blk_cell BK281.out 2).trans rfl; have hcz20_3 : w18.cell? ⟨gb281, 3, none⟩ = some (.int .i64 0) := (blk_cell BK281.out 3).trans rfl; have hcz20_4 : w18.cell? ⟨gb281, 4, none⟩ = some (.int .i64 0) := (blk_cell BK281.out 4).trans rfl; have hfz20_0 := blk_frozen BK281.out 0; have hfz20_1 := blk_frozen BK281.out 1; have hfz20_2 := blk_frozen BK281.out 2; have hfz20_3 := blk_frozen BK281.out 3; have hfz20_4 := blk_frozen BK281.out 4) | ((with_reducible refine gate_callee (f := 43) rfl ?_); refine goesL_ (some 35) rfl rfl Try.func43 (by kernel_rfl) rfl #[.agg #[.string ((rd_T31 l0 x30_2).f0), .int .i64 ((rd_T31 l0 x30_2).f1), .int .i64 ((rd_T31 l0 x30_2).f2), .int .i64 ((rd_T31 l0 x30_2).f3), .int .i64 ((rd_T31 l0 x30_2).f4)]] rfl (by (try simp only [List.map_toArray, List.map_cons, List.map_nil]); first | done | rfl | (simp only [List.length_drop, List.length_take]; rfl)) ?_; (with_reducible refine (impl_entryOk.calls k2 ((rd_T31 l0 x30_2).f0) ((rd_T31 l0 x30_2).f1) ((rd_T31 l0 x30_2).f2) ((rd_T31 l0 x30_2).f3) ((rd_T31 l0 x30_2).f4) true _ A16.out).mono ?_); rintro e w21 ⟨rfl, hb⟩; refine ⟨_, rfl, ?_⟩; have n0_ := Aside0.mk (blk_below (g := gb277) (o := .cells #[.int .i64 a1] 2 (0, 0)) (by (with_reducible repeat (first | refine blk_drewN ?_ _ | refine blk_drew ?_ | refine blk_alloc ?_ _)); refine blk_far ?_ NB277_281.out _; (with_reducible repeat (first | refine blk_drewN ?_ _ | refine blk_drew ?_ | refine blk_alloc ?_ _)); refine blk_far ?_ NB277_281.out _; (with_reducible repeat (first | refine blk_drewN ?_ _ | refine blk_drew ?_ | refine blk_alloc ?_ _)); refine blk_far ?_ NB277_281.out _; (with_reducible repeat (first | refine blk_drewN ?_ _ | refine blk_drew ?_ | refine blk_alloc ?_ _)); refine blk_far ?_ NB277_281.out _; (with_reducible repeat (first | refine blk_drewN ?_ _ | refine blk_drew ?_ | refine blk_alloc ?_ _)); refine blk_far ?_ NB277_281.out _; (with_reducible repeat (first | refine blk_drewN ?_ _ | refine blk_drew ?_ | refine blk_alloc ?_ _)); exact BK277.out) hb); have n1_ := Aside0.mk (blk_below (g := gb281) (o := .cells #[.string ((rd_T31 l0 x30_2).f0), .int .i64 ((rd_T31 l0 x30_2).f1), .int .i64 ((rd_T31 l0 x30_2).f2), .int .i64 ((rd_T31 l0 x30_2).f3), .int .i64 ((rd_T31 l0 x30_2).f4)] 31 (0, 0)) (by (with_reducible repeat (first | refine blk_drewN ?_ _ | refine blk_drew ?_ | refine blk_alloc ?_ _)); refine blk_put (cs := #[.string ((rd_T31 l0 x30_2).f0), .int .i64 ((rd_T31 l0 x30_2).f1), .int .i64 ((rd_T31 l0 x30_2).f2), .int .i64 ((rd_T31 l0 x30_2).f3), .int .i64 0]) ?_ 4 _ rfl; (with_reducible repeat (first | refine blk_drewN ?_ _ | refine blk_drew ?_ | refine blk_alloc ?_ _)); refine blk_put (cs := #[.string ((rd_T31 l0 x30_2).f0), .int .i64 ((rd_T31 l0 x30_2).f1), .int .i64 ((rd_T31 l0 x30_2).f2), .int .i64 0, .int .i64 0]) ?_ 3 _ rfl; (with_reducible repeat (first | refine blk_drewN ?_ _ | refine blk_drew ?_ | refine blk_alloc ?_ _)); refine blk_put (cs := #[.string ((rd_T31 l0 x30_2).f0), .int .i64 ((rd_T31 l0 x30_2).f1), .int .i64 0, .int .i64 0, .int .i64 0]) ?_ 2 _ rfl; (with_reducible repeat (first | refine blk_drewN ?_ _ | refine blk_drew ?_ | refine blk_alloc ?_ _)); refine blk_put (cs := #[.string ((rd_T31 l0 x30_2).f0), .int .i64 0, .int .i64 0, .int .i64 0, .int .i64 0]) ?_ 1 _ rfl; (with_reducible repeat (first | refine blk_drewN ?_ _ | refine blk_drew ?_ | refine blk_alloc ?_ _)); refine blk_put (cs := #[.string (⟨#[]⟩ : ByteArray), .int .i64 0, .int .i64 0, .int .i64 0, .int .i64 0]) ?_ 0 _ rfl; (with_reducible repeat (first | refine blk_drewN ?_ _ | refine blk_drew ?_ | refine blk_alloc ?_ _)); exact BK281.out) hb); have n2_ := Aside0.mk (below_step (by repeat (first | (with_reducible first | exact HB.out | apply below_alloc | apply pw_below_drewN | apply below_drew1 | refine below_set ?_ GE277.out | refine below_set ?_ GE281.out) | exact HB.out)) hb); clear BK277; clear BK281; clear HB; have BK277 := n0_; have BK281 := n1_; have HB := n2_; clear n0_ n1_ n2_; (try clear hb); (try clear hb2); (try clear hk); (try clear hi)))
          go_roundg k2
          case measure => have := HJ3.out; have := HK2.out; omega
          case rel => exact ⟨(wrap64 (x30_2 + 1)), (by first | rfl | (simp; done) | (simp [*]; done)), H', ⟨by have := HJ3.out; have := HK2.out; omega⟩, ⟨by (with_reducible repeat (first | refine blk_drewN ?_ _ | refine blk_drew ?_ | refine blk_alloc ?_ _)); exact BK277.out⟩, ⟨by repeat (first | (with_reducible first | exact HB.out | apply below_alloc | apply pw_below_drewN | apply below_drew1 | refine below_set ?_ GE277.out | refine below_set ?_ GE281.out) | exact HB.out)⟩⟩
         ·replace c17 := Bool.eq_false_iff.mpr c17
          subst c17
          have H1 : (some (([] : List Int), false)) = some (r1, r2) := by rw [if_neg (show ¬ (false = true) by decide)] at H; exact H
          clear H
          have H := H1
          clear H1
          simp only [Option.some.injEq, Prod.mk.injEq] at H
          obtain ⟨rfl, rfl⟩ := H
          have p280 : 0 ≤ (x30_2 : Int) := of_decide_eq_true (by first | (with_reducible assumption) | assumption)
          have q280 : x30_2 < (l0.length : Int) := of_decide_eq_true (by first | (with_reducible assumption) | assumption)
          obtain ⟨ad280, e280, hx280_0, hx280_1, hx280_2, hx280_3, hx280_4⟩ := at_T31 HR0.out x30_2 p280 q280
          cases e280
          replace hx280_0 := (HB.out.cell (World.block_lt_of_cell? w _ hx280_0)).trans hx280_0
          replace hx280_1 := (HB.out.cell (World.block_lt_of_cell? w _ hx280_1)).trans hx280_1
          replace hx280_2 := (HB.out.cell (World.block_lt_of_cell? w _ hx280_2)).trans hx280_2
          replace hx280_3 := (HB.out.cell (World.block_lt_of_cell? w _ hx280_3)).trans hx280_3
          replace hx280_4 := (HB.out.cell (World.block_lt_of_cell? w _ hx280_4)).trans hx280_4
          replace p280 := eq_true p280
          replace q280 := eq_true q280
          go_wp2_with (first | ((with_reducible refine gate_dst (N := 9) rfl ?_); refine box_event ?hg (N := 9) ?hd (cs := #[.string (⟨#[]⟩ : ByteArray), .int .i64 0, .int .i64 0, .int .i64 0, .int .i64 0]) (t := 31) ?hr ?_; (case hd => rfl); (case hg => rfl); (case hr => first | (go_simp; done) | (go_simp; rfl)); intro gb281 hg w22 hbox hb; have n0_ := Aside0.mk (blk_below (g := gb277) (o := .cells #[.int .i64 a1] 2 (0, 0)) (by (with_reducible repeat (first | refine blk_drewN ?_ _ | refine blk_drew ?_ | refine blk_alloc ?_ _)); exact BK277.out) hb); have n1_ := Aside0.mk (below_step (by repeat (first | (with_reducible first | exact HB.out | apply below_alloc | apply pw_below_drewN | apply below_drew1 | refine below_set ?_ GE277.out) | exact HB.out)) hb); have n2_ := Aside0.mk (hbox); have n3_ := Aside0.mk ((by rw [hg]; exact (below_size (by repeat (first | (with_reducible first | exact HB.out | apply below_alloc | apply pw_below_drewN | apply below_drew1 | refine below_set ?_ GE277.out) | exact HB.out))) : w.heap.size ≤ gb281)); have n4_ := Aside0.mk ((by rw [hg]; exact (below_size (by repeat (first | (with_reducible first | exact HB.out | apply below_alloc | apply pw_below_drewN | apply below_drew1 | refine below_set ?_ GE277.out) | exact HB.out))) : w.heap.size ≤ gb281)); have n5_ := Aside0.mk ((by rw [hg]; exact Nat.ne_of_lt (blk_lt (g := gb277) (o := .cells #[.int .i64 a1] 2 (0, 0)) (by (with_reducible repeat (first | refine blk_drewN ?_ _ | refine blk_drew ?_ | refine blk_alloc ?_ _)); exact BK277.out)) : gb277 ≠ gb281)); have n6_ := Aside0.mk ((by rw [hg]; exact Nat.ne_of_gt (blk_lt (g := gb277) (o := .cells #[.int .i64 a1] 2 (0, 0)) (by (with_reducible repeat (first | refine blk_drewN ?_ _ | refine blk_drew ?_ | refine blk_alloc ?_ _)); exact BK277.out)) : gb281 ≠ gb277)); clear BK277; clear HB; have BK277 := n0_; have HB := n1_; have BK281 := n2_; have GW281 := n3_; have GE281 := n4_; have NB277_281 := n5_; have NB281_277 := n6_; clear n0_ n1_ n2_ n3_ n4_ n5_ n6_; clear hb hbox hg; have hnb23 := NB281_277.out; have hnc23 := NB277_281.out; have hcz24_0 : w22.cell? ⟨gb281, 0, none⟩ = some (.string (⟨#[]⟩ : ByteArray)) := (blk_cell BK281.out 0).trans rfl; have hcz24_1 : w22.cell? ⟨gb281, 1, none⟩ = some (.int .i64 0) := (blk_cell BK281.out 1).trans rfl; have hcz24_2 : w22.cell? ⟨gb281, 2, none⟩ = some (.int .i64 0) := (blk_cell BK281.out 2).trans rfl; have hcz24_3 : w22.cell? ⟨gb281, 3, none⟩ = some (.int .i64 0) := (blk_cell BK281.out 3).trans rfl; have hcz24_4 : w22.cell? ⟨gb281, 4, none⟩ = some (.int .i64 0) := (blk_cell BK281.out 4).trans rfl; have hfz24_0 := blk_frozen BK281.out 0; have hfz24_1 := blk_frozen BK281.out 1; have hfz24_2 := blk_frozen BK281.out 2; have hfz24_3 := blk_frozen BK281.out 3; have hfz24_4 := blk_frozen BK281.out 4) | ((with_reducible refine gate_callee (f := 43) rfl ?_); refine goesL_ (some 35) rfl rfl Try.func43 (by kernel_rfl) rfl #[.agg #[.string ((rd_T31 l0 x30_2).f0), .int .i64 ((rd_T31 l0 x30_2).f1), .int .i64 ((rd_T31 l0 x30_2).f2), .int .i64 ((rd_T31 l0 x30_2).f3), .int .i64 ((rd_T31 l0 x30_2).f4)]] rfl (by (try simp only [List.map_toArray, List.map_cons, List.map_nil]); first | done | rfl | (simp only [List.length_drop, List.length_take]; rfl)) ?_; (with_reducible refine (impl_entryOk.calls k2 ((rd_T31 l0 x30_2).f0) ((rd_T31 l0 x30_2).f1) ((rd_T31 l0 x30_2).f2) ((rd_T31 l0 x30_2).f3) ((rd_T31 l0 x30_2).f4) false _ A16.out).mono ?_); rintro e w25 ⟨rfl, hb⟩; refine ⟨_, rfl, ?_⟩; have n0_ := Aside0.mk (blk_below (g := gb277) (o := .cells #[.int .i64 a1] 2 (0, 0)) (by (with_reducible repeat (first | refine blk_drewN ?_ _ | refine blk_drew ?_ | refine blk_alloc ?_ _)); refine blk_far ?_ NB277_281.out _; (with_reducible repeat (first | refine blk_drewN ?_ _ | refine blk_drew ?_ | refine blk_alloc ?_ _)); refine blk_far ?_ NB277_281.out _; (with_reducible repeat (first | refine blk_drewN ?_ _ | refine blk_drew ?_ | refine blk_alloc ?_ _)); refine blk_far ?_ NB277_281.out _; (with_reducible repeat (first | refine blk_drewN ?_ _ | refine blk_drew ?_ | refine blk_alloc ?_ _)); refine blk_far ?_ NB277_281.out _; (with_reducible repeat (first | refine blk_drewN ?_ _ | refine blk_drew ?_ | refine blk_alloc ?_ _)); refine blk_far ?_ NB277_281.out _; (with_reducible repeat (first | refine blk_drewN ?_ _ | refine blk_drew ?_ | refine blk_alloc ?_ _)); exact BK277.out) hb); have n1_ := Aside0.mk (blk_below (g := gb281) (o := .cells #[.string ((rd_T31 l0 x30_2).f0), .int .i64 ((rd_T31 l0 x30_2).f1), .int .i64 ((rd_T31 l0 x30_2).f2), .int .i64 ((rd_T31 l0 x30_2).f3), .int .i64 ((rd_T31 l0 x30_2).f4)] 31 (0, 0)) (by (with_reducible repeat (first | refine blk_drewN ?_ _ | refine blk_drew ?_ | refine blk_alloc ?_ _)); refine blk_put (cs := #[.string ((rd_T31 l0 x30_2).f0), .int .i64 ((rd_T31 l0 x30_2).f1), .int .i64 ((rd_T31 l0 x30_2).f2), .int .i64 ((rd_T31 l0 x30_2).f3), .int .i64 0]) ?_ 4 _ rfl; (with_reducible repeat (first | refine blk_drewN ?_ _ | refine blk_drew ?_ | refine blk_alloc ?_ _)); refine blk_put (cs := #[.string ((rd_T31 l0 x30_2).f0), .int .i64 ((rd_T31 l0 x30_2).f1), .int .i64 ((rd_T31 l0 x30_2).f2), .int .i64 0, .int .i64 0]) ?_ 3 _ rfl; (with_reducible repeat (first | refine blk_drewN ?_ _ | refine blk_drew ?_ | refine blk_alloc ?_ _)); refine blk_put (cs := #[.string ((rd_T31 l0 x30_2).f0), .int .i64 ((rd_T31 l0 x30_2).f1), .int .i64 0, .int .i64 0, .int .i64 0]) ?_ 2 _ rfl; (with_reducible repeat (first | refine blk_drewN ?_ _ | refine blk_drew ?_ | refine blk_alloc ?_ _)); refine blk_put (cs := #[.string ((rd_T31 l0 x30_2).f0), .int .i64 0, .int .i64 0, .int .i64 0, .int .i64 0]) ?_ 1 _ rfl; (with_reducible repeat (first | refine blk_drewN ?_ _ | refine blk_drew ?_ | refine blk_alloc ?_ _)); refine blk_put (cs := #[.string (⟨#[]⟩ : ByteArray), .int .i64 0, .int .i64 0, .int .i64 0, .int .i64 0]) ?_ 0 _ rfl; (with_reducible repeat (first | refine blk_drewN ?_ _ | refine blk_drew ?_ | refine blk_alloc ?_ _)); exact BK281.out) hb); have n2_ := Aside0.mk (below_step (by repeat (first | (with_reducible first | exact HB.out | apply below_alloc | apply pw_below_drewN | apply below_drew1 | refine below_set ?_ GE277.out | refine below_set ?_ GE281.out) | exact HB.out)) hb); clear BK277; clear BK281; clear HB; have BK277 := n0_; have BK281 := n1_; have HB := n2_; clear n0_ n1_ n2_; (try clear hb); (try clear hb2); (try clear hk); (try clear hi)))
          go_ret2
          exact ⟨_, by first | rfl | (simp [errW_none, errW_some] <;> rfl) | (simp [*, errW_none, errW_some] <;> rfl), by first | exact Kd.R_nil _ _ _ _ _ | exact Kd.N_nil _ _ _ _ _ | exact Kd.V_nil _ _ _ _ _ | exact Kd.Q_nil _ _ _ _ _ | exact Kd.S_nil _ _ _ _ _, by repeat (first | (with_reducible first | exact HB.out | apply below_alloc | apply pw_below_drewN | apply below_drew1 | refine below_set ?_ GE277.out | refine below_set ?_ GE281.out) | exact HB.out)⟩
        ·rw [if_neg c15] at H
         exact absurd H (by simp)
       ·rw [if_neg c14] at H
        exact absurd H (by simp)
      ·rw [if_neg c13] at H
       have c13b0 : decide (x30_2 < (l0.length : Int)) = false := decide_eq_false c13
       clear c13
       by_cases c26 : 0 ≤ a2
       ·rw [if_pos c26] at H
        have c26b0 := eq_true c26
        have c26b1 : decide (0 ≤ a2) = true := decide_eq_true c26
        clear c26
        by_cases c27 : (a2 : Int).toNat ≤ 35184372088832
        ·rw [if_pos c27] at H
         have c27b0 := eq_true c27
         have c27b1 : decide ((a2 : Int).toNat ≤ 35184372088832) = true := decide_eq_true c27
         clear c27
         obtain ⟨y283, hy283⟩ : ∃ y_ : List Int, y_ = (List.replicate (a2 : Int).toNat 0) := ⟨_, rfl⟩
         replace H : (impl_Deal.l1 k2 y283 (([] : List Int)) l0 (l0.length : Int) 0 a1) = some (r1, r2) := by first | (rw [hy283]; with_reducible exact H) | (have H2_ := (Option.bind_some _ _).symm.trans H; rw [hy283]; with_reducible exact H2_) | (have H2_ := (Option.bind_some _ _).symm.trans H; with_reducible exact H2_) | with_reducible exact H | (rw [hy283]; exact H) | exact H
         have Ny283 := Aside0.mk hy283
         clear hy283
         obtain ⟨y286, hy286⟩ : ∃ y_ : List Int, y_ = (([] : List Int)) := ⟨_, rfl⟩
         replace H : (impl_Deal.l1 k2 y283 y286 l0 (l0.length : Int) 0 a1) = some (r1, r2) := by first | (rw [hy286]; with_reducible exact H) | (have H2_ := (Option.bind_some _ _).symm.trans H; rw [hy286]; with_reducible exact H2_) | (have H2_ := (Option.bind_some _ _).symm.trans H; with_reducible exact H2_) | with_reducible exact H | (rw [hy286]; exact H) | exact H
         have Ny286 := Aside0.mk hy286
         clear hy286
         have H' := Aside0.mk H
         clear H
         go_wp2_with (first | ((with_reducible refine gate_dst (N := 39) rfl ?_); refine Kd.R_make (Kd.int .i64) _ 2 rfl (N := 39) rfl 27 _ _ rfl a2 rfl rfl Try.underlying27 (.int .i64 0) 8 info2 rfl (by decide) (by omega) 0 (ok := fun _ => True) (okp := fun _ => True) rfl (fun _ hk => hk) trivial (of_decide_eq_true (by first | (with_reducible assumption) | assumption)) (Nat.le_trans (Nat.mul_le_mul_right _ (of_decide_eq_true (by first | (with_reducible assumption) | assumption) : a2.toNat ≤ 35184372088832)) (by omega)) (Below.refl _ _) (Nat.le_refl _) ?_; intro v284 w28 ho29 hb hg_ hnew_; clear hg_ hnew_; (first | rw [← Ny283.out] at ho29 | (simp only [Int.reduceToNat] at ho29; rw [← Ny283.out] at ho29)); have n0_ := Aside0.mk (Kd.R_lower (Kd.R_newB ho29 (g := gb277) (o := .cells #[.int .i64 a1] 2 (0, 0)) (by (with_reducible repeat (first | refine blk_drewN ?_ _ | refine blk_drew ?_ | refine blk_alloc ?_ _)); exact BK277.out)) (below_size (by repeat (first | (with_reducible first | exact HB.out | apply below_alloc | apply pw_below_drewN | apply below_drew1 | refine below_set ?_ GE277.out) | exact HB.out)))); have n1_ := Aside0.mk (blk_below (g := gb277) (o := .cells #[.int .i64 a1] 2 (0, 0)) (by (with_reducible repeat (first | refine blk_drewN ?_ _ | refine blk_drew ?_ | refine blk_alloc ?_ _)); exact BK277.out) hb); have n2_ := Aside0.mk (below_step (by repeat (first | (with_reducible first | exact HB.out | apply below_alloc | apply pw_below_drewN | apply below_drew1 | refine below_set ?_ GE277.out) | exact HB.out)) hb); clear BK277; clear HB; have HO285 := n0_; have BK277 := n1_; have HB := n2_; clear n0_ n1_ n2_; clear hb ho29) | ((with_reducible refine gate_dst (N := 40) rfl ?_); refine Kd.R_lit (Kd.int .i64) _ 2 ?hg (N := 40) ?hd (xs := ([] : List Int)) (inner := []) (ok := fun _ => True) (okp := fun _ => True) ?hr ?hp (fun _ hk => hk) trivial (Below.refl _ _) (Nat.le_refl _) (by simp) ?_; (case hd => rfl); (case hg => rfl); (case hr => first | (go_simp; done) | (go_simp; rfl)); (case hp => exact (Reps.none _ _)); intro v287 w30 ho31 hb hg_ hnew_; clear hg_ hnew_; (first | rw [← Ny286.out] at ho31 | (simp only [Int.reduceToNat] at ho31; rw [← Ny286.out] at ho31)); have n0_ := Aside0.mk (Kd.R_elder' (by (with_reducible repeat (first | apply Kd.R_alloc | apply Kd.R_drewN | apply Kd.R_drew)); exact HO285.out) (Kd.R_base ho31) hb); have n1_ := Aside0.mk (Kd.R_lower (Kd.R_newB (Kd.R_new' ho31 (Kd.R_lt (by (with_reducible repeat (first | apply Kd.R_alloc | apply Kd.R_drewN | apply Kd.R_drew)); exact HO285.out))) (g := gb277) (o := .cells #[.int .i64 a1] 2 (0, 0)) (by (with_reducible repeat (first | refine blk_drewN ?_ _ | refine blk_drew ?_ | refine blk_alloc ?_ _)); exact BK277.out)) (below_size (by repeat (first | (with_reducible first | exact HB.out | apply below_alloc | apply pw_below_drewN | apply below_drew1 | refine below_set ?_ GE277.out) | exact HB.out)))); have n2_ := Aside0.mk (blk_below (g := gb277) (o := .cells #[.int .i64 a1] 2 (0, 0)) (by (with_reducible repeat (first | refine blk_drewN ?_ _ | refine blk_drew ?_ | refine blk_alloc ?_ _)); exact BK277.out) hb); have n3_ := Aside0.mk (below_step (by repeat (first | (with_reducible first | exact HB.out | apply below_alloc | apply pw_below_drewN | apply below_drew1 | refine below_set ?_ GE277.out) | exact HB.out)) hb); clear HO285; clear BK277; clear HB; have HO285 := n0_; have HO288 := n1_; have BK277 := n2_; have HB := n3_; clear n0_ n1_ n2_ n3_; clear hb ho31))
         go_loopg [11, 43] k2 (fun kq v11 v43 w' => ∃ (x10_3 : List Int) (x11_3 : List Int) (x43_3 : Int), v43 = .int .i64 x43_3 ∧ Aside0 (impl_Deal.l1 kq x10_3 x11_3 l0 (l0.length : Int) x43_3 a1 = some (r1, r2)) ∧ Aside0 (kq ≤ k2) ∧ Aside0 (Kd.R (Kd.int .i64) 2 w' w.heap.size (fun k_ => some k_ ≠ (v11 : Value).ownBlock ∧ k_ ≠ gb277) v284 x10_3) ∧ Aside0 (Kd.R (Kd.int .i64) 2 w' w.heap.size (fun k_ => some k_ ≠ (v284 : Value).ownBlock ∧ k_ ≠ gb277) v11 x11_3) ∧ Aside0 (w'.heap[gb277]? = some (.cells #[.int .i64 a1] 2 (0, 0))) ∧ Aside0 (Below w.heap.size w w'))
         case atStart => exact ⟨(y283), (y286), (0), (by first | rfl | (simp; done) | (simp [*]; done)), H', ⟨Nat.le_refl _⟩, ⟨by (with_reducible repeat (first | apply Kd.R_alloc | apply Kd.R_drewN | apply Kd.R_drew)); exact Kd.R_mono HO285.out (fun _ hk => ⟨hk.2, hk.1.2⟩)⟩, ⟨by (with_reducible repeat (first | apply Kd.R_alloc | apply Kd.R_drewN | apply Kd.R_drew)); exact Kd.R_mono HO288.out (fun _ hk => ⟨hk.1.2, hk.2⟩)⟩, ⟨by (with_reducible repeat (first | refine blk_drewN ?_ _ | refine blk_drew ?_ | refine blk_alloc ?_ _)); exact BK277.out⟩, ⟨by repeat (first | (with_reducible first | exact HB.out | apply below_alloc | apply pw_below_drewN | apply below_drew1 | refine below_set ?_ GE277.out) | exact HB.out)⟩⟩
         case round =>
          clear H'
          try clear c1
          try clear c2
          try clear p2
          try clear q2
          try clear hx2
          try clear c4
          try clear c6
          try clear c6b0
          try clear c6b1
          try clear p6
          try clear c8
          try clear c12
          try clear c13
          try clear c13b0
          try clear c14
          try clear c14b0
          try clear c15
          try clear c15b0
          try clear c17
          try clear c19
          try clear c23
          try clear c26
          try clear c26b0
          try clear c26b1
          try clear c27
          try clear c27b0
          try clear c27b1
          try clear p28
          try clear q28
          try clear hx28
          try clear hcz10_0
          try clear hcz11_0
          try clear hcz20_0
          try clear hcz20_1
          try clear hcz20_2
          try clear hcz20_3
          try clear hcz20_4
          try clear hcz24_0
          try clear hcz24_1
          try clear hcz24_2
          try clear hcz24_3
          try clear hcz24_4
          try clear hfz10_0
          try clear hfz11_0
          try clear hfz20_0
          try clear hfz20_1
          try clear hfz20_2
          try clear hfz20_3
          try clear hfz20_4
          try clear hfz24_0
          try clear hfz24_1
          try clear hfz24_2
          try clear hfz24_3
          try clear hfz24_4
          try clear hx280_0
          try clear hx280_1
          try clear hx280_2
          try clear hx280_3
          try clear hx280_4
          try clear p2
          try clear p280
          try clear q280
          obtain ⟨x10_3, x11_3, x43_3, rfl, HA, HK3, HO_10, HO_11, BK277, HB⟩ := hrel
          cases gk with
          | zero => exact absurd HA.out (by simp [impl_Deal.l1])
          | succ k3 =>
           have H := HA.out
           clear HA
           simp only [impl_Deal.l1] at H
           by_cases c32 : x43_3 < (l0.length : Int)
           ·rw [if_pos c32] at H
            have c32b0 : decide (x43_3 < (l0.length : Int)) = true := decide_eq_true c32
            clear c32
            by_cases c33 : 0 ≤ x43_3
            ·rw [if_pos c33] at H
             have c33b0 : decide (0 ≤ x43_3) = true := decide_eq_true c33
             clear c33
             by_cases c34 : x43_3 < (l0.length : Int)
             ·rw [if_pos c34] at H
              have c34b0 : decide (x43_3 < (l0.length : Int)) = true := decide_eq_true c34
              clear c34
              replace H := Option.bind_eq_some_iff.mp H
              obtain ⟨t291, A350, H⟩ := H
              replace H : (if t291 ≥ 0 then (if 0 ≤ t291 then (if t291 < (x10_3.length : Int) then (if x11_3.length < 17592186044416 then (impl_Deal.l1 k3 (x10_3.set (t291 : Int).toNat (wrap64 ((rd x10_3 t291) + ((rd_T31 l0 x43_3).f4)))) (x11_3 ++ [t291]) l0 (l0.length : Int) (wrap64 (x43_3 + 1)) a1) else (none)) else (none)) else (none)) else (if x11_3.length < 17592186044416 then (impl_Deal.l1 k3 x10_3 (x11_3 ++ [t291]) l0 (l0.length : Int) (wrap64 (x43_3 + 1)) a1) else (none))) = some (r1, r2) := H
              have A35 := Aside0.mk A350
              clear A350
              by_cases c36 : t291 ≥ 0
              ·rw [if_pos c36] at H
               have c36b0 : decide (0 ≤ t291) = true := decide_eq_true c36
               clear c36
               by_cases c37 : 0 ≤ t291
               ·rw [if_pos c37] at H
                have c37b0 : decide (0 ≤ t291) = true := decide_eq_true c37
                clear c37
                by_cases c38 : t291 < (x10_3.length : Int)
                ·rw [if_pos c38] at H
                 have c38b0 : decide (t291 < (x10_3.length : Int)) = true := decide_eq_true c38
                 clear c38
                 obtain ⟨y293, hy293⟩ : ∃ y_ : List Int, y_ = (x10_3.set (t291 : Int).toNat (wrap64 ((rd x10_3 t291) + ((rd_T31 l0 x43_3).f4)))) := ⟨_, rfl⟩
                 replace H : (if x11_3.length < 17592186044416 then (impl_Deal.l1 k3 y293 (x11_3 ++ [t291]) l0 (l0.length : Int) (wrap64 (x43_3 + 1)) a1) else (none)) = some (r1, r2) := by first | (rw [hy293]; with_reducible exact H) | (have H2_ := (Option.bind_some _ _).symm.trans H; rw [hy293]; with_reducible exact H2_) | (have H2_ := (Option.bind_some _ _).symm.trans H; with_reducible exact H2_) | with_reducible exact H | (rw [hy293]; exact H) | exact H
                 have Ny293 := Aside0.mk hy293
                 clear hy293
                 by_cases c40 : x11_3.length < 17592186044416
                 ·rw [if_pos c40] at H
                  have LMc40 := Aside0.mk c40
                  clear c40
                  obtain ⟨y294, hy294⟩ : ∃ y_ : List Int, y_ = (x11_3 ++ [t291]) := ⟨_, rfl⟩
                  replace H : (impl_Deal.l1 k3 y293 y294 l0 (l0.length : Int) (wrap64 (x43_3 + 1)) a1) = some (r1, r2) := by first | (rw [hy294]; with_reducible exact H) | (have H2_ := (Option.bind_some _ _).symm.trans H; rw [hy294]; with_reducible exact H2_) | (have H2_ := (Option.bind_some _ _).symm.trans H; with_reducible exact H2_) | with_reducible exact H | (rw [hy294]; exact H) | exact H
                  have Ny294 := Aside0.mk hy294
                  clear hy294
                  have H' := Aside0.mk H
                  clear H
                  have p289 : 0 ≤ (x43_3 : Int) := of_decide_eq_true (by first | (with_reducible assumption) | assumption)
                  have q289 : x43_3 < (l0.length : Int) := of_decide_eq_true (by first | (with_reducible assumption) | assumption)
                  obtain ⟨ad289, e289, hx289_0, hx289_1, hx289_2, hx289_3, hx289_4⟩ := at_T31 HR0.out x43_3 p289 q289
                  cases e289
                  replace hx289_0 := (HB.out.cell (World.block_lt_of_cell? w _ hx289_0)).trans hx289_0
                  replace hx289_1 := (HB.out.cell (World.block_lt_of_cell? w _ hx289_1)).trans hx289_1
                  replace hx289_2 := (HB.out.cell (World.block_lt_of_cell? w _ hx289_2)).trans hx289_2
                  replace hx289_3 := (HB.out.cell (World.block_lt_of_cell? w _ hx289_3)).trans hx289_3
                  replace hx289_4 := (HB.out.cell (World.block_lt_of_cell? w _ hx289_4)).trans hx289_4
                  replace p289 := eq_true p289
                  replace q289 := eq_true q289
                  try go_wp2_with (first | ((with_reducible refine gate_dst (N := 13) rfl ?_); refine box_event ?hg (N := 13) ?hd (cs := #[.string (⟨#[]⟩ : ByteArray), .int .i64 0, .int .i64 0, .int .i64 0, .int .i64 0]) (t := 31) ?hr ?_; (case hd => rfl); (case hg => rfl); (case hr => first | (go_simp; done) | (go_simp; rfl)); intro gb290 hg w41 hbox hb; have n0_ := Aside0.mk (Kd.R_below (by (with_reducible repeat (first | apply Kd.R_alloc | apply Kd.R_drewN | apply Kd.R_drew)); exact HO_10.out) hb); have n1_ := Aside0.mk (Kd.R_below (by (with_reducible repeat (first | apply Kd.R_alloc | apply Kd.R_drewN | apply Kd.R_drew)); exact HO_11.out) hb); have n2_ := Aside0.mk (blk_below (g := gb277) (o := .cells #[.int .i64 a1] 2 (0, 0)) (by (with_reducible repeat (first | refine blk_drewN ?_ _ | refine blk_drew ?_ | refine blk_alloc ?_ _)); exact BK277.out) hb); have n3_ := Aside0.mk (below_step (by repeat (first | (with_reducible first | exact HB.out | apply below_alloc | apply pw_below_drewN | apply below_drew1 | refine below_set ?_ GE277.out) | exact HB.out)) hb); have n4_ := Aside0.mk (hbox); have n5_ := Aside0.mk ((by rw [hg]; exact (below_size (by repeat (first | (with_reducible first | exact HB.out | apply below_alloc | apply pw_below_drewN | apply below_drew1 | refine below_set ?_ GE277.out) | exact HB.out))) : w.heap.size ≤ gb290)); have n6_ := Aside0.mk ((by rw [hg]; exact (below_size (by repeat (first | (with_reducible first | exact HB.out | apply below_alloc | apply pw_below_drewN | apply below_drew1 | refine below_set ?_ GE277.out) | exact HB.out))) : w.heap.size ≤ gb290)); have n7_ := Aside0.mk ((by rw [hg]; exact Nat.ne_of_lt (blk_lt (g := gb277) (o := .cells #[.int .i64 a1] 2 (0, 0)) (by (with_reducible repeat (first | refine blk_drewN ?_ _ | refine blk_drew ?_ | refine blk_alloc ?_ _)); exact BK277.out)) : gb277 ≠ gb290)); have n8_ := Aside0.mk ((by rw [hg]; exact Nat.ne_of_gt (blk_lt (g := gb277) (o := .cells #[.int .i64 a1] 2 (0, 0)) (by (with_reducible repeat (first | refine blk_drewN ?_ _ | refine blk_drew ?_ | refine blk_alloc ?_ _)); exact BK277.out)) : gb290 ≠ gb277)); clear HO_10; clear HO_11; clear BK277; clear HB; have HO_10 := n0_; have HO_11 := n1_; have BK277 := n2_; have HB := n3_; have BK290 := n4_; have GW290 := n5_; have GE290 := n6_; have NB277_290 := n7_; have NB290_277 := n8_; clear n0_ n1_ n2_ n3_ n4_ n5_ n6_ n7_ n8_; clear hb hbox hg; have hnb42 := NB290_277.out; have hnc42 := NB277_290.out; have hcz43_0 : w41.cell? ⟨gb290, 0, none⟩ = some (.string (⟨#[]⟩ : ByteArray)) := (blk_cell BK290.out 0).trans rfl; have hcz43_1 : w41.cell? ⟨gb290, 1, none⟩ = some (.int .i64 0) := (blk_cell BK290.out 1).trans rfl; have hcz43_2 : w41.cell? ⟨gb290, 2, none⟩ = some (.int .i64 0) := (blk_cell BK290.out 2).trans rfl; have hcz43_3 : w41.cell? ⟨gb290, 3, none⟩ = some (.int .i64 0) := (blk_cell BK290.out 3).trans rfl; have hcz43_4 : w41.cell? ⟨gb290, 4, none⟩ = some (.int .i64 0) := (blk_cell BK290.out 4).trans rfl; have hfz43_0 := blk_frozen BK290.out 0; have hfz43_1 := blk_frozen BK290.out 1; have hfz43_2 := blk_frozen BK290.out 2; have hfz43_3 := blk_frozen BK290.out 3; have hfz43_4 := blk_frozen BK290.out 4; obtain ⟨Ao44, co44, eo44⟩ := Kd.R_slice HO_10.out; subst eo44) | ((with_reducible refine gate_callee (f := 44) rfl ?_); refine goesL_ (some 49) rfl rfl Try.func44 (by kernel_rfl) rfl #[.slice Ao44 x10_3.length co44, .func (.func 45) #[] #[.pointer (some ⟨gb290, 0, none⟩), .pointer (some ⟨gb277, 0, none⟩)]] rfl (by (try simp only [List.map_toArray, List.map_cons, List.map_nil]); first | done | rfl | (simp only [List.length_drop, List.length_take]; rfl)) ?_; (with_reducible refine (slices_IndexFunc_int64_int64_impl_Deal_1.calls k3 _ _ x10_3 _ [(⟨(rd_T31 l0 x43_3).f0, (rd_T31 l0 x43_3).f1, (rd_T31 l0 x43_3).f2, (rd_T31 l0 x43_3).f3, (rd_T31 l0 x43_3).f4⟩ : S31)] _ [a1] t291 _ ?side1 ?side2 ?side3 ?side4 ?side5 ?side6 A35.out).mono ?_); (case side1 => refine (Kd.R_reads' (e := 2) (base := w.heap.size) (ok := fun k_ => (some k_ ≠ (u11 : Value).ownBlock ∧ k_ ≠ gb277)) (n := x10_3.length) (c := co44) ?_).2.2; exact (by (with_reducible repeat (first | apply Kd.R_alloc | apply Kd.R_drewN | apply Kd.R_drew)); exact (Kd.R_mono (Kd.R_far (p := ⟨gb290, 4, none⟩) (Kd.R_far (p := ⟨gb290, 3, none⟩) (Kd.R_far (p := ⟨gb290, 2, none⟩) (Kd.R_far (p := ⟨gb290, 1, none⟩) (Kd.R_far (p := ⟨gb290, 0, none⟩) (Kd.R_types HO_10.out BK290.out (by decide)) (fun _ hk => hk.2) (.string ((rd_T31 l0 x43_3).f0))) (fun _ hk => hk.2) (.int .i64 ((rd_T31 l0 x43_3).f1))) (fun _ hk => hk.2) (.int .i64 ((rd_T31 l0 x43_3).f2))) (fun _ hk => hk.2) (.int .i64 ((rd_T31 l0 x43_3).f3))) (fun _ hk => hk.2) (.int .i64 ((rd_T31 l0 x43_3).f4))) (fun _ h_ => h_.1)))); (case side2 => exact (Kd.R_reads' HO_10.out).2.1); (case side3 => refine C_box_ (t := 31) (cs := [.string ((rd_T31 l0 x43_3).f0), .int .i64 ((rd_T31 l0 x43_3).f1), .int .i64 ((rd_T31 l0 x43_3).f2), .int .i64 ((rd_T31 l0 x43_3).f3), .int .i64 ((rd_T31 l0 x43_3).f4)]) (by (with_reducible repeat (first | refine blk_drewN ?_ _ | refine blk_drew ?_ | refine blk_alloc ?_ _)); refine blk_put (cs := #[.string ((rd_T31 l0 x43_3).f0), .int .i64 ((rd_T31 l0 x43_3).f1), .int .i64 ((rd_T31 l0 x43_3).f2), .int .i64 ((rd_T31 l0 x43_3).f3), .int .i64 0]) ?_ 4 _ rfl; (with_reducible repeat (first | refine blk_drewN ?_ _ | refine blk_drew ?_ | refine blk_alloc ?_ _)); refine blk_put (cs := #[.string ((rd_T31 l0 x43_3).f0), .int .i64 ((rd_T31 l0 x43_3).f1), .int .i64 ((rd_T31 l0 x43_3).f2), .int .i64 0, .int .i64 0]) ?_ 3 _ rfl; (with_reducible repeat (first | refine blk_drewN ?_ _ | refine blk_drew ?_ | refine blk_alloc ?_ _)); refine blk_put (cs := #[.string ((rd_T31 l0 x43_3).f0), .int .i64 ((rd_T31 l0 x43_3).f1), .int .i64 0, .int .i64 0, .int .i64 0]) ?_ 2 _ rfl; (with_reducible repeat (first | refine blk_drewN ?_ _ | refine blk_drew ?_ | refine blk_alloc ?_ _)); refine blk_put (cs := #[.string ((rd_T31 l0 x43_3).f0), .int .i64 0, .int .i64 0, .int .i64 0, .int .i64 0]) ?_ 1 _ rfl; (with_reducible repeat (first | refine blk_drewN ?_ _ | refine blk_drew ?_ | refine blk_alloc ?_ _)); refine blk_put (cs := #[.string (⟨#[]⟩ : ByteArray), .int .i64 0, .int .i64 0, .int .i64 0, .int .i64 0]) ?_ 0 _ rfl; (with_reducible repeat (first | refine blk_drewN ?_ _ | refine blk_drew ?_ | refine blk_alloc ?_ _)); exact BK290.out) ?_; exact k31_mk _ _); (case side4 => exact Nat.le_refl _); (case side5 => refine C_box_ (t := 2) (cs := [.int .i64 a1]) (by (with_reducible repeat (first | refine blk_drewN ?_ _ | refine blk_drew ?_ | refine blk_alloc ?_ _)); refine blk_far ?_ NB277_290.out _; (with_reducible repeat (first | refine blk_drewN ?_ _ | refine blk_drew ?_ | refine blk_alloc ?_ _)); refine blk_far ?_ NB277_290.out _; (with_reducible repeat (first | refine blk_drewN ?_ _ | refine blk_drew ?_ | refine blk_alloc ?_ _)); refine blk_far ?_ NB277_290.out _; (with_reducible repeat (first | refine blk_drewN ?_ _ | refine blk_drew ?_ | refine blk_alloc ?_ _)); refine blk_far ?_ NB277_290.out _; (with_reducible repeat (first | refine blk_drewN ?_ _ | refine blk_drew ?_ | refine blk_alloc ?_ _)); refine blk_far ?_ NB277_290.out _; (with_reducible repeat (first | refine blk_drewN ?_ _ | refine blk_drew ?_ | refine blk_alloc ?_ _)); exact BK277.out) ?_; exact rfl); (case side6 => exact Nat.le_refl _); rintro e w' ⟨rfl, ⟨nd, rfl⟩⟩; refine ⟨_, rfl, ?_⟩))
                  have n0_ : Aside0 (Kd.R (Kd.int .i64) 2 (((((w41.setCell ⟨gb290, 0, none⟩ (.string ((rd_T31 l0 x43_3).f0))).setCell ⟨gb290, 1, none⟩ (.int .i64 ((rd_T31 l0 x43_3).f1))).setCell ⟨gb290, 2, none⟩ (.int .i64 ((rd_T31 l0 x43_3).f2))).setCell ⟨gb290, 3, none⟩ (.int .i64 ((rd_T31 l0 x43_3).f3))).setCell ⟨gb290, 4, none⟩ (.int .i64 ((rd_T31 l0 x43_3).f4))) w.heap.size (fun k_ => some k_ ≠ (u11 : Value).ownBlock ∧ k_ ≠ gb277) (.slice Ao44 x10_3.length co44) x10_3) := ⟨by (with_reducible repeat (first | apply Kd.R_alloc | apply Kd.R_drewN | apply Kd.R_drew)); exact Kd.R_mono (Kd.R_far (p := ⟨gb290, 4, none⟩) (Kd.R_far (p := ⟨gb290, 3, none⟩) (Kd.R_far (p := ⟨gb290, 2, none⟩) (Kd.R_far (p := ⟨gb290, 1, none⟩) (Kd.R_far (p := ⟨gb290, 0, none⟩) (Kd.R_types HO_10.out BK290.out (by decide)) (fun _ hk => hk.2) (.string ((rd_T31 l0 x43_3).f0))) (fun _ hk => hk.2) (.int .i64 ((rd_T31 l0 x43_3).f1))) (fun _ hk => hk.2) (.int .i64 ((rd_T31 l0 x43_3).f2))) (fun _ hk => hk.2) (.int .i64 ((rd_T31 l0 x43_3).f3))) (fun _ hk => hk.2) (.int .i64 ((rd_T31 l0 x43_3).f4))) (fun _ hk => ⟨hk.1.1, hk.1.2⟩)⟩
                  have n1_ : Aside0 (Kd.R (Kd.int .i64) 2 (((((w41.setCell ⟨gb290, 0, none⟩ (.string ((rd_T31 l0 x43_3).f0))).setCell ⟨gb290, 1, none⟩ (.int .i64 ((rd_T31 l0 x43_3).f1))).setCell ⟨gb290, 2, none⟩ (.int .i64 ((rd_T31 l0 x43_3).f2))).setCell ⟨gb290, 3, none⟩ (.int .i64 ((rd_T31 l0 x43_3).f3))).setCell ⟨gb290, 4, none⟩ (.int .i64 ((rd_T31 l0 x43_3).f4))) w.heap.size (fun k_ => some k_ ≠ (.slice Ao44 x10_3.length co44 : Value).ownBlock ∧ k_ ≠ gb277) u11 x11_3) := ⟨by (with_reducible repeat (first | apply Kd.R_alloc | apply Kd.R_drewN | apply Kd.R_drew)); exact Kd.R_mono (Kd.R_far (p := ⟨gb290, 4, none⟩) (Kd.R_far (p := ⟨gb290, 3, none⟩) (Kd.R_far (p := ⟨gb290, 2, none⟩) (Kd.R_far (p := ⟨gb290, 1, none⟩) (Kd.R_far (p := ⟨gb290, 0, none⟩) (Kd.R_types HO_11.out BK290.out (by decide)) (fun _ hk => hk.2) (.string ((rd_T31 l0 x43_3).f0))) (fun _ hk => hk.2) (.int .i64 ((rd_T31 l0 x43_3).f1))) (fun _ hk => hk.2) (.int .i64 ((rd_T31 l0 x43_3).f2))) (fun _ hk => hk.2) (.int .i64 ((rd_T31 l0 x43_3).f3))) (fun _ hk => hk.2) (.int .i64 ((rd_T31 l0 x43_3).f4))) (fun _ hk => ⟨hk.1.1, hk.1.2⟩)⟩
                  have n2_ : Aside0 ((((((w41.setCell ⟨gb290, 0, none⟩ (.string ((rd_T31 l0 x43_3).f0))).setCell ⟨gb290, 1, none⟩ (.int .i64 ((rd_T31 l0 x43_3).f1))).setCell ⟨gb290, 2, none⟩ (.int .i64 ((rd_T31 l0 x43_3).f2))).setCell ⟨gb290, 3, none⟩ (.int .i64 ((rd_T31 l0 x43_3).f3))).setCell ⟨gb290, 4, none⟩ (.int .i64 ((rd_T31 l0 x43_3).f4))).heap[gb277]? = some (.cells #[.int .i64 a1] 2 (0, 0))) := ⟨by (with_reducible repeat (first | refine blk_drewN ?_ _ | refine blk_drew ?_ | refine blk_alloc ?_ _)); refine blk_far ?_ NB277_290.out _; (with_reducible repeat (first | refine blk_drewN ?_ _ | refine blk_drew ?_ | refine blk_alloc ?_ _)); refine blk_far ?_ NB277_290.out _; (with_reducible repeat (first | refine blk_drewN ?_ _ | refine blk_drew ?_ | refine blk_alloc ?_ _)); refine blk_far ?_ NB277_290.out _; (with_reducible repeat (first | refine blk_drewN ?_ _ | refine blk_drew ?_ | refine blk_alloc ?_ _)); refine blk_far ?_ NB277_290.out _; (with_reducible repeat (first | refine blk_drewN ?_ _ | refine blk_drew ?_ | refine blk_alloc ?_ _)); refine blk_far ?_ NB277_290.out _; (with_reducible repeat (first | refine blk_drewN ?_ _ | refine blk_drew ?_ | refine blk_alloc ?_ _)); exact BK277.out⟩
                  have n3_ : Aside0 ((((((w41.setCell ⟨gb290, 0, none⟩ (.string ((rd_T31 l0 x43_3).f0))).setCell ⟨gb290, 1, none⟩ (.int .i64 ((rd_T31 l0 x43_3).f1))).setCell ⟨gb290, 2, none⟩ (.int .i64 ((rd_T31 l0 x43_3).f2))).setCell ⟨gb290, 3, none⟩ (.int .i64 ((rd_T31 l0 x43_3).f3))).setCell ⟨gb290, 4, none⟩ (.int .i64 ((rd_T31 l0 x43_3).f4))).heap[gb290]? = some (.cells #[.string ((rd_T31 l0 x43_3).f0), .int .i64 ((rd_T31 l0 x43_3).f1), .int .i64 ((rd_T31 l0 x43_3).f2), .int .i64 ((rd_T31 l0 x43_3).f3), .int .i64 ((rd_T31 l0 x43_3).f4)] 31 (0, 0))) := ⟨by (with_reducible repeat (first | refine blk_drewN ?_ _ | refine blk_drew ?_ | refine blk_alloc ?_ _)); refine blk_put (cs := #[.string ((rd_T31 l0 x43_3).f0), .int .i64 ((rd_T31 l0 x43_3).f1), .int .i64 ((rd_T31 l0 x43_3).f2), .int .i64 ((rd_T31 l0 x43_3).f3), .int .i64 0]) ?_ 4 _ rfl; (with_reducible repeat (first | refine blk_drewN ?_ _ | refine blk_drew ?_ | refine blk_alloc ?_ _)); refine blk_put (cs := #[.string ((rd_T31 l0 x43_3).f0), .int .i64 ((rd_T31 l0 x43_3).f1), .int .i64 ((rd_T31 l0 x43_3).f2), .int .i64 0, .int .i64 0]) ?_ 3 _ rfl; (with_reducible repeat (first | refine blk_drewN ?_ _ | refine blk_drew ?_ | refine blk_alloc ?_ _)); refine blk_put (cs := #[.string ((rd_T31 l0 x43_3).f0), .int .i64 ((rd_T31 l0 x43_3).f1), .int .i64 0, .int .i64 0, .int .i64 0]) ?_ 2 _ rfl; (with_reducible repeat (first | refine blk_drewN ?_ _ | refine blk_drew ?_ | refine blk_alloc ?_ _)); refine blk_put (cs := #[.string ((rd_T31 l0 x43_3).f0), .int .i64 0, .int .i64 0, .int .i64 0, .int .i64 0]) ?_ 1 _ rfl; (with_reducible repeat (first | refine blk_drewN ?_ _ | refine blk_drew ?_ | refine blk_alloc ?_ _)); refine blk_put (cs := #[.string (⟨#[]⟩ : ByteArray), .int .i64 0, .int .i64 0, .int .i64 0, .int .i64 0]) ?_ 0 _ rfl; (with_reducible repeat (first | refine blk_drewN ?_ _ | refine blk_drew ?_ | refine blk_alloc ?_ _)); exact BK290.out⟩
                  have n4_ : Aside0 (Below w.heap.size w (((((w41.setCell ⟨gb290, 0, none⟩ (.string ((rd_T31 l0 x43_3).f0))).setCell ⟨gb290, 1, none⟩ (.int .i64 ((rd_T31 l0 x43_3).f1))).setCell ⟨gb290, 2, none⟩ (.int .i64 ((rd_T31 l0 x43_3).f2))).setCell ⟨gb290, 3, none⟩ (.int .i64 ((rd_T31 l0 x43_3).f3))).setCell ⟨gb290, 4, none⟩ (.int .i64 ((rd_T31 l0 x43_3).f4)))) := ⟨by repeat (first | (with_reducible first | exact HB.out | apply below_alloc | apply pw_below_drewN | apply below_drew1 | refine below_set ?_ GE277.out | refine below_set ?_ GE290.out) | exact HB.out)⟩
                  (try clear HO_10)
                  (try clear HO_11)
                  (try clear BK277)
                  (try clear BK290)
                  (try clear HB)
                  generalize (((((w41.setCell ⟨gb290, 0, none⟩ (.string ((rd_T31 l0 x43_3).f0))).setCell ⟨gb290, 1, none⟩ (.int .i64 ((rd_T31 l0 x43_3).f1))).setCell ⟨gb290, 2, none⟩ (.int .i64 ((rd_T31 l0 x43_3).f2))).setCell ⟨gb290, 3, none⟩ (.int .i64 ((rd_T31 l0 x43_3).f3))).setCell ⟨gb290, 4, none⟩ (.int .i64 ((rd_T31 l0 x43_3).f4))) = w45 at n0_ n1_ n2_ n3_ n4_ ⊢
                  have HO_10 := n0_
                  have HO_11 := n1_
                  have BK277 := n2_
                  have BK290 := n3_
                  have HB := n4_
                  clear n0_ n1_ n2_ n3_ n4_
                  (try (rw [drewN_self w45]; generalize hq_ : World.drewN w45 _ = w45; have n0_ : Aside0 (Kd.R (Kd.int .i64) 2 w45 w.heap.size (fun k_ => some k_ ≠ (u11 : Value).ownBlock ∧ k_ ≠ gb277) (.slice Ao44 x10_3.length co44) x10_3) := ⟨by rw [← hq_]; exact (by (with_reducible repeat (first | apply Kd.R_alloc | apply Kd.R_drewN | apply Kd.R_drew)); exact HO_10.out)⟩; have n1_ : Aside0 (Kd.R (Kd.int .i64) 2 w45 w.heap.size (fun k_ => some k_ ≠ (.slice Ao44 x10_3.length co44 : Value).ownBlock ∧ k_ ≠ gb277) u11 x11_3) := ⟨by rw [← hq_]; exact (by (with_reducible repeat (first | apply Kd.R_alloc | apply Kd.R_drewN | apply Kd.R_drew)); exact HO_11.out)⟩; have n2_ : Aside0 (w45.heap[gb277]? = some (.cells #[.int .i64 a1] 2 (0, 0))) := ⟨by rw [← hq_]; exact (by (with_reducible repeat (first | refine blk_drewN ?_ _ | refine blk_drew ?_ | refine blk_alloc ?_ _)); exact BK277.out)⟩; have n3_ : Aside0 (w45.heap[gb290]? = some (.cells #[.string ((rd_T31 l0 x43_3).f0), .int .i64 ((rd_T31 l0 x43_3).f1), .int .i64 ((rd_T31 l0 x43_3).f2), .int .i64 ((rd_T31 l0 x43_3).f3), .int .i64 ((rd_T31 l0 x43_3).f4)] 31 (0, 0))) := ⟨by rw [← hq_]; exact (by (with_reducible repeat (first | refine blk_drewN ?_ _ | refine blk_drew ?_ | refine blk_alloc ?_ _)); exact BK290.out)⟩; have n4_ : Aside0 (Below w.heap.size w w45) := ⟨by rw [← hq_]; exact (by repeat (first | (with_reducible first | exact HB.out | apply below_alloc | apply pw_below_drewN | apply below_drew1 | refine below_set ?_ GE277.out | refine below_set ?_ GE290.out) | exact HB.out))⟩; clear HO_10 HO_11 BK277 BK290 HB hq_; have HO_10 := n0_; have HO_11 := n1_; have BK277 := n2_; have BK290 := n3_; have HB := n4_; clear n0_ n1_ n2_ n3_ n4_))
                  have n0_ := Aside0.mk (Kd.R_drew HO_10.out)
                  have n1_ := Aside0.mk (Kd.R_drew HO_11.out)
                  have n2_ := Aside0.mk (blk_drew BK277.out)
                  have n3_ := Aside0.mk (blk_drew BK290.out)
                  have n4_ := Aside0.mk (below_drew1 HB.out)
                  clear HO_10
                  clear HO_11
                  clear BK277
                  clear BK290
                  clear HB
                  have HO_10 := n0_
                  have HO_11 := n1_
                  have BK277 := n2_
                  have BK290 := n3_
                  have HB := n4_
                  clear n0_ n1_ n2_ n3_ n4_
                  have p292 : 0 ≤ (t291 : Int) := of_decide_eq_true (by first | (with_reducible assumption) | assumption)
                  have q292 : t291 < (x10_3.length : Int) := of_decide_eq_true (by first | (with_reducible assumption) | assumption)
                  obtain ⟨ad292, e292, hx292_0⟩ := Kd.at_int (Kd.R_reads' HO_10.out).2.2 t291 p292 q292
                  cases e292
                  replace p292 := eq_true p292
                  replace q292 := eq_true q292
                  have p39 : 0 ≤ (t291 : Int) := of_decide_eq_true (by first | (with_reducible assumption) | assumption)
                  have q39 : (t291 : Int) < ((x10_3.length : Int) : Int) := of_decide_eq_true (by first | (with_reducible assumption) | assumption)
                  obtain ⟨go39, co39, eo39, gb39, gl39, cl39, HG39⟩ := Kd.R_form HO_10.out (by omega)
                  (first | cases eo39 | (injection eo39 with ea_ en_ ec_; (first | subst ea_ | (injection ea_ with ea_; subst ea_)); subst ec_; clear en_))
                  have GB39 := Aside0.mk gb39
                  have GG39 := Aside0.mk HG39
                  clear gb39 gl39 HG39
                  (first | simp only [add_plain] at hx292_0 | skip)
                  obtain ⟨hx39_0, hf39_0⟩ := Kd.R_celln 0 HO_10.out (t291 : Int) p39 q39
                  replace p39 := eq_true p39
                  replace q39 := eq_true q39
                  have HP47 := Kd.R_putn HO_10.out (t291 : Int) (wrap64 ((rd x10_3 t291) + ((rd_T31 l0 x43_3).f4)))
                  rw [← Ny293.out] at HP47
                  have HQ47 := Aside0.mk HP47
                  clear HP47
                  refine start_ (n := 9) (S := fun w' => w'.cell? ⟨gb290, 0, none⟩ = some (.string ((rd_T31 l0 x43_3).f0)) ∧ w'.cell? ⟨gb290, 1, none⟩ = some (.int .i64 ((rd_T31 l0 x43_3).f1)) ∧ w'.cell? ⟨gb290, 2, none⟩ = some (.int .i64 ((rd_T31 l0 x43_3).f2)) ∧ w'.cell? ⟨gb290, 3, none⟩ = some (.int .i64 ((rd_T31 l0 x43_3).f3)) ∧ w'.cell? ⟨gb290, 4, none⟩ = some (.int .i64 ((rd_T31 l0 x43_3).f4)) ∧ w'.cell? ⟨go39, (t291).toNat, none⟩ = some (.int .i64 (rd x10_3 t291))) (ds := [8]) #[false, false, false, false, false, false, false, false, false] (by kernel_rfl) rfl rfl ⟨(blk_cell BK290.out 0).trans rfl, (blk_cell BK290.out 1).trans rfl, (blk_cell BK290.out 2).trans rfl, (blk_cell BK290.out 3).trans rfl, (blk_cell BK290.out 4).trans rfl, hx292_0⟩ (fun hHeld => ?_); refine with_tabW impl_Deal.tab16 impl_Deal.bits16 (fun HT_ HW_ => ?_)
                  generalize w45.drew = w46 at HO_10 HO_11 BK277 BK290 HB GG39 HQ47 hf39_0 hx292_0 hx39_0 hHeld ⊢
                  refine pure_ (i := 0) (N := some 52) (v := ?_) (a' := ?_) #[true, false, false, false, false, false, false, false, false] rfl rfl (any_of HT_.out (by kernel_rfl)) (fun _ _ _ h => h) (Or.inl ⟨by rfl, ?_⟩) ?_ ?_
                  rotate_left
                  ·intro w'
                   go_simp
                   with_reducible rfl
                  rotate_left
                  ·simp only [Act.put, sqA, sqZ, sqS, i64_w, i32_w]
                   rfl
                  refine pure_ (i := 1) (N := some 53) (v := ?_) (a' := ?_) #[true, true, false, false, false, false, false, false, false] rfl rfl (any_of HT_.out (by kernel_rfl)) (fun _ _ _ h => h) (Or.inl ⟨by rfl, ?_⟩) ?_ ?_
                  rotate_left
                  ·intro w'
                   go_simp
                   with_reducible rfl
                  rotate_left
                  ·simp only [Act.put, sqA, sqZ, sqS, i64_w, i32_w]
                   rfl
                  refine pure_ (i := 2) (N := some 54) (v := ?_) (a' := ?_) #[true, true, true, false, false, false, false, false, false] rfl rfl (any_of HT_.out (by kernel_rfl)) (fun _ _ _ h => h) (Or.inl ⟨by rfl, ?_⟩) ?_ ?_
                  rotate_left
                  ·intro w'
                   go_simp
                   with_reducible rfl
                  rotate_left
                  ·simp only [Act.put, sqA, sqZ, sqS, i64_w, i32_w]
                   rfl
                  refine pure_ (i := 4) (N := some 56) (v := ?_) (a' := ?_) #[true, true, true, false, true, false, false, false, false] rfl rfl (any_of HT_.out (by kernel_rfl)) (fun _ _ _ h => h) (Or.inl ⟨by rfl, ?_⟩) ?_ ?_
                  rotate_left
                  ·intro w'
                   go_simp
                   with_reducible rfl
                  rotate_left
                  ·simp only [Act.put, sqA, sqZ, sqS, i64_w, i32_w]
                   rfl
                  refine take_ (i := 3) (N := some 55) (v := ?_) (a' := ?_) #[true, true, true, true, true, false, false, false, false] rfl rfl (take_ofW HT_.out HW_.out (by kernel_rfl)) (fun _ _ _ h => h) (Or.inl ⟨by rfl, ?_⟩) hHeld ?_ ?_
                  rotate_left
                  ·rintro w' ⟨s0, s1, s2, s3, s4, s5⟩
                   go_simp
                   with_reducible rfl
                  rotate_left
                  ·simp only [Act.put, sqA, sqZ, sqS, i64_w, i32_w]
                   rfl
                  refine take_ (i := 5) (N := some 57) (v := ?_) (a' := ?_) #[true, true, true, true, true, true, false, false, false] rfl rfl (take_ofW HT_.out HW_.out (by kernel_rfl)) (fun _ _ _ h => h) (Or.inl ⟨by rfl, ?_⟩) hHeld ?_ ?_
                  rotate_left
                  ·rintro w' ⟨s0, s1, s2, s3, s4, s5⟩
                   go_simp
                   with_reducible rfl
                  rotate_left
                  ·simp only [Act.put, sqA, sqZ, sqS, i64_w, i32_w]
                   rfl
                  refine pure_ (i := 6) (N := some 58) (v := ?_) (a' := ?_) #[true, true, true, true, true, true, true, false, false] rfl rfl (any_of HT_.out (by kernel_rfl)) (fun _ _ _ h => h) (Or.inl ⟨by rfl, ?_⟩) ?_ ?_
                  rotate_left
                  ·intro w'
                   go_simp
                   with_reducible rfl
                  rotate_left
                  ·simp only [Act.put, sqA, sqZ, sqS, i64_w, i32_w]
                   rfl
                  refine pure_ (i := 7) (N := some 59) (v := ?_) (a' := ?_) #[true, true, true, true, true, true, true, true, false] rfl rfl (any_of HT_.out (by kernel_rfl)) (fun _ _ _ h => h) (Or.inl ⟨by rfl, ?_⟩) ?_ ?_
                  rotate_left
                  ·intro w'
                   go_simp
                   with_reducible rfl
                  rotate_left
                  ·simp only [Act.put, sqA, sqZ, sqS, i64_w, i32_w]
                   rfl
                  refine last_ (i := 8) (N := none) #[true, true, true, true, true, true, true, true, true] rfl rfl (one_of HT_.out (by kernel_rfl)) (by decide) (fun K hK => ?_)
                  refine skip_ (w1 := ?_) (by rfl) rfl ?_ ?_
                  rotate_left
                  ·go_simp
                   rfl
                  refine hK.out _ _ ?_
                  clear hK K
                  refine done_ (done_of HT_.out (by kernel_rfl)) ?_
                  try go_wp2_with (first | ((with_reducible refine gate_builtin (b := .append) (xs := #[.tmp 60, .tmp 62]) rfl ?_); at_builtin; refine Kd.R_append (Kd.int .i64) (w0 := w) w.heap.size rfl (.tmp 60) (.tmp 62) 27 2 (.int .i64 0) 8 rfl Try.underlying27 info2 rfl (by decide) (by omega) u11 x11_3 t291 [.int .i64 t291] (fun k_ => some k_ ≠ (.slice (some ⟨go39, 0, none⟩) x10_3.length co44 : Value).ownBlock ∧ k_ ≠ gb277) (fun _ => False) rfl (by first | (go_simp; done) | (go_simp; rfl)) ?aP (fun _ hk => hk.elim) ?aF ?aO ?aB ?aS ?aL ?_; (case aP => exact rfl); (case aB => exact (by repeat (first | (with_reducible first | exact HB.out | apply below_alloc | apply pw_below_drewN | apply below_drew1 | refine below_set ?_ GB39.out | refine below_set ?_ GE277.out | refine below_set ?_ GE290.out) | exact HB.out))); (case aF => exact (fun k_ hk => ⟨Kd.fresh' (Kd.R_lt (by (with_reducible repeat (first | apply Kd.R_alloc | apply Kd.R_drewN | apply Kd.R_drew)); exact HQ47.out)) k_ hk, Kd.freshB (g := gb277) (o := .cells #[.int .i64 a1] 2 (0, 0)) (by (with_reducible repeat (first | refine blk_drewN ?_ _ | refine blk_drew ?_ | refine blk_alloc ?_ _)); refine blk_far ?_ (by have h_ := Kd.R_away HO_10.out (fun _ hk => hk.2); intro e_; exact h_ (by rw [e_]; rfl)) _; (with_reducible repeat (first | refine blk_drewN ?_ _ | refine blk_drew ?_ | refine blk_alloc ?_ _)); exact BK277.out) k_ hk⟩)); (case aO => exact (by (with_reducible repeat (first | apply Kd.R_alloc | apply Kd.R_drewN | apply Kd.R_drew)); exact Kd.R_mono (Kd.R_far (p := ⟨go39, (t291 : Int).toNat, none⟩) (Kd.R_mono HO_11.out (fun k_ hk => (⟨hk, fun e_ => hk.1 (by rw [e_]; rfl)⟩ : _ ∧ k_ ≠ go39))) (fun _ hk => hk.2) (.int .i64 (wrap64 ((rd x10_3 t291) + ((rd_T31 l0 x43_3).f4))))) (fun _ hk => ⟨hk.1.1, hk.1.2⟩))); (case aS => exact (below_size (by repeat (first | (with_reducible first | exact HB.out | apply below_alloc | apply pw_below_drewN | apply below_drew1 | refine below_set ?_ GB39.out | refine below_set ?_ GE277.out | refine below_set ?_ GE290.out) | exact HB.out)))); (case aL => have := LMc40.out; omega); intro v295 w48 ho hb hg hat; rw [← Ny294.out] at ho; have n0_ := Aside0.mk (Kd.R_after (ok := (fun k_ => k_ ≠ gb277)) (by (with_reducible repeat (first | apply Kd.R_alloc | apply Kd.R_drewN | apply Kd.R_drew)); exact Kd.R_mono HQ47.out (fun _ hk => ⟨hk.2, hk.1⟩)) hg hat); have n1_ := Aside0.mk (blk_grown (g := gb277) (o := .cells #[.int .i64 a1] 2 (0, 0)) (by (with_reducible repeat (first | refine blk_drewN ?_ _ | refine blk_drew ?_ | refine blk_alloc ?_ _)); refine blk_far ?_ (by have h_ := Kd.R_away HO_10.out (fun _ hk => hk.2); intro e_; exact h_ (by rw [e_]; rfl)) _; (with_reducible repeat (first | refine blk_drewN ?_ _ | refine blk_drew ?_ | refine blk_alloc ?_ _)); exact BK277.out) hg (Kd.R_away HO_11.out (fun _ hk => hk.2))); have n2_ := Aside0.mk (blk_grown (g := gb290) (o := .cells #[.string ((rd_T31 l0 x43_3).f0), .int .i64 ((rd_T31 l0 x43_3).f1), .int .i64 ((rd_T31 l0 x43_3).f2), .int .i64 ((rd_T31 l0 x43_3).f3), .int .i64 ((rd_T31 l0 x43_3).f4)] 31 (0, 0)) (by (with_reducible repeat (first | refine blk_drewN ?_ _ | refine blk_drew ?_ | refine blk_alloc ?_ _)); refine blk_far ?_ (by have h_ := Kd.R_ne HO_10.out BK290.out (by decide); intro e_; exact h_ (by rw [e_]; rfl)) _; (with_reducible repeat (first | refine blk_drewN ?_ _ | refine blk_drew ?_ | refine blk_alloc ?_ _)); exact BK290.out) hg (Kd.R_ne HO_11.out BK290.out (by decide))); have n3_ := Aside0.mk (hb); have n4_ := Aside0.mk (ho); clear HO_10; clear BK277; clear BK290; clear HB; clear HO_11; have HO_10 := n0_; have BK277 := n1_; have BK290 := n2_; have HB := n3_; have HO296 := n4_; clear n0_ n1_ n2_ n3_ n4_; clear ho hb hg hat))
                  go_roundg k3
                  case measure => have := HJ3.out; have := HK2.out; have := HK3.out; omega
                  case rel => exact ⟨(y293), (y294), (wrap64 (x43_3 + 1)), (by first | rfl | (simp; done) | (simp [*]; done)), H', ⟨by have := HJ3.out; have := HK2.out; have := HK3.out; omega⟩, ⟨by (with_reducible repeat (first | apply Kd.R_alloc | apply Kd.R_drewN | apply Kd.R_drew)); exact Kd.R_mono HO_10.out (fun _ hk => ⟨hk.2, hk.1⟩)⟩, ⟨by (with_reducible repeat (first | apply Kd.R_alloc | apply Kd.R_drewN | apply Kd.R_drew)); exact HO296.out⟩, ⟨by (with_reducible repeat (first | refine blk_drewN ?_ _ | refine blk_drew ?_ | refine blk_alloc ?_ _)); exact BK277.out⟩, ⟨by repeat (first | (with_reducible first | exact HB.out | apply below_alloc | apply pw_below_drewN | apply below_drew1 | refine below_set ?_ GE277.out | refine below_set ?_ GE290.out) | exact HB.out)⟩⟩
                 ·rw [if_neg c40] at H
                  exact absurd H (by simp)
                ·rw [if_neg c38] at H
                 exact absurd H (by simp)
               ·rw [if_neg c37] at H
                exact absurd H (by simp)
              ·rw [if_neg c36] at H
               have c36b0 : decide (0 ≤ t291) = false := decide_eq_false c36
               clear c36
               by_cases c49 : x11_3.length < 17592186044416
               ·rw [if_pos c49] at H
                have LMc49 := Aside0.mk c49
                clear c49
                obtain ⟨y297, hy297⟩ : ∃ y_ : List Int, y_ = (x11_3 ++ [t291]) := ⟨_, rfl⟩
                replace H : (impl_Deal.l1 k3 x10_3 y297 l0 (l0.length : Int) (wrap64 (x43_3 + 1)) a1) = some (r1, r2) := by first | (rw [hy297]; with_reducible exact H) | (have H2_ := (Option.bind_some _ _).symm.trans H; rw [hy297]; with_reducible exact H2_) | (have H2_ := (Option.bind_some _ _).symm.trans H; with_reducible exact H2_) | with_reducible exact H | (rw [hy297]; exact H) | exact H
                have Ny297 := Aside0.mk hy297
                clear hy297
                have H' := Aside0.mk H
                clear H
                have p289 : 0 ≤ (x43_3 : Int) := of_decide_eq_true (by first | (with_reducible assumption) | assumption)
                have q289 : x43_3 < (l0.length : Int) := of_decide_eq_true (by first | (with_reducible assumption) | assumption)
                obtain ⟨ad289, e289, hx289_0, hx289_1, hx289_2, hx289_3, hx289_4⟩ := at_T31 HR0.out x43_3 p289 q289
                cases e289
                replace hx289_0 := (HB.out.cell (World.block_lt_of_cell? w _ hx289_0)).trans hx289_0
                replace hx289_1 := (HB.out.cell (World.block_lt_of_cell? w _ hx289_1)).trans hx289_1
                replace hx289_2 := (HB.out.cell (World.block_lt_of_cell? w _ hx289_2)).trans hx289_2
                replace hx289_3 := (HB.out.cell (World.block_lt_of_cell? w _ hx289_3)).trans hx289_3
                replace hx289_4 := (HB.out.cell (World.block_lt_of_cell? w _ hx289_4)).trans hx289_4
                replace p289 := eq_true p289
                replace q289 := eq_true q289
                go_wp2_with (first | ((with_reducible refine gate_dst (N := 13) rfl ?_); refine box_event ?hg (N := 13) ?hd (cs := #[.string (⟨#[]⟩ : ByteArray), .int .i64 0, .int .i64 0, .int .i64 0, .int .i64 0]) (t := 31) ?hr ?_; (case hd => rfl); (case hg => rfl); (case hr => first | (go_simp; done) | (go_simp; rfl)); intro gb290 hg w50 hbox hb; have n0_ := Aside0.mk (Kd.R_below (by (with_reducible repeat (first | apply Kd.R_alloc | apply Kd.R_drewN | apply Kd.R_drew)); exact HO_10.out) hb); have n1_ := Aside0.mk (Kd.R_below (by (with_reducible repeat (first | apply Kd.R_alloc | apply Kd.R_drewN | apply Kd.R_drew)); exact HO_11.out) hb); have n2_ := Aside0.mk (blk_below (g := gb277) (o := .cells #[.int .i64 a1] 2 (0, 0)) (by (with_reducible repeat (first | refine blk_drewN ?_ _ | refine blk_drew ?_ | refine blk_alloc ?_ _)); exact BK277.out) hb); have n3_ := Aside0.mk (below_step (by repeat (first | (with_reducible first | exact HB.out | apply below_alloc | apply pw_below_drewN | apply below_drew1 | refine below_set ?_ GE277.out) | exact HB.out)) hb); have n4_ := Aside0.mk (hbox); have n5_ := Aside0.mk ((by rw [hg]; exact (below_size (by repeat (first | (with_reducible first | exact HB.out | apply below_alloc | apply pw_below_drewN | apply below_drew1 | refine below_set ?_ GE277.out) | exact HB.out))) : w.heap.size ≤ gb290)); have n6_ := Aside0.mk ((by rw [hg]; exact (below_size (by repeat (first | (with_reducible first | exact HB.out | apply below_alloc | apply pw_below_drewN | apply below_drew1 | refine below_set ?_ GE277.out) | exact HB.out))) : w.heap.size ≤ gb290)); have n7_ := Aside0.mk ((by rw [hg]; exact Nat.ne_of_lt (blk_lt (g := gb277) (o := .cells #[.int .i64 a1] 2 (0, 0)) (by (with_reducible repeat (first | refine blk_drewN ?_ _ | refine blk_drew ?_ | refine blk_alloc ?_ _)); exact BK277.out)) : gb277 ≠ gb290)); have n8_ := Aside0.mk ((by rw [hg]; exact Nat.ne_of_gt (blk_lt (g := gb277) (o := .cells #[.int .i64 a1] 2 (0, 0)) (by (with_reducible repeat (first | refine blk_drewN ?_ _ | refine blk_drew ?_ | refine blk_alloc ?_ _)); exact BK277.out)) : gb290 ≠ gb277)); clear HO_10; clear HO_11; clear BK277; clear HB; have HO_10 := n0_; have HO_11 := n1_; have BK277 := n2_; have HB := n3_; have BK290 := n4_; have GW290 := n5_; have GE290 := n6_; have NB277_290 := n7_; have NB290_277 := n8_; clear n0_ n1_ n2_ n3_ n4_ n5_ n6_ n7_ n8_; clear hb hbox hg; have hnb51 := NB290_277.out; have hnc51 := NB277_290.out; have hcz52_0 : w50.cell? ⟨gb290, 0, none⟩ = some (.string (⟨#[]⟩ : ByteArray)) := (blk_cell BK290.out 0).trans rfl; have hcz52_1 : w50.cell? ⟨gb290, 1, none⟩ = some (.int .i64 0) := (blk_cell BK290.out 1).trans rfl; have hcz52_2 : w50.cell? ⟨gb290, 2, none⟩ = some (.int .i64 0) := (blk_cell BK290.out 2).trans rfl; have hcz52_3 : w50.cell? ⟨gb290, 3, none⟩ = some (.int .i64 0) := (blk_cell BK290.out 3).trans rfl; have hcz52_4 : w50.cell? ⟨gb290, 4, none⟩ = some (.int .i64 0) := (blk_cell BK290.out 4).trans rfl; have hfz52_0 := blk_frozen BK290.out 0; have hfz52_1 := blk_frozen BK290.out 1; have hfz52_2 := blk_frozen BK290.out 2; have hfz52_3 := blk_frozen BK290.out 3; have hfz52_4 := blk_frozen BK290.out 4; obtain ⟨Ao53, co53, eo53⟩ := Kd.R_slice HO_10.out; subst eo53) | ((with_reducible refine gate_callee (f := 44) rfl ?_); refine goesL_ (some 49) rfl rfl Try.func44 (by kernel_rfl) rfl #[.slice Ao53 x10_3.length co53, .func (.func 45) #[] #[.pointer (some ⟨gb290, 0, none⟩), .pointer (some ⟨gb277, 0, none⟩)]] rfl (by (try simp only [List.map_toArray, List.map_cons, List.map_nil]); first | done | rfl | (simp only [List.length_drop, List.length_take]; rfl)) ?_; (with_reducible refine (slices_IndexFunc_int64_int64_impl_Deal_1.calls k3 _ _ x10_3 _ [(⟨(rd_T31 l0 x43_3).f0, (rd_T31 l0 x43_3).f1, (rd_T31 l0 x43_3).f2, (rd_T31 l0 x43_3).f3, (rd_T31 l0 x43_3).f4⟩ : S31)] _ [a1] t291 _ ?side1 ?side2 ?side3 ?side4 ?side5 ?side6 A35.out).mono ?_); (case side1 => refine (Kd.R_reads' (e := 2) (base := w.heap.size) (ok := fun k_ => (some k_ ≠ (u11 : Value).ownBlock ∧ k_ ≠ gb277)) (n := x10_3.length) (c := co53) ?_).2.2; exact (by (with_reducible repeat (first | apply Kd.R_alloc | apply Kd.R_drewN | apply Kd.R_drew)); exact (Kd.R_mono (Kd.R_far (p := ⟨gb290, 4, none⟩) (Kd.R_far (p := ⟨gb290, 3, none⟩) (Kd.R_far (p := ⟨gb290, 2, none⟩) (Kd.R_far (p := ⟨gb290, 1, none⟩) (Kd.R_far (p := ⟨gb290, 0, none⟩) (Kd.R_types HO_10.out BK290.out (by decide)) (fun _ hk => hk.2) (.string ((rd_T31 l0 x43_3).f0))) (fun _ hk => hk.2) (.int .i64 ((rd_T31 l0 x43_3).f1))) (fun _ hk => hk.2) (.int .i64 ((rd_T31 l0 x43_3).f2))) (fun _ hk => hk.2) (.int .i64 ((rd_T31 l0 x43_3).f3))) (fun _ hk => hk.2) (.int .i64 ((rd_T31 l0 x43_3).f4))) (fun _ h_ => h_.1)))); (case side2 => exact (Kd.R_reads' HO_10.out).2.1); (case side3 => refine C_box_ (t := 31) (cs := [.string ((rd_T31 l0 x43_3).f0), .int .i64 ((rd_T31 l0 x43_3).f1), .int .i64 ((rd_T31 l0 x43_3).f2), .int .i64 ((rd_T31 l0 x43_3).f3), .int .i64 ((rd_T31 l0 x43_3).f4)]) (by (with_reducible repeat (first | refine blk_drewN ?_ _ | refine blk_drew ?_ | refine blk_alloc ?_ _)); refine blk_put (cs := #[.string ((rd_T31 l0 x43_3).f0), .int .i64 ((rd_T31 l0 x43_3).f1), .int .i64 ((rd_T31 l0 x43_3).f2), .int .i64 ((rd_T31 l0 x43_3).f3), .int .i64 0]) ?_ 4 _ rfl; (with_reducible repeat (first | refine blk_drewN ?_ _ | refine blk_drew ?_ | refine blk_alloc ?_ _)); refine blk_put (cs := #[.string ((rd_T31 l0 x43_3).f0), .int .i64 ((rd_T31 l0 x43_3).f1), .int .i64 ((rd_T31 l0 x43_3).f2), .int .i64 0, .int .i64 0]) ?_ 3 _ rfl; (with_reducible repeat (first | refine blk_drewN ?_ _ | refine blk_drew ?_ | refine blk_alloc ?_ _)); refine blk_put (cs := #[.string ((rd_T31 l0 x43_3).f0), .int .i64 ((rd_T31 l0 x43_3).f1), .int .i64 0, .int .i64 0, .int .i64 0]) ?_ 2 _ rfl; (with_reducible repeat (first | refine blk_drewN ?_ _ | refine blk_drew ?_ | refine blk_alloc ?_ _)); refine blk_put (cs := #[.string ((rd_T31 l0 x43_3).f0), .int .i64 0, .int .i64 0, .int .i64 0, .int .i64 0]) ?_ 1 _ rfl; (with_reducible repeat (first | refine blk_drewN ?_ _ | refine blk_drew ?_ | refine blk_alloc ?_ _)); refine blk_put (cs := #[.string (⟨#[]⟩ : ByteArray), .int .i64 0, .int .i64 0, .int .i64 0, .int .i64 0]) ?_ 0 _ rfl; (with_reducible repeat (first | refine blk_drewN ?_ _ | refine blk_drew ?_ | refine blk_alloc ?_ _)); exact BK290.out) ?_; exact k31_mk _ _); (case side4 => exact Nat.le_refl _); (case side5 => refine C_box_ (t := 2) (cs := [.int .i64 a1]) (by (with_reducible repeat (first | refine blk_drewN ?_ _ | refine blk_drew ?_ | refine blk_alloc ?_ _)); refine blk_far ?_ NB277_290.out _; (with_reducible repeat (first | refine blk_drewN ?_ _ | refine blk_drew ?_ | refine blk_alloc ?_ _)); refine blk_far ?_ NB277_290.out _; (with_reducible repeat (first | refine blk_drewN ?_ _ | refine blk_drew ?_ | refine blk_alloc ?_ _)); refine blk_far ?_ NB277_290.out _; (with_reducible repeat (first | refine blk_drewN ?_ _ | refine blk_drew ?_ | refine blk_alloc ?_ _)); refine blk_far ?_ NB277_290.out _; (with_reducible repeat (first | refine blk_drewN ?_ _ | refine blk_drew ?_ | refine blk_alloc ?_ _)); refine blk_far ?_ NB277_290.out _; (with_reducible repeat (first | refine blk_drewN ?_ _ | refine blk_drew ?_ | refine blk_alloc ?_ _)); exact BK277.out) ?_; exact rfl); (case side6 => exact Nat.le_refl _); rintro e w' ⟨rfl, ⟨nd, rfl⟩⟩; refine ⟨_, rfl, ?_⟩) | ((with_reducible refine gate_builtin (b := .append) (xs := #[.tmp 60, .tmp 62]) rfl ?_); at_builtin; refine Kd.R_append (Kd.int .i64) (w0 := w) w.heap.size rfl (.tmp 60) (.tmp 62) 27 2 (.int .i64 0) 8 rfl Try.underlying27 info2 rfl (by decide) (by omega) u11 x11_3 t291 [.int .i64 t291] (fun k_ => some k_ ≠ (.slice Ao53 x10_3.length co53 : Value).ownBlock ∧ k_ ≠ gb277) (fun _ => False) rfl (by first | (go_simp; done) | (go_simp; rfl)) ?aP (fun _ hk => hk.elim) ?aF ?aO ?aB ?aS ?aL ?_; (case aP => exact rfl); (case aB => exact (by repeat (first | (with_reducible first | exact HB.out | apply below_alloc | apply pw_below_drewN | apply below_drew1 | refine below_set ?_ GE277.out | refine below_set ?_ GE290.out) | exact HB.out))); (case aF => exact (fun k_ hk => ⟨Kd.fresh' (Kd.R_lt (by (with_reducible repeat (first | apply Kd.R_alloc | apply Kd.R_drewN | apply Kd.R_drew)); exact (Kd.R_mono (Kd.R_far (p := ⟨gb290, 4, none⟩) (Kd.R_far (p := ⟨gb290, 3, none⟩) (Kd.R_far (p := ⟨gb290, 2, none⟩) (Kd.R_far (p := ⟨gb290, 1, none⟩) (Kd.R_far (p := ⟨gb290, 0, none⟩) (Kd.R_types HO_10.out BK290.out (by decide)) (fun _ hk => hk.2) (.string ((rd_T31 l0 x43_3).f0))) (fun _ hk => hk.2) (.int .i64 ((rd_T31 l0 x43_3).f1))) (fun _ hk => hk.2) (.int .i64 ((rd_T31 l0 x43_3).f2))) (fun _ hk => hk.2) (.int .i64 ((rd_T31 l0 x43_3).f3))) (fun _ hk => hk.2) (.int .i64 ((rd_T31 l0 x43_3).f4))) (fun _ h_ => h_.1)))) k_ hk, Kd.freshB (g := gb277) (o := .cells #[.int .i64 a1] 2 (0, 0)) (by (with_reducible repeat (first | refine blk_drewN ?_ _ | refine blk_drew ?_ | refine blk_alloc ?_ _)); refine blk_far ?_ NB277_290.out _; (with_reducible repeat (first | refine blk_drewN ?_ _ | refine blk_drew ?_ | refine blk_alloc ?_ _)); refine blk_far ?_ NB277_290.out _; (with_reducible repeat (first | refine blk_drewN ?_ _ | refine blk_drew ?_ | refine blk_alloc ?_ _)); refine blk_far ?_ NB277_290.out _; (with_reducible repeat (first | refine blk_drewN ?_ _ | refine blk_drew ?_ | refine blk_alloc ?_ _)); refine blk_far ?_ NB277_290.out _; (with_reducible repeat (first | refine blk_drewN ?_ _ | refine blk_drew ?_ | refine blk_alloc ?_ _)); refine blk_far ?_ NB277_290.out _; (with_reducible repeat (first | refine blk_drewN ?_ _ | refine blk_drew ?_ | refine blk_alloc ?_ _)); exact BK277.out) k_ hk⟩)); (case aO => exact (by (with_reducible repeat (first | apply Kd.R_alloc | apply Kd.R_drewN | apply Kd.R_drew)); exact Kd.R_mono (Kd.R_far (p := ⟨gb290, 4, none⟩) (Kd.R_far (p := ⟨gb290, 3, none⟩) (Kd.R_far (p := ⟨gb290, 2, none⟩) (Kd.R_far (p := ⟨gb290, 1, none⟩) (Kd.R_far (p := ⟨gb290, 0, none⟩) (Kd.R_types HO_11.out BK290.out (by decide)) (fun _ hk => hk.2) (.string ((rd_T31 l0 x43_3).f0))) (fun _ hk => hk.2) (.int .i64 ((rd_T31 l0 x43_3).f1))) (fun _ hk => hk.2) (.int .i64 ((rd_T31 l0 x43_3).f2))) (fun _ hk => hk.2) (.int .i64 ((rd_T31 l0 x43_3).f3))) (fun _ hk => hk.2) (.int .i64 ((rd_T31 l0 x43_3).f4))) (fun _ hk => ⟨hk.1.1, hk.1.2⟩))); (case aS => exact (below_size (by repeat (first | (with_reducible first | exact HB.out | apply below_alloc | apply pw_below_drewN | apply below_drew1 | refine below_set ?_ GE277.out | refine below_set ?_ GE290.out) | exact HB.out)))); (case aL => have := LMc49.out; omega); intro v298 w54 ho hb hg hat; rw [← Ny297.out] at ho; have n0_ := Aside0.mk (Kd.R_after (ok := (fun k_ => k_ ≠ gb277)) (by (with_reducible repeat (first | apply Kd.R_alloc | apply Kd.R_drewN | apply Kd.R_drew)); exact Kd.R_mono (Kd.R_far (p := ⟨gb290, 4, none⟩) (Kd.R_far (p := ⟨gb290, 3, none⟩) (Kd.R_far (p := ⟨gb290, 2, none⟩) (Kd.R_far (p := ⟨gb290, 1, none⟩) (Kd.R_far (p := ⟨gb290, 0, none⟩) (Kd.R_types HO_10.out BK290.out (by decide)) (fun _ hk => hk.2) (.string ((rd_T31 l0 x43_3).f0))) (fun _ hk => hk.2) (.int .i64 ((rd_T31 l0 x43_3).f1))) (fun _ hk => hk.2) (.int .i64 ((rd_T31 l0 x43_3).f2))) (fun _ hk => hk.2) (.int .i64 ((rd_T31 l0 x43_3).f3))) (fun _ hk => hk.2) (.int .i64 ((rd_T31 l0 x43_3).f4))) (fun _ hk => ⟨hk.1.2, hk.1.1⟩)) hg hat); have n1_ := Aside0.mk (blk_grown (g := gb277) (o := .cells #[.int .i64 a1] 2 (0, 0)) (by (with_reducible repeat (first | refine blk_drewN ?_ _ | refine blk_drew ?_ | refine blk_alloc ?_ _)); refine blk_far ?_ NB277_290.out _; (with_reducible repeat (first | refine blk_drewN ?_ _ | refine blk_drew ?_ | refine blk_alloc ?_ _)); refine blk_far ?_ NB277_290.out _; (with_reducible repeat (first | refine blk_drewN ?_ _ | refine blk_drew ?_ | refine blk_alloc ?_ _)); refine blk_far ?_ NB277_290.out _; (with_reducible repeat (first | refine blk_drewN ?_ _ | refine blk_drew ?_ | refine blk_alloc ?_ _)); refine blk_far ?_ NB277_290.out _; (with_reducible repeat (first | refine blk_drewN ?_ _ | refine blk_drew ?_ | refine blk_alloc ?_ _)); refine blk_far ?_ NB277_290.out _; (with_reducible repeat (first | refine blk_drewN ?_ _ | refine blk_drew ?_ | refine blk_alloc ?_ _)); exact BK277.out) hg (Kd.R_away HO_11.out (fun _ hk => hk.2))); have n2_ := Aside0.mk (blk_grown (g := gb290) (o := .cells #[.string ((rd_T31 l0 x43_3).f0), .int .i64 ((rd_T31 l0 x43_3).f1), .int .i64 ((rd_T31 l0 x43_3).f2), .int .i64 ((rd_T31 l0 x43_3).f3), .int .i64 ((rd_T31 l0 x43_3).f4)] 31 (0, 0)) (by (with_reducible repeat (first | refine blk_drewN ?_ _ | refine blk_drew ?_ | refine blk_alloc ?_ _)); refine blk_put (cs := #[.string ((rd_T31 l0 x43_3).f0), .int .i64 ((rd_T31 l0 x43_3).f1), .int .i64 ((rd_T31 l0 x43_3).f2), .int .i64 ((rd_T31 l0 x43_3).f3), .int .i64 0]) ?_ 4 _ rfl; (with_reducible repeat (first | refine blk_drewN ?_ _ | refine blk_drew ?_ | refine blk_alloc ?_ _)); refine blk_put (cs := #[.string ((rd_T31 l0 x43_3).f0), .int .i64 ((rd_T31 l0 x43_3).f1), .int .i64 ((rd_T31 l0 x43_3).f2), .int .i64 0, .int .i64 0]) ?_ 3 _ rfl; (with_reducible repeat (first | refine blk_drewN ?_ _ | refine blk_drew ?_ | refine blk_alloc ?_ _)); refine blk_put (cs := #[.string ((rd_T31 l0 x43_3).f0), .int .i64 ((rd_T31 l0 x43_3).f1), .int .i64 0, .int .i64 0, .int .i64 0]) ?_ 2 _ rfl; (with_reducible repeat (first | refine blk_drewN ?_ _ | refine blk_drew ?_ | refine blk_alloc ?_ _)); refine blk_put (cs := #[.string ((rd_T31 l0 x43_3).f0), .int .i64 0, .int .i64 0, .int .i64 0, .int .i64 0]) ?_ 1 _ rfl; (with_reducible repeat (first | refine blk_drewN ?_ _ | refine blk_drew ?_ | refine blk_alloc ?_ _)); refine blk_put (cs := #[.string (⟨#[]⟩ : ByteArray), .int .i64 0, .int .i64 0, .int .i64 0, .int .i64 0]) ?_ 0 _ rfl; (with_reducible repeat (first | refine blk_drewN ?_ _ | refine blk_drew ?_ | refine blk_alloc ?_ _)); exact BK290.out) hg (Kd.R_ne HO_11.out BK290.out (by decide))); have n3_ := Aside0.mk (hb); have n4_ := Aside0.mk (ho); clear HO_10; clear BK277; clear BK290; clear HB; clear HO_11; have HO_10 := n0_; have BK277 := n1_; have BK290 := n2_; have HB := n3_; have HO299 := n4_; clear n0_ n1_ n2_ n3_ n4_; clear ho hb hg hat))
                go_roundg k3
                case measure => have := HJ3.out; have := HK2.out; have := HK3.out; omega
                case rel => exact ⟨(x10_3), (y297), (wrap64 (x43_3 + 1)), (by first | rfl | (simp; done) | (simp [*]; done)), H', ⟨by have := HJ3.out; have := HK2.out; have := HK3.out; omega⟩, ⟨by (with_reducible repeat (first | apply Kd.R_alloc | apply Kd.R_drewN | apply Kd.R_drew)); exact Kd.R_mono HO_10.out (fun _ hk => ⟨hk.2, hk.1⟩)⟩, ⟨by (with_reducible repeat (first | apply Kd.R_alloc | apply Kd.R_drewN | apply Kd.R_drew)); exact HO299.out⟩, ⟨by (with_reducible repeat (first | refine blk_drewN ?_ _ | refine blk_drew ?_ | refine blk_alloc ?_ _)); exact BK277.out⟩, ⟨by repeat (first | (with_reducible first | exact HB.out | apply below_alloc | apply pw_below_drewN | apply below_drew1 | refine below_set ?_ GE277.out | refine below_set ?_ GE290.out) | exact HB.out)⟩⟩
               ·rw [if_neg c49] at H
                exact absurd H (by simp)
             ·rw [if_neg c34] at H
              exact absurd H (by simp)
            ·rw [if_neg c33] at H
             exact absurd H (by simp)
           ·rw [if_neg c32] at H
            have c32b0 : decide (x43_3 < (l0.length : Int)) = false := decide_eq_false c32
            clear c32
            simp only [Option.some.injEq, Prod.mk.injEq] at H
            obtain ⟨rfl, rfl⟩ := H
            go_wp2
            go_ret2
            exact ⟨_, by first | rfl | (simp [errW_none, errW_some] <;> rfl) | (simp [*, errW_none, errW_some] <;> rfl), by (with_reducible repeat (first | apply Kd.R_alloc | apply Kd.R_drewN | apply Kd.R_drew)); exact Kd.R_mono HO_11.out (fun _ hk => trivial), by repeat (first | (with_reducible first | exact HB.out | apply below_alloc | apply pw_below_drewN | apply below_drew1 | refine below_set ?_ GE277.out) | exact HB.out)⟩
        ·rw [if_neg c27] at H
         exact absurd H (by simp)
       ·rw [if_neg c26] at H
        exact absurd H (by simp)

end Go.Proofs.Yteobnbichpadjab.Q
