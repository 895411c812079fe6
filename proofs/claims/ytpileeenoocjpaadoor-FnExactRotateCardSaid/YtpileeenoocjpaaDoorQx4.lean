/- Plain Lean functions with the same answers as the Go functions of this seat, and a proof for each that the Go code comes to just these answers; no condition. Written by a program of this session (the kit's printer, turned). -/
import Derived.Test.YtpileeenoocjpaaDoorQx0
namespace Go.Proofs.YtpileeenoocjpaaDoor.Q
open Go.RowKit Go.Proofs.YtpileeenoocjpaaDoorW.PrintWords Go.Proofs.YtpileeenoocjpaaDoorW.PrintLast Go.Proofs.YtpileeenoocjpaaDoorW.PrintMore Go.Proofs.YtpileeenoocjpaaDoorW.PrintFlt
attribute [local go_sem] cmp_lss cmp_leq cmp_gtr cmp_geq cmp_eql cmp_neq flt_l flt_r fgt_l fgt_r feq_l feq_r fne_l fne_r ord_lt ord_gt ord_eq ord_ne conv_int foi_fold run_store_flt
attribute [local go_sem] max2_int min2_int max_two min_two max_three min_three max_four min_four   -- for this text's walks alone
set_option linter.unusedVariables false
set_option linter.unusedSimpArgs false

/-! ### spec_l2In: function 67 -/
def spec_l2In.f (a0 : Int) (a1 : Int) (a2 : Int) : Option (Bool) := if a0 ≥ a1 then (some (decide (a0 ≤ a2))) else (some false)
set_option maxHeartbeats 8000000 in
set_option maxRecDepth 100000 in
theorem spec_l2In.calls (a0 : Int) (a1 : Int) (a2 : Int) (r : Bool) (w : World) (h : spec_l2In.f a0 a1 a2 = some r) :
  Calls Tryd.prog 67 #[.int .i64 a0, .int .i64 a1, .int .i64 a2] w fun e w' => e = .returned (.bool r) ∧ Drawn0 w w' := by
 have H : (if a0 ≥ a1 then (some (decide (a0 ≤ a2))) else (some false)) = some r := h
 clear h
 by_cases c4 : a0 ≥ a1
 ·rw [if_pos c4] at H
  have c4b0 : decide (a1 ≤ a0) = true := decide_eq_true c4
  clear c4
  obtain rfl := Option.some.inj H
  go_enter Tryd.func67, Tryd.ntmps67
  go_wp2
  go_ret
  exact ⟨by first | rfl | (simp; done) | (simp [*]; done), by repeat (first | exact Drawn0.refl _ | apply Drawn0.step)⟩
 ·rw [if_neg c4] at H
  have c4b0 : decide (a1 ≤ a0) = false := decide_eq_false c4
  clear c4
  obtain rfl := Option.some.inj H
  go_enter Tryd.func67, Tryd.ntmps67
  go_wp2
  go_ret
  exact ⟨by first | rfl | (simp; done) | (simp [*]; done), by repeat (first | exact Drawn0.refl _ | apply Drawn0.step)⟩

/-! ### spec_l20Ok: function 41 -/
def spec_l20Ok.l0 : Nat → List (S63) → Int → Option (Bool)
 | 0, _, _ => none
 | k + 1, x0, x3 => if x3 < (x0.length : Int) then (if 0 ≤ x3 then ((spec_l2In.f ((rd_T63 x0 x3).f0) (-100) 100).bind fun t134 => (if t134 = true then (spec_l20Ok.l0 k x0 (wrap64 (x3 + 1))) else (some false))) else (none)) else (some true)
def spec_l20Ok.f (k : Nat) (l0 : List (S63)) : Option (Bool) := if (l0.length : Int) > 40 then (some false) else (spec_l20Ok.l0 k l0 0)
theorem spec_l20Ok.mono_l : ∀ k, (∀ y0 y1, LeO (spec_l20Ok.l0 k y0 y1) (spec_l20Ok.l0 (k + 1) y0 y1))
 | 0 => fun _ _ r h => by simp [spec_l20Ok.l0] at h
 | k + 1 => by
  have ih0 := spec_l20Ok.mono_l k
  ·intro y0 y1
   unfold spec_l20Ok.l0
   repeat' first
   | (with_reducible exact ih0 _ _)
   | (with_reducible exact LeO.refl _)
   | (with_reducible exact LeO.none _)
   | (with_reducible refine LeO.ite ?_ ?_)
   | (with_reducible refine LeO.bind ?_ (fun _ => ?_))
   | exact ih0 _ _
   | exact LeO.none _
   | refine LeO.ite ?_ ?_
   | refine LeO.bind ?_ (fun _ => ?_)
theorem spec_l20Ok.mono : ∀ a0 k, LeO (spec_l20Ok.f k a0) (spec_l20Ok.f (k + 1) a0) := by
 intro a0 k
 have ih0 := spec_l20Ok.mono_l k
 unfold spec_l20Ok.f
 repeat' first
   | (with_reducible exact ih0 _ _)
   | (with_reducible exact LeO.refl _)
   | (with_reducible exact LeO.none _)
   | (with_reducible refine LeO.ite ?_ ?_)
   | (with_reducible refine LeO.bind ?_ (fun _ => ?_))
   | exact ih0 _ _
   | exact LeO.none _
   | refine LeO.ite ?_ ?_
   | refine LeO.bind ?_ (fun _ => ?_)
set_option maxHeartbeats 8000000 in
set_option maxRecDepth 100000 in
theorem spec_l20Ok.calls (k : Nat) (A0 : Option Addr) (c0 : Nat) (l0 : List (S63)) (r : Bool) (w : World) (hr0 : Kd.C k63 w A0 l0.length l0) (hc0 : l0.length ≤ c0) (h : spec_l20Ok.f k l0 = some r) :
  Calls Tryd.prog 41 #[.slice A0 l0.length c0] w fun e w' => e = .returned (.bool r) ∧ Drawn0 w w' := by
 have HR0 := Aside0.mk hr0
 have HC0 := Aside0.mk hc0
 clear hr0 hc0
 have H : (if (l0.length : Int) > 40 then (some false) else (spec_l20Ok.l0 k l0 0)) = some r := h
 clear h
 by_cases c2 : (l0.length : Int) > 40
 ·rw [if_pos c2] at H
  have c2b0 : decide (40 < (l0.length : Int)) = true := decide_eq_true c2
  have c2b1 : decide (40 < l0.length) = true := decide_eq_true (by omega)
  clear c2
  obtain rfl := Option.some.inj H
  go_enter Tryd.func41, Tryd.ntmps41
  go_wp2
  go_ret
  exact ⟨by first | rfl | (simp; done) | (simp [*]; done), by repeat (first | exact Drawn0.refl _ | apply Drawn0.step)⟩
 ·rw [if_neg c2] at H
  have c2b0 : decide (40 < (l0.length : Int)) = false := decide_eq_false c2
  have c2b1 : decide (40 < l0.length) = false := decide_eq_false (by omega)
  clear c2
  have H' := Aside0.mk H
  clear H
  go_enter Tryd.func41, Tryd.ntmps41
  go_wp2
  go_loopg [3] k (fun kq v3 w' => ∃ (x3_1 : Int), v3 = .int .i64 x3_1 ∧ Aside0 (spec_l20Ok.l0 kq l0 x3_1 = some r) ∧ Aside0 (kq ≤ k) ∧ Drawn0 w w')
  case atStart => exact ⟨(0), (by first | rfl | (simp; done) | (simp [*]; done)), H', ⟨Nat.le_refl _⟩, by repeat (first | exact Drawn0.refl _ | apply Drawn0.step)⟩
  case round =>
   clear H'
   try clear c2
   try clear c2b0
   try clear c2b1
   try clear p2
   obtain ⟨x3_1, rfl, HA, HK1, ⟨m1, rfl⟩⟩ := hrel
   cases gk with
   | zero => exact absurd HA.out (by simp [spec_l20Ok.l0])
   | succ k1 =>
    have H := HA.out
    clear HA
    simp only [spec_l20Ok.l0] at H
    by_cases c3 : x3_1 < (l0.length : Int)
    ·rw [if_pos c3] at H
     have c3b0 : decide (x3_1 < (l0.length : Int)) = true := decide_eq_true c3
     clear c3
     by_cases c4 : 0 ≤ x3_1
     ·rw [if_pos c4] at H
      have c4b0 : decide (0 ≤ x3_1) = true := decide_eq_true c4
      clear c4
      replace H := Option.bind_eq_some_iff.mp H
      obtain ⟨t134, A50, H⟩ := H
      replace H : (if t134 = true then (spec_l20Ok.l0 k1 l0 (wrap64 (x3_1 + 1))) else (some false)) = some r := H
      have A5 := Aside0.mk A50
      clear A50
      by_cases c6 : t134 = true
      ·subst c6
       have H1 : (spec_l20Ok.l0 k1 l0 (wrap64 (x3_1 + 1))) = some r := by rw [if_pos rfl] at H; exact H
       clear H
       have H := H1
       clear H1
       have H' := Aside0.mk H
       clear H
       have p133 : 0 ≤ (x3_1 : Int) := of_decide_eq_true (by first | (with_reducible assumption) | assumption)
       have q133 : x3_1 < (l0.length : Int) := of_decide_eq_true (by first | (with_reducible assumption) | assumption)
       obtain ⟨ad133, pf133_1, pf133_2, e133, hx133_0, hx133_1, hx133_2⟩ := at_T63 HR0.out x3_1 p133 q133
       cases e133
       replace p133 := eq_true p133
       replace q133 := eq_true q133
       go_wp2_with (first | ((with_reducible refine gate_callee (f := 67) rfl ?_); refine goesL_ (some 18) rfl rfl Tryd.func67 (by kernel_rfl) rfl #[.int .i64 ((rd_T63 l0 x3_1).f0), .int .i64 (-100), .int .i64 100] rfl (by (try simp only [List.map_toArray, List.map_cons, List.map_nil]); first | done | rfl | (simp only [List.length_drop, List.length_take]; rfl)) ?_; (with_reducible refine (spec_l2In.calls ((rd_T63 l0 x3_1).f0) (-100) 100 true _ A5.out).mono ?_); rintro e w' ⟨rfl, ⟨nd, rfl⟩⟩; refine ⟨_, rfl, ?_⟩))
       go_roundg k1
       case measure => have := HK1.out; omega
       case rel => exact ⟨(wrap64 (x3_1 + 1)), (by first | rfl | (simp; done) | (simp [*]; done)), H', ⟨by have := HK1.out; omega⟩, by repeat (first | exact Drawn0.refl _ | apply Drawn0.step)⟩
      ·replace c6 := Bool.eq_false_iff.mpr c6
       subst c6
       have H1 : (some false) = some r := by rw [if_neg (show ¬ (false = true) by decide)] at H; exact H
       clear H
       have H := H1
       clear H1
       obtain rfl := Option.some.inj H
       have p133 : 0 ≤ (x3_1 : Int) := of_decide_eq_true (by first | (with_reducible assumption) | assumption)
       have q133 : x3_1 < (l0.length : Int) := of_decide_eq_true (by first | (with_reducible assumption) | assumption)
       obtain ⟨ad133, pf133_1, pf133_2, e133, hx133_0, hx133_1, hx133_2⟩ := at_T63 HR0.out x3_1 p133 q133
       cases e133
       replace p133 := eq_true p133
       replace q133 := eq_true q133
       go_wp2_with (first | ((with_reducible refine gate_callee (f := 67) rfl ?_); refine goesL_ (some 18) rfl rfl Tryd.func67 (by kernel_rfl) rfl #[.int .i64 ((rd_T63 l0 x3_1).f0), .int .i64 (-100), .int .i64 100] rfl (by (try simp only [List.map_toArray, List.map_cons, List.map_nil]); first | done | rfl | (simp only [List.length_drop, List.length_take]; rfl)) ?_; (with_reducible refine (spec_l2In.calls ((rd_T63 l0 x3_1).f0) (-100) 100 false _ A5.out).mono ?_); rintro e w' ⟨rfl, ⟨nd, rfl⟩⟩; refine ⟨_, rfl, ?_⟩))
       go_ret
       exact ⟨by first | rfl | (simp; done) | (simp [*]; done), by repeat (first | exact Drawn0.refl _ | apply Drawn0.step)⟩
     ·rw [if_neg c4] at H
      exact absurd H (by simp)
    ·rw [if_neg c3] at H
     have c3b0 : decide (x3_1 < (l0.length : Int)) = false := decide_eq_false c3
     clear c3
     obtain rfl := Option.some.inj H
     go_wp2
     go_ret
     exact ⟨by first | rfl | (simp; done) | (simp [*]; done), by repeat (first | exact Drawn0.refl _ | apply Drawn0.step)⟩

/-! ### spec_l20Hour: function 42 -/
def spec_l20Hour.f (a0 : Int) : Option (Bool) := (spec_l2In.f a0 (-1000000) 1000000).bind fun t135 => (some t135)
set_option maxHeartbeats 8000000 in
set_option maxRecDepth 100000 in
theorem spec_l20Hour.calls (a0 : Int) (r : Bool) (w : World) (h : spec_l20Hour.f a0 = some r) :
  Calls Tryd.prog 42 #[.int .i64 a0] w fun e w' => e = .returned (.bool r) ∧ Drawn0 w w' := by
 have H : ((spec_l2In.f a0 (-1000000) 1000000).bind fun t135 => (some t135)) = some r := h
 clear h
 replace H := Option.bind_eq_some_iff.mp H
 obtain ⟨t135, A20, H⟩ := H
 replace H : (some t135) = some r := H
 have A2 := Aside0.mk A20
 clear A20
 obtain rfl := Option.some.inj H
 go_enter Tryd.func42, Tryd.ntmps42
 go_wp2_with (first | ((with_reducible refine gate_callee (f := 67) rfl ?_); refine goesL_ (some 4) rfl rfl Tryd.func67 (by kernel_rfl) rfl #[.int .i64 a0, .int .i64 (-1000000), .int .i64 1000000] rfl (by (try simp only [List.map_toArray, List.map_cons, List.map_nil]); first | done | rfl | (simp only [List.length_drop, List.length_take]; rfl)) ?_; (with_reducible refine (spec_l2In.calls a0 (-1000000) 1000000 t135 _ A2.out).mono ?_); rintro e w' ⟨rfl, ⟨nd, rfl⟩⟩; refine ⟨_, rfl, ?_⟩))
 go_ret
 exact ⟨by first | rfl | (simp; done) | (simp [*]; done), by repeat (first | exact Drawn0.refl _ | apply Drawn0.step)⟩

/-! ### spec_MulPair: function 44 -/
def spec_MulPair.f (a0_0 : Nat) (a0_1 : Nat) (a1_0 : Nat) (a1_1 : Nat) : Option (Nat × Nat) := some (fsub (fmul a0_0 a1_0) (fmul a0_1 a1_1), fadd (fmul a0_0 a1_1) (fmul a0_1 a1_0))
set_option maxHeartbeats 8000000 in
set_option maxRecDepth 100000 in
theorem spec_MulPair.calls (pa0_0 : Nat) (a0_0 : Nat) (pa0_1 : Nat) (a0_1 : Nat) (pa1_0 : Nat) (a1_0 : Nat) (pa1_1 : Nat) (a1_1 : Nat) (r1 : Nat) (r2 : Nat) (w : World) (h : spec_MulPair.f a0_0 a0_1 a1_0 a1_1 = some (r1, r2)) :
  Calls Tryd.prog 44 #[.agg #[.float .f64 (un pa0_0 a0_0), .float .f64 (un pa0_1 a0_1)], .agg #[.float .f64 (un pa1_0 a1_0), .float .f64 (un pa1_1 a1_1)]] w fun e w' => ∃ q0_ q1_ : Nat, e = .returned (.agg #[.float .f64 (un q0_ r1), .float .f64 (un q1_ r2)]) ∧ Below w.heap.size w w' := by
 have hu42 := Tryd.underlying42
 have HB := Aside0.mk (Below.refl w.heap.size w)
 have H : (some (fsub (fmul a0_0 a1_0) (fmul a0_1 a1_1), fadd (fmul a0_0 a1_1) (fmul a0_1 a1_0))) = some (r1, r2) := h
 clear h
 simp only [Option.some.injEq, Prod.mk.injEq] at H
 obtain ⟨rfl, rfl⟩ := H
 go_enter Tryd.func44, Tryd.ntmps44
 go_wp2_with (first | ((with_reducible refine gate_dst (N := 2) rfl ?_); refine box_event ?hg (N := 2) ?hd (cs := #[.float .f64 (un pa0_0 a0_0), .float .f64 (un pa0_1 a0_1)]) (t := 42) ?hr ?_; (case hd => rfl); (case hg => rfl); (case hr => first | (go_simp; done) | (go_simp; rfl)); intro gb136 hg w3 hbox hb; have n0_ := Aside0.mk (below_step (by repeat (first | (with_reducible first | exact HB.out | apply below_alloc | apply pw_below_drewN | apply below_drew1) | exact HB.out)) hb); have n1_ := Aside0.mk (hbox); have n2_ := Aside0.mk ((by rw [hg]; exact (below_size (by repeat (first | (with_reducible first | exact HB.out | apply below_alloc | apply pw_below_drewN | apply below_drew1) | exact HB.out))) : w.heap.size ≤ gb136)); have n3_ := Aside0.mk ((by rw [hg]; exact (below_size (by repeat (first | (with_reducible first | exact HB.out | apply below_alloc | apply pw_below_drewN | apply below_drew1) | exact HB.out))) : w.heap.size ≤ gb136)); clear HB; have HB := n0_; have BK136 := n1_; have GW136 := n2_; have GE136 := n3_; clear n0_ n1_ n2_ n3_; clear hb hbox hg) | ((with_reducible refine gate_dst (N := 3) rfl ?_); refine box_event ?hg (N := 3) ?hd (cs := #[.float .f64 (un pa1_0 a1_0), .float .f64 (un pa1_1 a1_1)]) (t := 42) ?hr ?_; (case hd => rfl); (case hg => rfl); (case hr => first | (go_simp; done) | (go_simp; rfl)); intro gb137 hg w4 hbox hb; have n0_ := Aside0.mk (blk_below (g := gb136) (o := .cells #[.float .f64 (un pa0_0 a0_0), .float .f64 (un pa0_1 a0_1)] 42 (0, 0)) (by (with_reducible repeat (first | refine blk_drewN ?_ _ | refine blk_drew ?_ | refine blk_alloc ?_ _)); exact BK136.out) hb); have n1_ := Aside0.mk (below_step (by repeat (first | (with_reducible first | exact HB.out | apply below_alloc | apply pw_below_drewN | apply below_drew1 | refine below_set ?_ GE136.out) | exact HB.out)) hb); have n2_ := Aside0.mk (hbox); have n3_ := Aside0.mk ((by rw [hg]; exact (below_size (by repeat (first | (with_reducible first | exact HB.out | apply below_alloc | apply pw_below_drewN | apply below_drew1 | refine below_set ?_ GE136.out) | exact HB.out))) : w.heap.size ≤ gb137)); have n4_ := Aside0.mk ((by rw [hg]; exact (below_size (by repeat (first | (with_reducible first | exact HB.out | apply below_alloc | apply pw_below_drewN | apply below_drew1 | refine below_set ?_ GE136.out) | exact HB.out))) : w.heap.size ≤ gb137)); have n5_ := Aside0.mk ((by rw [hg]; exact Nat.ne_of_lt (blk_lt (g := gb136) (o := .cells #[.float .f64 (un pa0_0 a0_0), .float .f64 (un pa0_1 a0_1)] 42 (0, 0)) (by (with_reducible repeat (first | refine blk_drewN ?_ _ | refine blk_drew ?_ | refine blk_alloc ?_ _)); exact BK136.out)) : gb136 ≠ gb137)); have n6_ := Aside0.mk ((by rw [hg]; exact Nat.ne_of_gt (blk_lt (g := gb136) (o := .cells #[.float .f64 (un pa0_0 a0_0), .float .f64 (un pa0_1 a0_1)] 42 (0, 0)) (by (with_reducible repeat (first | refine blk_drewN ?_ _ | refine blk_drew ?_ | refine blk_alloc ?_ _)); exact BK136.out)) : gb137 ≠ gb136)); clear BK136; clear HB; have BK136 := n0_; have HB := n1_; have BK137 := n2_; have GW137 := n3_; have GE137 := n4_; have NB136_137 := n5_; have NB137_136 := n6_; clear n0_ n1_ n2_ n3_ n4_ n5_ n6_; clear hb hbox hg) | ((with_reducible refine gate_dst (N := 4) rfl ?_); refine box_event ?hg (N := 4) ?hd (cs := #[.float .f64 0, .float .f64 0]) (t := 42) ?hr ?_; (case hd => rfl); (case hg => rfl); (case hr => first | (go_simp; done) | (go_simp; rfl)); intro gb138 hg w5 hbox hb; have n0_ := Aside0.mk (blk_below (g := gb136) (o := .cells #[.float .f64 (un pa0_0 a0_0), .float .f64 (un pa0_1 a0_1)] 42 (0, 0)) (by (with_reducible repeat (first | refine blk_drewN ?_ _ | refine blk_drew ?_ | refine blk_alloc ?_ _)); exact BK136.out) hb); have n1_ := Aside0.mk (blk_below (g := gb137) (o := .cells #[.float .f64 (un pa1_0 a1_0), .float .f64 (un pa1_1 a1_1)] 42 (0, 0)) (by (with_reducible repeat (first | refine blk_drewN ?_ _ | refine blk_drew ?_ | refine blk_alloc ?_ _)); exact BK137.out) hb); have n2_ := Aside0.mk (below_step (by repeat (first | (with_reducible first | exact HB.out | apply below_alloc | apply pw_below_drewN | apply below_drew1 | refine below_set ?_ GE136.out | refine below_set ?_ GE137.out) | exact HB.out)) hb); have n3_ := Aside0.mk (hbox); have n4_ := Aside0.mk ((by rw [hg]; exact (below_size (by repeat (first | (with_reducible first | exact HB.out | apply below_alloc | apply pw_below_drewN | apply below_drew1 | refine below_set ?_ GE136.out | refine below_set ?_ GE137.out) | exact HB.out))) : w.heap.size ≤ gb138)); have n5_ := Aside0.mk ((by rw [hg]; exact (below_size (by repeat (first | (with_reducible first | exact HB.out | apply below_alloc | apply pw_below_drewN | apply below_drew1 | refine below_set ?_ GE136.out | refine below_set ?_ GE137.out) | exact HB.out))) : w.heap.size ≤ gb138)); have n6_ := Aside0.mk ((by rw [hg]; exact Nat.ne_of_lt (blk_lt (g := gb136) (o := .cells #[.float .f64 (un pa0_0 a0_0), .float .f64 (un pa0_1 a0_1)] 42 (0, 0)) (by (with_reducible repeat (first | refine blk_drewN ?_ _ | refine blk_drew ?_ | refine blk_alloc ?_ _)); exact BK136.out)) : gb136 ≠ gb138)); have n7_ := Aside0.mk ((by rw [hg]; exact Nat.ne_of_gt (blk_lt (g := gb136) (o := .cells #[.float .f64 (un pa0_0 a0_0), .float .f64 (un pa0_1 a0_1)] 42 (0, 0)) (by (with_reducible repeat (first | refine blk_drewN ?_ _ | refine blk_drew ?_ | refine blk_alloc ?_ _)); exact BK136.out)) : gb138 ≠ gb136)); have n8_ := Aside0.mk ((by rw [hg]; exact Nat.ne_of_lt (blk_lt (g := gb137) (o := .cells #[.float .f64 (un pa1_0 a1_0), .float .f64 (un pa1_1 a1_1)] 42 (0, 0)) (by (with_reducible repeat (first | refine blk_drewN ?_ _ | refine blk_drew ?_ | refine blk_alloc ?_ _)); exact BK137.out)) : gb137 ≠ gb138)); have n9_ := Aside0.mk ((by rw [hg]; exact Nat.ne_of_gt (blk_lt (g := gb137) (o := .cells #[.float .f64 (un pa1_0 a1_0), .float .f64 (un pa1_1 a1_1)] 42 (0, 0)) (by (with_reducible repeat (first | refine blk_drewN ?_ _ | refine blk_drew ?_ | refine blk_alloc ?_ _)); exact BK137.out)) : gb138 ≠ gb137)); clear BK136; clear BK137; clear HB; have BK136 := n0_; have BK137 := n1_; have HB := n2_; have BK138 := n3_; have GW138 := n4_; have GE138 := n5_; have NB136_138 := n6_; have NB138_136 := n7_; have NB137_138 := n8_; have NB138_137 := n9_; clear n0_ n1_ n2_ n3_ n4_ n5_ n6_ n7_ n8_ n9_; clear hb hbox hg; have hnb6 := NB136_137.out; have hnc6 := NB137_136.out; have hnb7 := NB136_138.out; have hnc7 := NB138_136.out; have hcz8_0 : w5.cell? ⟨gb136, 0, none⟩ = some (.float .f64 (un pa0_0 a0_0)) := (blk_cell BK136.out 0).trans rfl; have hcz8_1 : w5.cell? ⟨gb136, 1, none⟩ = some (.float .f64 (un pa0_1 a0_1)) := (blk_cell BK136.out 1).trans rfl; have hfz8_0 := blk_frozen BK136.out 0; have hfz8_1 := blk_frozen BK136.out 1; have hnb9 := NB137_138.out; have hnc9 := NB138_137.out; have hcz10_0 : w5.cell? ⟨gb137, 0, none⟩ = some (.float .f64 (un pa1_0 a1_0)) := (blk_cell BK137.out 0).trans rfl; have hcz10_1 : w5.cell? ⟨gb137, 1, none⟩ = some (.float .f64 (un pa1_1 a1_1)) := (blk_cell BK137.out 1).trans rfl; have hfz10_0 := blk_frozen BK137.out 0; have hfz10_1 := blk_frozen BK137.out 1) | ((with_reducible refine gate_dst (N := 11) rfl ?_); refine fop_eventB rfl (N := 11) rfl (op := .mul) rfl rfl pa0_0 a0_0 pa1_0 a1_0 rfl rfl ?hA ?hB fmul rfl ?_; (case hA => first | rfl | exact (un_zero _).symm); (case hB => first | rfl | exact (un_zero _).symm); intro pb139 w11 hb; have n0_ := Aside0.mk (blk_below (g := gb136) (o := .cells #[.float .f64 (un pa0_0 a0_0), .float .f64 (un pa0_1 a0_1)] 42 (0, 0)) (by (with_reducible repeat (first | refine blk_drewN ?_ _ | refine blk_drew ?_ | refine blk_alloc ?_ _)); exact BK136.out) hb); have n1_ := Aside0.mk (blk_below (g := gb137) (o := .cells #[.float .f64 (un pa1_0 a1_0), .float .f64 (un pa1_1 a1_1)] 42 (0, 0)) (by (with_reducible repeat (first | refine blk_drewN ?_ _ | refine blk_drew ?_ | refine blk_alloc ?_ _)); exact BK137.out) hb); have n2_ := Aside0.mk (blk_below (g := gb138) (o := .cells #[.float .f64 0, .float .f64 0] 42 (0, 0)) (by (with_reducible repeat (first | refine blk_drewN ?_ _ | refine blk_drew ?_ | refine blk_alloc ?_ _)); exact BK138.out) hb); have n3_ := Aside0.mk (below_step (by repeat (first | (with_reducible first | exact HB.out | apply below_alloc | apply pw_below_drewN | apply below_drew1 | refine below_set ?_ GE136.out | refine below_set ?_ GE137.out | refine below_set ?_ GE138.out) | exact HB.out)) hb); clear BK136; clear BK137; clear BK138; clear HB; have BK136 := n0_; have BK137 := n1_; have BK138 := n2_; have HB := n3_; clear n0_ n1_ n2_ n3_; (try clear hb); have hcz12_0 : w11.cell? ⟨gb136, 0, none⟩ = some (.float .f64 (un pa0_0 a0_0)) := (blk_cell BK136.out 0).trans rfl; have hcz12_1 : w11.cell? ⟨gb136, 1, none⟩ = some (.float .f64 (un pa0_1 a0_1)) := (blk_cell BK136.out 1).trans rfl; have hfz12_0 := blk_frozen BK136.out 0; have hfz12_1 := blk_frozen BK136.out 1; have hcz13_0 : w11.cell? ⟨gb137, 0, none⟩ = some (.float .f64 (un pa1_0 a1_0)) := (blk_cell BK137.out 0).trans rfl; have hcz13_1 : w11.cell? ⟨gb137, 1, none⟩ = some (.float .f64 (un pa1_1 a1_1)) := (blk_cell BK137.out 1).trans rfl; have hfz13_0 := blk_frozen BK137.out 0; have hfz13_1 := blk_frozen BK137.out 1) | ((with_reducible refine gate_dst (N := 16) rfl ?_); refine fop_eventB rfl (N := 16) rfl (op := .mul) rfl rfl pa0_1 a0_1 pa1_1 a1_1 rfl rfl ?hA ?hB fmul rfl ?_; (case hA => first | rfl | exact (un_zero _).symm); (case hB => first | rfl | exact (un_zero _).symm); intro pb140 w14 hb; have n0_ := Aside0.mk (blk_below (g := gb136) (o := .cells #[.float .f64 (un pa0_0 a0_0), .float .f64 (un pa0_1 a0_1)] 42 (0, 0)) (by (with_reducible repeat (first | refine blk_drewN ?_ _ | refine blk_drew ?_ | refine blk_alloc ?_ _)); exact BK136.out) hb); have n1_ := Aside0.mk (blk_below (g := gb137) (o := .cells #[.float .f64 (un pa1_0 a1_0), .float .f64 (un pa1_1 a1_1)] 42 (0, 0)) (by (with_reducible repeat (first | refine blk_drewN ?_ _ | refine blk_drew ?_ | refine blk_alloc ?_ _)); exact BK137.out) hb); have n2_ := Aside0.mk (blk_below (g := gb138) (o := .cells #[.float .f64 0, .float .f64 0] 42 (0, 0)) (by (with_reducible repeat (first | refine blk_drewN ?_ _ | refine blk_drew ?_ | refine blk_alloc ?_ _)); exact BK138.out) hb); have n3_ := Aside0.mk (below_step (by repeat (first | (with_reducible first | exact HB.out | apply below_alloc | apply pw_below_drewN | apply below_drew1 | refine below_set ?_ GE136.out | refine below_set ?_ GE137.out | refine below_set ?_ GE138.out) | exact HB.out)) hb); clear BK136; clear BK137; clear BK138; clear HB; have BK136 := n0_; have BK137 := n1_; have BK138 := n2_; have HB := n3_; clear n0_ n1_ n2_ n3_; (try clear hb)) | ((with_reducible refine gate_dst (N := 17) rfl ?_); refine fop_eventB rfl (N := 17) rfl (op := .sub) rfl rfl pb139 (fmul a0_0 a1_0) pb140 (fmul a0_1 a1_1) rfl rfl ?hA ?hB fsub rfl ?_; (case hA => first | rfl | exact (un_zero _).symm); (case hB => first | rfl | exact (un_zero _).symm); intro pb141 w15 hb; have n0_ := Aside0.mk (blk_below (g := gb136) (o := .cells #[.float .f64 (un pa0_0 a0_0), .float .f64 (un pa0_1 a0_1)] 42 (0, 0)) (by (with_reducible repeat (first | refine blk_drewN ?_ _ | refine blk_drew ?_ | refine blk_alloc ?_ _)); exact BK136.out) hb); have n1_ := Aside0.mk (blk_below (g := gb137) (o := .cells #[.float .f64 (un pa1_0 a1_0), .float .f64 (un pa1_1 a1_1)] 42 (0, 0)) (by (with_reducible repeat (first | refine blk_drewN ?_ _ | refine blk_drew ?_ | refine blk_alloc ?_ _)); exact BK137.out) hb); have n2_ := Aside0.mk (blk_below (g := gb138) (o := .cells #[.float .f64 0, .float .f64 0] 42 (0, 0)) (by (with_reducible repeat (first | refine blk_drewN ?_ _ | refine blk_drew ?_ | refine blk_alloc ?_ _)); exact BK138.out) hb); have n3_ := Aside0.mk (below_step (by repeat (first | (with_reducible first | exact HB.out | apply below_alloc | apply pw_below_drewN | apply below_drew1 | refine below_set ?_ GE136.out | refine below_set ?_ GE137.out | refine below_set ?_ GE138.out) | exact HB.out)) hb); clear BK136; clear BK137; clear BK138; clear HB; have BK136 := n0_; have BK137 := n1_; have BK138 := n2_; have HB := n3_; clear n0_ n1_ n2_ n3_; (try clear hb); have hcz16_0 : w15.cell? ⟨gb136, 0, none⟩ = some (.float .f64 (un pa0_0 a0_0)) := (blk_cell BK136.out 0).trans rfl; have hcz16_1 : w15.cell? ⟨gb136, 1, none⟩ = some (.float .f64 (un pa0_1 a0_1)) := (blk_cell BK136.out 1).trans rfl; have hfz16_0 := blk_frozen BK136.out 0; have hfz16_1 := blk_frozen BK136.out 1; have hcz17_0 : w15.cell? ⟨gb137, 0, none⟩ = some (.float .f64 (un pa1_0 a1_0)) := (blk_cell BK137.out 0).trans rfl; have hcz17_1 : w15.cell? ⟨gb137, 1, none⟩ = some (.float .f64 (un pa1_1 a1_1)) := (blk_cell BK137.out 1).trans rfl; have hfz17_0 := blk_frozen BK137.out 0; have hfz17_1 := blk_frozen BK137.out 1) | ((with_reducible refine gate_dst (N := 22) rfl ?_); refine fop_eventB rfl (N := 22) rfl (op := .mul) rfl rfl pa0_0 a0_0 pa1_1 a1_1 rfl rfl ?hA ?hB fmul rfl ?_; (case hA => first | rfl | exact (un_zero _).symm); (case hB => first | rfl | exact (un_zero _).symm); intro pb142 w18 hb; have n0_ := Aside0.mk (blk_below (g := gb136) (o := .cells #[.float .f64 (un pa0_0 a0_0), .float .f64 (un pa0_1 a0_1)] 42 (0, 0)) (by (with_reducible repeat (first | refine blk_drewN ?_ _ | refine blk_drew ?_ | refine blk_alloc ?_ _)); exact BK136.out) hb); have n1_ := Aside0.mk (blk_below (g := gb137) (o := .cells #[.float .f64 (un pa1_0 a1_0), .float .f64 (un pa1_1 a1_1)] 42 (0, 0)) (by (with_reducible repeat (first | refine blk_drewN ?_ _ | refine blk_drew ?_ | refine blk_alloc ?_ _)); exact BK137.out) hb); have n2_ := Aside0.mk (blk_below (g := gb138) (o := .cells #[.float .f64 0, .float .f64 0] 42 (0, 0)) (by (with_reducible repeat (first | refine blk_drewN ?_ _ | refine blk_drew ?_ | refine blk_alloc ?_ _)); exact BK138.out) hb); have n3_ := Aside0.mk (below_step (by repeat (first | (with_reducible first | exact HB.out | apply below_alloc | apply pw_below_drewN | apply below_drew1 | refine below_set ?_ GE136.out | refine below_set ?_ GE137.out | refine below_set ?_ GE138.out) | exact HB.out)) hb); clear BK136; clear BK137; clear BK138; clear HB; have BK136 := n0_; have BK137 := n1_; have BK138 := n2_; have HB := n3_; clear n0_ n1_ n2_ n3_; (try clear hb); have hcz19_0 : w18.cell? ⟨gb136, 0, none⟩ = some (.float .f64 (un pa0_0 a0_0)) := (blk_cell BK136.out 0).trans rfl; have hcz19_1 : w18.cell? ⟨gb136, 1, none⟩ = some (.float .f64 (un pa0_1 a0_1)) := (blk_cell BK136.out 1).trans rfl; have hfz19_0 := blk_frozen BK136.out 0; have hfz19_1 := blk_frozen BK136.out 1; have hcz20_0 : w18.cell? ⟨gb137, 0, none⟩ = some (.float .f64 (un pa1_0 a1_0)) := (blk_cell BK137.out 0).trans rfl; have hcz20_1 : w18.cell? ⟨gb137, 1, none⟩ = some (.float .f64 (un pa1_1 a1_1)) := (blk_cell BK137.out 1).trans rfl; have hfz20_0 := blk_frozen BK137.out 0; have hfz20_1 := blk_frozen BK137.out 1) | ((with_reducible refine gate_dst (N := 27) rfl ?_); refine fop_eventB rfl (N := 27) rfl (op := .mul) rfl rfl pa0_1 a0_1 pa1_0 a1_0 rfl rfl ?hA ?hB fmul rfl ?_; (case hA => first | rfl | exact (un_zero _).symm); (case hB => first | rfl | exact (un_zero _).symm); intro pb143 w21 hb; have n0_ := Aside0.mk (blk_below (g := gb136) (o := .cells #[.float .f64 (un pa0_0 a0_0), .float .f64 (un pa0_1 a0_1)] 42 (0, 0)) (by (with_reducible repeat (first | refine blk_drewN ?_ _ | refine blk_drew ?_ | refine blk_alloc ?_ _)); exact BK136.out) hb); have n1_ := Aside0.mk (blk_below (g := gb137) (o := .cells #[.float .f64 (un pa1_0 a1_0), .float .f64 (un pa1_1 a1_1)] 42 (0, 0)) (by (with_reducible repeat (first | refine blk_drewN ?_ _ | refine blk_drew ?_ | refine blk_alloc ?_ _)); exact BK137.out) hb); have n2_ := Aside0.mk (blk_below (g := gb138) (o := .cells #[.float .f64 0, .float .f64 0] 42 (0, 0)) (by (with_reducible repeat (first | refine blk_drewN ?_ _ | refine blk_drew ?_ | refine blk_alloc ?_ _)); exact BK138.out) hb); have n3_ := Aside0.mk (below_step (by repeat (first | (with_reducible first | exact HB.out | apply below_alloc | apply pw_below_drewN | apply below_drew1 | refine below_set ?_ GE136.out | refine below_set ?_ GE137.out | refine below_set ?_ GE138.out) | exact HB.out)) hb); clear BK136; clear BK137; clear BK138; clear HB; have BK136 := n0_; have BK137 := n1_; have BK138 := n2_; have HB := n3_; clear n0_ n1_ n2_ n3_; (try clear hb)) | ((with_reducible refine gate_dst (N := 28) rfl ?_); refine fop_eventB rfl (N := 28) rfl (op := .add) rfl rfl pb142 (fmul a0_0 a1_1) pb143 (fmul a0_1 a1_0) rfl rfl ?hA ?hB fadd rfl ?_; (case hA => first | rfl | exact (un_zero _).symm); (case hB => first | rfl | exact (un_zero _).symm); intro pb144 w22 hb; have n0_ := Aside0.mk (blk_below (g := gb136) (o := .cells #[.float .f64 (un pa0_0 a0_0), .float .f64 (un pa0_1 a0_1)] 42 (0, 0)) (by (with_reducible repeat (first | refine blk_drewN ?_ _ | refine blk_drew ?_ | refine blk_alloc ?_ _)); exact BK136.out) hb); have n1_ := Aside0.mk (blk_below (g := gb137) (o := .cells #[.float .f64 (un pa1_0 a1_0), .float .f64 (un pa1_1 a1_1)] 42 (0, 0)) (by (with_reducible repeat (first | refine blk_drewN ?_ _ | refine blk_drew ?_ | refine blk_alloc ?_ _)); exact BK137.out) hb); have n2_ := Aside0.mk (blk_below (g := gb138) (o := .cells #[.float .f64 0, .float .f64 0] 42 (0, 0)) (by (with_reducible repeat (first | refine blk_drewN ?_ _ | refine blk_drew ?_ | refine blk_alloc ?_ _)); exact BK138.out) hb); have n3_ := Aside0.mk (below_step (by repeat (first | (with_reducible first | exact HB.out | apply below_alloc | apply pw_below_drewN | apply below_drew1 | refine below_set ?_ GE136.out | refine below_set ?_ GE137.out | refine below_set ?_ GE138.out) | exact HB.out)) hb); clear BK136; clear BK137; clear BK138; clear HB; have BK136 := n0_; have BK137 := n1_; have BK138 := n2_; have HB := n3_; clear n0_ n1_ n2_ n3_; (try clear hb); have hcz23_0 : w22.cell? ⟨gb138, 0, none⟩ = some (.float .f64 0) := (blk_cell BK138.out 0).trans rfl; have hcz23_1 : w22.cell? ⟨gb138, 1, none⟩ = some (.float .f64 0) := (blk_cell BK138.out 1).trans rfl; have hfz23_0 := blk_frozen BK138.out 0; have hfz23_1 := blk_frozen BK138.out 1))
 refine bodyPost_ret (results_cell_row rfl _ _ gb138 42 #[.float .f64 (un pb141 (fsub (fmul a0_0 a1_0) (fmul a0_1 a1_1))), .float .f64 (un pb144 (fadd (fmul a0_0 a1_1) (fmul a0_1 a1_0)))] (0, 0) _ rfl (by (with_reducible repeat (first | refine blk_drewN ?_ _ | refine blk_drew ?_ | refine blk_alloc ?_ _)); refine blk_put (cs := #[.float .f64 (un pb141 (fsub (fmul a0_0 a1_0) (fmul a0_1 a1_1))), .float .f64 0]) ?_ 1 _ rfl; (with_reducible repeat (first | refine blk_drewN ?_ _ | refine blk_drew ?_ | refine blk_alloc ?_ _)); refine blk_put (cs := #[.float .f64 0, .float .f64 0]) ?_ 0 _ rfl; (with_reducible repeat (first | refine blk_drewN ?_ _ | refine blk_drew ?_ | refine blk_alloc ?_ _)); exact BK138.out) Tryd.underlying42 rfl (by kernel_rfl)) rfl ?_
 first | (exact ⟨pb141, pb144, by first | rfl | (simp [errW_none, errW_some] <;> rfl) | (simp [*, errW_none, errW_some] <;> rfl), by repeat (first | (with_reducible first | exact HB.out | apply below_alloc | apply pw_below_drewN | apply below_drew1 | refine below_set ?_ GE136.out | refine below_set ?_ GE137.out | refine below_set ?_ GE138.out) | exact HB.out)⟩) | (exact ⟨⟨pb141, pb144, by first | rfl | (simp [errW_none, errW_some] <;> rfl) | (simp [*, errW_none, errW_some] <;> rfl)⟩, by repeat (first | (with_reducible first | exact HB.out | apply below_alloc | apply pw_below_drewN | apply below_drew1 | refine below_set ?_ GE136.out | refine below_set ?_ GE137.out | refine below_set ?_ GE138.out) | exact HB.out)⟩)

/-! ### spec_l3Sine: function 68 -/
def spec_l3Sine.f (a0 : Int) : Option (Nat) := (some (([0, 4595424355236410249, 4599832907078044661, 4602678819172646912, 4603964935624201756, 4605075134482436153, 4605975682916830378, 4606639218218904859, 4607045579204271127, 4607182418800017408] : List (Nat)) : List (Nat))).bind fun y145 => (if (Int.tmod (wrap64 ((Int.tmod a0 36) + 36)) 36) ≤ 9 then (if 0 ≤ (Int.tmod (wrap64 ((Int.tmod a0 36) + 36)) 36) then (if (Int.tmod (wrap64 ((Int.tmod a0 36) + 36)) 36) < (y145.length : Int) then (some (rd_F y145 (Int.tmod (wrap64 ((Int.tmod a0 36) + 36)) 36))) else (none)) else (none)) else (if (Int.tmod (wrap64 ((Int.tmod a0 36) + 36)) 36) ≤ 18 then (if 0 ≤ (wrap64 (18 - (Int.tmod (wrap64 ((Int.tmod a0 36) + 36)) 36))) then (if (wrap64 (18 - (Int.tmod (wrap64 ((Int.tmod a0 36) + 36)) 36))) < (y145.length : Int) then (some (rd_F y145 (wrap64 (18 - (Int.tmod (wrap64 ((Int.tmod a0 36) + 36)) 36))))) else (none)) else (none)) else (if (Int.tmod (wrap64 ((Int.tmod a0 36) + 36)) 36) ≤ 27 then (if 0 ≤ (wrap64 ((Int.tmod (wrap64 ((Int.tmod a0 36) + 36)) 36) - 18)) then (if (wrap64 ((Int.tmod (wrap64 ((Int.tmod a0 36) + 36)) 36) - 18)) < (y145.length : Int) then (some (fsub 0 (rd_F y145 (wrap64 ((Int.tmod (wrap64 ((Int.tmod a0 36) + 36)) 36) - 18))))) else (none)) else (none)) else (if 0 ≤ (wrap64 (36 - (Int.tmod (wrap64 ((Int.tmod a0 36) + 36)) 36))) then (if (wrap64 (36 - (Int.tmod (wrap64 ((Int.tmod a0 36) + 36)) 36))) < (y145.length : Int) then (some (fsub 0 (rd_F y145 (wrap64 (36 - (Int.tmod (wrap64 ((Int.tmod a0 36) + 36)) 36)))))) else (none)) else (none)))))
set_option maxHeartbeats 8000000 in
set_option maxRecDepth 100000 in
theorem spec_l3Sine.calls (a0 : Int) (r : Nat) (w : World) (h : spec_l3Sine.f a0 = some r) :
  Calls Tryd.prog 68 #[.int .i64 a0] w fun e w' => ∃ q0_ : Nat, e = .returned (.float .f64 (un q0_ r)) ∧ Below w.heap.size w w' := by
 have HB := Aside0.mk (Below.refl w.heap.size w)
 have H : ((some (([0, 4595424355236410249, 4599832907078044661, 4602678819172646912, 4603964935624201756, 4605075134482436153, 4605975682916830378, 4606639218218904859, 4607045579204271127, 4607182418800017408] : List (Nat)) : List (Nat))).bind fun y145 => (if (Int.tmod (wrap64 ((Int.tmod a0 36) + 36)) 36) ≤ 9 then (if 0 ≤ (Int.tmod (wrap64 ((Int.tmod a0 36) + 36)) 36) then (if (Int.tmod (wrap64 ((Int.tmod a0 36) + 36)) 36) < (y145.length : Int) then (some (rd_F y145 (Int.tmod (wrap64 ((Int.tmod a0 36) + 36)) 36))) else (none)) else (none)) else (if (Int.tmod (wrap64 ((Int.tmod a0 36) + 36)) 36) ≤ 18 then (if 0 ≤ (wrap64 (18 - (Int.tmod (wrap64 ((Int.tmod a0 36) + 36)) 36))) then (if (wrap64 (18 - (Int.tmod (wrap64 ((Int.tmod a0 36) + 36)) 36))) < (y145.length : Int) then (some (rd_F y145 (wrap64 (18 - (Int.tmod (wrap64 ((Int.tmod a0 36) + 36)) 36))))) else (none)) else (none)) else (if (Int.tmod (wrap64 ((Int.tmod a0 36) + 36)) 36) ≤ 27 then (if 0 ≤ (wrap64 ((Int.tmod (wrap64 ((Int.tmod a0 36) + 36)) 36) - 18)) then (if (wrap64 ((Int.tmod (wrap64 ((Int.tmod a0 36) + 36)) 36) - 18)) < (y145.length : Int) then (some (fsub 0 (rd_F y145 (wrap64 ((Int.tmod (wrap64 ((Int.tmod a0 36) + 36)) 36) - 18))))) else (none)) else (none)) else (if 0 ≤ (wrap64 (36 - (Int.tmod (wrap64 ((Int.tmod a0 36) + 36)) 36))) then (if (wrap64 (36 - (Int.tmod (wrap64 ((Int.tmod a0 36) + 36)) 36))) < (y145.length : Int) then (some (fsub 0 (rd_F y145 (wrap64 (36 - (Int.tmod (wrap64 ((Int.tmod a0 36) + 36)) 36)))))) else (none)) else (none)))))) = some r := h
 clear h
 obtain ⟨y145, hy145⟩ : ∃ y_ : List (Nat), y_ = (([0, 4595424355236410249, 4599832907078044661, 4602678819172646912, 4603964935624201756, 4605075134482436153, 4605975682916830378, 4606639218218904859, 4607045579204271127, 4607182418800017408] : List (Nat))) := ⟨_, rfl⟩
 replace H : (if (Int.tmod (wrap64 ((Int.tmod a0 36) + 36)) 36) ≤ 9 then (if 0 ≤ (Int.tmod (wrap64 ((Int.tmod a0 36) + 36)) 36) then (if (Int.tmod (wrap64 ((Int.tmod a0 36) + 36)) 36) < (y145.length : Int) then (some (rd_F y145 (Int.tmod (wrap64 ((Int.tmod a0 36) + 36)) 36))) else (none)) else (none)) else (if (Int.tmod (wrap64 ((Int.tmod a0 36) + 36)) 36) ≤ 18 then (if 0 ≤ (wrap64 (18 - (Int.tmod (wrap64 ((Int.tmod a0 36) + 36)) 36))) then (if (wrap64 (18 - (Int.tmod (wrap64 ((Int.tmod a0 36) + 36)) 36))) < (y145.length : Int) then (some (rd_F y145 (wrap64 (18 - (Int.tmod (wrap64 ((Int.tmod a0 36) + 36)) 36))))) else (none)) else (none)) else (if (Int.tmod (wrap64 ((Int.tmod a0 36) + 36)) 36) ≤ 27 then (if 0 ≤ (wrap64 ((Int.tmod (wrap64 ((Int.tmod a0 36) + 36)) 36) - 18)) then (if (wrap64 ((Int.tmod (wrap64 ((Int.tmod a0 36) + 36)) 36) - 18)) < (y145.length : Int) then (some (fsub 0 (rd_F y145 (wrap64 ((Int.tmod (wrap64 ((Int.tmod a0 36) + 36)) 36) - 18))))) else (none)) else (none)) else (if 0 ≤ (wrap64 (36 - (Int.tmod (wrap64 ((Int.tmod a0 36) + 36)) 36))) then (if (wrap64 (36 - (Int.tmod (wrap64 ((Int.tmod a0 36) + 36)) 36))) < (y145.length : Int) then (some (fsub 0 (rd_F y145 (wrap64 (36 - (Int.tmod (wrap64 ((Int.tmod a0 36) + 36)) 36)))))) else (none)) else (none))))) = some r := by first | (rw [hy145]; with_reducible exact H) | (have H2_ := (Option.bind_some _ _).symm.trans H; rw [hy145]; with_reducible exact H2_) | (have H2_ := (Option.bind_some _ _).symm.trans H; with_reducible exact H2_) | with_reducible exact H | (rw [hy145]; exact H) | exact H
 have Ny145 := Aside0.mk hy145
 clear hy145
 by_cases c2 : (Int.tmod (wrap64 ((Int.tmod a0 36) + 36)) 36) ≤ 9
 ·rw [if_pos c2] at H
  have c2b0 : decide ((Int.tmod (wrap64 ((Int.tmod a0 36) + 36)) 36) ≤ 9) = true := decide_eq_true c2
  clear c2
  obtain ⟨ji3, hji3⟩ : ∃ j_ : Int, (Int.tmod (wrap64 ((Int.tmod a0 36) + 36)) 36) = j_ := ⟨_, rfl⟩
  replace H : (if 0 ≤ (ji3) then (if (ji3) < (y145.length : Int) then (some (rd_F y145 (ji3))) else (none)) else (none)) = some r := by first | (rw [hji3] at H; exact H) | (simp only [hji3] at H ⊢; exact H)
  (try rw [hji3] at c2b0)
  by_cases c4 : 0 ≤ (ji3)
  ·rw [if_pos c4] at H
   have c4b0 : decide (0 ≤ (ji3)) = true := decide_eq_true c4
   clear c4
   by_cases c5 : (ji3) < (y145.length : Int)
   ·rw [if_pos c5] at H
    have c5b0 : decide ((ji3) < (y145.length : Int)) = true := decide_eq_true c5
    clear c5
    obtain rfl := Option.some.inj H
    go_enter Tryd.func68, Tryd.ntmps68
    go_wp2_with (first | ((with_reducible refine gate_dst (N := 4) rfl ?_); refine Kd.R_lit Kd.flt _ 24 ?hg (N := 4) ?hd (xs := ([0, 4595424355236410249, 4599832907078044661, 4602678819172646912, 4603964935624201756, 4605075134482436153, 4605975682916830378, 4606639218218904859, 4607045579204271127, 4607182418800017408] : List (Nat))) (inner := [.float .f64 0, .float .f64 4595424355236410249, .float .f64 4599832907078044661, .float .f64 4602678819172646912, .float .f64 4603964935624201756, .float .f64 4605075134482436153, .float .f64 4605975682916830378, .float .f64 4606639218218904859, .float .f64 4607045579204271127, .float .f64 4607182418800017408]) (ok := fun _ => True) (okp := fun _ => True) ?hr ?hp (fun _ hk => hk) trivial (Below.refl _ _) (Nat.le_refl _) (by simp) ?_; (case hd => rfl); (case hg => rfl); (case hr => first | (go_simp; done) | (go_simp; rfl)); (case hp => exact (Reps.one (show Kd.M Kd.flt _ _ _ 0 [.float .f64 0] from (by first | exact ⟨_, rfl⟩ | exact ⟨0, rfl⟩)) (Reps.one (show Kd.M Kd.flt _ _ _ 4595424355236410249 [.float .f64 4595424355236410249] from (by first | exact ⟨_, rfl⟩ | exact ⟨0, rfl⟩)) (Reps.one (show Kd.M Kd.flt _ _ _ 4599832907078044661 [.float .f64 4599832907078044661] from (by first | exact ⟨_, rfl⟩ | exact ⟨0, rfl⟩)) (Reps.one (show Kd.M Kd.flt _ _ _ 4602678819172646912 [.float .f64 4602678819172646912] from (by first | exact ⟨_, rfl⟩ | exact ⟨0, rfl⟩)) (Reps.one (show Kd.M Kd.flt _ _ _ 4603964935624201756 [.float .f64 4603964935624201756] from (by first | exact ⟨_, rfl⟩ | exact ⟨0, rfl⟩)) (Reps.one (show Kd.M Kd.flt _ _ _ 4605075134482436153 [.float .f64 4605075134482436153] from (by first | exact ⟨_, rfl⟩ | exact ⟨0, rfl⟩)) (Reps.one (show Kd.M Kd.flt _ _ _ 4605975682916830378 [.float .f64 4605975682916830378] from (by first | exact ⟨_, rfl⟩ | exact ⟨0, rfl⟩)) (Reps.one (show Kd.M Kd.flt _ _ _ 4606639218218904859 [.float .f64 4606639218218904859] from (by first | exact ⟨_, rfl⟩ | exact ⟨0, rfl⟩)) (Reps.one (show Kd.M Kd.flt _ _ _ 4607045579204271127 [.float .f64 4607045579204271127] from (by first | exact ⟨_, rfl⟩ | exact ⟨0, rfl⟩)) (Reps.one (show Kd.M Kd.flt _ _ _ 4607182418800017408 [.float .f64 4607182418800017408] from (by first | exact ⟨_, rfl⟩ | exact ⟨0, rfl⟩)) (Reps.none _ _)))))))))))); intro v146 w6 ho7 hb hg_ hnew_; clear hg_ hnew_; (first | rw [← Ny145.out] at ho7 | (simp only [Int.reduceToNat] at ho7; rw [← Ny145.out] at ho7)); have n0_ := Aside0.mk (Kd.R_lower ho7 (below_size (by repeat (first | (with_reducible first | exact HB.out | apply below_alloc | apply pw_below_drewN | apply below_drew1) | exact HB.out)))); have n1_ := Aside0.mk (below_step (by repeat (first | (with_reducible first | exact HB.out | apply below_alloc | apply pw_below_drewN | apply below_drew1) | exact HB.out)) hb); clear HB; have HO147 := n0_; have HB := n1_; clear n0_ n1_; clear hb ho7; obtain ⟨Ao8, co8, eo8⟩ := Kd.R_slice HO147.out; subst eo8; have p148 : 0 ≤ ((ji3) : Int) := of_decide_eq_true (by first | (with_reducible assumption) | assumption); have q148 : (ji3) < (y145.length : Int) := of_decide_eq_true (by first | (with_reducible assumption) | assumption); obtain ⟨ad148, pf148_0, e148, hx148_0⟩ := at_F (Kd.R_reads' HO147.out).2.2 (ji3) p148 q148; cases e148; replace p148 := eq_true p148; replace q148 := eq_true q148))
    go_ret
    first | (exact ⟨pf148_0, by first | rfl | (simp [errW_none, errW_some] <;> rfl) | (simp only [← hji3]; first | rfl | (simp [errW_none, errW_some] <;> rfl)) | (simp [*, errW_none, errW_some] <;> rfl), by repeat (first | (with_reducible first | exact HB.out | apply below_alloc | apply pw_below_drewN | apply below_drew1) | exact HB.out)⟩) | (exact ⟨⟨pf148_0, by first | rfl | (simp [errW_none, errW_some] <;> rfl) | (simp only [← hji3]; first | rfl | (simp [errW_none, errW_some] <;> rfl)) | (simp [*, errW_none, errW_some] <;> rfl)⟩, by repeat (first | (with_reducible first | exact HB.out | apply below_alloc | apply pw_below_drewN | apply below_drew1) | exact HB.out)⟩)
   ·rw [if_neg c5] at H
    exact absurd H (by simp)
  ·rw [if_neg c4] at H
   exact absurd H (by simp)
 ·rw [if_neg c2] at H
  have c2b0 : decide ((Int.tmod (wrap64 ((Int.tmod a0 36) + 36)) 36) ≤ 9) = false := decide_eq_false c2
  clear c2
  by_cases c9 : (Int.tmod (wrap64 ((Int.tmod a0 36) + 36)) 36) ≤ 18
  ·rw [if_pos c9] at H
   have c9b0 : decide ((Int.tmod (wrap64 ((Int.tmod a0 36) + 36)) 36) ≤ 18) = true := decide_eq_true c9
   clear c9
   obtain ⟨ji10, hji10⟩ : ∃ j_ : Int, (wrap64 (18 - (Int.tmod (wrap64 ((Int.tmod a0 36) + 36)) 36))) = j_ := ⟨_, rfl⟩
   replace H : (if 0 ≤ (ji10) then (if (ji10) < (y145.length : Int) then (some (rd_F y145 (ji10))) else (none)) else (none)) = some r := by first | (rw [hji10] at H; exact H) | (simp only [hji10] at H ⊢; exact H)
   have hji10w : (IntKind.i64.wrap (18 - (Int.tmod (wrap64 ((Int.tmod a0 36) + 36)) 36))) = ji10 := (i64_w _).trans hji10
   by_cases c11 : 0 ≤ (ji10)
   ·rw [if_pos c11] at H
    have c11b0 : decide (0 ≤ (ji10)) = true := decide_eq_true c11
    clear c11
    by_cases c12 : (ji10) < (y145.length : Int)
    ·rw [if_pos c12] at H
     have c12b0 : decide ((ji10) < (y145.length : Int)) = true := decide_eq_true c12
     clear c12
     obtain rfl := Option.some.inj H
     go_enter Tryd.func68, Tryd.ntmps68
     go_wp2_with (first | ((with_reducible refine gate_dst (N := 4) rfl ?_); refine Kd.R_lit Kd.flt _ 24 ?hg (N := 4) ?hd (xs := ([0, 4595424355236410249, 4599832907078044661, 4602678819172646912, 4603964935624201756, 4605075134482436153, 4605975682916830378, 4606639218218904859, 4607045579204271127, 4607182418800017408] : List (Nat))) (inner := [.float .f64 0, .float .f64 4595424355236410249, .float .f64 4599832907078044661, .float .f64 4602678819172646912, .float .f64 4603964935624201756, .float .f64 4605075134482436153, .float .f64 4605975682916830378, .float .f64 4606639218218904859, .float .f64 4607045579204271127, .float .f64 4607182418800017408]) (ok := fun _ => True) (okp := fun _ => True) ?hr ?hp (fun _ hk => hk) trivial (Below.refl _ _) (Nat.le_refl _) (by simp) ?_; (case hd => rfl); (case hg => rfl); (case hr => first | (go_simp; done) | (go_simp; rfl)); (case hp => exact (Reps.one (show Kd.M Kd.flt _ _ _ 0 [.float .f64 0] from (by first | exact ⟨_, rfl⟩ | exact ⟨0, rfl⟩)) (Reps.one (show Kd.M Kd.flt _ _ _ 4595424355236410249 [.float .f64 4595424355236410249] from (by first | exact ⟨_, rfl⟩ | exact ⟨0, rfl⟩)) (Reps.one (show Kd.M Kd.flt _ _ _ 4599832907078044661 [.float .f64 4599832907078044661] from (by first | exact ⟨_, rfl⟩ | exact ⟨0, rfl⟩)) (Reps.one (show Kd.M Kd.flt _ _ _ 4602678819172646912 [.float .f64 4602678819172646912] from (by first | exact ⟨_, rfl⟩ | exact ⟨0, rfl⟩)) (Reps.one (show Kd.M Kd.flt _ _ _ 4603964935624201756 [.float .f64 4603964935624201756] from (by first | exact ⟨_, rfl⟩ | exact ⟨0, rfl⟩)) (Reps.one (show Kd.M Kd.flt _ _ _ 4605075134482436153 [.float .f64 4605075134482436153] from (by first | exact ⟨_, rfl⟩ | exact ⟨0, rfl⟩)) (Reps.one (show Kd.M Kd.flt _ _ _ 4605975682916830378 [.float .f64 4605975682916830378] from (by first | exact ⟨_, rfl⟩ | exact ⟨0, rfl⟩)) (Reps.one (show Kd.M Kd.flt _ _ _ 4606639218218904859 [.float .f64 4606639218218904859] from (by first | exact ⟨_, rfl⟩ | exact ⟨0, rfl⟩)) (Reps.one (show Kd.M Kd.flt _ _ _ 4607045579204271127 [.float .f64 4607045579204271127] from (by first | exact ⟨_, rfl⟩ | exact ⟨0, rfl⟩)) (Reps.one (show Kd.M Kd.flt _ _ _ 4607182418800017408 [.float .f64 4607182418800017408] from (by first | exact ⟨_, rfl⟩ | exact ⟨0, rfl⟩)) (Reps.none _ _)))))))))))); intro v146 w13 ho14 hb hg_ hnew_; clear hg_ hnew_; (first | rw [← Ny145.out] at ho14 | (simp only [Int.reduceToNat] at ho14; rw [← Ny145.out] at ho14)); have n0_ := Aside0.mk (Kd.R_lower ho14 (below_size (by repeat (first | (with_reducible first | exact HB.out | apply below_alloc | apply pw_below_drewN | apply below_drew1) | exact HB.out)))); have n1_ := Aside0.mk (below_step (by repeat (first | (with_reducible first | exact HB.out | apply below_alloc | apply pw_below_drewN | apply below_drew1) | exact HB.out)) hb); clear HB; have HO147 := n0_; have HB := n1_; clear n0_ n1_; clear hb ho14; obtain ⟨Ao15, co15, eo15⟩ := Kd.R_slice HO147.out; subst eo15; have p149 : 0 ≤ ((ji10) : Int) := of_decide_eq_true (by first | (with_reducible assumption) | assumption); have q149 : (ji10) < (y145.length : Int) := of_decide_eq_true (by first | (with_reducible assumption) | assumption); obtain ⟨ad149, pf149_0, e149, hx149_0⟩ := at_F (Kd.R_reads' HO147.out).2.2 (ji10) p149 q149; cases e149; replace p149 := eq_true p149; replace q149 := eq_true q149))
     go_ret
     first | (exact ⟨pf149_0, by first | rfl | (simp [errW_none, errW_some] <;> rfl) | (simp only [← hji10]; first | rfl | (simp [errW_none, errW_some] <;> rfl)) | (simp [*, errW_none, errW_some] <;> rfl), by repeat (first | (with_reducible first | exact HB.out | apply below_alloc | apply pw_below_drewN | apply below_drew1) | exact HB.out)⟩) | (exact ⟨⟨pf149_0, by first | rfl | (simp [errW_none, errW_some] <;> rfl) | (simp only [← hji10]; first | rfl | (simp [errW_none, errW_some] <;> rfl)) | (simp [*, errW_none, errW_some] <;> rfl)⟩, by repeat (first | (with_reducible first | exact HB.out | apply below_alloc | apply pw_below_drewN | apply below_drew1) | exact HB.out)⟩)
    ·rw [if_neg c12] at H
     exact absurd H (by simp)
   ·rw [if_neg c11] at H
    exact absurd H (by simp)
  ·rw [if_neg c9] at H
   have c9b0 : decide ((Int.tmod (wrap64 ((Int.tmod a0 36) + 36)) 36) ≤ 18) = false := decide_eq_false c9
   clear c9
   by_cases c16 : (Int.tmod (wrap64 ((Int.tmod a0 36) + 36)) 36) ≤ 27
   ·rw [if_pos c16] at H
    have c16b0 : decide ((Int.tmod (wrap64 ((Int.tmod a0 36) + 36)) 36) ≤ 27) = true := decide_eq_true c16
    clear c16
    obtain ⟨ji17, hji17⟩ : ∃ j_ : Int, (wrap64 ((Int.tmod (wrap64 ((Int.tmod a0 36) + 36)) 36) - 18)) = j_ := ⟨_, rfl⟩
    replace H : (if 0 ≤ (ji17) then (if (ji17) < (y145.length : Int) then (some (fsub 0 (rd_F y145 (ji17)))) else (none)) else (none)) = some r := by first | (rw [hji17] at H; exact H) | (simp only [hji17] at H ⊢; exact H)
    have hji17w : (IntKind.i64.wrap ((Int.tmod (wrap64 ((Int.tmod a0 36) + 36)) 36) - 18)) = ji17 := (i64_w _).trans hji17
    by_cases c18 : 0 ≤ (ji17)
    ·rw [if_pos c18] at H
     have c18b0 : decide (0 ≤ (ji17)) = true := decide_eq_true c18
     clear c18
     by_cases c19 : (ji17) < (y145.length : Int)
     ·rw [if_pos c19] at H
      have c19b0 : decide ((ji17) < (y145.length : Int)) = true := decide_eq_true c19
      clear c19
      obtain rfl := Option.some.inj H
      go_enter Tryd.func68, Tryd.ntmps68
      go_wp2_with (first | ((with_reducible refine gate_dst (N := 4) rfl ?_); refine Kd.R_lit Kd.flt _ 24 ?hg (N := 4) ?hd (xs := ([0, 4595424355236410249, 4599832907078044661, 4602678819172646912, 4603964935624201756, 4605075134482436153, 4605975682916830378, 4606639218218904859, 4607045579204271127, 4607182418800017408] : List (Nat))) (inner := [.float .f64 0, .float .f64 4595424355236410249, .float .f64 4599832907078044661, .float .f64 4602678819172646912, .float .f64 4603964935624201756, .float .f64 4605075134482436153, .float .f64 4605975682916830378, .float .f64 4606639218218904859, .float .f64 4607045579204271127, .float .f64 4607182418800017408]) (ok := fun _ => True) (okp := fun _ => True) ?hr ?hp (fun _ hk => hk) trivial (Below.refl _ _) (Nat.le_refl _) (by simp) ?_; (case hd => rfl); (case hg => rfl); (case hr => first | (go_simp; done) | (go_simp; rfl)); (case hp => exact (Reps.one (show Kd.M Kd.flt _ _ _ 0 [.float .f64 0] from (by first | exact ⟨_, rfl⟩ | exact ⟨0, rfl⟩)) (Reps.one (show Kd.M Kd.flt _ _ _ 4595424355236410249 [.float .f64 4595424355236410249] from (by first | exact ⟨_, rfl⟩ | exact ⟨0, rfl⟩)) (Reps.one (show Kd.M Kd.flt _ _ _ 4599832907078044661 [.float .f64 4599832907078044661] from (by first | exact ⟨_, rfl⟩ | exact ⟨0, rfl⟩)) (Reps.one (show Kd.M Kd.flt _ _ _ 4602678819172646912 [.float .f64 4602678819172646912] from (by first | exact ⟨_, rfl⟩ | exact ⟨0, rfl⟩)) (Reps.one (show Kd.M Kd.flt _ _ _ 4603964935624201756 [.float .f64 4603964935624201756] from (by first | exact ⟨_, rfl⟩ | exact ⟨0, rfl⟩)) (Reps.one (show Kd.M Kd.flt _ _ _ 4605075134482436153 [.float .f64 4605075134482436153] from (by first | exact ⟨_, rfl⟩ | exact ⟨0, rfl⟩)) (Reps.one (show Kd.M Kd.flt _ _ _ 4605975682916830378 [.float .f64 4605975682916830378] from (by first | exact ⟨_, rfl⟩ | exact ⟨0, rfl⟩)) (Reps.one (show Kd.M Kd.flt _ _ _ 4606639218218904859 [.float .f64 4606639218218904859] from (by first | exact ⟨_, rfl⟩ | exact ⟨0, rfl⟩)) (Reps.one (show Kd.M Kd.flt _ _ _ 4607045579204271127 [.float .f64 4607045579204271127] from (by first | exact ⟨_, rfl⟩ | exact ⟨0, rfl⟩)) (Reps.one (show Kd.M Kd.flt _ _ _ 4607182418800017408 [.float .f64 4607182418800017408] from (by first | exact ⟨_, rfl⟩ | exact ⟨0, rfl⟩)) (Reps.none _ _)))))))))))); intro v146 w20 ho21 hb hg_ hnew_; clear hg_ hnew_; (first | rw [← Ny145.out] at ho21 | (simp only [Int.reduceToNat] at ho21; rw [← Ny145.out] at ho21)); have n0_ := Aside0.mk (Kd.R_lower ho21 (below_size (by repeat (first | (with_reducible first | exact HB.out | apply below_alloc | apply pw_below_drewN | apply below_drew1) | exact HB.out)))); have n1_ := Aside0.mk (below_step (by repeat (first | (with_reducible first | exact HB.out | apply below_alloc | apply pw_below_drewN | apply below_drew1) | exact HB.out)) hb); clear HB; have HO147 := n0_; have HB := n1_; clear n0_ n1_; clear hb ho21; obtain ⟨Ao22, co22, eo22⟩ := Kd.R_slice HO147.out; subst eo22; have p150 : 0 ≤ ((ji17) : Int) := of_decide_eq_true (by first | (with_reducible assumption) | assumption); have q150 : (ji17) < (y145.length : Int) := of_decide_eq_true (by first | (with_reducible assumption) | assumption); obtain ⟨ad150, pf150_0, e150, hx150_0⟩ := at_F (Kd.R_reads' HO147.out).2.2 (ji17) p150 q150; cases e150; replace p150 := eq_true p150; replace q150 := eq_true q150) | ((with_reducible refine gate_dst (N := 29) rfl ?_); refine fop_eventB rfl (N := 29) rfl (op := .sub) rfl rfl 0 0 pf150_0 (rd_F y145 (ji17)) rfl rfl ?hA ?hB fsub rfl ?_; (case hA => first | rfl | exact (un_zero _).symm); (case hB => first | rfl | exact (un_zero _).symm); intro pb151 w23 hb; have n0_ := Aside0.mk (Kd.R_below (by (with_reducible repeat (first | apply Kd.R_alloc | apply Kd.R_drewN | apply Kd.R_drew)); exact HO147.out) hb); have n1_ := Aside0.mk (below_step (by repeat (first | (with_reducible first | exact HB.out | apply below_alloc | apply pw_below_drewN | apply below_drew1) | exact HB.out)) hb); clear HO147; clear HB; have HO147 := n0_; have HB := n1_; clear n0_ n1_; (try clear hb)))
      go_ret
      first | (exact ⟨pb151, by first | rfl | (simp [errW_none, errW_some] <;> rfl) | (simp only [← hji17]; first | rfl | (simp [errW_none, errW_some] <;> rfl)) | (simp [*, errW_none, errW_some] <;> rfl), by repeat (first | (with_reducible first | exact HB.out | apply below_alloc | apply pw_below_drewN | apply below_drew1) | exact HB.out)⟩) | (exact ⟨⟨pb151, by first | rfl | (simp [errW_none, errW_some] <;> rfl) | (simp only [← hji17]; first | rfl | (simp [errW_none, errW_some] <;> rfl)) | (simp [*, errW_none, errW_some] <;> rfl)⟩, by repeat (first | (with_reducible first | exact HB.out | apply below_alloc | apply pw_below_drewN | apply below_drew1) | exact HB.out)⟩)
     ·rw [if_neg c19] at H
      exact absurd H (by simp)
    ·rw [if_neg c18] at H
     exact absurd H (by simp)
   ·rw [if_neg c16] at H
    have c16b0 : decide ((Int.tmod (wrap64 ((Int.tmod a0 36) + 36)) 36) ≤ 27) = false := decide_eq_false c16
    clear c16
    obtain ⟨ji24, hji24⟩ : ∃ j_ : Int, (wrap64 (36 - (Int.tmod (wrap64 ((Int.tmod a0 36) + 36)) 36))) = j_ := ⟨_, rfl⟩
    replace H : (if 0 ≤ (ji24) then (if (ji24) < (y145.length : Int) then (some (fsub 0 (rd_F y145 (ji24)))) else (none)) else (none)) = some r := by first | (rw [hji24] at H; exact H) | (simp only [hji24] at H ⊢; exact H)
    have hji24w : (IntKind.i64.wrap (36 - (Int.tmod (wrap64 ((Int.tmod a0 36) + 36)) 36))) = ji24 := (i64_w _).trans hji24
    by_cases c25 : 0 ≤ (ji24)
    ·rw [if_pos c25] at H
     have c25b0 : decide (0 ≤ (ji24)) = true := decide_eq_true c25
     clear c25
     by_cases c26 : (ji24) < (y145.length : Int)
     ·rw [if_pos c26] at H
      have c26b0 : decide ((ji24) < (y145.length : Int)) = true := decide_eq_true c26
      clear c26
      obtain rfl := Option.some.inj H
      go_enter Tryd.func68, Tryd.ntmps68
      go_wp2_with (first | ((with_reducible refine gate_dst (N := 4) rfl ?_); refine Kd.R_lit Kd.flt _ 24 ?hg (N := 4) ?hd (xs := ([0, 4595424355236410249, 4599832907078044661, 4602678819172646912, 4603964935624201756, 4605075134482436153, 4605975682916830378, 4606639218218904859, 4607045579204271127, 4607182418800017408] : List (Nat))) (inner := [.float .f64 0, .float .f64 4595424355236410249, .float .f64 4599832907078044661, .float .f64 4602678819172646912, .float .f64 4603964935624201756, .float .f64 4605075134482436153, .float .f64 4605975682916830378, .float .f64 4606639218218904859, .float .f64 4607045579204271127, .float .f64 4607182418800017408]) (ok := fun _ => True) (okp := fun _ => True) ?hr ?hp (fun _ hk => hk) trivial (Below.refl _ _) (Nat.le_refl _) (by simp) ?_; (case hd => rfl); (case hg => rfl); (case hr => first | (go_simp; done) | (go_simp; rfl)); (case hp => exact (Reps.one (show Kd.M Kd.flt _ _ _ 0 [.float .f64 0] from (by first | exact ⟨_, rfl⟩ | exact ⟨0, rfl⟩)) (Reps.one (show Kd.M Kd.flt _ _ _ 4595424355236410249 [.float .f64 4595424355236410249] from (by first | exact ⟨_, rfl⟩ | exact ⟨0, rfl⟩)) (Reps.one (show Kd.M Kd.flt _ _ _ 4599832907078044661 [.float .f64 4599832907078044661] from (by first | exact ⟨_, rfl⟩ | exact ⟨0, rfl⟩)) (Reps.one (show Kd.M Kd.flt _ _ _ 4602678819172646912 [.float .f64 4602678819172646912] from (by first | exact ⟨_, rfl⟩ | exact ⟨0, rfl⟩)) (Reps.one (show Kd.M Kd.flt _ _ _ 4603964935624201756 [.float .f64 4603964935624201756] from (by first | exact ⟨_, rfl⟩ | exact ⟨0, rfl⟩)) (Reps.one (show Kd.M Kd.flt _ _ _ 4605075134482436153 [.float .f64 4605075134482436153] from (by first | exact ⟨_, rfl⟩ | exact ⟨0, rfl⟩)) (Reps.one (show Kd.M Kd.flt _ _ _ 4605975682916830378 [.float .f64 4605975682916830378] from (by first | exact ⟨_, rfl⟩ | exact ⟨0, rfl⟩)) (Reps.one (show Kd.M Kd.flt _ _ _ 4606639218218904859 [.float .f64 4606639218218904859] from (by first | exact ⟨_, rfl⟩ | exact ⟨0, rfl⟩)) (Reps.one (show Kd.M Kd.flt _ _ _ 4607045579204271127 [.float .f64 4607045579204271127] from (by first | exact ⟨_, rfl⟩ | exact ⟨0, rfl⟩)) (Reps.one (show Kd.M Kd.flt _ _ _ 4607182418800017408 [.float .f64 4607182418800017408] from (by first | exact ⟨_, rfl⟩ | exact ⟨0, rfl⟩)) (Reps.none _ _)))))))))))); intro v146 w27 ho28 hb hg_ hnew_; clear hg_ hnew_; (first | rw [← Ny145.out] at ho28 | (simp only [Int.reduceToNat] at ho28; rw [← Ny145.out] at ho28)); have n0_ := Aside0.mk (Kd.R_lower ho28 (below_size (by repeat (first | (with_reducible first | exact HB.out | apply below_alloc | apply pw_below_drewN | apply below_drew1) | exact HB.out)))); have n1_ := Aside0.mk (below_step (by repeat (first | (with_reducible first | exact HB.out | apply below_alloc | apply pw_below_drewN | apply below_drew1) | exact HB.out)) hb); clear HB; have HO147 := n0_; have HB := n1_; clear n0_ n1_; clear hb ho28; obtain ⟨Ao29, co29, eo29⟩ := Kd.R_slice HO147.out; subst eo29; have p152 : 0 ≤ ((ji24) : Int) := of_decide_eq_true (by first | (with_reducible assumption) | assumption); have q152 : (ji24) < (y145.length : Int) := of_decide_eq_true (by first | (with_reducible assumption) | assumption); obtain ⟨ad152, pf152_0, e152, hx152_0⟩ := at_F (Kd.R_reads' HO147.out).2.2 (ji24) p152 q152; cases e152; replace p152 := eq_true p152; replace q152 := eq_true q152) | ((with_reducible refine gate_dst (N := 35) rfl ?_); refine fop_eventB rfl (N := 35) rfl (op := .sub) rfl rfl 0 0 pf152_0 (rd_F y145 (ji24)) rfl rfl ?hA ?hB fsub rfl ?_; (case hA => first | rfl | exact (un_zero _).symm); (case hB => first | rfl | exact (un_zero _).symm); intro pb153 w30 hb; have n0_ := Aside0.mk (Kd.R_below (by (with_reducible repeat (first | apply Kd.R_alloc | apply Kd.R_drewN | apply Kd.R_drew)); exact HO147.out) hb); have n1_ := Aside0.mk (below_step (by repeat (first | (with_reducible first | exact HB.out | apply below_alloc | apply pw_below_drewN | apply below_drew1) | exact HB.out)) hb); clear HO147; clear HB; have HO147 := n0_; have HB := n1_; clear n0_ n1_; (try clear hb)))
      go_ret
      first | (exact ⟨pb153, by first | rfl | (simp [errW_none, errW_some] <;> rfl) | (simp only [← hji24]; first | rfl | (simp [errW_none, errW_some] <;> rfl)) | (simp [*, errW_none, errW_some] <;> rfl), by repeat (first | (with_reducible first | exact HB.out | apply below_alloc | apply pw_below_drewN | apply below_drew1) | exact HB.out)⟩) | (exact ⟨⟨pb153, by first | rfl | (simp [errW_none, errW_some] <;> rfl) | (simp only [← hji24]; first | rfl | (simp [errW_none, errW_some] <;> rfl)) | (simp [*, errW_none, errW_some] <;> rfl)⟩, by repeat (first | (with_reducible first | exact HB.out | apply below_alloc | apply pw_below_drewN | apply below_drew1) | exact HB.out)⟩)
     ·rw [if_neg c26] at H
      exact absurd H (by simp)
    ·rw [if_neg c25] at H
     exact absurd H (by simp)

/-! ### spec_Turn: function 45 -/
def spec_Turn.f (a0 : Int) : Option (Nat × Nat) := (spec_l3Sine.f (wrap64 ((Int.tmod a0 36) + 9))).bind fun t155 => ((spec_l3Sine.f a0).bind fun t157 => (some (t155, t157)))
set_option maxHeartbeats 8000000 in
set_option maxRecDepth 100000 in
theorem spec_Turn.calls (a0 : Int) (r1 : Nat) (r2 : Nat) (w : World) (h : spec_Turn.f a0 = some (r1, r2)) :
  Calls Tryd.prog 45 #[.int .i64 a0] w fun e w' => ∃ q0_ q1_ : Nat, e = .returned (.agg #[.float .f64 (un q0_ r1), .float .f64 (un q1_ r2)]) ∧ Below w.heap.size w w' := by
 have hu42 := Tryd.underlying42
 have HB := Aside0.mk (Below.refl w.heap.size w)
 have H : ((spec_l3Sine.f (wrap64 ((Int.tmod a0 36) + 9))).bind fun t155 => ((spec_l3Sine.f a0).bind fun t157 => (some (t155, t157)))) = some (r1, r2) := h
 clear h
 replace H := Option.bind_eq_some_iff.mp H
 obtain ⟨t155, A20, H⟩ := H
 replace H : ((spec_l3Sine.f a0).bind fun t157 => (some (t155, t157))) = some (r1, r2) := H
 have A2 := Aside0.mk A20
 clear A20
 replace H := Option.bind_eq_some_iff.mp H
 obtain ⟨t157, A30, H⟩ := H
 replace H : (some (t155, t157)) = some (r1, r2) := H
 have A3 := Aside0.mk A30
 clear A30
 simp only [Option.some.injEq, Prod.mk.injEq] at H
 obtain ⟨rfl, rfl⟩ := H
 go_enter Tryd.func45, Tryd.ntmps45
 go_wp2_with (first | ((with_reducible refine gate_dst (N := 2) rfl ?_); refine box_event ?hg (N := 2) ?hd (cs := #[.float .f64 0, .float .f64 0]) (t := 42) ?hr ?_; (case hd => rfl); (case hg => rfl); (case hr => first | (go_simp; done) | (go_simp; rfl)); intro gb154 hg w4 hbox hb; have n0_ := Aside0.mk (below_step (by repeat (first | (with_reducible first | exact HB.out | apply below_alloc | apply pw_below_drewN | apply below_drew1) | exact HB.out)) hb); have n1_ := Aside0.mk (hbox); have n2_ := Aside0.mk ((by rw [hg]; exact (below_size (by repeat (first | (with_reducible first | exact HB.out | apply below_alloc | apply pw_below_drewN | apply below_drew1) | exact HB.out))) : w.heap.size ≤ gb154)); have n3_ := Aside0.mk ((by rw [hg]; exact (below_size (by repeat (first | (with_reducible first | exact HB.out | apply below_alloc | apply pw_below_drewN | apply below_drew1) | exact HB.out))) : w.heap.size ≤ gb154)); clear HB; have HB := n0_; have BK154 := n1_; have GW154 := n2_; have GE154 := n3_; clear n0_ n1_ n2_ n3_; clear hb hbox hg) | ((with_reducible refine gate_callee (f := 68) rfl ?_); refine goesL_ (some 6) rfl rfl Tryd.func68 (by kernel_rfl) rfl #[.int .i64 (wrap64 ((Int.tmod a0 36) + 9))] rfl (by (try simp only [List.map_toArray, List.map_cons, List.map_nil]); first | done | rfl | (simp only [List.length_drop, List.length_take]; rfl)) ?_; (with_reducible refine (spec_l3Sine.calls (wrap64 ((Int.tmod a0 36) + 9)) t155 _ A2.out).mono ?_); rintro e w5 ⟨pr156, rfl, hb⟩; refine ⟨_, rfl, ?_⟩; have n0_ := Aside0.mk (blk_below (g := gb154) (o := .cells #[.float .f64 0, .float .f64 0] 42 (0, 0)) (by (with_reducible repeat (first | refine blk_drewN ?_ _ | refine blk_drew ?_ | refine blk_alloc ?_ _)); exact BK154.out) hb); have n1_ := Aside0.mk (below_step (by repeat (first | (with_reducible first | exact HB.out | apply below_alloc | apply pw_below_drewN | apply below_drew1 | refine below_set ?_ GE154.out) | exact HB.out)) hb); clear BK154; clear HB; have BK154 := n0_; have HB := n1_; clear n0_ n1_; (try clear hb); (try clear hb2); (try clear hk); (try clear hi)) | ((with_reducible refine gate_callee (f := 68) rfl ?_); refine goesL_ (some 8) rfl rfl Tryd.func68 (by kernel_rfl) rfl #[.int .i64 a0] rfl (by (try simp only [List.map_toArray, List.map_cons, List.map_nil]); first | done | rfl | (simp only [List.length_drop, List.length_take]; rfl)) ?_; (with_reducible refine (spec_l3Sine.calls a0 t157 _ A3.out).mono ?_); rintro e w6 ⟨pr158, rfl, hb⟩; refine ⟨_, rfl, ?_⟩; have n0_ := Aside0.mk (blk_below (g := gb154) (o := .cells #[.float .f64 0, .float .f64 0] 42 (0, 0)) (by (with_reducible repeat (first | refine blk_drewN ?_ _ | refine blk_drew ?_ | refine blk_alloc ?_ _)); exact BK154.out) hb); have n1_ := Aside0.mk (below_step (by repeat (first | (with_reducible first | exact HB.out | apply below_alloc | apply pw_below_drewN | apply below_drew1 | refine below_set ?_ GE154.out) | exact HB.out)) hb); clear BK154; clear HB; have BK154 := n0_; have HB := n1_; clear n0_ n1_; (try clear hb); (try clear hb2); (try clear hk); (try clear hi); have hcz7_0 : w6.cell? ⟨gb154, 0, none⟩ = some (.float .f64 0) := (blk_cell BK154.out 0).trans rfl; have hcz7_1 : w6.cell? ⟨gb154, 1, none⟩ = some (.float .f64 0) := (blk_cell BK154.out 1).trans rfl; have hfz7_0 := blk_frozen BK154.out 0; have hfz7_1 := blk_frozen BK154.out 1))
 refine bodyPost_ret (results_cell_row rfl _ _ gb154 42 #[.float .f64 (un pr156 t155), .float .f64 (un pr158 t157)] (0, 0) _ rfl (by (with_reducible repeat (first | refine blk_drewN ?_ _ | refine blk_drew ?_ | refine blk_alloc ?_ _)); refine blk_put (cs := #[.float .f64 (un pr156 t155), .float .f64 0]) ?_ 1 _ rfl; (with_reducible repeat (first | refine blk_drewN ?_ _ | refine blk_drew ?_ | refine blk_alloc ?_ _)); refine blk_put (cs := #[.float .f64 0, .float .f64 0]) ?_ 0 _ rfl; (with_reducible repeat (first | refine blk_drewN ?_ _ | refine blk_drew ?_ | refine blk_alloc ?_ _)); exact BK154.out) Tryd.underlying42 rfl (by kernel_rfl)) rfl ?_
 first | (exact ⟨pr156, pr158, by first | rfl | (simp [errW_none, errW_some] <;> rfl) | (simp [*, errW_none, errW_some] <;> rfl), by repeat (first | (with_reducible first | exact HB.out | apply below_alloc | apply pw_below_drewN | apply below_drew1 | refine below_set ?_ GE154.out) | exact HB.out)⟩) | (exact ⟨⟨pr156, pr158, by first | rfl | (simp [errW_none, errW_some] <;> rfl) | (simp [*, errW_none, errW_some] <;> rfl)⟩, by repeat (first | (with_reducible first | exact HB.out | apply below_alloc | apply pw_below_drewN | apply below_drew1 | refine below_set ?_ GE154.out) | exact HB.out)⟩)

end Go.Proofs.YtpileeenoocjpaaDoor.Q
