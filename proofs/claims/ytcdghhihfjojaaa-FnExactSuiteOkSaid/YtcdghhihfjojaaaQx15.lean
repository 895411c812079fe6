/- Plain Lean functions with the same answers as the Go functions of this seat, and a proof for each that the Go code comes to just these answers; no condition. Written by a program of this session (the kit's printer, turned). -/
import Derived.Test.YtcdghhihfjojaaaQx0
import Derived.Test.YtcdghhihfjojaaaQx1
import Derived.Test.YtcdghhihfjojaaaQx14
namespace Go.Proofs.Ytcdghhihfjojaaa.Q
open Go.RowKit Go.Proofs.YtcdghhihfjojaaaW.PrintWords Go.Proofs.YtcdghhihfjojaaaW.PrintLast Go.Proofs.YtcdghhihfjojaaaW.PrintMore
attribute [local go_sem] max2_int min2_int max_two min_two max_three min_three max_four min_four   -- for this text's walks alone
set_option linter.unusedVariables false
set_option linter.unusedSimpArgs false

/-! ### spec_SuiteOk: function 21 -/
mutual
def spec_SuiteOk.j0 : Nat → Bool → List (S78) → List Int → Option (Bool)
  | 0, _, _, _ => none
  | k + 1, x36, x292000, x292001 => if x36 = true then (some false) else (spec_SuiteOk.l0 k 0 x292000 x292001)
def spec_SuiteOk.l0 : Nat → Int → List (S78) → List Int → Option (Bool)
  | 0, _, _, _ => none
  | k + 1, x3, x292000, x292001 => if x3 < (x292000.length : Int) then (if 0 ≤ x3 then (if (((rd_T78 x292000 x3).f0).length : Int) > x3 then (spec_SuiteOk.j2 k x3 true x292000 x292001 ((rd_T78 x292000 x3).f0) ((rd_T78 x292000 x3).f1) ((rd_T78 x292000 x3).f2) ((rd_T78 x292000 x3).f3)) else ((spec_l2In.f ((rd_T78 x292000 x3).f1) 1 (x292001.length : Int)).bind fun t295 => (if t295 = true then ((spec_l2In.f ((rd_T78 x292000 x3).f2) 0 1000000000000).bind fun t296 => (if t296 = true then ((spec_l2In.f ((rd_T78 x292000 x3).f3) 1 5).bind fun t297 => (spec_SuiteOk.j2 k x3 (!t297) x292000 x292001 ((rd_T78 x292000 x3).f0) ((rd_T78 x292000 x3).f1) ((rd_T78 x292000 x3).f2) ((rd_T78 x292000 x3).f3))) else (spec_SuiteOk.j2 k x3 true x292000 x292001 ((rd_T78 x292000 x3).f0) ((rd_T78 x292000 x3).f1) ((rd_T78 x292000 x3).f2) ((rd_T78 x292000 x3).f3)))) else (spec_SuiteOk.j2 k x3 true x292000 x292001 ((rd_T78 x292000 x3).f0) ((rd_T78 x292000 x3).f1) ((rd_T78 x292000 x3).f2) ((rd_T78 x292000 x3).f3))))) else (none)) else (some true)
def spec_SuiteOk.j2 : Nat → Int → Bool → List (S78) → List Int → List Int → Int → Int → Int → Option (Bool)
  | 0, _, _, _, _, _, _, _, _ => none
  | k + 1, x3, x74, x292000, x292001, x295000, x295001, x295002, x295003 => if x74 = true then (some false) else (spec_SuiteOk.l1 k x3 0 x292000 x292001 x295000 x295001 x295002 x295003)
def spec_SuiteOk.l1 : Nat → Int → Int → List (S78) → List Int → List Int → Int → Int → Int → Option (Bool)
  | 0, _, _, _, _, _, _, _, _ => none
  | k + 1, x3, x5, x292000, x292001, x295000, x295001, x295002, x295003 => if x5 < (x295000.length : Int) then (if 0 ≤ x5 then ((spec_l2In.f (rd x295000 x5) 1 x3).bind fun t299 => (if t299 = true then (if x5 > 0 then (if 0 ≤ (wrap64 (x5 - 1)) then (if (wrap64 (x5 - 1)) < (x295000.length : Int) then (if (rd x295000 x5) ≤ (rd x295000 (wrap64 (x5 - 1))) then (some false) else (spec_SuiteOk.l1 k x3 (wrap64 (x5 + 1)) x292000 x292001 x295000 x295001 x295002 x295003)) else (none)) else (none)) else (spec_SuiteOk.l1 k x3 (wrap64 (x5 + 1)) x292000 x292001 x295000 x295001 x295002 x295003)) else (some false))) else (none)) else (spec_SuiteOk.l0 k (wrap64 (x3 + 1)) x292000 x292001)
end
def spec_SuiteOk.f (k : Nat) (l0_0 : List (S78)) (l0_1 : List Int) : Option (Bool) := if (l0_0.length : Int) < 1 then (spec_SuiteOk.j0 k true l0_0 l0_1) else (if (l0_0.length : Int) > 60 then (spec_SuiteOk.j0 k true l0_0 l0_1) else (if (l0_1.length : Int) < 1 then (spec_SuiteOk.j0 k true l0_0 l0_1) else (if (l0_1.length : Int) > 6 then (spec_SuiteOk.j0 k true l0_0 l0_1) else ((spec_l15All.f k l0_1 (l0_1.length : Int) 1 60).bind fun t292 => (spec_SuiteOk.j0 k (!t292) l0_0 l0_1)))))
theorem spec_SuiteOk.mono_l : ∀ k, (∀ y0 y1 y2, LeO (spec_SuiteOk.j0 k y0 y1 y2) (spec_SuiteOk.j0 (k + 1) y0 y1 y2)) ∧ (∀ y0 y1 y2, LeO (spec_SuiteOk.l0 k y0 y1 y2) (spec_SuiteOk.l0 (k + 1) y0 y1 y2)) ∧ (∀ y0 y1 y2 y3 y4 y5 y6 y7, LeO (spec_SuiteOk.j2 k y0 y1 y2 y3 y4 y5 y6 y7) (spec_SuiteOk.j2 (k + 1) y0 y1 y2 y3 y4 y5 y6 y7)) ∧ (∀ y0 y1 y2 y3 y4 y5 y6 y7, LeO (spec_SuiteOk.l1 k y0 y1 y2 y3 y4 y5 y6 y7) (spec_SuiteOk.l1 (k + 1) y0 y1 y2 y3 y4 y5 y6 y7))
  | 0 => ⟨fun _ _ _ r h => by simp [spec_SuiteOk.j0] at h, fun _ _ _ r h => by simp [spec_SuiteOk.l0] at h, fun _ _ _ _ _ _ _ _ r h => by simp [spec_SuiteOk.j2] at h, fun _ _ _ _ _ _ _ _ r h => by simp [spec_SuiteOk.l1] at h⟩
  | k + 1 => by
    obtain ⟨ih0, ih1, ih2, ih3⟩ := spec_SuiteOk.mono_l k
    refine ⟨?_, ?_, ?_, ?_⟩
    · intro y0 y1 y2
      unfold spec_SuiteOk.j0
      repeat' first
      | (with_reducible exact ih0 _ _ _)
      | (with_reducible exact ih1 _ _ _)
      | (with_reducible exact ih2 _ _ _ _ _ _ _ _)
      | (with_reducible exact ih3 _ _ _ _ _ _ _ _)
      | (with_reducible exact spec_l15All.mono _ _ _ _ _)
      | (with_reducible exact LeO.refl _)
      | (with_reducible exact LeO.none _)
      | (with_reducible refine LeO.ite ?_ ?_)
      | (with_reducible refine LeO.bind ?_ (fun _ => ?_))
      | exact ih0 _ _ _
      | exact ih1 _ _ _
      | exact ih2 _ _ _ _ _ _ _ _
      | exact ih3 _ _ _ _ _ _ _ _
      | exact spec_l15All.mono _ _ _ _ _
      | exact LeO.none _
      | refine LeO.ite ?_ ?_
      | refine LeO.bind ?_ (fun _ => ?_)
    · intro y0 y1 y2
      unfold spec_SuiteOk.l0
      repeat' first
      | (with_reducible exact ih0 _ _ _)
      | (with_reducible exact ih1 _ _ _)
      | (with_reducible exact ih2 _ _ _ _ _ _ _ _)
      | (with_reducible exact ih3 _ _ _ _ _ _ _ _)
      | (with_reducible exact spec_l15All.mono _ _ _ _ _)
      | (with_reducible exact LeO.refl _)
      | (with_reducible exact LeO.none _)
      | (with_reducible refine LeO.ite ?_ ?_)
      | (with_reducible refine LeO.bind ?_ (fun _ => ?_))
      | exact ih0 _ _ _
      | exact ih1 _ _ _
      | exact ih2 _ _ _ _ _ _ _ _
      | exact ih3 _ _ _ _ _ _ _ _
      | exact spec_l15All.mono _ _ _ _ _
      | exact LeO.none _
      | refine LeO.ite ?_ ?_
      | refine LeO.bind ?_ (fun _ => ?_)
    · intro y0 y1 y2 y3 y4 y5 y6 y7
      unfold spec_SuiteOk.j2
      repeat' first
      | (with_reducible exact ih0 _ _ _)
      | (with_reducible exact ih1 _ _ _)
      | (with_reducible exact ih2 _ _ _ _ _ _ _ _)
      | (with_reducible exact ih3 _ _ _ _ _ _ _ _)
      | (with_reducible exact spec_l15All.mono _ _ _ _ _)
      | (with_reducible exact LeO.refl _)
      | (with_reducible exact LeO.none _)
      | (with_reducible refine LeO.ite ?_ ?_)
      | (with_reducible refine LeO.bind ?_ (fun _ => ?_))
      | exact ih0 _ _ _
      | exact ih1 _ _ _
      | exact ih2 _ _ _ _ _ _ _ _
      | exact ih3 _ _ _ _ _ _ _ _
      | exact spec_l15All.mono _ _ _ _ _
      | exact LeO.none _
      | refine LeO.ite ?_ ?_
      | refine LeO.bind ?_ (fun _ => ?_)
    · intro y0 y1 y2 y3 y4 y5 y6 y7
      unfold spec_SuiteOk.l1
      repeat' first
      | (with_reducible exact ih0 _ _ _)
      | (with_reducible exact ih1 _ _ _)
      | (with_reducible exact ih2 _ _ _ _ _ _ _ _)
      | (with_reducible exact ih3 _ _ _ _ _ _ _ _)
      | (with_reducible exact spec_l15All.mono _ _ _ _ _)
      | (with_reducible exact LeO.refl _)
      | (with_reducible exact LeO.none _)
      | (with_reducible refine LeO.ite ?_ ?_)
      | (with_reducible refine LeO.bind ?_ (fun _ => ?_))
      | exact ih0 _ _ _
      | exact ih1 _ _ _
      | exact ih2 _ _ _ _ _ _ _ _
      | exact ih3 _ _ _ _ _ _ _ _
      | exact spec_l15All.mono _ _ _ _ _
      | exact LeO.none _
      | refine LeO.ite ?_ ?_
      | refine LeO.bind ?_ (fun _ => ?_)
theorem spec_SuiteOk.mono : ∀ a0 a1 k, LeO (spec_SuiteOk.f k a0 a1) (spec_SuiteOk.f (k + 1) a0 a1) := by
  intro a0 a1 k
  obtain ⟨ih0, ih1, ih2, ih3⟩ := spec_SuiteOk.mono_l k
  unfold spec_SuiteOk.f
  repeat' first
      | (with_reducible exact ih0 _ _ _)
      | (with_reducible exact ih1 _ _ _)
      | (with_reducible exact ih2 _ _ _ _ _ _ _ _)
      | (with_reducible exact ih3 _ _ _ _ _ _ _ _)
      | (with_reducible exact spec_l15All.mono _ _ _ _ _)
      | (with_reducible exact LeO.refl _)
      | (with_reducible exact LeO.none _)
      | (with_reducible refine LeO.ite ?_ ?_)
      | (with_reducible refine LeO.bind ?_ (fun _ => ?_))
      | exact ih0 _ _ _
      | exact ih1 _ _ _
      | exact ih2 _ _ _ _ _ _ _ _
      | exact ih3 _ _ _ _ _ _ _ _
      | exact spec_l15All.mono _ _ _ _ _
      | exact LeO.none _
      | refine LeO.ite ?_ ?_
      | refine LeO.bind ?_ (fun _ => ?_)
set_option maxHeartbeats 8000000 in
set_option maxRecDepth 100000 in
theorem spec_SuiteOk.calls (k : Nat) (A0_0 : Option Addr) (c0_0 : Nat) (l0_0 : List (S78)) (A0_1 : Option Addr) (c0_1 : Nat) (l0_1 : List Int) (r : Bool) (w : World) (hr0_0 : Kd.C k78 w A0_0 l0_0.length l0_0) (hc0_0 : l0_0.length ≤ c0_0) (hr0_1 : Kd.C (Kd.int .i64) w A0_1 l0_1.length l0_1) (hc0_1 : l0_1.length ≤ c0_1) (h : spec_SuiteOk.f k l0_0 l0_1 = some r) :
    Calls Try.prog 21 #[.agg #[.slice A0_0 l0_0.length c0_0, .slice A0_1 l0_1.length c0_1]] w fun e w' => e = .returned (.bool r) ∧ Below w.heap.size w w' := by
  have hu46 := Try.underlying46
  have hu78 := Try.underlying78
  have HR0_0 := Aside0.mk hr0_0
  have HC0_0 := Aside0.mk hc0_0
  clear hr0_0 hc0_0
  have HR0_1 := Aside0.mk hr0_1
  have HC0_1 := Aside0.mk hc0_1
  clear hr0_1 hc0_1
  have HB := Aside0.mk (Below.refl w.heap.size w)
  have H : (if (l0_0.length : Int) < 1 then (spec_SuiteOk.j0 k true l0_0 l0_1) else (if (l0_0.length : Int) > 60 then (spec_SuiteOk.j0 k true l0_0 l0_1) else (if (l0_1.length : Int) < 1 then (spec_SuiteOk.j0 k true l0_0 l0_1) else (if (l0_1.length : Int) > 6 then (spec_SuiteOk.j0 k true l0_0 l0_1) else ((spec_l15All.f k l0_1 (l0_1.length : Int) 1 60).bind fun t292 => (spec_SuiteOk.j0 k (!t292) l0_0 l0_1)))))) = some r := h
  clear h
  have HC2 := Aside0.mk H
  clear H
  go_enter Try.func21, Try.ntmps21
  go_upto_region 1 with (first | ((with_reducible refine gate_dst (N := 1) rfl ?_); (try (refine gate_guard (by rfl) ?_; dsimp only)); refine box_event ?hg (N := 1) ?hd (cs := #[.slice A0_0 l0_0.length c0_0, .slice A0_1 l0_1.length c0_1]) (t := 46) ?hr ?_; (case hd => rfl); (case hg => rfl); (case hr => first | (go_simp; done) | (go_simp; rfl)); intro gb291 hg w3 hbox hb; have n0_ := Aside0.mk (below_step (by repeat (first | (with_reducible first | exact HB.out | apply below_alloc | apply pw_below_drewN | apply below_drew1) | exact HB.out)) hb); have n1_ := Aside0.mk (hbox); have n2_ := Aside0.mk ((by rw [hg]; exact (below_size (by repeat (first | (with_reducible first | exact HB.out | apply below_alloc | apply pw_below_drewN | apply below_drew1) | exact HB.out))) : w.heap.size ≤ gb291)); have n3_ := Aside0.mk ((by rw [hg]; exact (below_size (by repeat (first | (with_reducible first | exact HB.out | apply below_alloc | apply pw_below_drewN | apply below_drew1) | exact HB.out))) : w.heap.size ≤ gb291)); clear HB; have HB := n0_; have BK291 := n1_; have GW291 := n2_; have GE291 := n3_; clear n0_ n1_ n2_ n3_; clear hb hbox hg))
  repeat (go_quiet (first | ((with_reducible refine gate_dst (N := 1) rfl ?_); (try (refine gate_guard (by rfl) ?_; dsimp only)); refine box_event ?hg (N := 1) ?hd (cs := #[.slice A0_0 l0_0.length c0_0, .slice A0_1 l0_1.length c0_1]) (t := 46) ?hr ?_; (case hd => rfl); (case hg => rfl); (case hr => first | (go_simp; done) | (go_simp; rfl)); intro gb291 hg w3 hbox hb; have n0_ := Aside0.mk (below_step (by repeat (first | (with_reducible first | exact HB.out | apply below_alloc | apply pw_below_drewN | apply below_drew1) | exact HB.out)) hb); have n1_ := Aside0.mk (hbox); have n2_ := Aside0.mk ((by rw [hg]; exact (below_size (by repeat (first | (with_reducible first | exact HB.out | apply below_alloc | apply pw_below_drewN | apply below_drew1) | exact HB.out))) : w.heap.size ≤ gb291)); have n3_ := Aside0.mk ((by rw [hg]; exact (below_size (by repeat (first | (with_reducible first | exact HB.out | apply below_alloc | apply pw_below_drewN | apply below_drew1) | exact HB.out))) : w.heap.size ≤ gb291)); clear HB; have HB := n0_; have BK291 := n1_; have GW291 := n2_; have GE291 := n3_; clear n0_ n1_ n2_ n3_; clear hb hbox hg)); go_upto_region 1 with (first | ((with_reducible refine gate_dst (N := 1) rfl ?_); (try (refine gate_guard (by rfl) ?_; dsimp only)); refine box_event ?hg (N := 1) ?hd (cs := #[.slice A0_0 l0_0.length c0_0, .slice A0_1 l0_1.length c0_1]) (t := 46) ?hr ?_; (case hd => rfl); (case hg => rfl); (case hr => first | (go_simp; done) | (go_simp; rfl)); intro gb291 hg w3 hbox hb; have n0_ := Aside0.mk (below_step (by repeat (first | (with_reducible first | exact HB.out | apply below_alloc | apply pw_below_drewN | apply below_drew1) | exact HB.out)) hb); have n1_ := Aside0.mk (hbox); have n2_ := Aside0.mk ((by rw [hg]; exact (below_size (by repeat (first | (with_reducible first | exact HB.out | apply below_alloc | apply pw_below_drewN | apply below_drew1) | exact HB.out))) : w.heap.size ≤ gb291)); have n3_ := Aside0.mk ((by rw [hg]; exact (below_size (by repeat (first | (with_reducible first | exact HB.out | apply below_alloc | apply pw_below_drewN | apply below_drew1) | exact HB.out))) : w.heap.size ≤ gb291)); clear HB; have HB := n0_; have BK291 := n1_; have GW291 := n2_; have GE291 := n3_; clear n0_ n1_ n2_ n3_; clear hb hbox hg)))
  (try simp only [Act.put, List.setIfInBounds_toArray, List.set_cons_zero, List.set_cons_succ])
  go_cut [36] (fun v36 wc => ∃ (kq : Nat) (x36_1 : Bool), v36 = .bool x36_1 ∧ Aside0 (spec_SuiteOk.j0 kq x36_1 l0_0 l0_1 = some r) ∧ Aside0 (kq ≤ k) ∧ Aside0 (wc.heap[gb291]? = some (.cells #[(.slice A0_0 l0_0.length c0_0), (.slice A0_1 l0_1.length c0_1)] 46 (0, 0))) ∧ Aside0 (Below w.heap.size w wc))
  case first =>
    have H := HC2.out
    clear HC2
    by_cases c4 : (l0_0.length : Int) < 1
    · rw [if_pos c4] at H
      have c4b0 : decide ((l0_0.length : Int) < 1) = true := decide_eq_true c4
      have c4b1 : decide (l0_0.length < 1) = true := decide_eq_true (by omega)
      clear c4
      (first | rw [c4b0] | (simp only [i64_w, i32_w]; rw [c4b0]) | skip)
      have H' := Aside0.mk H
      clear H
      have hcz5_0 : w3.cell? ⟨gb291, 0, none⟩ = some (.slice A0_0 l0_0.length c0_0) := (blk_cell BK291.out 0).trans rfl
      have hcz5_1 : w3.cell? ⟨gb291, 1, none⟩ = some (.slice A0_1 l0_1.length c0_1) := (blk_cell BK291.out 1).trans rfl
      have hfz5_0 := blk_frozen BK291.out 0
      have hfz5_1 := blk_frozen BK291.out 1
      go_wp2
      repeat (go_quiet (fail); try go_wp2)
      go_meet
      case rel => exact ⟨_, (true), (by first | rfl | (simp; done) | (simp [*]; done)), H', ⟨by first | omega | exact Nat.le_refl _⟩, ⟨by (with_reducible repeat (first | refine blk_drewN ?_ _ | refine blk_drew ?_ | refine blk_alloc ?_ _)); exact BK291.out⟩, ⟨by repeat (first | (with_reducible first | exact HB.out | apply below_alloc | apply pw_below_drewN | apply below_drew1 | refine below_set ?_ GE291.out) | exact HB.out)⟩⟩
    · rw [if_neg c4] at H
      have c4b0 : decide ((l0_0.length : Int) < 1) = false := decide_eq_false c4
      have c4b1 : decide (l0_0.length < 1) = false := decide_eq_false (by omega)
      clear c4
      (first | rw [c4b0] | (simp only [i64_w, i32_w]; rw [c4b0]) | skip)
      by_cases c6 : (l0_0.length : Int) > 60
      · rw [if_pos c6] at H
        have c6b0 : decide (60 < (l0_0.length : Int)) = true := decide_eq_true c6
        have c6b1 : decide (60 < l0_0.length) = true := decide_eq_true (by omega)
        clear c6
        have H' := Aside0.mk H
        clear H
        have hcz7_0 : w3.cell? ⟨gb291, 0, none⟩ = some (.slice A0_0 l0_0.length c0_0) := (blk_cell BK291.out 0).trans rfl
        have hcz7_1 : w3.cell? ⟨gb291, 1, none⟩ = some (.slice A0_1 l0_1.length c0_1) := (blk_cell BK291.out 1).trans rfl
        have hfz7_0 := blk_frozen BK291.out 0
        have hfz7_1 := blk_frozen BK291.out 1
        go_wp2
        repeat (go_quiet (fail); try go_wp2)
        go_meet
        case rel => exact ⟨_, (true), (by first | rfl | (simp; done) | (simp [*]; done)), H', ⟨by first | omega | exact Nat.le_refl _⟩, ⟨by (with_reducible repeat (first | refine blk_drewN ?_ _ | refine blk_drew ?_ | refine blk_alloc ?_ _)); exact BK291.out⟩, ⟨by repeat (first | (with_reducible first | exact HB.out | apply below_alloc | apply pw_below_drewN | apply below_drew1 | refine below_set ?_ GE291.out) | exact HB.out)⟩⟩
      · rw [if_neg c6] at H
        have c6b0 : decide (60 < (l0_0.length : Int)) = false := decide_eq_false c6
        have c6b1 : decide (60 < l0_0.length) = false := decide_eq_false (by omega)
        clear c6
        by_cases c8 : (l0_1.length : Int) < 1
        · rw [if_pos c8] at H
          have c8b0 : decide ((l0_1.length : Int) < 1) = true := decide_eq_true c8
          have c8b1 : decide (l0_1.length < 1) = true := decide_eq_true (by omega)
          clear c8
          have H' := Aside0.mk H
          clear H
          have hcz9_0 : w3.cell? ⟨gb291, 0, none⟩ = some (.slice A0_0 l0_0.length c0_0) := (blk_cell BK291.out 0).trans rfl
          have hcz9_1 : w3.cell? ⟨gb291, 1, none⟩ = some (.slice A0_1 l0_1.length c0_1) := (blk_cell BK291.out 1).trans rfl
          have hfz9_0 := blk_frozen BK291.out 0
          have hfz9_1 := blk_frozen BK291.out 1
          go_wp2
          repeat (go_quiet (fail); try go_wp2)
          go_meet
          case rel => exact ⟨_, (true), (by first | rfl | (simp; done) | (simp [*]; done)), H', ⟨by first | omega | exact Nat.le_refl _⟩, ⟨by (with_reducible repeat (first | refine blk_drewN ?_ _ | refine blk_drew ?_ | refine blk_alloc ?_ _)); exact BK291.out⟩, ⟨by repeat (first | (with_reducible first | exact HB.out | apply below_alloc | apply pw_below_drewN | apply below_drew1 | refine below_set ?_ GE291.out) | exact HB.out)⟩⟩
        · rw [if_neg c8] at H
          have c8b0 : decide ((l0_1.length : Int) < 1) = false := decide_eq_false c8
          have c8b1 : decide (l0_1.length < 1) = false := decide_eq_false (by omega)
          clear c8
          by_cases c10 : (l0_1.length : Int) > 6
          · rw [if_pos c10] at H
            have c10b0 : decide (6 < (l0_1.length : Int)) = true := decide_eq_true c10
            have c10b1 : decide (6 < l0_1.length) = true := decide_eq_true (by omega)
            clear c10
            have H' := Aside0.mk H
            clear H
            have hcz11_0 : w3.cell? ⟨gb291, 0, none⟩ = some (.slice A0_0 l0_0.length c0_0) := (blk_cell BK291.out 0).trans rfl
            have hcz11_1 : w3.cell? ⟨gb291, 1, none⟩ = some (.slice A0_1 l0_1.length c0_1) := (blk_cell BK291.out 1).trans rfl
            have hfz11_0 := blk_frozen BK291.out 0
            have hfz11_1 := blk_frozen BK291.out 1
            go_wp2
            repeat (go_quiet (fail); try go_wp2)
            go_meet
            case rel => exact ⟨_, (true), (by first | rfl | (simp; done) | (simp [*]; done)), H', ⟨by first | omega | exact Nat.le_refl _⟩, ⟨by (with_reducible repeat (first | refine blk_drewN ?_ _ | refine blk_drew ?_ | refine blk_alloc ?_ _)); exact BK291.out⟩, ⟨by repeat (first | (with_reducible first | exact HB.out | apply below_alloc | apply pw_below_drewN | apply below_drew1 | refine below_set ?_ GE291.out) | exact HB.out)⟩⟩
          · rw [if_neg c10] at H
            have c10b0 : decide (6 < (l0_1.length : Int)) = false := decide_eq_false c10
            have c10b1 : decide (6 < l0_1.length) = false := decide_eq_false (by omega)
            clear c10
            replace H := Option.bind_eq_some_iff.mp H
            obtain ⟨t292, A120, H⟩ := H
            replace H : (spec_SuiteOk.j0 k (!t292) l0_0 l0_1) = some r := H
            have A12 := Aside0.mk A120
            clear A120
            have H' := Aside0.mk H
            clear H
            have hcz13_0 : w3.cell? ⟨gb291, 0, none⟩ = some (.slice A0_0 l0_0.length c0_0) := (blk_cell BK291.out 0).trans rfl
            have hcz13_1 : w3.cell? ⟨gb291, 1, none⟩ = some (.slice A0_1 l0_1.length c0_1) := (blk_cell BK291.out 1).trans rfl
            have hfz13_0 := blk_frozen BK291.out 0
            have hfz13_1 := blk_frozen BK291.out 1
            go_wp2_with (first | (go_at_call 43; (with_reducible refine (spec_l15All.calls k _ _ l0_1 (l0_1.length : Int) 1 60 t292 _ ?side1 ?side2 A12.out).mono ?_); (case side1 => repeat (first | exact (Kd.C_below HR0_1.out HB.out) | (with_reducible refine Kd.C_alloc ?_ _) | (with_reducible refine Kd.C_drewN ?_ _) | (with_reducible refine Kd.C_drew ?_))); (case side2 => exact HC0_1.out); rintro e w' ⟨rfl, ⟨nd, rfl⟩⟩; (try first | exact ⟨rfl, _, World.drewN_drewN _ _ _⟩ | exact ⟨rfl, _, Eq.trans (World.drewN_drewN _ _ _) (congrArg (World.drewN _) (Nat.add_assoc _ _ _))⟩)))
            repeat (go_quiet (first | (go_at_call 43; (with_reducible refine (spec_l15All.calls k _ _ l0_1 (l0_1.length : Int) 1 60 t292 _ ?side1 ?side2 A12.out).mono ?_); (case side1 => repeat (first | exact (Kd.C_below HR0_1.out HB.out) | (with_reducible refine Kd.C_alloc ?_ _) | (with_reducible refine Kd.C_drewN ?_ _) | (with_reducible refine Kd.C_drew ?_))); (case side2 => exact HC0_1.out); rintro e w' ⟨rfl, ⟨nd, rfl⟩⟩; (try first | exact ⟨rfl, _, World.drewN_drewN _ _ _⟩ | exact ⟨rfl, _, Eq.trans (World.drewN_drewN _ _ _) (congrArg (World.drewN _) (Nat.add_assoc _ _ _))⟩))); try go_wp2_with (first | (go_at_call 43; (with_reducible refine (spec_l15All.calls k _ _ l0_1 (l0_1.length : Int) 1 60 t292 _ ?side1 ?side2 A12.out).mono ?_); (case side1 => repeat (first | exact (Kd.C_below HR0_1.out HB.out) | (with_reducible refine Kd.C_alloc ?_ _) | (with_reducible refine Kd.C_drewN ?_ _) | (with_reducible refine Kd.C_drew ?_))); (case side2 => exact HC0_1.out); rintro e w' ⟨rfl, ⟨nd, rfl⟩⟩; (try first | exact ⟨rfl, _, World.drewN_drewN _ _ _⟩ | exact ⟨rfl, _, Eq.trans (World.drewN_drewN _ _ _) (congrArg (World.drewN _) (Nat.add_assoc _ _ _))⟩))))
            go_meet
            case rel => exact ⟨_, (!t292), (by first | rfl | (simp; done) | (simp [*]; done)), H', ⟨by first | omega | exact Nat.le_refl _⟩, ⟨by (with_reducible repeat (first | refine blk_drewN ?_ _ | refine blk_drew ?_ | refine blk_alloc ?_ _)); exact BK291.out⟩, ⟨by repeat (first | (with_reducible first | exact HB.out | apply below_alloc | apply pw_below_drewN | apply below_drew1 | refine below_set ?_ GE291.out) | exact HB.out)⟩⟩
  case rest =>
    clear HC2
    try clear c1
    try clear c2
    try clear p2
    try clear c4
    try clear c4b0
    try clear c4b1
    try clear c6
    try clear c6b0
    try clear c6b1
    try clear c8
    try clear c8b0
    try clear c8b1
    try clear c10
    try clear c10b0
    try clear c10b1
    try clear hcz11_0
    try clear hcz11_1
    try clear hcz13_0
    try clear hcz13_1
    try clear hcz5_0
    try clear hcz5_1
    try clear hcz7_0
    try clear hcz7_1
    try clear hcz9_0
    try clear hcz9_1
    try clear hfz11_0
    try clear hfz11_1
    try clear hfz13_0
    try clear hfz13_1
    try clear hfz5_0
    try clear hfz5_1
    try clear hfz7_0
    try clear hfz7_1
    try clear hfz9_0
    try clear hfz9_1
    obtain ⟨kq, x36_1, rfl, HA, HJ1, BK291, HB⟩ := hcut
    cases kq with
    | zero => exact absurd HA.out (by simp [spec_SuiteOk.j0])
    | succ kj1 =>
      have H := HA.out
      clear HA
      simp only [spec_SuiteOk.j0] at H
      by_cases c14 : x36_1 = true
      · subst c14
        have H1 : (some false) = some r := by rw [if_pos rfl] at H; exact H
        clear H
        have H := H1
        clear H1
        obtain rfl := Option.some.inj H
        go_wp2
        repeat (go_quiet (fail); try go_wp2)
        go_ret
        exact ⟨by first | rfl | (simp [errW_none, errW_some] <;> rfl) | (simp [*, errW_none, errW_some] <;> rfl), by repeat (first | (with_reducible first | exact HB.out | apply below_alloc | apply pw_below_drewN | apply below_drew1 | refine below_set ?_ GE291.out) | exact HB.out)⟩
      · replace c14 := Bool.eq_false_iff.mpr c14
        subst c14
        have H1 : (spec_SuiteOk.l0 kj1 0 l0_0 l0_1) = some r := by rw [if_neg (show ¬ (false = true) by decide)] at H; exact H
        clear H
        have H := H1
        clear H1
        have H' := Aside0.mk H
        clear H
        go_wp2
        repeat (go_quiet (fail); try go_wp2)
        go_loopg [3] kj1 (fun kq v3 w' => ∃ (x3_2 : Int), v3 = .int .i64 x3_2 ∧ Aside0 (spec_SuiteOk.l0 kq x3_2 l0_0 l0_1 = some r) ∧ Aside0 (kq ≤ kj1) ∧ Aside0 (w'.heap[gb291]? = some (.cells #[(.slice A0_0 l0_0.length c0_0), (.slice A0_1 l0_1.length c0_1)] 46 (0, 0))) ∧ Aside0 (Below w.heap.size w w'))
        case atStart => exact ⟨(0), (by first | rfl | (simp; done) | (simp [*]; done)), H', ⟨Nat.le_refl _⟩, ⟨by (with_reducible repeat (first | refine blk_drewN ?_ _ | refine blk_drew ?_ | refine blk_alloc ?_ _)); exact BK291.out⟩, ⟨by repeat (first | (with_reducible first | exact HB.out | apply below_alloc | apply pw_below_drewN | apply below_drew1 | refine below_set ?_ GE291.out) | exact HB.out)⟩⟩
        case round =>
          clear H'
          try clear c1
          try clear c2
          try clear p2
          try clear c4
          try clear c4b0
          try clear c4b1
          try clear c6
          try clear c6b0
          try clear c6b1
          try clear c8
          try clear c8b0
          try clear c8b1
          try clear c10
          try clear c10b0
          try clear c10b1
          try clear c14
          try clear hcz11_0
          try clear hcz11_1
          try clear hcz13_0
          try clear hcz13_1
          try clear hcz5_0
          try clear hcz5_1
          try clear hcz7_0
          try clear hcz7_1
          try clear hcz9_0
          try clear hcz9_1
          try clear hfz11_0
          try clear hfz11_1
          try clear hfz13_0
          try clear hfz13_1
          try clear hfz5_0
          try clear hfz5_1
          try clear hfz7_0
          try clear hfz7_1
          try clear hfz9_0
          try clear hfz9_1
          try clear p2
          obtain ⟨x3_2, rfl, HA, HK2, BK291, HB⟩ := hrel
          cases gk with
          | zero => exact absurd HA.out (by simp [spec_SuiteOk.l0])
          | succ k2 =>
            have H := HA.out
            clear HA
            simp only [spec_SuiteOk.l0] at H
            by_cases c15 : x3_2 < (l0_0.length : Int)
            · rw [if_pos c15] at H
              have c15b0 : decide (x3_2 < (l0_0.length : Int)) = true := decide_eq_true c15
              clear c15
              by_cases c16 : 0 ≤ x3_2
              · rw [if_pos c16] at H
                have c16b0 : decide (0 ≤ x3_2) = true := decide_eq_true c16
                clear c16
                have HC17 := Aside0.mk H
                clear H
                have hcz18_0 : wr.cell? ⟨gb291, 0, none⟩ = some (.slice A0_0 l0_0.length c0_0) := (blk_cell BK291.out 0).trans rfl
                have hcz18_1 : wr.cell? ⟨gb291, 1, none⟩ = some (.slice A0_1 l0_1.length c0_1) := (blk_cell BK291.out 1).trans rfl
                have hfz18_0 := blk_frozen BK291.out 0
                have hfz18_1 := blk_frozen BK291.out 1
                have p293 : 0 ≤ (x3_2 : Int) := of_decide_eq_true (by first | (with_reducible assumption) | assumption)
                have q293 : x3_2 < (l0_0.length : Int) := of_decide_eq_true (by first | (with_reducible assumption) | assumption)
                obtain ⟨ad293, A293_0, c293_0, e293, hx293_0, hx293_1, hx293_2, hx293_3, hl293_0, hi293_0⟩ := at_T78 HR0_0.out x3_2 p293 q293
                cases e293
                replace hx293_0 := (HB.out.cell (World.block_lt_of_cell? w _ hx293_0)).trans hx293_0
                replace hx293_1 := (HB.out.cell (World.block_lt_of_cell? w _ hx293_1)).trans hx293_1
                replace hx293_2 := (HB.out.cell (World.block_lt_of_cell? w _ hx293_2)).trans hx293_2
                replace hx293_3 := (HB.out.cell (World.block_lt_of_cell? w _ hx293_3)).trans hx293_3
                have HR293_0 := Aside0.mk hi293_0
                have HC293_0 := Aside0.mk hl293_0
                clear hi293_0 hl293_0
                replace p293 := eq_true p293
                replace q293 := eq_true q293
                go_upto_region 7 with (first | ((with_reducible refine gate_dst (N := 4) rfl ?_); (try (refine gate_guard (by rfl) ?_; dsimp only)); refine box_event ?hg (N := 4) ?hd (cs := #[.slice none 0 0, .int .i64 0, .int .i64 0, .int .i64 0]) (t := 78) ?hr ?_; (case hd => rfl); (case hg => rfl); (case hr => first | (go_simp; done) | (go_simp; rfl)); intro gb294 hg w19 hbox hb; have n0_ := Aside0.mk (blk_below (g := gb291) (o := .cells #[.slice (some ad293) l0_0.length c0_0, .slice A0_1 l0_1.length c0_1] 46 (0, 0)) (by (with_reducible repeat (first | refine blk_drewN ?_ _ | refine blk_drew ?_ | refine blk_alloc ?_ _)); exact BK291.out) hb); have n1_ := Aside0.mk (below_step (by repeat (first | (with_reducible first | exact HB.out | apply below_alloc | apply pw_below_drewN | apply below_drew1 | refine below_set ?_ GE291.out) | exact HB.out)) hb); have n2_ := Aside0.mk (hbox); have n3_ := Aside0.mk ((by rw [hg]; exact (below_size (by repeat (first | (with_reducible first | exact HB.out | apply below_alloc | apply pw_below_drewN | apply below_drew1 | refine below_set ?_ GE291.out) | exact HB.out))) : w.heap.size ≤ gb294)); have n4_ := Aside0.mk ((by rw [hg]; exact (below_size (by repeat (first | (with_reducible first | exact HB.out | apply below_alloc | apply pw_below_drewN | apply below_drew1 | refine below_set ?_ GE291.out) | exact HB.out))) : w.heap.size ≤ gb294)); have n5_ := Aside0.mk ((by rw [hg]; exact Nat.ne_of_lt (blk_lt (g := gb291) (o := .cells #[.slice (some ad293) l0_0.length c0_0, .slice A0_1 l0_1.length c0_1] 46 (0, 0)) (by (with_reducible repeat (first | refine blk_drewN ?_ _ | refine blk_drew ?_ | refine blk_alloc ?_ _)); exact BK291.out)) : gb291 ≠ gb294)); have n6_ := Aside0.mk ((by rw [hg]; exact Nat.ne_of_gt (blk_lt (g := gb291) (o := .cells #[.slice (some ad293) l0_0.length c0_0, .slice A0_1 l0_1.length c0_1] 46 (0, 0)) (by (with_reducible repeat (first | refine blk_drewN ?_ _ | refine blk_drew ?_ | refine blk_alloc ?_ _)); exact BK291.out)) : gb294 ≠ gb291)); clear BK291; clear HB; have BK291 := n0_; have HB := n1_; have BK294 := n2_; have GW294 := n3_; have GE294 := n4_; have NB291_294 := n5_; have NB294_291 := n6_; clear n0_ n1_ n2_ n3_ n4_ n5_ n6_; clear hb hbox hg; have hnb20 := NB294_291.out; have hnc20 := NB291_294.out; have hcz21_0 : w19.cell? ⟨gb294, 0, none⟩ = some (.slice none 0 0) := (blk_cell BK294.out 0).trans rfl; have hcz21_1 : w19.cell? ⟨gb294, 1, none⟩ = some (.int .i64 0) := (blk_cell BK294.out 1).trans rfl; have hcz21_2 : w19.cell? ⟨gb294, 2, none⟩ = some (.int .i64 0) := (blk_cell BK294.out 2).trans rfl; have hcz21_3 : w19.cell? ⟨gb294, 3, none⟩ = some (.int .i64 0) := (blk_cell BK294.out 3).trans rfl; have hfz21_0 := blk_frozen BK294.out 0; have hfz21_1 := blk_frozen BK294.out 1; have hfz21_2 := blk_frozen BK294.out 2; have hfz21_3 := blk_frozen BK294.out 3))
                repeat (go_quiet (first | ((with_reducible refine gate_dst (N := 4) rfl ?_); (try (refine gate_guard (by rfl) ?_; dsimp only)); refine box_event ?hg (N := 4) ?hd (cs := #[.slice none 0 0, .int .i64 0, .int .i64 0, .int .i64 0]) (t := 78) ?hr ?_; (case hd => rfl); (case hg => rfl); (case hr => first | (go_simp; done) | (go_simp; rfl)); intro gb294 hg w19 hbox hb; have n0_ := Aside0.mk (blk_below (g := gb291) (o := .cells #[.slice (some ad293) l0_0.length c0_0, .slice A0_1 l0_1.length c0_1] 46 (0, 0)) (by (with_reducible repeat (first | refine blk_drewN ?_ _ | refine blk_drew ?_ | refine blk_alloc ?_ _)); exact BK291.out) hb); have n1_ := Aside0.mk (below_step (by repeat (first | (with_reducible first | exact HB.out | apply below_alloc | apply pw_below_drewN | apply below_drew1 | refine below_set ?_ GE291.out) | exact HB.out)) hb); have n2_ := Aside0.mk (hbox); have n3_ := Aside0.mk ((by rw [hg]; exact (below_size (by repeat (first | (with_reducible first | exact HB.out | apply below_alloc | apply pw_below_drewN | apply below_drew1 | refine below_set ?_ GE291.out) | exact HB.out))) : w.heap.size ≤ gb294)); have n4_ := Aside0.mk ((by rw [hg]; exact (below_size (by repeat (first | (with_reducible first | exact HB.out | apply below_alloc | apply pw_below_drewN | apply below_drew1 | refine below_set ?_ GE291.out) | exact HB.out))) : w.heap.size ≤ gb294)); have n5_ := Aside0.mk ((by rw [hg]; exact Nat.ne_of_lt (blk_lt (g := gb291) (o := .cells #[.slice (some ad293) l0_0.length c0_0, .slice A0_1 l0_1.length c0_1] 46 (0, 0)) (by (with_reducible repeat (first | refine blk_drewN ?_ _ | refine blk_drew ?_ | refine blk_alloc ?_ _)); exact BK291.out)) : gb291 ≠ gb294)); have n6_ := Aside0.mk ((by rw [hg]; exact Nat.ne_of_gt (blk_lt (g := gb291) (o := .cells #[.slice (some ad293) l0_0.length c0_0, .slice A0_1 l0_1.length c0_1] 46 (0, 0)) (by (with_reducible repeat (first | refine blk_drewN ?_ _ | refine blk_drew ?_ | refine blk_alloc ?_ _)); exact BK291.out)) : gb294 ≠ gb291)); clear BK291; clear HB; have BK291 := n0_; have HB := n1_; have BK294 := n2_; have GW294 := n3_; have GE294 := n4_; have NB291_294 := n5_; have NB294_291 := n6_; clear n0_ n1_ n2_ n3_ n4_ n5_ n6_; clear hb hbox hg; have hnb20 := NB294_291.out; have hnc20 := NB291_294.out; have hcz21_0 : w19.cell? ⟨gb294, 0, none⟩ = some (.slice none 0 0) := (blk_cell BK294.out 0).trans rfl; have hcz21_1 : w19.cell? ⟨gb294, 1, none⟩ = some (.int .i64 0) := (blk_cell BK294.out 1).trans rfl; have hcz21_2 : w19.cell? ⟨gb294, 2, none⟩ = some (.int .i64 0) := (blk_cell BK294.out 2).trans rfl; have hcz21_3 : w19.cell? ⟨gb294, 3, none⟩ = some (.int .i64 0) := (blk_cell BK294.out 3).trans rfl; have hfz21_0 := blk_frozen BK294.out 0; have hfz21_1 := blk_frozen BK294.out 1; have hfz21_2 := blk_frozen BK294.out 2; have hfz21_3 := blk_frozen BK294.out 3)); go_upto_region 7 with (first | ((with_reducible refine gate_dst (N := 4) rfl ?_); (try (refine gate_guard (by rfl) ?_; dsimp only)); refine box_event ?hg (N := 4) ?hd (cs := #[.slice none 0 0, .int .i64 0, .int .i64 0, .int .i64 0]) (t := 78) ?hr ?_; (case hd => rfl); (case hg => rfl); (case hr => first | (go_simp; done) | (go_simp; rfl)); intro gb294 hg w19 hbox hb; have n0_ := Aside0.mk (blk_below (g := gb291) (o := .cells #[.slice (some ad293) l0_0.length c0_0, .slice A0_1 l0_1.length c0_1] 46 (0, 0)) (by (with_reducible repeat (first | refine blk_drewN ?_ _ | refine blk_drew ?_ | refine blk_alloc ?_ _)); exact BK291.out) hb); have n1_ := Aside0.mk (below_step (by repeat (first | (with_reducible first | exact HB.out | apply below_alloc | apply pw_below_drewN | apply below_drew1 | refine below_set ?_ GE291.out) | exact HB.out)) hb); have n2_ := Aside0.mk (hbox); have n3_ := Aside0.mk ((by rw [hg]; exact (below_size (by repeat (first | (with_reducible first | exact HB.out | apply below_alloc | apply pw_below_drewN | apply below_drew1 | refine below_set ?_ GE291.out) | exact HB.out))) : w.heap.size ≤ gb294)); have n4_ := Aside0.mk ((by rw [hg]; exact (below_size (by repeat (first | (with_reducible first | exact HB.out | apply below_alloc | apply pw_below_drewN | apply below_drew1 | refine below_set ?_ GE291.out) | exact HB.out))) : w.heap.size ≤ gb294)); have n5_ := Aside0.mk ((by rw [hg]; exact Nat.ne_of_lt (blk_lt (g := gb291) (o := .cells #[.slice (some ad293) l0_0.length c0_0, .slice A0_1 l0_1.length c0_1] 46 (0, 0)) (by (with_reducible repeat (first | refine blk_drewN ?_ _ | refine blk_drew ?_ | refine blk_alloc ?_ _)); exact BK291.out)) : gb291 ≠ gb294)); have n6_ := Aside0.mk ((by rw [hg]; exact Nat.ne_of_gt (blk_lt (g := gb291) (o := .cells #[.slice (some ad293) l0_0.length c0_0, .slice A0_1 l0_1.length c0_1] 46 (0, 0)) (by (with_reducible repeat (first | refine blk_drewN ?_ _ | refine blk_drew ?_ | refine blk_alloc ?_ _)); exact BK291.out)) : gb294 ≠ gb291)); clear BK291; clear HB; have BK291 := n0_; have HB := n1_; have BK294 := n2_; have GW294 := n3_; have GE294 := n4_; have NB291_294 := n5_; have NB294_291 := n6_; clear n0_ n1_ n2_ n3_ n4_ n5_ n6_; clear hb hbox hg; have hnb20 := NB294_291.out; have hnc20 := NB291_294.out; have hcz21_0 : w19.cell? ⟨gb294, 0, none⟩ = some (.slice none 0 0) := (blk_cell BK294.out 0).trans rfl; have hcz21_1 : w19.cell? ⟨gb294, 1, none⟩ = some (.int .i64 0) := (blk_cell BK294.out 1).trans rfl; have hcz21_2 : w19.cell? ⟨gb294, 2, none⟩ = some (.int .i64 0) := (blk_cell BK294.out 2).trans rfl; have hcz21_3 : w19.cell? ⟨gb294, 3, none⟩ = some (.int .i64 0) := (blk_cell BK294.out 3).trans rfl; have hfz21_0 := blk_frozen BK294.out 0; have hfz21_1 := blk_frozen BK294.out 1; have hfz21_2 := blk_frozen BK294.out 2; have hfz21_3 := blk_frozen BK294.out 3)))
                (try simp only [Act.put, List.setIfInBounds_toArray, List.set_cons_zero, List.set_cons_succ])
                go_cut [74] (fun v74 wc => ∃ (kq : Nat) (x74_16 : Bool), v74 = .bool x74_16 ∧ Aside0 (spec_SuiteOk.j2 kq x3_2 x74_16 l0_0 l0_1 ((rd_T78 l0_0 x3_2).f0) ((rd_T78 l0_0 x3_2).f1) ((rd_T78 l0_0 x3_2).f2) ((rd_T78 l0_0 x3_2).f3) = some r) ∧ Aside0 (kq ≤ k2) ∧ Aside0 (wc.heap[gb291]? = some (.cells #[(.slice (some ad293) l0_0.length c0_0), (.slice A0_1 l0_1.length c0_1)] 46 (0, 0))) ∧ Aside0 (wc.heap[gb294]? = some (.cells #[(.slice A293_0 ((rd_T78 l0_0 x3_2).f0).length c293_0), .int .i64 ((rd_T78 l0_0 x3_2).f1), .int .i64 ((rd_T78 l0_0 x3_2).f2), .int .i64 ((rd_T78 l0_0 x3_2).f3)] 78 (0, 0))) ∧ Aside0 (Below w.heap.size w wc))
                case first =>
                  have H := HC17.out
                  clear HC17
                  by_cases c22 : (((rd_T78 l0_0 x3_2).f0).length : Int) > x3_2
                  · rw [if_pos c22] at H
                    have c22b0 : decide (x3_2 < (((rd_T78 l0_0 x3_2).f0).length : Int)) = true := decide_eq_true c22
                    clear c22
                    (first | rw [c22b0] | (simp only [i64_w, i32_w]; rw [c22b0]) | skip)
                    have H' := Aside0.mk H
                    clear H
                    have hnb23 := NB294_291.out
                    have hnc23 := NB291_294.out
                    have hcz24_0 : w19.cell? ⟨gb294, 0, none⟩ = some (.slice none 0 0) := (blk_cell BK294.out 0).trans rfl
                    have hcz24_1 : w19.cell? ⟨gb294, 1, none⟩ = some (.int .i64 0) := (blk_cell BK294.out 1).trans rfl
                    have hcz24_2 : w19.cell? ⟨gb294, 2, none⟩ = some (.int .i64 0) := (blk_cell BK294.out 2).trans rfl
                    have hcz24_3 : w19.cell? ⟨gb294, 3, none⟩ = some (.int .i64 0) := (blk_cell BK294.out 3).trans rfl
                    have hfz24_0 := blk_frozen BK294.out 0
                    have hfz24_1 := blk_frozen BK294.out 1
                    have hfz24_2 := blk_frozen BK294.out 2
                    have hfz24_3 := blk_frozen BK294.out 3
                    go_wp2
                    repeat (go_quiet (fail); try go_wp2)
                    go_meet
                    case rel => exact ⟨_, (true), (by first | rfl | (simp; done) | (simp [*]; done)), H', ⟨by have := HJ1.out; have := HK2.out; first | omega | exact Nat.le_refl _⟩, ⟨by (with_reducible repeat (first | refine blk_drewN ?_ _ | refine blk_drew ?_ | refine blk_alloc ?_ _)); refine blk_far ?_ NB291_294.out _; (with_reducible repeat (first | refine blk_drewN ?_ _ | refine blk_drew ?_ | refine blk_alloc ?_ _)); refine blk_far ?_ NB291_294.out _; (with_reducible repeat (first | refine blk_drewN ?_ _ | refine blk_drew ?_ | refine blk_alloc ?_ _)); refine blk_far ?_ NB291_294.out _; (with_reducible repeat (first | refine blk_drewN ?_ _ | refine blk_drew ?_ | refine blk_alloc ?_ _)); refine blk_far ?_ NB291_294.out _; (with_reducible repeat (first | refine blk_drewN ?_ _ | refine blk_drew ?_ | refine blk_alloc ?_ _)); exact BK291.out⟩, ⟨by (with_reducible repeat (first | refine blk_drewN ?_ _ | refine blk_drew ?_ | refine blk_alloc ?_ _)); refine blk_put (cs := #[.slice A293_0 ((rd_T78 l0_0 x3_2).f0).length c293_0, .int .i64 ((rd_T78 l0_0 x3_2).f1), .int .i64 ((rd_T78 l0_0 x3_2).f2), .int .i64 0]) ?_ 3 _ rfl; (with_reducible repeat (first | refine blk_drewN ?_ _ | refine blk_drew ?_ | refine blk_alloc ?_ _)); refine blk_put (cs := #[.slice A293_0 ((rd_T78 l0_0 x3_2).f0).length c293_0, .int .i64 ((rd_T78 l0_0 x3_2).f1), .int .i64 0, .int .i64 0]) ?_ 2 _ rfl; (with_reducible repeat (first | refine blk_drewN ?_ _ | refine blk_drew ?_ | refine blk_alloc ?_ _)); refine blk_put (cs := #[.slice A293_0 ((rd_T78 l0_0 x3_2).f0).length c293_0, .int .i64 0, .int .i64 0, .int .i64 0]) ?_ 1 _ rfl; (with_reducible repeat (first | refine blk_drewN ?_ _ | refine blk_drew ?_ | refine blk_alloc ?_ _)); refine blk_put (cs := #[.slice none 0 0, .int .i64 0, .int .i64 0, .int .i64 0]) ?_ 0 _ rfl; (with_reducible repeat (first | refine blk_drewN ?_ _ | refine blk_drew ?_ | refine blk_alloc ?_ _)); exact BK294.out⟩, ⟨by repeat (first | (with_reducible first | exact HB.out | apply below_alloc | apply pw_below_drewN | apply below_drew1 | refine below_set ?_ GE291.out | refine below_set ?_ GE294.out) | exact HB.out)⟩⟩
                  · rw [if_neg c22] at H
                    have c22b0 : decide (x3_2 < (((rd_T78 l0_0 x3_2).f0).length : Int)) = false := decide_eq_false c22
                    clear c22
                    (first | rw [c22b0] | (simp only [i64_w, i32_w]; rw [c22b0]) | skip)
                    replace H := Option.bind_eq_some_iff.mp H
                    obtain ⟨t295, A250, H⟩ := H
                    replace H : (if t295 = true then ((spec_l2In.f ((rd_T78 l0_0 x3_2).f2) 0 1000000000000).bind fun t296 => (if t296 = true then ((spec_l2In.f ((rd_T78 l0_0 x3_2).f3) 1 5).bind fun t297 => (spec_SuiteOk.j2 k2 x3_2 (!t297) l0_0 l0_1 ((rd_T78 l0_0 x3_2).f0) ((rd_T78 l0_0 x3_2).f1) ((rd_T78 l0_0 x3_2).f2) ((rd_T78 l0_0 x3_2).f3))) else (spec_SuiteOk.j2 k2 x3_2 true l0_0 l0_1 ((rd_T78 l0_0 x3_2).f0) ((rd_T78 l0_0 x3_2).f1) ((rd_T78 l0_0 x3_2).f2) ((rd_T78 l0_0 x3_2).f3)))) else (spec_SuiteOk.j2 k2 x3_2 true l0_0 l0_1 ((rd_T78 l0_0 x3_2).f0) ((rd_T78 l0_0 x3_2).f1) ((rd_T78 l0_0 x3_2).f2) ((rd_T78 l0_0 x3_2).f3))) = some r := H
                    have A25 := Aside0.mk A250
                    clear A250
                    by_cases c26 : t295 = true
                    · subst c26
                      have H1 : ((spec_l2In.f ((rd_T78 l0_0 x3_2).f2) 0 1000000000000).bind fun t296 => (if t296 = true then ((spec_l2In.f ((rd_T78 l0_0 x3_2).f3) 1 5).bind fun t297 => (spec_SuiteOk.j2 k2 x3_2 (!t297) l0_0 l0_1 ((rd_T78 l0_0 x3_2).f0) ((rd_T78 l0_0 x3_2).f1) ((rd_T78 l0_0 x3_2).f2) ((rd_T78 l0_0 x3_2).f3))) else (spec_SuiteOk.j2 k2 x3_2 true l0_0 l0_1 ((rd_T78 l0_0 x3_2).f0) ((rd_T78 l0_0 x3_2).f1) ((rd_T78 l0_0 x3_2).f2) ((rd_T78 l0_0 x3_2).f3)))) = some r := by rw [if_pos rfl] at H; exact H
                      clear H
                      have H := H1
                      clear H1
                      replace H := Option.bind_eq_some_iff.mp H
                      obtain ⟨t296, A270, H⟩ := H
                      replace H : (if t296 = true then ((spec_l2In.f ((rd_T78 l0_0 x3_2).f3) 1 5).bind fun t297 => (spec_SuiteOk.j2 k2 x3_2 (!t297) l0_0 l0_1 ((rd_T78 l0_0 x3_2).f0) ((rd_T78 l0_0 x3_2).f1) ((rd_T78 l0_0 x3_2).f2) ((rd_T78 l0_0 x3_2).f3))) else (spec_SuiteOk.j2 k2 x3_2 true l0_0 l0_1 ((rd_T78 l0_0 x3_2).f0) ((rd_T78 l0_0 x3_2).f1) ((rd_T78 l0_0 x3_2).f2) ((rd_T78 l0_0 x3_2).f3))) = some r := H
                      have A27 := Aside0.mk A270
                      clear A270
                      by_cases c28 : t296 = true
                      · subst c28
                        have H1 : ((spec_l2In.f ((rd_T78 l0_0 x3_2).f3) 1 5).bind fun t297 => (spec_SuiteOk.j2 k2 x3_2 (!t297) l0_0 l0_1 ((rd_T78 l0_0 x3_2).f0) ((rd_T78 l0_0 x3_2).f1) ((rd_T78 l0_0 x3_2).f2) ((rd_T78 l0_0 x3_2).f3))) = some r := by rw [if_pos rfl] at H; exact H
                        clear H
                        have H := H1
                        clear H1
                        replace H := Option.bind_eq_some_iff.mp H
                        obtain ⟨t297, A290, H⟩ := H
                        replace H : (spec_SuiteOk.j2 k2 x3_2 (!t297) l0_0 l0_1 ((rd_T78 l0_0 x3_2).f0) ((rd_T78 l0_0 x3_2).f1) ((rd_T78 l0_0 x3_2).f2) ((rd_T78 l0_0 x3_2).f3)) = some r := H
                        have A29 := Aside0.mk A290
                        clear A290
                        have H' := Aside0.mk H
                        clear H
                        have hnb30 := NB294_291.out
                        have hnc30 := NB291_294.out
                        have hcz31_0 : w19.cell? ⟨gb294, 0, none⟩ = some (.slice none 0 0) := (blk_cell BK294.out 0).trans rfl
                        have hcz31_1 : w19.cell? ⟨gb294, 1, none⟩ = some (.int .i64 0) := (blk_cell BK294.out 1).trans rfl
                        have hcz31_2 : w19.cell? ⟨gb294, 2, none⟩ = some (.int .i64 0) := (blk_cell BK294.out 2).trans rfl
                        have hcz31_3 : w19.cell? ⟨gb294, 3, none⟩ = some (.int .i64 0) := (blk_cell BK294.out 3).trans rfl
                        have hfz31_0 := blk_frozen BK294.out 0
                        have hfz31_1 := blk_frozen BK294.out 1
                        have hfz31_2 := blk_frozen BK294.out 2
                        have hfz31_3 := blk_frozen BK294.out 3
                        have hcz32_0 : w19.cell? ⟨gb291, 0, none⟩ = some (.slice (some ad293) l0_0.length c0_0) := (blk_cell BK291.out 0).trans rfl
                        have hcz32_1 : w19.cell? ⟨gb291, 1, none⟩ = some (.slice A0_1 l0_1.length c0_1) := (blk_cell BK291.out 1).trans rfl
                        have hfz32_0 := blk_frozen BK291.out 0
                        have hfz32_1 := blk_frozen BK291.out 1
                        go_wp2_with (first | (go_at_call 44; (with_reducible refine (spec_l2In.calls ((rd_T78 l0_0 x3_2).f1) 1 (l0_1.length : Int) true _ A25.out).mono ?_); rintro e w' ⟨rfl, ⟨nd, rfl⟩⟩; (try first | exact ⟨rfl, _, World.drewN_drewN _ _ _⟩ | exact ⟨rfl, _, Eq.trans (World.drewN_drewN _ _ _) (congrArg (World.drewN _) (Nat.add_assoc _ _ _))⟩)) | (go_at_call 44; (with_reducible refine (spec_l2In.calls ((rd_T78 l0_0 x3_2).f2) 0 1000000000000 true _ A27.out).mono ?_); rintro e w' ⟨rfl, ⟨nd, rfl⟩⟩; (try first | exact ⟨rfl, _, World.drewN_drewN _ _ _⟩ | exact ⟨rfl, _, Eq.trans (World.drewN_drewN _ _ _) (congrArg (World.drewN _) (Nat.add_assoc _ _ _))⟩)) | (go_at_call 44; (with_reducible refine (spec_l2In.calls ((rd_T78 l0_0 x3_2).f3) 1 5 t297 _ A29.out).mono ?_); rintro e w' ⟨rfl, ⟨nd, rfl⟩⟩; (try first | exact ⟨rfl, _, World.drewN_drewN _ _ _⟩ | exact ⟨rfl, _, Eq.trans (World.drewN_drewN _ _ _) (congrArg (World.drewN _) (Nat.add_assoc _ _ _))⟩)))
                        repeat (go_quiet (first | (go_at_call 44; (with_reducible refine (spec_l2In.calls ((rd_T78 l0_0 x3_2).f1) 1 (l0_1.length : Int) true _ A25.out).mono ?_); rintro e w' ⟨rfl, ⟨nd, rfl⟩⟩; (try first | exact ⟨rfl, _, World.drewN_drewN _ _ _⟩ | exact ⟨rfl, _, Eq.trans (World.drewN_drewN _ _ _) (congrArg (World.drewN _) (Nat.add_assoc _ _ _))⟩)) | (go_at_call 44; (with_reducible refine (spec_l2In.calls ((rd_T78 l0_0 x3_2).f2) 0 1000000000000 true _ A27.out).mono ?_); rintro e w' ⟨rfl, ⟨nd, rfl⟩⟩; (try first | exact ⟨rfl, _, World.drewN_drewN _ _ _⟩ | exact ⟨rfl, _, Eq.trans (World.drewN_drewN _ _ _) (congrArg (World.drewN _) (Nat.add_assoc _ _ _))⟩)) | (go_at_call 44; (with_reducible refine (spec_l2In.calls ((rd_T78 l0_0 x3_2).f3) 1 5 t297 _ A29.out).mono ?_); rintro e w' ⟨rfl, ⟨nd, rfl⟩⟩; (try first | exact ⟨rfl, _, World.drewN_drewN _ _ _⟩ | exact ⟨rfl, _, Eq.trans (World.drewN_drewN _ _ _) (congrArg (World.drewN _) (Nat.add_assoc _ _ _))⟩))); try go_wp2_with (first | (go_at_call 44; (with_reducible refine (spec_l2In.calls ((rd_T78 l0_0 x3_2).f1) 1 (l0_1.length : Int) true _ A25.out).mono ?_); rintro e w' ⟨rfl, ⟨nd, rfl⟩⟩; (try first | exact ⟨rfl, _, World.drewN_drewN _ _ _⟩ | exact ⟨rfl, _, Eq.trans (World.drewN_drewN _ _ _) (congrArg (World.drewN _) (Nat.add_assoc _ _ _))⟩)) | (go_at_call 44; (with_reducible refine (spec_l2In.calls ((rd_T78 l0_0 x3_2).f2) 0 1000000000000 true _ A27.out).mono ?_); rintro e w' ⟨rfl, ⟨nd, rfl⟩⟩; (try first | exact ⟨rfl, _, World.drewN_drewN _ _ _⟩ | exact ⟨rfl, _, Eq.trans (World.drewN_drewN _ _ _) (congrArg (World.drewN _) (Nat.add_assoc _ _ _))⟩)) | (go_at_call 44; (with_reducible refine (spec_l2In.calls ((rd_T78 l0_0 x3_2).f3) 1 5 t297 _ A29.out).mono ?_); rintro e w' ⟨rfl, ⟨nd, rfl⟩⟩; (try first | exact ⟨rfl, _, World.drewN_drewN _ _ _⟩ | exact ⟨rfl, _, Eq.trans (World.drewN_drewN _ _ _) (congrArg (World.drewN _) (Nat.add_assoc _ _ _))⟩))))
                        go_meet
                        case rel => exact ⟨_, (!t297), (by first | rfl | (simp; done) | (simp [*]; done)), H', ⟨by have := HJ1.out; have := HK2.out; first | omega | exact Nat.le_refl _⟩, ⟨by (with_reducible repeat (first | refine blk_drewN ?_ _ | refine blk_drew ?_ | refine blk_alloc ?_ _)); refine blk_far ?_ NB291_294.out _; (with_reducible repeat (first | refine blk_drewN ?_ _ | refine blk_drew ?_ | refine blk_alloc ?_ _)); refine blk_far ?_ NB291_294.out _; (with_reducible repeat (first | refine blk_drewN ?_ _ | refine blk_drew ?_ | refine blk_alloc ?_ _)); refine blk_far ?_ NB291_294.out _; (with_reducible repeat (first | refine blk_drewN ?_ _ | refine blk_drew ?_ | refine blk_alloc ?_ _)); refine blk_far ?_ NB291_294.out _; (with_reducible repeat (first | refine blk_drewN ?_ _ | refine blk_drew ?_ | refine blk_alloc ?_ _)); exact BK291.out⟩, ⟨by (with_reducible repeat (first | refine blk_drewN ?_ _ | refine blk_drew ?_ | refine blk_alloc ?_ _)); refine blk_put (cs := #[.slice A293_0 ((rd_T78 l0_0 x3_2).f0).length c293_0, .int .i64 ((rd_T78 l0_0 x3_2).f1), .int .i64 ((rd_T78 l0_0 x3_2).f2), .int .i64 0]) ?_ 3 _ rfl; (with_reducible repeat (first | refine blk_drewN ?_ _ | refine blk_drew ?_ | refine blk_alloc ?_ _)); refine blk_put (cs := #[.slice A293_0 ((rd_T78 l0_0 x3_2).f0).length c293_0, .int .i64 ((rd_T78 l0_0 x3_2).f1), .int .i64 0, .int .i64 0]) ?_ 2 _ rfl; (with_reducible repeat (first | refine blk_drewN ?_ _ | refine blk_drew ?_ | refine blk_alloc ?_ _)); refine blk_put (cs := #[.slice A293_0 ((rd_T78 l0_0 x3_2).f0).length c293_0, .int .i64 0, .int .i64 0, .int .i64 0]) ?_ 1 _ rfl; (with_reducible repeat (first | refine blk_drewN ?_ _ | refine blk_drew ?_ | refine blk_alloc ?_ _)); refine blk_put (cs := #[.slice none 0 0, .int .i64 0, .int .i64 0, .int .i64 0]) ?_ 0 _ rfl; (with_reducible repeat (first | refine blk_drewN ?_ _ | refine blk_drew ?_ | refine blk_alloc ?_ _)); exact BK294.out⟩, ⟨by repeat (first | (with_reducible first | exact HB.out | apply below_alloc | apply pw_below_drewN | apply below_drew1 | refine below_set ?_ GE291.out | refine below_set ?_ GE294.out) | exact HB.out)⟩⟩
                      · replace c28 := Bool.eq_false_iff.mpr c28
                        subst c28
                        have H1 : (spec_SuiteOk.j2 k2 x3_2 true l0_0 l0_1 ((rd_T78 l0_0 x3_2).f0) ((rd_T78 l0_0 x3_2).f1) ((rd_T78 l0_0 x3_2).f2) ((rd_T78 l0_0 x3_2).f3)) = some r := by rw [if_neg (show ¬ (false = true) by decide)] at H; exact H
                        clear H
                        have H := H1
                        clear H1
                        have H' := Aside0.mk H
                        clear H
                        have hnb33 := NB294_291.out
                        have hnc33 := NB291_294.out
                        have hcz34_0 : w19.cell? ⟨gb294, 0, none⟩ = some (.slice none 0 0) := (blk_cell BK294.out 0).trans rfl
                        have hcz34_1 : w19.cell? ⟨gb294, 1, none⟩ = some (.int .i64 0) := (blk_cell BK294.out 1).trans rfl
                        have hcz34_2 : w19.cell? ⟨gb294, 2, none⟩ = some (.int .i64 0) := (blk_cell BK294.out 2).trans rfl
                        have hcz34_3 : w19.cell? ⟨gb294, 3, none⟩ = some (.int .i64 0) := (blk_cell BK294.out 3).trans rfl
                        have hfz34_0 := blk_frozen BK294.out 0
                        have hfz34_1 := blk_frozen BK294.out 1
                        have hfz34_2 := blk_frozen BK294.out 2
                        have hfz34_3 := blk_frozen BK294.out 3
                        have hcz35_0 : w19.cell? ⟨gb291, 0, none⟩ = some (.slice (some ad293) l0_0.length c0_0) := (blk_cell BK291.out 0).trans rfl
                        have hcz35_1 : w19.cell? ⟨gb291, 1, none⟩ = some (.slice A0_1 l0_1.length c0_1) := (blk_cell BK291.out 1).trans rfl
                        have hfz35_0 := blk_frozen BK291.out 0
                        have hfz35_1 := blk_frozen BK291.out 1
                        go_wp2_with (first | (go_at_call 44; (with_reducible refine (spec_l2In.calls ((rd_T78 l0_0 x3_2).f1) 1 (l0_1.length : Int) true _ A25.out).mono ?_); rintro e w' ⟨rfl, ⟨nd, rfl⟩⟩; (try first | exact ⟨rfl, _, World.drewN_drewN _ _ _⟩ | exact ⟨rfl, _, Eq.trans (World.drewN_drewN _ _ _) (congrArg (World.drewN _) (Nat.add_assoc _ _ _))⟩)) | (go_at_call 44; (with_reducible refine (spec_l2In.calls ((rd_T78 l0_0 x3_2).f2) 0 1000000000000 false _ A27.out).mono ?_); rintro e w' ⟨rfl, ⟨nd, rfl⟩⟩; (try first | exact ⟨rfl, _, World.drewN_drewN _ _ _⟩ | exact ⟨rfl, _, Eq.trans (World.drewN_drewN _ _ _) (congrArg (World.drewN _) (Nat.add_assoc _ _ _))⟩)))
                        repeat (go_quiet (first | (go_at_call 44; (with_reducible refine (spec_l2In.calls ((rd_T78 l0_0 x3_2).f1) 1 (l0_1.length : Int) true _ A25.out).mono ?_); rintro e w' ⟨rfl, ⟨nd, rfl⟩⟩; (try first | exact ⟨rfl, _, World.drewN_drewN _ _ _⟩ | exact ⟨rfl, _, Eq.trans (World.drewN_drewN _ _ _) (congrArg (World.drewN _) (Nat.add_assoc _ _ _))⟩)) | (go_at_call 44; (with_reducible refine (spec_l2In.calls ((rd_T78 l0_0 x3_2).f2) 0 1000000000000 false _ A27.out).mono ?_); rintro e w' ⟨rfl, ⟨nd, rfl⟩⟩; (try first | exact ⟨rfl, _, World.drewN_drewN _ _ _⟩ | exact ⟨rfl, _, Eq.trans (World.drewN_drewN _ _ _) (congrArg (World.drewN _) (Nat.add_assoc _ _ _))⟩))); try go_wp2_with (first | (go_at_call 44; (with_reducible refine (spec_l2In.calls ((rd_T78 l0_0 x3_2).f1) 1 (l0_1.length : Int) true _ A25.out).mono ?_); rintro e w' ⟨rfl, ⟨nd, rfl⟩⟩; (try first | exact ⟨rfl, _, World.drewN_drewN _ _ _⟩ | exact ⟨rfl, _, Eq.trans (World.drewN_drewN _ _ _) (congrArg (World.drewN _) (Nat.add_assoc _ _ _))⟩)) | (go_at_call 44; (with_reducible refine (spec_l2In.calls ((rd_T78 l0_0 x3_2).f2) 0 1000000000000 false _ A27.out).mono ?_); rintro e w' ⟨rfl, ⟨nd, rfl⟩⟩; (try first | exact ⟨rfl, _, World.drewN_drewN _ _ _⟩ | exact ⟨rfl, _, Eq.trans (World.drewN_drewN _ _ _) (congrArg (World.drewN _) (Nat.add_assoc _ _ _))⟩))))
                        go_meet
                        case rel => exact ⟨_, (true), (by first | rfl | (simp; done) | (simp [*]; done)), H', ⟨by have := HJ1.out; have := HK2.out; first | omega | exact Nat.le_refl _⟩, ⟨by (with_reducible repeat (first | refine blk_drewN ?_ _ | refine blk_drew ?_ | refine blk_alloc ?_ _)); refine blk_far ?_ NB291_294.out _; (with_reducible repeat (first | refine blk_drewN ?_ _ | refine blk_drew ?_ | refine blk_alloc ?_ _)); refine blk_far ?_ NB291_294.out _; (with_reducible repeat (first | refine blk_drewN ?_ _ | refine blk_drew ?_ | refine blk_alloc ?_ _)); refine blk_far ?_ NB291_294.out _; (with_reducible repeat (first | refine blk_drewN ?_ _ | refine blk_drew ?_ | refine blk_alloc ?_ _)); refine blk_far ?_ NB291_294.out _; (with_reducible repeat (first | refine blk_drewN ?_ _ | refine blk_drew ?_ | refine blk_alloc ?_ _)); exact BK291.out⟩, ⟨by (with_reducible repeat (first | refine blk_drewN ?_ _ | refine blk_drew ?_ | refine blk_alloc ?_ _)); refine blk_put (cs := #[.slice A293_0 ((rd_T78 l0_0 x3_2).f0).length c293_0, .int .i64 ((rd_T78 l0_0 x3_2).f1), .int .i64 ((rd_T78 l0_0 x3_2).f2), .int .i64 0]) ?_ 3 _ rfl; (with_reducible repeat (first | refine blk_drewN ?_ _ | refine blk_drew ?_ | refine blk_alloc ?_ _)); refine blk_put (cs := #[.slice A293_0 ((rd_T78 l0_0 x3_2).f0).length c293_0, .int .i64 ((rd_T78 l0_0 x3_2).f1), .int .i64 0, .int .i64 0]) ?_ 2 _ rfl; (with_reducible repeat (first | refine blk_drewN ?_ _ | refine blk_drew ?_ | refine blk_alloc ?_ _)); refine blk_put (cs := #[.slice A293_0 ((rd_T78 l0_0 x3_2).f0).length c293_0, .int .i64 0, .int .i64 0, .int .i64 0]) ?_ 1 _ rfl; (with_reducible repeat (first | refine blk_drewN ?_ _ | refine blk_drew ?_ | refine blk_alloc ?_ _)); refine blk_put (cs := #[.slice none 0 0, .int .i64 0, .int .i64 0, .int .i64 0]) ?_ 0 _ rfl; (with_reducible repeat (first | refine blk_drewN ?_ _ | refine blk_drew ?_ | refine blk_alloc ?_ _)); exact BK294.out⟩, ⟨by repeat (first | (with_reducible first | exact HB.out | apply below_alloc | apply pw_below_drewN | apply below_drew1 | refine below_set ?_ GE291.out | refine below_set ?_ GE294.out) | exact HB.out)⟩⟩
                    · replace c26 := Bool.eq_false_iff.mpr c26
                      subst c26
                      have H1 : (spec_SuiteOk.j2 k2 x3_2 true l0_0 l0_1 ((rd_T78 l0_0 x3_2).f0) ((rd_T78 l0_0 x3_2).f1) ((rd_T78 l0_0 x3_2).f2) ((rd_T78 l0_0 x3_2).f3)) = some r := by rw [if_neg (show ¬ (false = true) by decide)] at H; exact H
                      clear H
                      have H := H1
                      clear H1
                      have H' := Aside0.mk H
                      clear H
                      have hnb36 := NB294_291.out
                      have hnc36 := NB291_294.out
                      have hcz37_0 : w19.cell? ⟨gb294, 0, none⟩ = some (.slice none 0 0) := (blk_cell BK294.out 0).trans rfl
                      have hcz37_1 : w19.cell? ⟨gb294, 1, none⟩ = some (.int .i64 0) := (blk_cell BK294.out 1).trans rfl
                      have hcz37_2 : w19.cell? ⟨gb294, 2, none⟩ = some (.int .i64 0) := (blk_cell BK294.out 2).trans rfl
                      have hcz37_3 : w19.cell? ⟨gb294, 3, none⟩ = some (.int .i64 0) := (blk_cell BK294.out 3).trans rfl
                      have hfz37_0 := blk_frozen BK294.out 0
                      have hfz37_1 := blk_frozen BK294.out 1
                      have hfz37_2 := blk_frozen BK294.out 2
                      have hfz37_3 := blk_frozen BK294.out 3
                      have hcz38_0 : w19.cell? ⟨gb291, 0, none⟩ = some (.slice (some ad293) l0_0.length c0_0) := (blk_cell BK291.out 0).trans rfl
                      have hcz38_1 : w19.cell? ⟨gb291, 1, none⟩ = some (.slice A0_1 l0_1.length c0_1) := (blk_cell BK291.out 1).trans rfl
                      have hfz38_0 := blk_frozen BK291.out 0
                      have hfz38_1 := blk_frozen BK291.out 1
                      go_wp2_with (first | (go_at_call 44; (with_reducible refine (spec_l2In.calls ((rd_T78 l0_0 x3_2).f1) 1 (l0_1.length : Int) false _ A25.out).mono ?_); rintro e w' ⟨rfl, ⟨nd, rfl⟩⟩; (try first | exact ⟨rfl, _, World.drewN_drewN _ _ _⟩ | exact ⟨rfl, _, Eq.trans (World.drewN_drewN _ _ _) (congrArg (World.drewN _) (Nat.add_assoc _ _ _))⟩)))
                      repeat (go_quiet (first | (go_at_call 44; (with_reducible refine (spec_l2In.calls ((rd_T78 l0_0 x3_2).f1) 1 (l0_1.length : Int) false _ A25.out).mono ?_); rintro e w' ⟨rfl, ⟨nd, rfl⟩⟩; (try first | exact ⟨rfl, _, World.drewN_drewN _ _ _⟩ | exact ⟨rfl, _, Eq.trans (World.drewN_drewN _ _ _) (congrArg (World.drewN _) (Nat.add_assoc _ _ _))⟩))); try go_wp2_with (first | (go_at_call 44; (with_reducible refine (spec_l2In.calls ((rd_T78 l0_0 x3_2).f1) 1 (l0_1.length : Int) false _ A25.out).mono ?_); rintro e w' ⟨rfl, ⟨nd, rfl⟩⟩; (try first | exact ⟨rfl, _, World.drewN_drewN _ _ _⟩ | exact ⟨rfl, _, Eq.trans (World.drewN_drewN _ _ _) (congrArg (World.drewN _) (Nat.add_assoc _ _ _))⟩))))
                      go_meet
                      case rel => exact ⟨_, (true), (by first | rfl | (simp; done) | (simp [*]; done)), H', ⟨by have := HJ1.out; have := HK2.out; first | omega | exact Nat.le_refl _⟩, ⟨by (with_reducible repeat (first | refine blk_drewN ?_ _ | refine blk_drew ?_ | refine blk_alloc ?_ _)); refine blk_far ?_ NB291_294.out _; (with_reducible repeat (first | refine blk_drewN ?_ _ | refine blk_drew ?_ | refine blk_alloc ?_ _)); refine blk_far ?_ NB291_294.out _; (with_reducible repeat (first | refine blk_drewN ?_ _ | refine blk_drew ?_ | refine blk_alloc ?_ _)); refine blk_far ?_ NB291_294.out _; (with_reducible repeat (first | refine blk_drewN ?_ _ | refine blk_drew ?_ | refine blk_alloc ?_ _)); refine blk_far ?_ NB291_294.out _; (with_reducible repeat (first | refine blk_drewN ?_ _ | refine blk_drew ?_ | refine blk_alloc ?_ _)); exact BK291.out⟩, ⟨by (with_reducible repeat (first | refine blk_drewN ?_ _ | refine blk_drew ?_ | refine blk_alloc ?_ _)); refine blk_put (cs := #[.slice A293_0 ((rd_T78 l0_0 x3_2).f0).length c293_0, .int .i64 ((rd_T78 l0_0 x3_2).f1), .int .i64 ((rd_T78 l0_0 x3_2).f2), .int .i64 0]) ?_ 3 _ rfl; (with_reducible repeat (first | refine blk_drewN ?_ _ | refine blk_drew ?_ | refine blk_alloc ?_ _)); refine blk_put (cs := #[.slice A293_0 ((rd_T78 l0_0 x3_2).f0).length c293_0, .int .i64 ((rd_T78 l0_0 x3_2).f1), .int .i64 0, .int .i64 0]) ?_ 2 _ rfl; (with_reducible repeat (first | refine blk_drewN ?_ _ | refine blk_drew ?_ | refine blk_alloc ?_ _)); refine blk_put (cs := #[.slice A293_0 ((rd_T78 l0_0 x3_2).f0).length c293_0, .int .i64 0, .int .i64 0, .int .i64 0]) ?_ 1 _ rfl; (with_reducible repeat (first | refine blk_drewN ?_ _ | refine blk_drew ?_ | refine blk_alloc ?_ _)); refine blk_put (cs := #[.slice none 0 0, .int .i64 0, .int .i64 0, .int .i64 0]) ?_ 0 _ rfl; (with_reducible repeat (first | refine blk_drewN ?_ _ | refine blk_drew ?_ | refine blk_alloc ?_ _)); exact BK294.out⟩, ⟨by repeat (first | (with_reducible first | exact HB.out | apply below_alloc | apply pw_below_drewN | apply below_drew1 | refine below_set ?_ GE291.out | refine below_set ?_ GE294.out) | exact HB.out)⟩⟩
                case rest =>
                  clear HC17
                  try clear c1
                  try clear c2
                  try clear p2
                  try clear q2
                  try clear hx2
                  try clear c3
                  try clear c4
                  try clear c4b0
                  try clear c4b1
                  try clear c6
                  try clear c6b0
                  try clear c6b1
                  try clear c8
                  try clear c8b0
                  try clear c8b1
                  try clear c10
                  try clear c10b0
                  try clear c10b1
                  try clear c14
                  try clear c15
                  try clear c15b0
                  try clear c16
                  try clear c16b0
                  try clear c20
                  try clear c21
                  try clear c22
                  try clear c22b0
                  try clear c23
                  try clear c26
                  try clear c28
                  try clear c29
                  try clear p29
                  try clear q29
                  try clear hx29
                  try clear c30
                  try clear c33
                  try clear c36
                  try clear hcz11_0
                  try clear hcz11_1
                  try clear hcz13_0
                  try clear hcz13_1
                  try clear hcz18_0
                  try clear hcz18_1
                  try clear hcz21_0
                  try clear hcz21_1
                  try clear hcz21_2
                  try clear hcz21_3
                  try clear hcz24_0
                  try clear hcz24_1
                  try clear hcz24_2
                  try clear hcz24_3
                  try clear hcz31_0
                  try clear hcz31_1
                  try clear hcz31_2
                  try clear hcz31_3
                  try clear hcz32_0
                  try clear hcz32_1
                  try clear hcz34_0
                  try clear hcz34_1
                  try clear hcz34_2
                  try clear hcz34_3
                  try clear hcz35_0
                  try clear hcz35_1
                  try clear hcz37_0
                  try clear hcz37_1
                  try clear hcz37_2
                  try clear hcz37_3
                  try clear hcz38_0
                  try clear hcz38_1
                  try clear hcz5_0
                  try clear hcz5_1
                  try clear hcz7_0
                  try clear hcz7_1
                  try clear hcz9_0
                  try clear hcz9_1
                  try clear hfz11_0
                  try clear hfz11_1
                  try clear hfz13_0
                  try clear hfz13_1
                  try clear hfz18_0
                  try clear hfz18_1
                  try clear hfz21_0
                  try clear hfz21_1
                  try clear hfz21_2
                  try clear hfz21_3
                  try clear hfz24_0
                  try clear hfz24_1
                  try clear hfz24_2
                  try clear hfz24_3
                  try clear hfz31_0
                  try clear hfz31_1
                  try clear hfz31_2
                  try clear hfz31_3
                  try clear hfz32_0
                  try clear hfz32_1
                  try clear hfz34_0
                  try clear hfz34_1
                  try clear hfz34_2
                  try clear hfz34_3
                  try clear hfz35_0
                  try clear hfz35_1
                  try clear hfz37_0
                  try clear hfz37_1
                  try clear hfz37_2
                  try clear hfz37_3
                  try clear hfz38_0
                  try clear hfz38_1
                  try clear hfz5_0
                  try clear hfz5_1
                  try clear hfz7_0
                  try clear hfz7_1
                  try clear hfz9_0
                  try clear hfz9_1
                  try clear hx293_0
                  try clear hx293_1
                  try clear hx293_2
                  try clear hx293_3
                  try clear p2
                  try clear p293
                  try clear q293
                  obtain ⟨kq, x74_16, rfl, HA, HJ16, BK291, BK294, HB⟩ := hcut
                  cases kq with
                  | zero => exact absurd HA.out (by simp [spec_SuiteOk.j2])
                  | succ kj16 =>
                    have H := HA.out
                    clear HA
                    simp only [spec_SuiteOk.j2] at H
                    by_cases c39 : x74_16 = true
                    · subst c39
                      have H1 : (some false) = some r := by rw [if_pos rfl] at H; exact H
                      clear H
                      have H := H1
                      clear H1
                      obtain rfl := Option.some.inj H
                      go_wp2
                      repeat (go_quiet (fail); try go_wp2)
                      go_ret
                      exact ⟨by first | rfl | (simp [errW_none, errW_some] <;> rfl) | (simp [*, errW_none, errW_some] <;> rfl), by repeat (first | (with_reducible first | exact HB.out | apply below_alloc | apply pw_below_drewN | apply below_drew1 | refine below_set ?_ GE291.out | refine below_set ?_ GE294.out) | exact HB.out)⟩
                    · replace c39 := Bool.eq_false_iff.mpr c39
                      subst c39
                      have H1 : (spec_SuiteOk.l1 kj16 x3_2 0 l0_0 l0_1 ((rd_T78 l0_0 x3_2).f0) ((rd_T78 l0_0 x3_2).f1) ((rd_T78 l0_0 x3_2).f2) ((rd_T78 l0_0 x3_2).f3)) = some r := by rw [if_neg (show ¬ (false = true) by decide)] at H; exact H
                      clear H
                      have H := H1
                      clear H1
                      have H' := Aside0.mk H
                      clear H
                      go_wp2
                      repeat (go_quiet (fail); try go_wp2)
                      go_loopg [5] kj16 (fun kq v5 w' => ∃ (x5_4 : Int), v5 = .int .i64 x5_4 ∧ Aside0 (spec_SuiteOk.l1 kq x3_2 x5_4 l0_0 l0_1 ((rd_T78 l0_0 x3_2).f0) ((rd_T78 l0_0 x3_2).f1) ((rd_T78 l0_0 x3_2).f2) ((rd_T78 l0_0 x3_2).f3) = some r) ∧ Aside0 (kq ≤ kj16) ∧ Aside0 (w'.heap[gb291]? = some (.cells #[(.slice (some ad293) l0_0.length c0_0), (.slice A0_1 l0_1.length c0_1)] 46 (0, 0))) ∧ Aside0 (w'.heap[gb294]? = some (.cells #[(.slice A293_0 ((rd_T78 l0_0 x3_2).f0).length c293_0), .int .i64 ((rd_T78 l0_0 x3_2).f1), .int .i64 ((rd_T78 l0_0 x3_2).f2), .int .i64 ((rd_T78 l0_0 x3_2).f3)] 78 (0, 0))) ∧ Aside0 (Below w.heap.size w w'))
                      case atStart => exact ⟨(0), (by first | rfl | (simp; done) | (simp [*]; done)), H', ⟨Nat.le_refl _⟩, ⟨by (with_reducible repeat (first | refine blk_drewN ?_ _ | refine blk_drew ?_ | refine blk_alloc ?_ _)); exact BK291.out⟩, ⟨by (with_reducible repeat (first | refine blk_drewN ?_ _ | refine blk_drew ?_ | refine blk_alloc ?_ _)); exact BK294.out⟩, ⟨by repeat (first | (with_reducible first | exact HB.out | apply below_alloc | apply pw_below_drewN | apply below_drew1 | refine below_set ?_ GE291.out | refine below_set ?_ GE294.out) | exact HB.out)⟩⟩
                      case round =>
                        clear H'
                        try clear c1
                        try clear c2
                        try clear p2
                        try clear q2
                        try clear hx2
                        try clear c3
                        try clear c4
                        try clear c4b0
                        try clear c4b1
                        try clear c6
                        try clear c6b0
                        try clear c6b1
                        try clear c8
                        try clear c8b0
                        try clear c8b1
                        try clear c10
                        try clear c10b0
                        try clear c10b1
                        try clear c14
                        try clear c15
                        try clear c15b0
                        try clear c16
                        try clear c16b0
                        try clear c20
                        try clear c21
                        try clear c22
                        try clear c22b0
                        try clear c23
                        try clear c26
                        try clear c28
                        try clear c29
                        try clear p29
                        try clear q29
                        try clear hx29
                        try clear c30
                        try clear c33
                        try clear c36
                        try clear c39
                        try clear hcz11_0
                        try clear hcz11_1
                        try clear hcz13_0
                        try clear hcz13_1
                        try clear hcz18_0
                        try clear hcz18_1
                        try clear hcz21_0
                        try clear hcz21_1
                        try clear hcz21_2
                        try clear hcz21_3
                        try clear hcz24_0
                        try clear hcz24_1
                        try clear hcz24_2
                        try clear hcz24_3
                        try clear hcz31_0
                        try clear hcz31_1
                        try clear hcz31_2
                        try clear hcz31_3
                        try clear hcz32_0
                        try clear hcz32_1
                        try clear hcz34_0
                        try clear hcz34_1
                        try clear hcz34_2
                        try clear hcz34_3
                        try clear hcz35_0
                        try clear hcz35_1
                        try clear hcz37_0
                        try clear hcz37_1
                        try clear hcz37_2
                        try clear hcz37_3
                        try clear hcz38_0
                        try clear hcz38_1
                        try clear hcz5_0
                        try clear hcz5_1
                        try clear hcz7_0
                        try clear hcz7_1
                        try clear hcz9_0
                        try clear hcz9_1
                        try clear hfz11_0
                        try clear hfz11_1
                        try clear hfz13_0
                        try clear hfz13_1
                        try clear hfz18_0
                        try clear hfz18_1
                        try clear hfz21_0
                        try clear hfz21_1
                        try clear hfz21_2
                        try clear hfz21_3
                        try clear hfz24_0
                        try clear hfz24_1
                        try clear hfz24_2
                        try clear hfz24_3
                        try clear hfz31_0
                        try clear hfz31_1
                        try clear hfz31_2
                        try clear hfz31_3
                        try clear hfz32_0
                        try clear hfz32_1
                        try clear hfz34_0
                        try clear hfz34_1
                        try clear hfz34_2
                        try clear hfz34_3
                        try clear hfz35_0
                        try clear hfz35_1
                        try clear hfz37_0
                        try clear hfz37_1
                        try clear hfz37_2
                        try clear hfz37_3
                        try clear hfz38_0
                        try clear hfz38_1
                        try clear hfz5_0
                        try clear hfz5_1
                        try clear hfz7_0
                        try clear hfz7_1
                        try clear hfz9_0
                        try clear hfz9_1
                        try clear hx293_0
                        try clear hx293_1
                        try clear hx293_2
                        try clear hx293_3
                        try clear p2
                        try clear p29
                        try clear p293
                        try clear q2
                        try clear q29
                        try clear q293
                        obtain ⟨x5_4, rfl, HA, HK4, BK291, BK294, HB⟩ := hrel
                        cases gk with
                        | zero => exact absurd HA.out (by simp [spec_SuiteOk.l1])
                        | succ k4 =>
                          have H := HA.out
                          clear HA
                          simp only [spec_SuiteOk.l1] at H
                          by_cases c40 : x5_4 < (((rd_T78 l0_0 x3_2).f0).length : Int)
                          · rw [if_pos c40] at H
                            have c40b0 : decide (x5_4 < (((rd_T78 l0_0 x3_2).f0).length : Int)) = true := decide_eq_true c40
                            clear c40
                            by_cases c41 : 0 ≤ x5_4
                            · rw [if_pos c41] at H
                              have c41b0 : decide (0 ≤ x5_4) = true := decide_eq_true c41
                              clear c41
                              replace H := Option.bind_eq_some_iff.mp H
                              obtain ⟨t299, A420, H⟩ := H
                              replace H : (if t299 = true then (if x5_4 > 0 then (if 0 ≤ (wrap64 (x5_4 - 1)) then (if (wrap64 (x5_4 - 1)) < (((rd_T78 l0_0 x3_2).f0).length : Int) then (if (rd ((rd_T78 l0_0 x3_2).f0) x5_4) ≤ (rd ((rd_T78 l0_0 x3_2).f0) (wrap64 (x5_4 - 1))) then (some false) else (spec_SuiteOk.l1 k4 x3_2 (wrap64 (x5_4 + 1)) l0_0 l0_1 ((rd_T78 l0_0 x3_2).f0) ((rd_T78 l0_0 x3_2).f1) ((rd_T78 l0_0 x3_2).f2) ((rd_T78 l0_0 x3_2).f3))) else (none)) else (none)) else (spec_SuiteOk.l1 k4 x3_2 (wrap64 (x5_4 + 1)) l0_0 l0_1 ((rd_T78 l0_0 x3_2).f0) ((rd_T78 l0_0 x3_2).f1) ((rd_T78 l0_0 x3_2).f2) ((rd_T78 l0_0 x3_2).f3))) else (some false)) = some r := H
                              have A42 := Aside0.mk A420
                              clear A420
                              by_cases c43 : t299 = true
                              · subst c43
                                have H1 : (if x5_4 > 0 then (if 0 ≤ (wrap64 (x5_4 - 1)) then (if (wrap64 (x5_4 - 1)) < (((rd_T78 l0_0 x3_2).f0).length : Int) then (if (rd ((rd_T78 l0_0 x3_2).f0) x5_4) ≤ (rd ((rd_T78 l0_0 x3_2).f0) (wrap64 (x5_4 - 1))) then (some false) else (spec_SuiteOk.l1 k4 x3_2 (wrap64 (x5_4 + 1)) l0_0 l0_1 ((rd_T78 l0_0 x3_2).f0) ((rd_T78 l0_0 x3_2).f1) ((rd_T78 l0_0 x3_2).f2) ((rd_T78 l0_0 x3_2).f3))) else (none)) else (none)) else (spec_SuiteOk.l1 k4 x3_2 (wrap64 (x5_4 + 1)) l0_0 l0_1 ((rd_T78 l0_0 x3_2).f0) ((rd_T78 l0_0 x3_2).f1) ((rd_T78 l0_0 x3_2).f2) ((rd_T78 l0_0 x3_2).f3))) = some r := by rw [if_pos rfl] at H; exact H
                                clear H
                                have H := H1
                                clear H1
                                by_cases c44 : x5_4 > 0
                                · rw [if_pos c44] at H
                                  have c44b0 : decide (0 < x5_4) = true := decide_eq_true c44
                                  clear c44
                                  obtain ⟨ji45, hji45⟩ : ∃ j_ : Int, (wrap64 (x5_4 - 1)) = j_ := ⟨_, rfl⟩
                                  replace H : (if 0 ≤ (ji45) then (if (ji45) < (((rd_T78 l0_0 x3_2).f0).length : Int) then (if (rd ((rd_T78 l0_0 x3_2).f0) x5_4) ≤ (rd ((rd_T78 l0_0 x3_2).f0) (ji45)) then (some false) else (spec_SuiteOk.l1 k4 x3_2 (wrap64 (x5_4 + 1)) l0_0 l0_1 ((rd_T78 l0_0 x3_2).f0) ((rd_T78 l0_0 x3_2).f1) ((rd_T78 l0_0 x3_2).f2) ((rd_T78 l0_0 x3_2).f3))) else (none)) else (none)) = some r := by first | (rw [hji45] at H; exact H) | (simp only [hji45] at H ⊢; exact H)
                                  (try rw [hji45] at A42)
                                  have hji45w : (IntKind.i64.wrap (x5_4 - 1)) = ji45 := (i64_w _).trans hji45
                                  by_cases c46 : 0 ≤ (ji45)
                                  · rw [if_pos c46] at H
                                    have c46b0 : decide (0 ≤ (ji45)) = true := decide_eq_true c46
                                    clear c46
                                    by_cases c47 : (ji45) < (((rd_T78 l0_0 x3_2).f0).length : Int)
                                    · rw [if_pos c47] at H
                                      have c47b0 : decide ((ji45) < (((rd_T78 l0_0 x3_2).f0).length : Int)) = true := decide_eq_true c47
                                      clear c47
                                      by_cases c48 : (rd ((rd_T78 l0_0 x3_2).f0) x5_4) ≤ (rd ((rd_T78 l0_0 x3_2).f0) (ji45))
                                      · rw [if_pos c48] at H
                                        have c48b0 : decide ((rd ((rd_T78 l0_0 x3_2).f0) x5_4) ≤ (rd ((rd_T78 l0_0 x3_2).f0) (ji45))) = true := decide_eq_true c48
                                        clear c48
                                        obtain rfl := Option.some.inj H
                                        have hnb49 := NB294_291.out
                                        have hnc49 := NB291_294.out
                                        have hcz50_0 : wr.cell? ⟨gb294, 0, none⟩ = some (.slice A293_0 ((rd_T78 l0_0 x3_2).f0).length c293_0) := (blk_cell BK294.out 0).trans rfl
                                        have hcz50_1 : wr.cell? ⟨gb294, 1, none⟩ = some (.int .i64 ((rd_T78 l0_0 x3_2).f1)) := (blk_cell BK294.out 1).trans rfl
                                        have hcz50_2 : wr.cell? ⟨gb294, 2, none⟩ = some (.int .i64 ((rd_T78 l0_0 x3_2).f2)) := (blk_cell BK294.out 2).trans rfl
                                        have hcz50_3 : wr.cell? ⟨gb294, 3, none⟩ = some (.int .i64 ((rd_T78 l0_0 x3_2).f3)) := (blk_cell BK294.out 3).trans rfl
                                        have hfz50_0 := blk_frozen BK294.out 0
                                        have hfz50_1 := blk_frozen BK294.out 1
                                        have hfz50_2 := blk_frozen BK294.out 2
                                        have hfz50_3 := blk_frozen BK294.out 3
                                        have p298 : 0 ≤ (x5_4 : Int) := of_decide_eq_true (by first | (with_reducible assumption) | assumption)
                                        have q298 : x5_4 < (((rd_T78 l0_0 x3_2).f0).length : Int) := of_decide_eq_true (by first | (with_reducible assumption) | assumption)
                                        obtain ⟨ad298, e298, hx298_0⟩ := Kd.at_int HR293_0.out x5_4 p298 q298
                                        cases e298
                                        replace hx298_0 := (HB.out.cell (World.block_lt_of_cell? w _ hx298_0)).trans hx298_0
                                        replace p298 := eq_true p298
                                        replace q298 := eq_true q298
                                        go_wp2_with (first | (go_at_call 44; (with_reducible refine (spec_l2In.calls (rd ((rd_T78 l0_0 x3_2).f0) x5_4) 1 x3_2 true _ A42.out).mono ?_); rintro e w' ⟨rfl, ⟨nd, rfl⟩⟩; (try first | exact ⟨rfl, _, World.drewN_drewN _ _ _⟩ | exact ⟨rfl, _, Eq.trans (World.drewN_drewN _ _ _) (congrArg (World.drewN _) (Nat.add_assoc _ _ _))⟩); have p300 : 0 ≤ (x5_4 : Int) := of_decide_eq_true (by first | (with_reducible assumption) | assumption); have q300 : x5_4 < (((rd_T78 l0_0 x3_2).f0).length : Int) := of_decide_eq_true (by first | (with_reducible assumption) | assumption); obtain ⟨ad300, e300, hx300_0⟩ := Kd.at_int HR293_0.out x5_4 p300 q300; obtain rfl : ad298 = ad300 := (by injection e300); replace hx300_0 := (HB.out.cell (World.block_lt_of_cell? w _ hx300_0)).trans hx300_0; replace p300 := eq_true p300; replace q300 := eq_true q300; have p301 : 0 ≤ ((ji45) : Int) := of_decide_eq_true (by first | (with_reducible assumption) | assumption); have q301 : (ji45) < (((rd_T78 l0_0 x3_2).f0).length : Int) := of_decide_eq_true (by first | (with_reducible assumption) | assumption); obtain ⟨ad301, e301, hx301_0⟩ := Kd.at_int HR293_0.out (ji45) p301 q301; obtain rfl : ad298 = ad301 := (by injection e301); replace hx301_0 := (HB.out.cell (World.block_lt_of_cell? w _ hx301_0)).trans hx301_0; replace p301 := eq_true p301; replace q301 := eq_true q301))
                                        repeat (go_quiet (first | (go_at_call 44; (with_reducible refine (spec_l2In.calls (rd ((rd_T78 l0_0 x3_2).f0) x5_4) 1 x3_2 true _ A42.out).mono ?_); rintro e w' ⟨rfl, ⟨nd, rfl⟩⟩; (try first | exact ⟨rfl, _, World.drewN_drewN _ _ _⟩ | exact ⟨rfl, _, Eq.trans (World.drewN_drewN _ _ _) (congrArg (World.drewN _) (Nat.add_assoc _ _ _))⟩); have p300 : 0 ≤ (x5_4 : Int) := of_decide_eq_true (by first | (with_reducible assumption) | assumption); have q300 : x5_4 < (((rd_T78 l0_0 x3_2).f0).length : Int) := of_decide_eq_true (by first | (with_reducible assumption) | assumption); obtain ⟨ad300, e300, hx300_0⟩ := Kd.at_int HR293_0.out x5_4 p300 q300; obtain rfl : ad298 = ad300 := (by injection e300); replace hx300_0 := (HB.out.cell (World.block_lt_of_cell? w _ hx300_0)).trans hx300_0; replace p300 := eq_true p300; replace q300 := eq_true q300; have p301 : 0 ≤ ((ji45) : Int) := of_decide_eq_true (by first | (with_reducible assumption) | assumption); have q301 : (ji45) < (((rd_T78 l0_0 x3_2).f0).length : Int) := of_decide_eq_true (by first | (with_reducible assumption) | assumption); obtain ⟨ad301, e301, hx301_0⟩ := Kd.at_int HR293_0.out (ji45) p301 q301; obtain rfl : ad298 = ad301 := (by injection e301); replace hx301_0 := (HB.out.cell (World.block_lt_of_cell? w _ hx301_0)).trans hx301_0; replace p301 := eq_true p301; replace q301 := eq_true q301)); try go_wp2_with (first | (go_at_call 44; (with_reducible refine (spec_l2In.calls (rd ((rd_T78 l0_0 x3_2).f0) x5_4) 1 x3_2 true _ A42.out).mono ?_); rintro e w' ⟨rfl, ⟨nd, rfl⟩⟩; (try first | exact ⟨rfl, _, World.drewN_drewN _ _ _⟩ | exact ⟨rfl, _, Eq.trans (World.drewN_drewN _ _ _) (congrArg (World.drewN _) (Nat.add_assoc _ _ _))⟩); have p300 : 0 ≤ (x5_4 : Int) := of_decide_eq_true (by first | (with_reducible assumption) | assumption); have q300 : x5_4 < (((rd_T78 l0_0 x3_2).f0).length : Int) := of_decide_eq_true (by first | (with_reducible assumption) | assumption); obtain ⟨ad300, e300, hx300_0⟩ := Kd.at_int HR293_0.out x5_4 p300 q300; obtain rfl : ad298 = ad300 := (by injection e300); replace hx300_0 := (HB.out.cell (World.block_lt_of_cell? w _ hx300_0)).trans hx300_0; replace p300 := eq_true p300; replace q300 := eq_true q300; have p301 : 0 ≤ ((ji45) : Int) := of_decide_eq_true (by first | (with_reducible assumption) | assumption); have q301 : (ji45) < (((rd_T78 l0_0 x3_2).f0).length : Int) := of_decide_eq_true (by first | (with_reducible assumption) | assumption); obtain ⟨ad301, e301, hx301_0⟩ := Kd.at_int HR293_0.out (ji45) p301 q301; obtain rfl : ad298 = ad301 := (by injection e301); replace hx301_0 := (HB.out.cell (World.block_lt_of_cell? w _ hx301_0)).trans hx301_0; replace p301 := eq_true p301; replace q301 := eq_true q301)))
                                        go_ret
                                        exact ⟨by first | rfl | (simp [errW_none, errW_some] <;> rfl) | (simp only [← hji45]; first | rfl | (simp [errW_none, errW_some] <;> rfl)) | (simp [*, errW_none, errW_some] <;> rfl), by repeat (first | (with_reducible first | exact HB.out | apply below_alloc | apply pw_below_drewN | apply below_drew1 | refine below_set ?_ GE291.out | refine below_set ?_ GE294.out) | exact HB.out)⟩
                                      · rw [if_neg c48] at H
                                        have c48b0 : decide ((rd ((rd_T78 l0_0 x3_2).f0) x5_4) ≤ (rd ((rd_T78 l0_0 x3_2).f0) (ji45))) = false := decide_eq_false c48
                                        clear c48
                                        have H' := Aside0.mk H
                                        clear H
                                        have hnb51 := NB294_291.out
                                        have hnc51 := NB291_294.out
                                        have hcz52_0 : wr.cell? ⟨gb294, 0, none⟩ = some (.slice A293_0 ((rd_T78 l0_0 x3_2).f0).length c293_0) := (blk_cell BK294.out 0).trans rfl
                                        have hcz52_1 : wr.cell? ⟨gb294, 1, none⟩ = some (.int .i64 ((rd_T78 l0_0 x3_2).f1)) := (blk_cell BK294.out 1).trans rfl
                                        have hcz52_2 : wr.cell? ⟨gb294, 2, none⟩ = some (.int .i64 ((rd_T78 l0_0 x3_2).f2)) := (blk_cell BK294.out 2).trans rfl
                                        have hcz52_3 : wr.cell? ⟨gb294, 3, none⟩ = some (.int .i64 ((rd_T78 l0_0 x3_2).f3)) := (blk_cell BK294.out 3).trans rfl
                                        have hfz52_0 := blk_frozen BK294.out 0
                                        have hfz52_1 := blk_frozen BK294.out 1
                                        have hfz52_2 := blk_frozen BK294.out 2
                                        have hfz52_3 := blk_frozen BK294.out 3
                                        have p298 : 0 ≤ (x5_4 : Int) := of_decide_eq_true (by first | (with_reducible assumption) | assumption)
                                        have q298 : x5_4 < (((rd_T78 l0_0 x3_2).f0).length : Int) := of_decide_eq_true (by first | (with_reducible assumption) | assumption)
                                        obtain ⟨ad298, e298, hx298_0⟩ := Kd.at_int HR293_0.out x5_4 p298 q298
                                        cases e298
                                        replace hx298_0 := (HB.out.cell (World.block_lt_of_cell? w _ hx298_0)).trans hx298_0
                                        replace p298 := eq_true p298
                                        replace q298 := eq_true q298
                                        go_wp2_with (first | (go_at_call 44; (with_reducible refine (spec_l2In.calls (rd ((rd_T78 l0_0 x3_2).f0) x5_4) 1 x3_2 true _ A42.out).mono ?_); rintro e w' ⟨rfl, ⟨nd, rfl⟩⟩; (try first | exact ⟨rfl, _, World.drewN_drewN _ _ _⟩ | exact ⟨rfl, _, Eq.trans (World.drewN_drewN _ _ _) (congrArg (World.drewN _) (Nat.add_assoc _ _ _))⟩); have p300 : 0 ≤ (x5_4 : Int) := of_decide_eq_true (by first | (with_reducible assumption) | assumption); have q300 : x5_4 < (((rd_T78 l0_0 x3_2).f0).length : Int) := of_decide_eq_true (by first | (with_reducible assumption) | assumption); obtain ⟨ad300, e300, hx300_0⟩ := Kd.at_int HR293_0.out x5_4 p300 q300; obtain rfl : ad298 = ad300 := (by injection e300); replace hx300_0 := (HB.out.cell (World.block_lt_of_cell? w _ hx300_0)).trans hx300_0; replace p300 := eq_true p300; replace q300 := eq_true q300; have p301 : 0 ≤ ((ji45) : Int) := of_decide_eq_true (by first | (with_reducible assumption) | assumption); have q301 : (ji45) < (((rd_T78 l0_0 x3_2).f0).length : Int) := of_decide_eq_true (by first | (with_reducible assumption) | assumption); obtain ⟨ad301, e301, hx301_0⟩ := Kd.at_int HR293_0.out (ji45) p301 q301; obtain rfl : ad298 = ad301 := (by injection e301); replace hx301_0 := (HB.out.cell (World.block_lt_of_cell? w _ hx301_0)).trans hx301_0; replace p301 := eq_true p301; replace q301 := eq_true q301))
                                        repeat (go_quiet (first | (go_at_call 44; (with_reducible refine (spec_l2In.calls (rd ((rd_T78 l0_0 x3_2).f0) x5_4) 1 x3_2 true _ A42.out).mono ?_); rintro e w' ⟨rfl, ⟨nd, rfl⟩⟩; (try first | exact ⟨rfl, _, World.drewN_drewN _ _ _⟩ | exact ⟨rfl, _, Eq.trans (World.drewN_drewN _ _ _) (congrArg (World.drewN _) (Nat.add_assoc _ _ _))⟩); have p300 : 0 ≤ (x5_4 : Int) := of_decide_eq_true (by first | (with_reducible assumption) | assumption); have q300 : x5_4 < (((rd_T78 l0_0 x3_2).f0).length : Int) := of_decide_eq_true (by first | (with_reducible assumption) | assumption); obtain ⟨ad300, e300, hx300_0⟩ := Kd.at_int HR293_0.out x5_4 p300 q300; obtain rfl : ad298 = ad300 := (by injection e300); replace hx300_0 := (HB.out.cell (World.block_lt_of_cell? w _ hx300_0)).trans hx300_0; replace p300 := eq_true p300; replace q300 := eq_true q300; have p301 : 0 ≤ ((ji45) : Int) := of_decide_eq_true (by first | (with_reducible assumption) | assumption); have q301 : (ji45) < (((rd_T78 l0_0 x3_2).f0).length : Int) := of_decide_eq_true (by first | (with_reducible assumption) | assumption); obtain ⟨ad301, e301, hx301_0⟩ := Kd.at_int HR293_0.out (ji45) p301 q301; obtain rfl : ad298 = ad301 := (by injection e301); replace hx301_0 := (HB.out.cell (World.block_lt_of_cell? w _ hx301_0)).trans hx301_0; replace p301 := eq_true p301; replace q301 := eq_true q301)); try go_wp2_with (first | (go_at_call 44; (with_reducible refine (spec_l2In.calls (rd ((rd_T78 l0_0 x3_2).f0) x5_4) 1 x3_2 true _ A42.out).mono ?_); rintro e w' ⟨rfl, ⟨nd, rfl⟩⟩; (try first | exact ⟨rfl, _, World.drewN_drewN _ _ _⟩ | exact ⟨rfl, _, Eq.trans (World.drewN_drewN _ _ _) (congrArg (World.drewN _) (Nat.add_assoc _ _ _))⟩); have p300 : 0 ≤ (x5_4 : Int) := of_decide_eq_true (by first | (with_reducible assumption) | assumption); have q300 : x5_4 < (((rd_T78 l0_0 x3_2).f0).length : Int) := of_decide_eq_true (by first | (with_reducible assumption) | assumption); obtain ⟨ad300, e300, hx300_0⟩ := Kd.at_int HR293_0.out x5_4 p300 q300; obtain rfl : ad298 = ad300 := (by injection e300); replace hx300_0 := (HB.out.cell (World.block_lt_of_cell? w _ hx300_0)).trans hx300_0; replace p300 := eq_true p300; replace q300 := eq_true q300; have p301 : 0 ≤ ((ji45) : Int) := of_decide_eq_true (by first | (with_reducible assumption) | assumption); have q301 : (ji45) < (((rd_T78 l0_0 x3_2).f0).length : Int) := of_decide_eq_true (by first | (with_reducible assumption) | assumption); obtain ⟨ad301, e301, hx301_0⟩ := Kd.at_int HR293_0.out (ji45) p301 q301; obtain rfl : ad298 = ad301 := (by injection e301); replace hx301_0 := (HB.out.cell (World.block_lt_of_cell? w _ hx301_0)).trans hx301_0; replace p301 := eq_true p301; replace q301 := eq_true q301)))
                                        go_roundg k4
                                        case measure => have := HJ1.out; have := HK2.out; have := HJ16.out; have := HK4.out; omega
                                        case rel => exact ⟨(wrap64 (x5_4 + 1)), (by first | rfl | (simp; done) | (simp [*]; done)), H', ⟨by have := HJ1.out; have := HK2.out; have := HJ16.out; have := HK4.out; omega⟩, ⟨by (with_reducible repeat (first | refine blk_drewN ?_ _ | refine blk_drew ?_ | refine blk_alloc ?_ _)); exact BK291.out⟩, ⟨by (with_reducible repeat (first | refine blk_drewN ?_ _ | refine blk_drew ?_ | refine blk_alloc ?_ _)); exact BK294.out⟩, ⟨by repeat (first | (with_reducible first | exact HB.out | apply below_alloc | apply pw_below_drewN | apply below_drew1 | refine below_set ?_ GE291.out | refine below_set ?_ GE294.out) | exact HB.out)⟩⟩
                                    · rw [if_neg c47] at H
                                      exact absurd H (by simp)
                                  · rw [if_neg c46] at H
                                    exact absurd H (by simp)
                                · rw [if_neg c44] at H
                                  have c44b0 : decide (0 < x5_4) = false := decide_eq_false c44
                                  clear c44
                                  have H' := Aside0.mk H
                                  clear H
                                  have hnb53 := NB294_291.out
                                  have hnc53 := NB291_294.out
                                  have hcz54_0 : wr.cell? ⟨gb294, 0, none⟩ = some (.slice A293_0 ((rd_T78 l0_0 x3_2).f0).length c293_0) := (blk_cell BK294.out 0).trans rfl
                                  have hcz54_1 : wr.cell? ⟨gb294, 1, none⟩ = some (.int .i64 ((rd_T78 l0_0 x3_2).f1)) := (blk_cell BK294.out 1).trans rfl
                                  have hcz54_2 : wr.cell? ⟨gb294, 2, none⟩ = some (.int .i64 ((rd_T78 l0_0 x3_2).f2)) := (blk_cell BK294.out 2).trans rfl
                                  have hcz54_3 : wr.cell? ⟨gb294, 3, none⟩ = some (.int .i64 ((rd_T78 l0_0 x3_2).f3)) := (blk_cell BK294.out 3).trans rfl
                                  have hfz54_0 := blk_frozen BK294.out 0
                                  have hfz54_1 := blk_frozen BK294.out 1
                                  have hfz54_2 := blk_frozen BK294.out 2
                                  have hfz54_3 := blk_frozen BK294.out 3
                                  have p298 : 0 ≤ (x5_4 : Int) := of_decide_eq_true (by first | (with_reducible assumption) | assumption)
                                  have q298 : x5_4 < (((rd_T78 l0_0 x3_2).f0).length : Int) := of_decide_eq_true (by first | (with_reducible assumption) | assumption)
                                  obtain ⟨ad298, e298, hx298_0⟩ := Kd.at_int HR293_0.out x5_4 p298 q298
                                  cases e298
                                  replace hx298_0 := (HB.out.cell (World.block_lt_of_cell? w _ hx298_0)).trans hx298_0
                                  replace p298 := eq_true p298
                                  replace q298 := eq_true q298
                                  go_wp2_with (first | (go_at_call 44; (with_reducible refine (spec_l2In.calls (rd ((rd_T78 l0_0 x3_2).f0) x5_4) 1 x3_2 true _ A42.out).mono ?_); rintro e w' ⟨rfl, ⟨nd, rfl⟩⟩; (try first | exact ⟨rfl, _, World.drewN_drewN _ _ _⟩ | exact ⟨rfl, _, Eq.trans (World.drewN_drewN _ _ _) (congrArg (World.drewN _) (Nat.add_assoc _ _ _))⟩)))
                                  repeat (go_quiet (first | (go_at_call 44; (with_reducible refine (spec_l2In.calls (rd ((rd_T78 l0_0 x3_2).f0) x5_4) 1 x3_2 true _ A42.out).mono ?_); rintro e w' ⟨rfl, ⟨nd, rfl⟩⟩; (try first | exact ⟨rfl, _, World.drewN_drewN _ _ _⟩ | exact ⟨rfl, _, Eq.trans (World.drewN_drewN _ _ _) (congrArg (World.drewN _) (Nat.add_assoc _ _ _))⟩))); try go_wp2_with (first | (go_at_call 44; (with_reducible refine (spec_l2In.calls (rd ((rd_T78 l0_0 x3_2).f0) x5_4) 1 x3_2 true _ A42.out).mono ?_); rintro e w' ⟨rfl, ⟨nd, rfl⟩⟩; (try first | exact ⟨rfl, _, World.drewN_drewN _ _ _⟩ | exact ⟨rfl, _, Eq.trans (World.drewN_drewN _ _ _) (congrArg (World.drewN _) (Nat.add_assoc _ _ _))⟩))))
                                  go_roundg k4
                                  case measure => have := HJ1.out; have := HK2.out; have := HJ16.out; have := HK4.out; omega
                                  case rel => exact ⟨(wrap64 (x5_4 + 1)), (by first | rfl | (simp; done) | (simp [*]; done)), H', ⟨by have := HJ1.out; have := HK2.out; have := HJ16.out; have := HK4.out; omega⟩, ⟨by (with_reducible repeat (first | refine blk_drewN ?_ _ | refine blk_drew ?_ | refine blk_alloc ?_ _)); exact BK291.out⟩, ⟨by (with_reducible repeat (first | refine blk_drewN ?_ _ | refine blk_drew ?_ | refine blk_alloc ?_ _)); exact BK294.out⟩, ⟨by repeat (first | (with_reducible first | exact HB.out | apply below_alloc | apply pw_below_drewN | apply below_drew1 | refine below_set ?_ GE291.out | refine below_set ?_ GE294.out) | exact HB.out)⟩⟩
                              · replace c43 := Bool.eq_false_iff.mpr c43
                                subst c43
                                have H1 : (some false) = some r := by rw [if_neg (show ¬ (false = true) by decide)] at H; exact H
                                clear H
                                have H := H1
                                clear H1
                                obtain rfl := Option.some.inj H
                                have hnb55 := NB294_291.out
                                have hnc55 := NB291_294.out
                                have hcz56_0 : wr.cell? ⟨gb294, 0, none⟩ = some (.slice A293_0 ((rd_T78 l0_0 x3_2).f0).length c293_0) := (blk_cell BK294.out 0).trans rfl
                                have hcz56_1 : wr.cell? ⟨gb294, 1, none⟩ = some (.int .i64 ((rd_T78 l0_0 x3_2).f1)) := (blk_cell BK294.out 1).trans rfl
                                have hcz56_2 : wr.cell? ⟨gb294, 2, none⟩ = some (.int .i64 ((rd_T78 l0_0 x3_2).f2)) := (blk_cell BK294.out 2).trans rfl
                                have hcz56_3 : wr.cell? ⟨gb294, 3, none⟩ = some (.int .i64 ((rd_T78 l0_0 x3_2).f3)) := (blk_cell BK294.out 3).trans rfl
                                have hfz56_0 := blk_frozen BK294.out 0
                                have hfz56_1 := blk_frozen BK294.out 1
                                have hfz56_2 := blk_frozen BK294.out 2
                                have hfz56_3 := blk_frozen BK294.out 3
                                have p298 : 0 ≤ (x5_4 : Int) := of_decide_eq_true (by first | (with_reducible assumption) | assumption)
                                have q298 : x5_4 < (((rd_T78 l0_0 x3_2).f0).length : Int) := of_decide_eq_true (by first | (with_reducible assumption) | assumption)
                                obtain ⟨ad298, e298, hx298_0⟩ := Kd.at_int HR293_0.out x5_4 p298 q298
                                cases e298
                                replace hx298_0 := (HB.out.cell (World.block_lt_of_cell? w _ hx298_0)).trans hx298_0
                                replace p298 := eq_true p298
                                replace q298 := eq_true q298
                                go_wp2_with (first | (go_at_call 44; (with_reducible refine (spec_l2In.calls (rd ((rd_T78 l0_0 x3_2).f0) x5_4) 1 x3_2 false _ A42.out).mono ?_); rintro e w' ⟨rfl, ⟨nd, rfl⟩⟩; (try first | exact ⟨rfl, _, World.drewN_drewN _ _ _⟩ | exact ⟨rfl, _, Eq.trans (World.drewN_drewN _ _ _) (congrArg (World.drewN _) (Nat.add_assoc _ _ _))⟩)))
                                repeat (go_quiet (first | (go_at_call 44; (with_reducible refine (spec_l2In.calls (rd ((rd_T78 l0_0 x3_2).f0) x5_4) 1 x3_2 false _ A42.out).mono ?_); rintro e w' ⟨rfl, ⟨nd, rfl⟩⟩; (try first | exact ⟨rfl, _, World.drewN_drewN _ _ _⟩ | exact ⟨rfl, _, Eq.trans (World.drewN_drewN _ _ _) (congrArg (World.drewN _) (Nat.add_assoc _ _ _))⟩))); try go_wp2_with (first | (go_at_call 44; (with_reducible refine (spec_l2In.calls (rd ((rd_T78 l0_0 x3_2).f0) x5_4) 1 x3_2 false _ A42.out).mono ?_); rintro e w' ⟨rfl, ⟨nd, rfl⟩⟩; (try first | exact ⟨rfl, _, World.drewN_drewN _ _ _⟩ | exact ⟨rfl, _, Eq.trans (World.drewN_drewN _ _ _) (congrArg (World.drewN _) (Nat.add_assoc _ _ _))⟩))))
                                go_ret
                                exact ⟨by first | rfl | (simp [errW_none, errW_some] <;> rfl) | (simp [*, errW_none, errW_some] <;> rfl), by repeat (first | (with_reducible first | exact HB.out | apply below_alloc | apply pw_below_drewN | apply below_drew1 | refine below_set ?_ GE291.out | refine below_set ?_ GE294.out) | exact HB.out)⟩
                            · rw [if_neg c41] at H
                              exact absurd H (by simp)
                          · rw [if_neg c40] at H
                            have c40b0 : decide (x5_4 < (((rd_T78 l0_0 x3_2).f0).length : Int)) = false := decide_eq_false c40
                            clear c40
                            have H' := Aside0.mk H
                            clear H
                            have hnb57 := NB294_291.out
                            have hnc57 := NB291_294.out
                            have hcz58_0 : wr.cell? ⟨gb294, 0, none⟩ = some (.slice A293_0 ((rd_T78 l0_0 x3_2).f0).length c293_0) := (blk_cell BK294.out 0).trans rfl
                            have hcz58_1 : wr.cell? ⟨gb294, 1, none⟩ = some (.int .i64 ((rd_T78 l0_0 x3_2).f1)) := (blk_cell BK294.out 1).trans rfl
                            have hcz58_2 : wr.cell? ⟨gb294, 2, none⟩ = some (.int .i64 ((rd_T78 l0_0 x3_2).f2)) := (blk_cell BK294.out 2).trans rfl
                            have hcz58_3 : wr.cell? ⟨gb294, 3, none⟩ = some (.int .i64 ((rd_T78 l0_0 x3_2).f3)) := (blk_cell BK294.out 3).trans rfl
                            have hfz58_0 := blk_frozen BK294.out 0
                            have hfz58_1 := blk_frozen BK294.out 1
                            have hfz58_2 := blk_frozen BK294.out 2
                            have hfz58_3 := blk_frozen BK294.out 3
                            go_wp2
                            repeat (go_quiet (fail); try go_wp2)
                            go_roundg k4
                            case measure => have := HJ1.out; have := HK2.out; have := HJ16.out; have := HK4.out; omega
                            case rel => exact ⟨(wrap64 (x3_2 + 1)), (by first | rfl | (simp; done) | (simp [*]; done)), H', ⟨by have := HJ1.out; have := HK2.out; have := HJ16.out; have := HK4.out; omega⟩, ⟨by (with_reducible repeat (first | refine blk_drewN ?_ _ | refine blk_drew ?_ | refine blk_alloc ?_ _)); exact BK291.out⟩, ⟨by repeat (first | (with_reducible first | exact HB.out | apply below_alloc | apply pw_below_drewN | apply below_drew1 | refine below_set ?_ GE291.out | refine below_set ?_ GE294.out) | exact HB.out)⟩⟩
              · rw [if_neg c16] at H
                exact absurd H (by simp)
            · rw [if_neg c15] at H
              have c15b0 : decide (x3_2 < (l0_0.length : Int)) = false := decide_eq_false c15
              clear c15
              obtain rfl := Option.some.inj H
              have hcz59_0 : wr.cell? ⟨gb291, 0, none⟩ = some (.slice A0_0 l0_0.length c0_0) := (blk_cell BK291.out 0).trans rfl
              have hcz59_1 : wr.cell? ⟨gb291, 1, none⟩ = some (.slice A0_1 l0_1.length c0_1) := (blk_cell BK291.out 1).trans rfl
              have hfz59_0 := blk_frozen BK291.out 0
              have hfz59_1 := blk_frozen BK291.out 1
              go_wp2
              repeat (go_quiet (fail); try go_wp2)
              go_ret
              exact ⟨by first | rfl | (simp [errW_none, errW_some] <;> rfl) | (simp [*, errW_none, errW_some] <;> rfl), by repeat (first | (with_reducible first | exact HB.out | apply below_alloc | apply pw_below_drewN | apply below_drew1 | refine below_set ?_ GE291.out) | exact HB.out)⟩

end Go.Proofs.Ytcdghhihfjojaaa.Q
