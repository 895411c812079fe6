/- Plain Lean functions with the same answers as the Go functions of this seat, and a proof for each that the Go code comes to just these answers; no condition. Written by a program of this session (the kit's printer, turned). -/
import Derived.Test.YtcdghhihfjojaaaQx0
import Derived.Test.YtcdghhihfjojaaaQx3
import Derived.Test.YtcdghhihfjojaaaQx16
namespace Go.Proofs.Ytcdghhihfjojaaa.Q
open Go.RowKit Go.Proofs.YtcdghhihfjojaaaW.PrintWords Go.Proofs.YtcdghhihfjojaaaW.PrintLast Go.Proofs.YtcdghhihfjojaaaW.PrintMore
attribute [local go_sem] max2_int min2_int max_two min_two max_three min_three max_four min_four   -- for this text's walks alone
set_option linter.unusedVariables false
set_option linter.unusedSimpArgs false

/-! ### impl_SuiteOk: function 23 -/
mutual
def impl_SuiteOk.j0 : Nat → Bool → List (S78) → List Int → Option (Bool)
  | 0, _, _, _ => none
  | k + 1, x27, x331000, x331001 => if x27 = true then (some false) else (impl_SuiteOk.l0 k x331000 (x331000.length : Int) 0 x331000 x331001)
def impl_SuiteOk.l0 : Nat → List (S78) → Int → Int → List (S78) → List Int → Option (Bool)
  | 0, _, _, _, _, _ => none
  | k + 1, x29, x30, x31, x331000, x331001 => if x31 < x30 then (if 0 ≤ x31 then (if x31 < (x29.length : Int) then (impl_SuiteOk.l1 k x31 x29 x30 x31 ((rd_T78 x29 x31).f0) (((rd_T78 x29 x31).f0).length : Int) 0 x331000 x331001 ((rd_T78 x29 x31).f0) ((rd_T78 x29 x31).f1) ((rd_T78 x29 x31).f2) ((rd_T78 x29 x31).f3)) else (none)) else (none)) else (some true)
def impl_SuiteOk.l1 : Nat → Int → List (S78) → Int → Int → List Int → Int → Int → List (S78) → List Int → List Int → Int → Int → Int → Option (Bool)
  | 0, _, _, _, _, _, _, _, _, _, _, _, _, _ => none
  | k + 1, x3, x29, x30, x31, x37, x38, x39, x331000, x331001, x336000, x336001, x336002, x336003 => if x39 < x38 then (if 0 ≤ x39 then (if x39 < (x37.length : Int) then ((impl_in.f (rd x37 x39) 1 x3).bind fun t337 => (if t337 = true then (if x39 > 0 then (if 0 ≤ (wrap64 (x39 - 1)) then (if (wrap64 (x39 - 1)) < (x336000.length : Int) then (if (rd x336000 (wrap64 (x39 - 1))) ≥ (rd x37 x39) then (some false) else (impl_SuiteOk.l1 k x3 x29 x30 x31 x37 x38 (wrap64 (x39 + 1)) x331000 x331001 x336000 x336001 x336002 x336003)) else (none)) else (none)) else (impl_SuiteOk.l1 k x3 x29 x30 x31 x37 x38 (wrap64 (x39 + 1)) x331000 x331001 x336000 x336001 x336002 x336003)) else (some false))) else (none)) else (none)) else ((impl_in.f x336001 1 (x331001.length : Int)).bind fun t339 => (if t339 = true then ((impl_in.f x336002 0 1000000000000).bind fun t340 => (if t340 = true then ((impl_in.f x336003 1 5).bind fun t341 => (if t341 = true then (impl_SuiteOk.l0 k x29 x30 (wrap64 (x31 + 1)) x331000 x331001) else (some false))) else (some false))) else (some false)))
end
def impl_SuiteOk.f (k : Nat) (l0_0 : List (S78)) (l0_1 : List Int) : Option (Bool) := (impl_in.f (l0_0.length : Int) 1 60).bind fun t331 => (if t331 = true then ((impl_in.f (l0_1.length : Int) 1 6).bind fun t332 => (if t332 = true then ((impl_each.f k l0_1 (l0_1.length : Int) 1 60).bind fun t333 => (impl_SuiteOk.j0 k (!t333) l0_0 l0_1)) else (impl_SuiteOk.j0 k true l0_0 l0_1))) else (impl_SuiteOk.j0 k true l0_0 l0_1))
theorem impl_SuiteOk.mono_l : ∀ k, (∀ y0 y1 y2, LeO (impl_SuiteOk.j0 k y0 y1 y2) (impl_SuiteOk.j0 (k + 1) y0 y1 y2)) ∧ (∀ y0 y1 y2 y3 y4, LeO (impl_SuiteOk.l0 k y0 y1 y2 y3 y4) (impl_SuiteOk.l0 (k + 1) y0 y1 y2 y3 y4)) ∧ (∀ y0 y1 y2 y3 y4 y5 y6 y7 y8 y9 y10 y11 y12, LeO (impl_SuiteOk.l1 k y0 y1 y2 y3 y4 y5 y6 y7 y8 y9 y10 y11 y12) (impl_SuiteOk.l1 (k + 1) y0 y1 y2 y3 y4 y5 y6 y7 y8 y9 y10 y11 y12))
  | 0 => ⟨fun _ _ _ r h => by simp [impl_SuiteOk.j0] at h, fun _ _ _ _ _ r h => by simp [impl_SuiteOk.l0] at h, fun _ _ _ _ _ _ _ _ _ _ _ _ _ r h => by simp [impl_SuiteOk.l1] at h⟩
  | k + 1 => by
    obtain ⟨ih0, ih1, ih2⟩ := impl_SuiteOk.mono_l k
    refine ⟨?_, ?_, ?_⟩
    · intro y0 y1 y2
      unfold impl_SuiteOk.j0
      repeat' first
      | (with_reducible exact ih0 _ _ _)
      | (with_reducible exact ih1 _ _ _ _ _)
      | (with_reducible exact ih2 _ _ _ _ _ _ _ _ _ _ _ _ _)
      | (with_reducible exact impl_each.mono _ _ _ _ _)
      | (with_reducible exact LeO.refl _)
      | (with_reducible exact LeO.none _)
      | (with_reducible refine LeO.ite ?_ ?_)
      | (with_reducible refine LeO.bind ?_ (fun _ => ?_))
      | exact ih0 _ _ _
      | exact ih1 _ _ _ _ _
      | exact ih2 _ _ _ _ _ _ _ _ _ _ _ _ _
      | exact impl_each.mono _ _ _ _ _
      | exact LeO.none _
      | refine LeO.ite ?_ ?_
      | refine LeO.bind ?_ (fun _ => ?_)
    · intro y0 y1 y2 y3 y4
      unfold impl_SuiteOk.l0
      repeat' first
      | (with_reducible exact ih0 _ _ _)
      | (with_reducible exact ih1 _ _ _ _ _)
      | (with_reducible exact ih2 _ _ _ _ _ _ _ _ _ _ _ _ _)
      | (with_reducible exact impl_each.mono _ _ _ _ _)
      | (with_reducible exact LeO.refl _)
      | (with_reducible exact LeO.none _)
      | (with_reducible refine LeO.ite ?_ ?_)
      | (with_reducible refine LeO.bind ?_ (fun _ => ?_))
      | exact ih0 _ _ _
      | exact ih1 _ _ _ _ _
      | exact ih2 _ _ _ _ _ _ _ _ _ _ _ _ _
      | exact impl_each.mono _ _ _ _ _
      | exact LeO.none _
      | refine LeO.ite ?_ ?_
      | refine LeO.bind ?_ (fun _ => ?_)
    · intro y0 y1 y2 y3 y4 y5 y6 y7 y8 y9 y10 y11 y12
      unfold impl_SuiteOk.l1
      repeat' first
      | (with_reducible exact ih0 _ _ _)
      | (with_reducible exact ih1 _ _ _ _ _)
      | (with_reducible exact ih2 _ _ _ _ _ _ _ _ _ _ _ _ _)
      | (with_reducible exact impl_each.mono _ _ _ _ _)
      | (with_reducible exact LeO.refl _)
      | (with_reducible exact LeO.none _)
      | (with_reducible refine LeO.ite ?_ ?_)
      | (with_reducible refine LeO.bind ?_ (fun _ => ?_))
      | exact ih0 _ _ _
      | exact ih1 _ _ _ _ _
      | exact ih2 _ _ _ _ _ _ _ _ _ _ _ _ _
      | exact impl_each.mono _ _ _ _ _
      | exact LeO.none _
      | refine LeO.ite ?_ ?_
      | refine LeO.bind ?_ (fun _ => ?_)
theorem impl_SuiteOk.mono : ∀ a0 a1 k, LeO (impl_SuiteOk.f k a0 a1) (impl_SuiteOk.f (k + 1) a0 a1) := by
  intro a0 a1 k
  obtain ⟨ih0, ih1, ih2⟩ := impl_SuiteOk.mono_l k
  unfold impl_SuiteOk.f
  repeat' first
      | (with_reducible exact ih0 _ _ _)
      | (with_reducible exact ih1 _ _ _ _ _)
      | (with_reducible exact ih2 _ _ _ _ _ _ _ _ _ _ _ _ _)
      | (with_reducible exact impl_each.mono _ _ _ _ _)
      | (with_reducible exact LeO.refl _)
      | (with_reducible exact LeO.none _)
      | (with_reducible refine LeO.ite ?_ ?_)
      | (with_reducible refine LeO.bind ?_ (fun _ => ?_))
      | exact ih0 _ _ _
      | exact ih1 _ _ _ _ _
      | exact ih2 _ _ _ _ _ _ _ _ _ _ _ _ _
      | exact impl_each.mono _ _ _ _ _
      | exact LeO.none _
      | refine LeO.ite ?_ ?_
      | refine LeO.bind ?_ (fun _ => ?_)
set_option maxHeartbeats 8000000 in
set_option maxRecDepth 100000 in
theorem impl_SuiteOk.calls (k : Nat) (A0_0 : Option Addr) (c0_0 : Nat) (l0_0 : List (S78)) (A0_1 : Option Addr) (c0_1 : Nat) (l0_1 : List Int) (r : Bool) (w : World) (hr0_0 : Kd.C k78 w A0_0 l0_0.length l0_0) (hc0_0 : l0_0.length ≤ c0_0) (hr0_1 : Kd.C (Kd.int .i64) w A0_1 l0_1.length l0_1) (hc0_1 : l0_1.length ≤ c0_1) (h : impl_SuiteOk.f k l0_0 l0_1 = some r) :
    Calls Try.prog 23 #[.agg #[.slice A0_0 l0_0.length c0_0, .slice A0_1 l0_1.length c0_1]] w fun e w' => e = .returned (.bool r) ∧ Below w.heap.size w w' := by
  have hu46 := Try.underlying46
  have hu78 := Try.underlying78
  have HR0_0 := Aside0.mk hr0_0
  have HC0_0 := Aside0.mk hc0_0
  clear hr0_0 hc0_0
  have HR0_1 := Aside0.mk hr0_1
  have HC0_1 := Aside0.mk hc0_1
  clear hr0_1 hc0_1
  have HB := Aside0.mk (Below.refl w.heap.size w)
  have H : ((impl_in.f (l0_0.length : Int) 1 60).bind fun t331 => (if t331 = true then ((impl_in.f (l0_1.length : Int) 1 6).bind fun t332 => (if t332 = true then ((impl_each.f k l0_1 (l0_1.length : Int) 1 60).bind fun t333 => (impl_SuiteOk.j0 k (!t333) l0_0 l0_1)) else (impl_SuiteOk.j0 k true l0_0 l0_1))) else (impl_SuiteOk.j0 k true l0_0 l0_1))) = some r := h
  clear h
  have HC2 := Aside0.mk H
  clear H
  go_enter Try.func23, Try.ntmps23
  go_upto_region 1 with (first | ((with_reducible refine gate_dst (N := 1) rfl ?_); (try (refine gate_guard (by rfl) ?_; dsimp only)); refine box_event ?hg (N := 1) ?hd (cs := #[.slice A0_0 l0_0.length c0_0, .slice A0_1 l0_1.length c0_1]) (t := 46) ?hr ?_; (case hd => rfl); (case hg => rfl); (case hr => first | (go_simp; done) | (go_simp; rfl)); intro gb330 hg w3 hbox hb; have n0_ := Aside0.mk (below_step (by repeat (first | (with_reducible first | exact HB.out | apply below_alloc | apply pw_below_drewN | apply below_drew1) | exact HB.out)) hb); have n1_ := Aside0.mk (hbox); have n2_ := Aside0.mk ((by rw [hg]; exact (below_size (by repeat (first | (with_reducible first | exact HB.out | apply below_alloc | apply pw_below_drewN | apply below_drew1) | exact HB.out))) : w.heap.size ≤ gb330)); have n3_ := Aside0.mk ((by rw [hg]; exact (below_size (by repeat (first | (with_reducible first | exact HB.out | apply below_alloc | apply pw_below_drewN | apply below_drew1) | exact HB.out))) : w.heap.size ≤ gb330)); clear HB; have HB := n0_; have BK330 := n1_; have GW330 := n2_; have GE330 := n3_; clear n0_ n1_ n2_ n3_; clear hb hbox hg))
  (try simp only [Act.put, List.setIfInBounds_toArray, List.set_cons_zero, List.set_cons_succ])
  go_cut [27] (fun v27 wc => ∃ (kq : Nat) (x27_1 : Bool), v27 = .bool x27_1 ∧ Aside0 (impl_SuiteOk.j0 kq x27_1 l0_0 l0_1 = some r) ∧ Aside0 (kq ≤ k) ∧ Aside0 (wc.heap[gb330]? = some (.cells #[(.slice A0_0 l0_0.length c0_0), (.slice A0_1 l0_1.length c0_1)] 46 (0, 0))) ∧ Aside0 (Below w.heap.size w wc))
  case first =>
    have H := HC2.out
    clear HC2
    replace H := Option.bind_eq_some_iff.mp H
    obtain ⟨t331, A40, H⟩ := H
    replace H : (if t331 = true then ((impl_in.f (l0_1.length : Int) 1 6).bind fun t332 => (if t332 = true then ((impl_each.f k l0_1 (l0_1.length : Int) 1 60).bind fun t333 => (impl_SuiteOk.j0 k (!t333) l0_0 l0_1)) else (impl_SuiteOk.j0 k true l0_0 l0_1))) else (impl_SuiteOk.j0 k true l0_0 l0_1)) = some r := H
    have A4 := Aside0.mk A40
    clear A40
    by_cases c5 : t331 = true
    · subst c5
      have H1 : ((impl_in.f (l0_1.length : Int) 1 6).bind fun t332 => (if t332 = true then ((impl_each.f k l0_1 (l0_1.length : Int) 1 60).bind fun t333 => (impl_SuiteOk.j0 k (!t333) l0_0 l0_1)) else (impl_SuiteOk.j0 k true l0_0 l0_1))) = some r := by rw [if_pos rfl] at H; exact H
      clear H
      have H := H1
      clear H1
      replace H := Option.bind_eq_some_iff.mp H
      obtain ⟨t332, A60, H⟩ := H
      replace H : (if t332 = true then ((impl_each.f k l0_1 (l0_1.length : Int) 1 60).bind fun t333 => (impl_SuiteOk.j0 k (!t333) l0_0 l0_1)) else (impl_SuiteOk.j0 k true l0_0 l0_1)) = some r := H
      have A6 := Aside0.mk A60
      clear A60
      by_cases c7 : t332 = true
      · subst c7
        have H1 : ((impl_each.f k l0_1 (l0_1.length : Int) 1 60).bind fun t333 => (impl_SuiteOk.j0 k (!t333) l0_0 l0_1)) = some r := by rw [if_pos rfl] at H; exact H
        clear H
        have H := H1
        clear H1
        replace H := Option.bind_eq_some_iff.mp H
        obtain ⟨t333, A80, H⟩ := H
        replace H : (impl_SuiteOk.j0 k (!t333) l0_0 l0_1) = some r := H
        have A8 := Aside0.mk A80
        clear A80
        have H' := Aside0.mk H
        clear H
        have hcz9_0 : w3.cell? ⟨gb330, 0, none⟩ = some (.slice A0_0 l0_0.length c0_0) := (blk_cell BK330.out 0).trans rfl
        have hcz9_1 : w3.cell? ⟨gb330, 1, none⟩ = some (.slice A0_1 l0_1.length c0_1) := (blk_cell BK330.out 1).trans rfl
        have hfz9_0 := blk_frozen BK330.out 0
        have hfz9_1 := blk_frozen BK330.out 1
        go_wp2_with (first | ((with_reducible refine gate_callee (f := 46) rfl ?_); refine goesL_ (some 10) rfl rfl Try.func46 (by kernel_rfl) rfl #[.int .i64 (l0_0.length : Int), .int .i64 1, .int .i64 60] rfl (by (try simp only [List.map_toArray, List.map_cons, List.map_nil]); first | done | rfl | (simp only [List.length_drop, List.length_take]; rfl)) ?_; (with_reducible refine (impl_in.calls (l0_0.length : Int) 1 60 true _ A4.out).mono ?_); rintro e w' ⟨rfl, ⟨nd, rfl⟩⟩; refine ⟨_, rfl, ?_⟩) | (go_at_call 46; (with_reducible refine (impl_in.calls (l0_1.length : Int) 1 6 true _ A6.out).mono ?_); rintro e w' ⟨rfl, ⟨nd, rfl⟩⟩) | (go_at_call 47; (with_reducible refine (impl_each.calls k _ _ l0_1 (l0_1.length : Int) 1 60 t333 _ ?side1 ?side2 A8.out).mono ?_); (case side1 => repeat (first | exact (Kd.C_below HR0_1.out (by repeat (first | (with_reducible first | exact HB.out | apply below_alloc | apply pw_below_drewN | apply below_drew1 | refine below_set ?_ GE330.out) | exact HB.out))) | (with_reducible refine Kd.C_alloc ?_ _) | (with_reducible refine Kd.C_drewN ?_ _) | (with_reducible refine Kd.C_drew ?_))); (case side2 => exact HC0_1.out); rintro e w' ⟨rfl, ⟨nd, rfl⟩⟩))
        go_meet
        case rel => exact ⟨_, (!t333), (by first | rfl | (simp; done) | (simp [*]; done)), H', ⟨by first | omega | exact Nat.le_refl _⟩, ⟨by (with_reducible repeat (first | refine blk_drewN ?_ _ | refine blk_drew ?_ | refine blk_alloc ?_ _)); exact BK330.out⟩, ⟨by repeat (first | (with_reducible first | exact HB.out | apply below_alloc | apply pw_below_drewN | apply below_drew1 | refine below_set ?_ GE330.out) | exact HB.out)⟩⟩
      · replace c7 := Bool.eq_false_iff.mpr c7
        subst c7
        have H1 : (impl_SuiteOk.j0 k true l0_0 l0_1) = some r := by rw [if_neg (show ¬ (false = true) by decide)] at H; exact H
        clear H
        have H := H1
        clear H1
        have H' := Aside0.mk H
        clear H
        have hcz10_0 : w3.cell? ⟨gb330, 0, none⟩ = some (.slice A0_0 l0_0.length c0_0) := (blk_cell BK330.out 0).trans rfl
        have hcz10_1 : w3.cell? ⟨gb330, 1, none⟩ = some (.slice A0_1 l0_1.length c0_1) := (blk_cell BK330.out 1).trans rfl
        have hfz10_0 := blk_frozen BK330.out 0
        have hfz10_1 := blk_frozen BK330.out 1
        go_wp2_with (first | ((with_reducible refine gate_callee (f := 46) rfl ?_); refine goesL_ (some 10) rfl rfl Try.func46 (by kernel_rfl) rfl #[.int .i64 (l0_0.length : Int), .int .i64 1, .int .i64 60] rfl (by (try simp only [List.map_toArray, List.map_cons, List.map_nil]); first | done | rfl | (simp only [List.length_drop, List.length_take]; rfl)) ?_; (with_reducible refine (impl_in.calls (l0_0.length : Int) 1 60 true _ A4.out).mono ?_); rintro e w' ⟨rfl, ⟨nd, rfl⟩⟩; refine ⟨_, rfl, ?_⟩) | (go_at_call 46; (with_reducible refine (impl_in.calls (l0_1.length : Int) 1 6 false _ A6.out).mono ?_); rintro e w' ⟨rfl, ⟨nd, rfl⟩⟩))
        go_meet
        case rel => exact ⟨_, (true), (by first | rfl | (simp; done) | (simp [*]; done)), H', ⟨by first | omega | exact Nat.le_refl _⟩, ⟨by (with_reducible repeat (first | refine blk_drewN ?_ _ | refine blk_drew ?_ | refine blk_alloc ?_ _)); exact BK330.out⟩, ⟨by repeat (first | (with_reducible first | exact HB.out | apply below_alloc | apply pw_below_drewN | apply below_drew1 | refine below_set ?_ GE330.out) | exact HB.out)⟩⟩
    · replace c5 := Bool.eq_false_iff.mpr c5
      subst c5
      have H1 : (impl_SuiteOk.j0 k true l0_0 l0_1) = some r := by rw [if_neg (show ¬ (false = true) by decide)] at H; exact H
      clear H
      have H := H1
      clear H1
      have H' := Aside0.mk H
      clear H
      have hcz11_0 : w3.cell? ⟨gb330, 0, none⟩ = some (.slice A0_0 l0_0.length c0_0) := (blk_cell BK330.out 0).trans rfl
      have hcz11_1 : w3.cell? ⟨gb330, 1, none⟩ = some (.slice A0_1 l0_1.length c0_1) := (blk_cell BK330.out 1).trans rfl
      have hfz11_0 := blk_frozen BK330.out 0
      have hfz11_1 := blk_frozen BK330.out 1
      go_wp2_with (first | ((with_reducible refine gate_callee (f := 46) rfl ?_); refine goesL_ (some 10) rfl rfl Try.func46 (by kernel_rfl) rfl #[.int .i64 (l0_0.length : Int), .int .i64 1, .int .i64 60] rfl (by (try simp only [List.map_toArray, List.map_cons, List.map_nil]); first | done | rfl | (simp only [List.length_drop, List.length_take]; rfl)) ?_; (with_reducible refine (impl_in.calls (l0_0.length : Int) 1 60 false _ A4.out).mono ?_); rintro e w' ⟨rfl, ⟨nd, rfl⟩⟩; refine ⟨_, rfl, ?_⟩))
      go_meet
      case rel => exact ⟨_, (true), (by first | rfl | (simp; done) | (simp [*]; done)), H', ⟨by first | omega | exact Nat.le_refl _⟩, ⟨by (with_reducible repeat (first | refine blk_drewN ?_ _ | refine blk_drew ?_ | refine blk_alloc ?_ _)); exact BK330.out⟩, ⟨by repeat (first | (with_reducible first | exact HB.out | apply below_alloc | apply pw_below_drewN | apply below_drew1 | refine below_set ?_ GE330.out) | exact HB.out)⟩⟩
  case rest =>
    clear HC2
    try clear c2
    try clear p2
    try clear c4
    try clear c5
    try clear c7
    try clear hcz10_0
    try clear hcz10_1
    try clear hcz11_0
    try clear hcz11_1
    try clear hcz9_0
    try clear hcz9_1
    try clear hfz10_0
    try clear hfz10_1
    try clear hfz11_0
    try clear hfz11_1
    try clear hfz9_0
    try clear hfz9_1
    obtain ⟨kq, x27_1, rfl, HA, HJ1, BK330, HB⟩ := hcut
    cases kq with
    | zero => exact absurd HA.out (by simp [impl_SuiteOk.j0])
    | succ kj1 =>
      have H := HA.out
      clear HA
      simp only [impl_SuiteOk.j0] at H
      by_cases c12 : x27_1 = true
      · subst c12
        have H1 : (some false) = some r := by rw [if_pos rfl] at H; exact H
        clear H
        have H := H1
        clear H1
        obtain rfl := Option.some.inj H
        go_wp2
        go_ret
        exact ⟨by first | rfl | (simp [errW_none, errW_some] <;> rfl) | (simp [*, errW_none, errW_some] <;> rfl), by repeat (first | (with_reducible first | exact HB.out | apply below_alloc | apply pw_below_drewN | apply below_drew1 | refine below_set ?_ GE330.out) | exact HB.out)⟩
      · replace c12 := Bool.eq_false_iff.mpr c12
        subst c12
        have H1 : (impl_SuiteOk.l0 kj1 l0_0 (l0_0.length : Int) 0 l0_0 l0_1) = some r := by rw [if_neg (show ¬ (false = true) by decide)] at H; exact H
        clear H
        have H := H1
        clear H1
        have H' := Aside0.mk H
        clear H
        have hcz13_0 : wc.cell? ⟨gb330, 0, none⟩ = some (.slice A0_0 l0_0.length c0_0) := (blk_cell BK330.out 0).trans rfl
        have hcz13_1 : wc.cell? ⟨gb330, 1, none⟩ = some (.slice A0_1 l0_1.length c0_1) := (blk_cell BK330.out 1).trans rfl
        have hfz13_0 := blk_frozen BK330.out 0
        have hfz13_1 := blk_frozen BK330.out 1
        go_wp2
        go_loopg [31] kj1 (fun kq v31 w' => ∃ (x31_2 : Int), v31 = .int .i64 x31_2 ∧ Aside0 (impl_SuiteOk.l0 kq l0_0 (l0_0.length : Int) x31_2 l0_0 l0_1 = some r) ∧ Aside0 (kq ≤ kj1) ∧ Aside0 (w'.heap[gb330]? = some (.cells #[(.slice A0_0 l0_0.length c0_0), (.slice A0_1 l0_1.length c0_1)] 46 (0, 0))) ∧ Aside0 (Below w.heap.size w w'))
        case atStart => exact ⟨(0), (by first | rfl | (simp; done) | (simp [*]; done)), H', ⟨Nat.le_refl _⟩, ⟨by (with_reducible repeat (first | refine blk_drewN ?_ _ | refine blk_drew ?_ | refine blk_alloc ?_ _)); exact BK330.out⟩, ⟨by repeat (first | (with_reducible first | exact HB.out | apply below_alloc | apply pw_below_drewN | apply below_drew1 | refine below_set ?_ GE330.out) | exact HB.out)⟩⟩
        case round =>
          clear H'
          try clear c1
          try clear c2
          try clear p2
          try clear c4
          try clear c5
          try clear c7
          try clear c12
          try clear hcz10_0
          try clear hcz10_1
          try clear hcz11_0
          try clear hcz11_1
          try clear hcz13_0
          try clear hcz13_1
          try clear hcz9_0
          try clear hcz9_1
          try clear hfz10_0
          try clear hfz10_1
          try clear hfz11_0
          try clear hfz11_1
          try clear hfz13_0
          try clear hfz13_1
          try clear hfz9_0
          try clear hfz9_1
          try clear p2
          obtain ⟨x31_2, rfl, HA, HK2, BK330, HB⟩ := hrel
          cases gk with
          | zero => exact absurd HA.out (by simp [impl_SuiteOk.l0])
          | succ k2 =>
            have H := HA.out
            clear HA
            simp only [impl_SuiteOk.l0] at H
            by_cases c14 : x31_2 < (l0_0.length : Int)
            · rw [if_pos c14] at H
              have c14b0 : decide (x31_2 < (l0_0.length : Int)) = true := decide_eq_true c14
              clear c14
              by_cases c15 : 0 ≤ x31_2
              · rw [if_pos c15] at H
                have c15b0 : decide (0 ≤ x31_2) = true := decide_eq_true c15
                clear c15
                by_cases c16 : x31_2 < (l0_0.length : Int)
                · rw [if_pos c16] at H
                  have c16b0 : decide (x31_2 < (l0_0.length : Int)) = true := decide_eq_true c16
                  clear c16
                  have H' := Aside0.mk H
                  clear H
                  have p334 : 0 ≤ (x31_2 : Int) := of_decide_eq_true (by first | (with_reducible assumption) | assumption)
                  have q334 : x31_2 < (l0_0.length : Int) := of_decide_eq_true (by first | (with_reducible assumption) | assumption)
                  obtain ⟨ad334, A334_0, c334_0, e334, hx334_0, hx334_1, hx334_2, hx334_3, hl334_0, hi334_0⟩ := at_T78 HR0_0.out x31_2 p334 q334
                  cases e334
                  replace hx334_0 := (HB.out.cell (World.block_lt_of_cell? w _ hx334_0)).trans hx334_0
                  replace hx334_1 := (HB.out.cell (World.block_lt_of_cell? w _ hx334_1)).trans hx334_1
                  replace hx334_2 := (HB.out.cell (World.block_lt_of_cell? w _ hx334_2)).trans hx334_2
                  replace hx334_3 := (HB.out.cell (World.block_lt_of_cell? w _ hx334_3)).trans hx334_3
                  have HR334_0 := Aside0.mk hi334_0
                  have HC334_0 := Aside0.mk hl334_0
                  clear hi334_0 hl334_0
                  replace p334 := eq_true p334
                  replace q334 := eq_true q334
                  go_wp2_with (first | ((with_reducible refine gate_dst (N := 4) rfl ?_); (try (refine gate_guard (by rfl) ?_; dsimp only)); refine box_event ?hg (N := 4) ?hd (cs := #[.slice none 0 0, .int .i64 0, .int .i64 0, .int .i64 0]) (t := 78) ?hr ?_; (case hd => rfl); (case hg => rfl); (case hr => first | (go_simp; done) | (go_simp; rfl)); intro gb335 hg w17 hbox hb; have n0_ := Aside0.mk (blk_below (g := gb330) (o := .cells #[.slice (some ad334) l0_0.length c0_0, .slice A0_1 l0_1.length c0_1] 46 (0, 0)) (by (with_reducible repeat (first | refine blk_drewN ?_ _ | refine blk_drew ?_ | refine blk_alloc ?_ _)); exact BK330.out) hb); have n1_ := Aside0.mk (below_step (by repeat (first | (with_reducible first | exact HB.out | apply below_alloc | apply pw_below_drewN | apply below_drew1 | refine below_set ?_ GE330.out) | exact HB.out)) hb); have n2_ := Aside0.mk (hbox); have n3_ := Aside0.mk ((by rw [hg]; exact (below_size (by repeat (first | (with_reducible first | exact HB.out | apply below_alloc | apply pw_below_drewN | apply below_drew1 | refine below_set ?_ GE330.out) | exact HB.out))) : w.heap.size ≤ gb335)); have n4_ := Aside0.mk ((by rw [hg]; exact (below_size (by repeat (first | (with_reducible first | exact HB.out | apply below_alloc | apply pw_below_drewN | apply below_drew1 | refine below_set ?_ GE330.out) | exact HB.out))) : w.heap.size ≤ gb335)); have n5_ := Aside0.mk ((by rw [hg]; exact Nat.ne_of_lt (blk_lt (g := gb330) (o := .cells #[.slice (some ad334) l0_0.length c0_0, .slice A0_1 l0_1.length c0_1] 46 (0, 0)) (by (with_reducible repeat (first | refine blk_drewN ?_ _ | refine blk_drew ?_ | refine blk_alloc ?_ _)); exact BK330.out)) : gb330 ≠ gb335)); have n6_ := Aside0.mk ((by rw [hg]; exact Nat.ne_of_gt (blk_lt (g := gb330) (o := .cells #[.slice (some ad334) l0_0.length c0_0, .slice A0_1 l0_1.length c0_1] 46 (0, 0)) (by (with_reducible repeat (first | refine blk_drewN ?_ _ | refine blk_drew ?_ | refine blk_alloc ?_ _)); exact BK330.out)) : gb335 ≠ gb330)); clear BK330; clear HB; have BK330 := n0_; have HB := n1_; have BK335 := n2_; have GW335 := n3_; have GE335 := n4_; have NB330_335 := n5_; have NB335_330 := n6_; clear n0_ n1_ n2_ n3_ n4_ n5_ n6_; clear hb hbox hg; have hnb18 := NB335_330.out; have hnc18 := NB330_335.out; have hcz19_0 : w17.cell? ⟨gb335, 0, none⟩ = some (.slice none 0 0) := (blk_cell BK335.out 0).trans rfl; have hcz19_1 : w17.cell? ⟨gb335, 1, none⟩ = some (.int .i64 0) := (blk_cell BK335.out 1).trans rfl; have hcz19_2 : w17.cell? ⟨gb335, 2, none⟩ = some (.int .i64 0) := (blk_cell BK335.out 2).trans rfl; have hcz19_3 : w17.cell? ⟨gb335, 3, none⟩ = some (.int .i64 0) := (blk_cell BK335.out 3).trans rfl; have hfz19_0 := blk_frozen BK335.out 0; have hfz19_1 := blk_frozen BK335.out 1; have hfz19_2 := blk_frozen BK335.out 2; have hfz19_3 := blk_frozen BK335.out 3))
                  go_loopg [39] k2 (fun kq v39 w' => ∃ (x39_3 : Int), v39 = .int .i64 x39_3 ∧ Aside0 (impl_SuiteOk.l1 kq x31_2 l0_0 (l0_0.length : Int) x31_2 ((rd_T78 l0_0 x31_2).f0) (((rd_T78 l0_0 x31_2).f0).length : Int) x39_3 l0_0 l0_1 ((rd_T78 l0_0 x31_2).f0) ((rd_T78 l0_0 x31_2).f1) ((rd_T78 l0_0 x31_2).f2) ((rd_T78 l0_0 x31_2).f3) = some r) ∧ Aside0 (kq ≤ k2) ∧ Aside0 (w'.heap[gb330]? = some (.cells #[(.slice (some ad334) l0_0.length c0_0), (.slice A0_1 l0_1.length c0_1)] 46 (0, 0))) ∧ Aside0 (w'.heap[gb335]? = some (.cells #[(.slice A334_0 ((rd_T78 l0_0 x31_2).f0).length c334_0), .int .i64 ((rd_T78 l0_0 x31_2).f1), .int .i64 ((rd_T78 l0_0 x31_2).f2), .int .i64 ((rd_T78 l0_0 x31_2).f3)] 78 (0, 0))) ∧ Aside0 (Below w.heap.size w w'))
                  case atStart => exact ⟨(0), (by first | rfl | (simp; done) | (simp [*]; done)), H', ⟨Nat.le_refl _⟩, ⟨by (with_reducible repeat (first | refine blk_drewN ?_ _ | refine blk_drew ?_ | refine blk_alloc ?_ _)); refine blk_far ?_ NB330_335.out _; (with_reducible repeat (first | refine blk_drewN ?_ _ | refine blk_drew ?_ | refine blk_alloc ?_ _)); refine blk_far ?_ NB330_335.out _; (with_reducible repeat (first | refine blk_drewN ?_ _ | refine blk_drew ?_ | refine blk_alloc ?_ _)); refine blk_far ?_ NB330_335.out _; (with_reducible repeat (first | refine blk_drewN ?_ _ | refine blk_drew ?_ | refine blk_alloc ?_ _)); refine blk_far ?_ NB330_335.out _; (with_reducible repeat (first | refine blk_drewN ?_ _ | refine blk_drew ?_ | refine blk_alloc ?_ _)); exact BK330.out⟩, ⟨by (with_reducible repeat (first | refine blk_drewN ?_ _ | refine blk_drew ?_ | refine blk_alloc ?_ _)); refine blk_put (cs := #[.slice A334_0 ((rd_T78 l0_0 x31_2).f0).length c334_0, .int .i64 ((rd_T78 l0_0 x31_2).f1), .int .i64 ((rd_T78 l0_0 x31_2).f2), .int .i64 0]) ?_ 3 _ rfl; (with_reducible repeat (first | refine blk_drewN ?_ _ | refine blk_drew ?_ | refine blk_alloc ?_ _)); refine blk_put (cs := #[.slice A334_0 ((rd_T78 l0_0 x31_2).f0).length c334_0, .int .i64 ((rd_T78 l0_0 x31_2).f1), .int .i64 0, .int .i64 0]) ?_ 2 _ rfl; (with_reducible repeat (first | refine blk_drewN ?_ _ | refine blk_drew ?_ | refine blk_alloc ?_ _)); refine blk_put (cs := #[.slice A334_0 ((rd_T78 l0_0 x31_2).f0).length c334_0, .int .i64 0, .int .i64 0, .int .i64 0]) ?_ 1 _ rfl; (with_reducible repeat (first | refine blk_drewN ?_ _ | refine blk_drew ?_ | refine blk_alloc ?_ _)); refine blk_put (cs := #[.slice none 0 0, .int .i64 0, .int .i64 0, .int .i64 0]) ?_ 0 _ rfl; (with_reducible repeat (first | refine blk_drewN ?_ _ | refine blk_drew ?_ | refine blk_alloc ?_ _)); exact BK335.out⟩, ⟨by repeat (first | (with_reducible first | exact HB.out | apply below_alloc | apply pw_below_drewN | apply below_drew1 | refine below_set ?_ GE330.out | refine below_set ?_ GE335.out) | exact HB.out)⟩⟩
                  case round =>
                    clear H'
                    try clear c1
                    try clear c2
                    try clear p2
                    try clear c3
                    try clear p3
                    try clear q3
                    try clear hx3
                    try clear c4
                    try clear c5
                    try clear c7
                    try clear c12
                    try clear c14
                    try clear c14b0
                    try clear c15
                    try clear c15b0
                    try clear c16
                    try clear c16b0
                    try clear c18
                    try clear hcz10_0
                    try clear hcz10_1
                    try clear hcz11_0
                    try clear hcz11_1
                    try clear hcz13_0
                    try clear hcz13_1
                    try clear hcz19_0
                    try clear hcz19_1
                    try clear hcz19_2
                    try clear hcz19_3
                    try clear hcz9_0
                    try clear hcz9_1
                    try clear hfz10_0
                    try clear hfz10_1
                    try clear hfz11_0
                    try clear hfz11_1
                    try clear hfz13_0
                    try clear hfz13_1
                    try clear hfz19_0
                    try clear hfz19_1
                    try clear hfz19_2
                    try clear hfz19_3
                    try clear hfz9_0
                    try clear hfz9_1
                    try clear hx334_0
                    try clear hx334_1
                    try clear hx334_2
                    try clear hx334_3
                    try clear p2
                    try clear p334
                    try clear q334
                    obtain ⟨x39_3, rfl, HA, HK3, BK330, BK335, HB⟩ := hrel
                    cases gk with
                    | zero => exact absurd HA.out (by simp [impl_SuiteOk.l1])
                    | succ k3 =>
                      have H := HA.out
                      clear HA
                      simp only [impl_SuiteOk.l1] at H
                      by_cases c20 : x39_3 < (((rd_T78 l0_0 x31_2).f0).length : Int)
                      · rw [if_pos c20] at H
                        have c20b0 : decide (x39_3 < (((rd_T78 l0_0 x31_2).f0).length : Int)) = true := decide_eq_true c20
                        clear c20
                        by_cases c21 : 0 ≤ x39_3
                        · rw [if_pos c21] at H
                          have c21b0 : decide (0 ≤ x39_3) = true := decide_eq_true c21
                          clear c21
                          by_cases c22 : x39_3 < (((rd_T78 l0_0 x31_2).f0).length : Int)
                          · rw [if_pos c22] at H
                            have c22b0 : decide (x39_3 < (((rd_T78 l0_0 x31_2).f0).length : Int)) = true := decide_eq_true c22
                            clear c22
                            replace H := Option.bind_eq_some_iff.mp H
                            obtain ⟨t337, A230, H⟩ := H
                            replace H : (if t337 = true then (if x39_3 > 0 then (if 0 ≤ (wrap64 (x39_3 - 1)) then (if (wrap64 (x39_3 - 1)) < (((rd_T78 l0_0 x31_2).f0).length : Int) then (if (rd ((rd_T78 l0_0 x31_2).f0) (wrap64 (x39_3 - 1))) ≥ (rd ((rd_T78 l0_0 x31_2).f0) x39_3) then (some false) else (impl_SuiteOk.l1 k3 x31_2 l0_0 (l0_0.length : Int) x31_2 ((rd_T78 l0_0 x31_2).f0) (((rd_T78 l0_0 x31_2).f0).length : Int) (wrap64 (x39_3 + 1)) l0_0 l0_1 ((rd_T78 l0_0 x31_2).f0) ((rd_T78 l0_0 x31_2).f1) ((rd_T78 l0_0 x31_2).f2) ((rd_T78 l0_0 x31_2).f3))) else (none)) else (none)) else (impl_SuiteOk.l1 k3 x31_2 l0_0 (l0_0.length : Int) x31_2 ((rd_T78 l0_0 x31_2).f0) (((rd_T78 l0_0 x31_2).f0).length : Int) (wrap64 (x39_3 + 1)) l0_0 l0_1 ((rd_T78 l0_0 x31_2).f0) ((rd_T78 l0_0 x31_2).f1) ((rd_T78 l0_0 x31_2).f2) ((rd_T78 l0_0 x31_2).f3))) else (some false)) = some r := H
                            have A23 := Aside0.mk A230
                            clear A230
                            by_cases c24 : t337 = true
                            · subst c24
                              have H1 : (if x39_3 > 0 then (if 0 ≤ (wrap64 (x39_3 - 1)) then (if (wrap64 (x39_3 - 1)) < (((rd_T78 l0_0 x31_2).f0).length : Int) then (if (rd ((rd_T78 l0_0 x31_2).f0) (wrap64 (x39_3 - 1))) ≥ (rd ((rd_T78 l0_0 x31_2).f0) x39_3) then (some false) else (impl_SuiteOk.l1 k3 x31_2 l0_0 (l0_0.length : Int) x31_2 ((rd_T78 l0_0 x31_2).f0) (((rd_T78 l0_0 x31_2).f0).length : Int) (wrap64 (x39_3 + 1)) l0_0 l0_1 ((rd_T78 l0_0 x31_2).f0) ((rd_T78 l0_0 x31_2).f1) ((rd_T78 l0_0 x31_2).f2) ((rd_T78 l0_0 x31_2).f3))) else (none)) else (none)) else (impl_SuiteOk.l1 k3 x31_2 l0_0 (l0_0.length : Int) x31_2 ((rd_T78 l0_0 x31_2).f0) (((rd_T78 l0_0 x31_2).f0).length : Int) (wrap64 (x39_3 + 1)) l0_0 l0_1 ((rd_T78 l0_0 x31_2).f0) ((rd_T78 l0_0 x31_2).f1) ((rd_T78 l0_0 x31_2).f2) ((rd_T78 l0_0 x31_2).f3))) = some r := by rw [if_pos rfl] at H; exact H
                              clear H
                              have H := H1
                              clear H1
                              by_cases c25 : x39_3 > 0
                              · rw [if_pos c25] at H
                                have c25b0 : decide (0 < x39_3) = true := decide_eq_true c25
                                clear c25
                                obtain ⟨ji26, hji26⟩ : ∃ j_ : Int, (wrap64 (x39_3 - 1)) = j_ := ⟨_, rfl⟩
                                replace H : (if 0 ≤ (ji26) then (if (ji26) < (((rd_T78 l0_0 x31_2).f0).length : Int) then (if (rd ((rd_T78 l0_0 x31_2).f0) (ji26)) ≥ (rd ((rd_T78 l0_0 x31_2).f0) x39_3) then (some false) else (impl_SuiteOk.l1 k3 x31_2 l0_0 (l0_0.length : Int) x31_2 ((rd_T78 l0_0 x31_2).f0) (((rd_T78 l0_0 x31_2).f0).length : Int) (wrap64 (x39_3 + 1)) l0_0 l0_1 ((rd_T78 l0_0 x31_2).f0) ((rd_T78 l0_0 x31_2).f1) ((rd_T78 l0_0 x31_2).f2) ((rd_T78 l0_0 x31_2).f3))) else (none)) else (none)) = some r := by first | (rw [hji26] at H; exact H) | (simp only [hji26] at H ⊢; exact H)
                                (try rw [hji26] at A23)
                                have hji26w : (IntKind.i64.wrap (x39_3 - 1)) = ji26 := (i64_w _).trans hji26
                                by_cases c27 : 0 ≤ (ji26)
                                · rw [if_pos c27] at H
                                  have c27b0 : decide (0 ≤ (ji26)) = true := decide_eq_true c27
                                  clear c27
                                  by_cases c28 : (ji26) < (((rd_T78 l0_0 x31_2).f0).length : Int)
                                  · rw [if_pos c28] at H
                                    have c28b0 : decide ((ji26) < (((rd_T78 l0_0 x31_2).f0).length : Int)) = true := decide_eq_true c28
                                    clear c28
                                    by_cases c29 : (rd ((rd_T78 l0_0 x31_2).f0) (ji26)) ≥ (rd ((rd_T78 l0_0 x31_2).f0) x39_3)
                                    · rw [if_pos c29] at H
                                      have c29b0 : decide ((rd ((rd_T78 l0_0 x31_2).f0) x39_3) ≤ (rd ((rd_T78 l0_0 x31_2).f0) (ji26))) = true := decide_eq_true c29
                                      clear c29
                                      obtain rfl := Option.some.inj H
                                      have p336 : 0 ≤ (x39_3 : Int) := of_decide_eq_true (by first | (with_reducible assumption) | assumption)
                                      have q336 : x39_3 < (((rd_T78 l0_0 x31_2).f0).length : Int) := of_decide_eq_true (by first | (with_reducible assumption) | assumption)
                                      obtain ⟨ad336, e336, hx336_0⟩ := Kd.at_int HR334_0.out x39_3 p336 q336
                                      cases e336
                                      replace hx336_0 := (HB.out.cell (World.block_lt_of_cell? w _ hx336_0)).trans hx336_0
                                      replace p336 := eq_true p336
                                      replace q336 := eq_true q336
                                      go_wp2_with (first | ((with_reducible refine gate_callee (f := 46) rfl ?_); refine goesL_ (some 46) rfl rfl Try.func46 (by kernel_rfl) rfl #[.int .i64 (rd ((rd_T78 l0_0 x31_2).f0) x39_3), .int .i64 1, .int .i64 x31_2] rfl (by (try simp only [List.map_toArray, List.map_cons, List.map_nil]); first | done | rfl | (simp only [List.length_drop, List.length_take]; rfl)) ?_; (with_reducible refine (impl_in.calls (rd ((rd_T78 l0_0 x31_2).f0) x39_3) 1 x31_2 true _ A23.out).mono ?_); rintro e w' ⟨rfl, ⟨nd, rfl⟩⟩; refine ⟨_, rfl, ?_⟩; have hnb30 := NB335_330.out; have hnc30 := NB330_335.out; have hcz31_0 : wr.cell? ⟨gb335, 0, none⟩ = some (.slice (some ad336) ((rd_T78 l0_0 x31_2).f0).length c334_0) := (blk_cell BK335.out 0).trans rfl; have hcz31_1 : wr.cell? ⟨gb335, 1, none⟩ = some (.int .i64 ((rd_T78 l0_0 x31_2).f1)) := (blk_cell BK335.out 1).trans rfl; have hcz31_2 : wr.cell? ⟨gb335, 2, none⟩ = some (.int .i64 ((rd_T78 l0_0 x31_2).f2)) := (blk_cell BK335.out 2).trans rfl; have hcz31_3 : wr.cell? ⟨gb335, 3, none⟩ = some (.int .i64 ((rd_T78 l0_0 x31_2).f3)) := (blk_cell BK335.out 3).trans rfl; have hfz31_0 := blk_frozen BK335.out 0; have hfz31_1 := blk_frozen BK335.out 1; have hfz31_2 := blk_frozen BK335.out 2; have hfz31_3 := blk_frozen BK335.out 3; have p338 : 0 ≤ ((ji26) : Int) := of_decide_eq_true (by first | (with_reducible assumption) | assumption); have q338 : (ji26) < (((rd_T78 l0_0 x31_2).f0).length : Int) := of_decide_eq_true (by first | (with_reducible assumption) | assumption); obtain ⟨ad338, e338, hx338_0⟩ := Kd.at_int HR334_0.out (ji26) p338 q338; obtain rfl : ad336 = ad338 := (by injection e338); replace hx338_0 := (HB.out.cell (World.block_lt_of_cell? w _ hx338_0)).trans hx338_0; replace p338 := eq_true p338; replace q338 := eq_true q338))
                                      go_ret
                                      exact ⟨by first | rfl | (simp [errW_none, errW_some] <;> rfl) | (simp only [← hji26]; first | rfl | (simp [errW_none, errW_some] <;> rfl)) | (simp [*, errW_none, errW_some] <;> rfl), by repeat (first | (with_reducible first | exact HB.out | apply below_alloc | apply pw_below_drewN | apply below_drew1 | refine below_set ?_ GE330.out | refine below_set ?_ GE335.out) | exact HB.out)⟩
                                    · rw [if_neg c29] at H
                                      have c29b0 : decide ((rd ((rd_T78 l0_0 x31_2).f0) x39_3) ≤ (rd ((rd_T78 l0_0 x31_2).f0) (ji26))) = false := decide_eq_false c29
                                      clear c29
                                      have H' := Aside0.mk H
                                      clear H
                                      have p336 : 0 ≤ (x39_3 : Int) := of_decide_eq_true (by first | (with_reducible assumption) | assumption)
                                      have q336 : x39_3 < (((rd_T78 l0_0 x31_2).f0).length : Int) := of_decide_eq_true (by first | (with_reducible assumption) | assumption)
                                      obtain ⟨ad336, e336, hx336_0⟩ := Kd.at_int HR334_0.out x39_3 p336 q336
                                      cases e336
                                      replace hx336_0 := (HB.out.cell (World.block_lt_of_cell? w _ hx336_0)).trans hx336_0
                                      replace p336 := eq_true p336
                                      replace q336 := eq_true q336
                                      go_wp2_with (first | ((with_reducible refine gate_callee (f := 46) rfl ?_); refine goesL_ (some 46) rfl rfl Try.func46 (by kernel_rfl) rfl #[.int .i64 (rd ((rd_T78 l0_0 x31_2).f0) x39_3), .int .i64 1, .int .i64 x31_2] rfl (by (try simp only [List.map_toArray, List.map_cons, List.map_nil]); first | done | rfl | (simp only [List.length_drop, List.length_take]; rfl)) ?_; (with_reducible refine (impl_in.calls (rd ((rd_T78 l0_0 x31_2).f0) x39_3) 1 x31_2 true _ A23.out).mono ?_); rintro e w' ⟨rfl, ⟨nd, rfl⟩⟩; refine ⟨_, rfl, ?_⟩; have hnb32 := NB335_330.out; have hnc32 := NB330_335.out; have hcz33_0 : wr.cell? ⟨gb335, 0, none⟩ = some (.slice (some ad336) ((rd_T78 l0_0 x31_2).f0).length c334_0) := (blk_cell BK335.out 0).trans rfl; have hcz33_1 : wr.cell? ⟨gb335, 1, none⟩ = some (.int .i64 ((rd_T78 l0_0 x31_2).f1)) := (blk_cell BK335.out 1).trans rfl; have hcz33_2 : wr.cell? ⟨gb335, 2, none⟩ = some (.int .i64 ((rd_T78 l0_0 x31_2).f2)) := (blk_cell BK335.out 2).trans rfl; have hcz33_3 : wr.cell? ⟨gb335, 3, none⟩ = some (.int .i64 ((rd_T78 l0_0 x31_2).f3)) := (blk_cell BK335.out 3).trans rfl; have hfz33_0 := blk_frozen BK335.out 0; have hfz33_1 := blk_frozen BK335.out 1; have hfz33_2 := blk_frozen BK335.out 2; have hfz33_3 := blk_frozen BK335.out 3; have p338 : 0 ≤ ((ji26) : Int) := of_decide_eq_true (by first | (with_reducible assumption) | assumption); have q338 : (ji26) < (((rd_T78 l0_0 x31_2).f0).length : Int) := of_decide_eq_true (by first | (with_reducible assumption) | assumption); obtain ⟨ad338, e338, hx338_0⟩ := Kd.at_int HR334_0.out (ji26) p338 q338; obtain rfl : ad336 = ad338 := (by injection e338); replace hx338_0 := (HB.out.cell (World.block_lt_of_cell? w _ hx338_0)).trans hx338_0; replace p338 := eq_true p338; replace q338 := eq_true q338))
                                      go_roundg k3
                                      case measure => have := HJ1.out; have := HK2.out; have := HK3.out; omega
                                      case rel => exact ⟨(wrap64 (x39_3 + 1)), (by first | rfl | (simp; done) | (simp [*]; done)), H', ⟨by have := HJ1.out; have := HK2.out; have := HK3.out; omega⟩, ⟨by (with_reducible repeat (first | refine blk_drewN ?_ _ | refine blk_drew ?_ | refine blk_alloc ?_ _)); exact BK330.out⟩, ⟨by (with_reducible repeat (first | refine blk_drewN ?_ _ | refine blk_drew ?_ | refine blk_alloc ?_ _)); exact BK335.out⟩, ⟨by repeat (first | (with_reducible first | exact HB.out | apply below_alloc | apply pw_below_drewN | apply below_drew1 | refine below_set ?_ GE330.out | refine below_set ?_ GE335.out) | exact HB.out)⟩⟩
                                  · rw [if_neg c28] at H
                                    exact absurd H (by simp)
                                · rw [if_neg c27] at H
                                  exact absurd H (by simp)
                              · rw [if_neg c25] at H
                                have c25b0 : decide (0 < x39_3) = false := decide_eq_false c25
                                clear c25
                                have H' := Aside0.mk H
                                clear H
                                have p336 : 0 ≤ (x39_3 : Int) := of_decide_eq_true (by first | (with_reducible assumption) | assumption)
                                have q336 : x39_3 < (((rd_T78 l0_0 x31_2).f0).length : Int) := of_decide_eq_true (by first | (with_reducible assumption) | assumption)
                                obtain ⟨ad336, e336, hx336_0⟩ := Kd.at_int HR334_0.out x39_3 p336 q336
                                cases e336
                                replace hx336_0 := (HB.out.cell (World.block_lt_of_cell? w _ hx336_0)).trans hx336_0
                                replace p336 := eq_true p336
                                replace q336 := eq_true q336
                                go_wp2_with (first | ((with_reducible refine gate_callee (f := 46) rfl ?_); refine goesL_ (some 46) rfl rfl Try.func46 (by kernel_rfl) rfl #[.int .i64 (rd ((rd_T78 l0_0 x31_2).f0) x39_3), .int .i64 1, .int .i64 x31_2] rfl (by (try simp only [List.map_toArray, List.map_cons, List.map_nil]); first | done | rfl | (simp only [List.length_drop, List.length_take]; rfl)) ?_; (with_reducible refine (impl_in.calls (rd ((rd_T78 l0_0 x31_2).f0) x39_3) 1 x31_2 true _ A23.out).mono ?_); rintro e w' ⟨rfl, ⟨nd, rfl⟩⟩; refine ⟨_, rfl, ?_⟩))
                                go_roundg k3
                                case measure => have := HJ1.out; have := HK2.out; have := HK3.out; omega
                                case rel => exact ⟨(wrap64 (x39_3 + 1)), (by first | rfl | (simp; done) | (simp [*]; done)), H', ⟨by have := HJ1.out; have := HK2.out; have := HK3.out; omega⟩, ⟨by (with_reducible repeat (first | refine blk_drewN ?_ _ | refine blk_drew ?_ | refine blk_alloc ?_ _)); exact BK330.out⟩, ⟨by (with_reducible repeat (first | refine blk_drewN ?_ _ | refine blk_drew ?_ | refine blk_alloc ?_ _)); exact BK335.out⟩, ⟨by repeat (first | (with_reducible first | exact HB.out | apply below_alloc | apply pw_below_drewN | apply below_drew1 | refine below_set ?_ GE330.out | refine below_set ?_ GE335.out) | exact HB.out)⟩⟩
                            · replace c24 := Bool.eq_false_iff.mpr c24
                              subst c24
                              have H1 : (some false) = some r := by rw [if_neg (show ¬ (false = true) by decide)] at H; exact H
                              clear H
                              have H := H1
                              clear H1
                              obtain rfl := Option.some.inj H
                              have p336 : 0 ≤ (x39_3 : Int) := of_decide_eq_true (by first | (with_reducible assumption) | assumption)
                              have q336 : x39_3 < (((rd_T78 l0_0 x31_2).f0).length : Int) := of_decide_eq_true (by first | (with_reducible assumption) | assumption)
                              obtain ⟨ad336, e336, hx336_0⟩ := Kd.at_int HR334_0.out x39_3 p336 q336
                              cases e336
                              replace hx336_0 := (HB.out.cell (World.block_lt_of_cell? w _ hx336_0)).trans hx336_0
                              replace p336 := eq_true p336
                              replace q336 := eq_true q336
                              go_wp2_with (first | ((with_reducible refine gate_callee (f := 46) rfl ?_); refine goesL_ (some 46) rfl rfl Try.func46 (by kernel_rfl) rfl #[.int .i64 (rd ((rd_T78 l0_0 x31_2).f0) x39_3), .int .i64 1, .int .i64 x31_2] rfl (by (try simp only [List.map_toArray, List.map_cons, List.map_nil]); first | done | rfl | (simp only [List.length_drop, List.length_take]; rfl)) ?_; (with_reducible refine (impl_in.calls (rd ((rd_T78 l0_0 x31_2).f0) x39_3) 1 x31_2 false _ A23.out).mono ?_); rintro e w' ⟨rfl, ⟨nd, rfl⟩⟩; refine ⟨_, rfl, ?_⟩))
                              go_ret
                              exact ⟨by first | rfl | (simp [errW_none, errW_some] <;> rfl) | (simp [*, errW_none, errW_some] <;> rfl), by repeat (first | (with_reducible first | exact HB.out | apply below_alloc | apply pw_below_drewN | apply below_drew1 | refine below_set ?_ GE330.out | refine below_set ?_ GE335.out) | exact HB.out)⟩
                          · rw [if_neg c22] at H
                            exact absurd H (by simp)
                        · rw [if_neg c21] at H
                          exact absurd H (by simp)
                      · rw [if_neg c20] at H
                        have c20b0 : decide (x39_3 < (((rd_T78 l0_0 x31_2).f0).length : Int)) = false := decide_eq_false c20
                        clear c20
                        replace H := Option.bind_eq_some_iff.mp H
                        obtain ⟨t339, A340, H⟩ := H
                        replace H : (if t339 = true then ((impl_in.f ((rd_T78 l0_0 x31_2).f2) 0 1000000000000).bind fun t340 => (if t340 = true then ((impl_in.f ((rd_T78 l0_0 x31_2).f3) 1 5).bind fun t341 => (if t341 = true then (impl_SuiteOk.l0 k3 l0_0 (l0_0.length : Int) (wrap64 (x31_2 + 1)) l0_0 l0_1) else (some false))) else (some false))) else (some false)) = some r := H
                        have A34 := Aside0.mk A340
                        clear A340
                        by_cases c35 : t339 = true
                        · subst c35
                          have H1 : ((impl_in.f ((rd_T78 l0_0 x31_2).f2) 0 1000000000000).bind fun t340 => (if t340 = true then ((impl_in.f ((rd_T78 l0_0 x31_2).f3) 1 5).bind fun t341 => (if t341 = true then (impl_SuiteOk.l0 k3 l0_0 (l0_0.length : Int) (wrap64 (x31_2 + 1)) l0_0 l0_1) else (some false))) else (some false))) = some r := by rw [if_pos rfl] at H; exact H
                          clear H
                          have H := H1
                          clear H1
                          replace H := Option.bind_eq_some_iff.mp H
                          obtain ⟨t340, A360, H⟩ := H
                          replace H : (if t340 = true then ((impl_in.f ((rd_T78 l0_0 x31_2).f3) 1 5).bind fun t341 => (if t341 = true then (impl_SuiteOk.l0 k3 l0_0 (l0_0.length : Int) (wrap64 (x31_2 + 1)) l0_0 l0_1) else (some false))) else (some false)) = some r := H
                          have A36 := Aside0.mk A360
                          clear A360
                          by_cases c37 : t340 = true
                          · subst c37
                            have H1 : ((impl_in.f ((rd_T78 l0_0 x31_2).f3) 1 5).bind fun t341 => (if t341 = true then (impl_SuiteOk.l0 k3 l0_0 (l0_0.length : Int) (wrap64 (x31_2 + 1)) l0_0 l0_1) else (some false))) = some r := by rw [if_pos rfl] at H; exact H
                            clear H
                            have H := H1
                            clear H1
                            replace H := Option.bind_eq_some_iff.mp H
                            obtain ⟨t341, A380, H⟩ := H
                            replace H : (if t341 = true then (impl_SuiteOk.l0 k3 l0_0 (l0_0.length : Int) (wrap64 (x31_2 + 1)) l0_0 l0_1) else (some false)) = some r := H
                            have A38 := Aside0.mk A380
                            clear A380
                            by_cases c39 : t341 = true
                            · subst c39
                              have H1 : (impl_SuiteOk.l0 k3 l0_0 (l0_0.length : Int) (wrap64 (x31_2 + 1)) l0_0 l0_1) = some r := by rw [if_pos rfl] at H; exact H
                              clear H
                              have H := H1
                              clear H1
                              have H' := Aside0.mk H
                              clear H
                              have hnb40 := NB335_330.out
                              have hnc40 := NB330_335.out
                              have hcz41_0 : wr.cell? ⟨gb335, 0, none⟩ = some (.slice A334_0 ((rd_T78 l0_0 x31_2).f0).length c334_0) := (blk_cell BK335.out 0).trans rfl
                              have hcz41_1 : wr.cell? ⟨gb335, 1, none⟩ = some (.int .i64 ((rd_T78 l0_0 x31_2).f1)) := (blk_cell BK335.out 1).trans rfl
                              have hcz41_2 : wr.cell? ⟨gb335, 2, none⟩ = some (.int .i64 ((rd_T78 l0_0 x31_2).f2)) := (blk_cell BK335.out 2).trans rfl
                              have hcz41_3 : wr.cell? ⟨gb335, 3, none⟩ = some (.int .i64 ((rd_T78 l0_0 x31_2).f3)) := (blk_cell BK335.out 3).trans rfl
                              have hfz41_0 := blk_frozen BK335.out 0
                              have hfz41_1 := blk_frozen BK335.out 1
                              have hfz41_2 := blk_frozen BK335.out 2
                              have hfz41_3 := blk_frozen BK335.out 3
                              have hcz42_0 : wr.cell? ⟨gb330, 0, none⟩ = some (.slice (some ad334) l0_0.length c0_0) := (blk_cell BK330.out 0).trans rfl
                              have hcz42_1 : wr.cell? ⟨gb330, 1, none⟩ = some (.slice A0_1 l0_1.length c0_1) := (blk_cell BK330.out 1).trans rfl
                              have hfz42_0 := blk_frozen BK330.out 0
                              have hfz42_1 := blk_frozen BK330.out 1
                              go_wp2_with (first | ((with_reducible refine gate_callee (f := 46) rfl ?_); refine goesL_ (some 68) rfl rfl Try.func46 (by kernel_rfl) rfl #[.int .i64 ((rd_T78 l0_0 x31_2).f1), .int .i64 1, .int .i64 (l0_1.length : Int)] rfl (by (try simp only [List.map_toArray, List.map_cons, List.map_nil]); first | done | rfl | (simp only [List.length_drop, List.length_take]; rfl)) ?_; (with_reducible refine (impl_in.calls ((rd_T78 l0_0 x31_2).f1) 1 (l0_1.length : Int) true _ A34.out).mono ?_); rintro e w' ⟨rfl, ⟨nd, rfl⟩⟩; refine ⟨_, rfl, ?_⟩) | (go_at_call 46; (with_reducible refine (impl_in.calls ((rd_T78 l0_0 x31_2).f2) 0 1000000000000 true _ A36.out).mono ?_); rintro e w' ⟨rfl, ⟨nd, rfl⟩⟩) | (go_at_call 46; (with_reducible refine (impl_in.calls ((rd_T78 l0_0 x31_2).f3) 1 5 true _ A38.out).mono ?_); rintro e w' ⟨rfl, ⟨nd, rfl⟩⟩))
                              go_roundg k3
                              case measure => have := HJ1.out; have := HK2.out; have := HK3.out; omega
                              case rel => exact ⟨(wrap64 (x31_2 + 1)), (by first | rfl | (simp; done) | (simp [*]; done)), H', ⟨by have := HJ1.out; have := HK2.out; have := HK3.out; omega⟩, ⟨by (with_reducible repeat (first | refine blk_drewN ?_ _ | refine blk_drew ?_ | refine blk_alloc ?_ _)); exact BK330.out⟩, ⟨by repeat (first | (with_reducible first | exact HB.out | apply below_alloc | apply pw_below_drewN | apply below_drew1 | refine below_set ?_ GE330.out | refine below_set ?_ GE335.out) | exact HB.out)⟩⟩
                            · replace c39 := Bool.eq_false_iff.mpr c39
                              subst c39
                              have H1 : (some false) = some r := by rw [if_neg (show ¬ (false = true) by decide)] at H; exact H
                              clear H
                              have H := H1
                              clear H1
                              obtain rfl := Option.some.inj H
                              have hnb43 := NB335_330.out
                              have hnc43 := NB330_335.out
                              have hcz44_0 : wr.cell? ⟨gb335, 0, none⟩ = some (.slice A334_0 ((rd_T78 l0_0 x31_2).f0).length c334_0) := (blk_cell BK335.out 0).trans rfl
                              have hcz44_1 : wr.cell? ⟨gb335, 1, none⟩ = some (.int .i64 ((rd_T78 l0_0 x31_2).f1)) := (blk_cell BK335.out 1).trans rfl
                              have hcz44_2 : wr.cell? ⟨gb335, 2, none⟩ = some (.int .i64 ((rd_T78 l0_0 x31_2).f2)) := (blk_cell BK335.out 2).trans rfl
                              have hcz44_3 : wr.cell? ⟨gb335, 3, none⟩ = some (.int .i64 ((rd_T78 l0_0 x31_2).f3)) := (blk_cell BK335.out 3).trans rfl
                              have hfz44_0 := blk_frozen BK335.out 0
                              have hfz44_1 := blk_frozen BK335.out 1
                              have hfz44_2 := blk_frozen BK335.out 2
                              have hfz44_3 := blk_frozen BK335.out 3
                              have hcz45_0 : wr.cell? ⟨gb330, 0, none⟩ = some (.slice (some ad334) l0_0.length c0_0) := (blk_cell BK330.out 0).trans rfl
                              have hcz45_1 : wr.cell? ⟨gb330, 1, none⟩ = some (.slice A0_1 l0_1.length c0_1) := (blk_cell BK330.out 1).trans rfl
                              have hfz45_0 := blk_frozen BK330.out 0
                              have hfz45_1 := blk_frozen BK330.out 1
                              go_wp2_with (first | ((with_reducible refine gate_callee (f := 46) rfl ?_); refine goesL_ (some 68) rfl rfl Try.func46 (by kernel_rfl) rfl #[.int .i64 ((rd_T78 l0_0 x31_2).f1), .int .i64 1, .int .i64 (l0_1.length : Int)] rfl (by (try simp only [List.map_toArray, List.map_cons, List.map_nil]); first | done | rfl | (simp only [List.length_drop, List.length_take]; rfl)) ?_; (with_reducible refine (impl_in.calls ((rd_T78 l0_0 x31_2).f1) 1 (l0_1.length : Int) true _ A34.out).mono ?_); rintro e w' ⟨rfl, ⟨nd, rfl⟩⟩; refine ⟨_, rfl, ?_⟩) | (go_at_call 46; (with_reducible refine (impl_in.calls ((rd_T78 l0_0 x31_2).f2) 0 1000000000000 true _ A36.out).mono ?_); rintro e w' ⟨rfl, ⟨nd, rfl⟩⟩) | (go_at_call 46; (with_reducible refine (impl_in.calls ((rd_T78 l0_0 x31_2).f3) 1 5 false _ A38.out).mono ?_); rintro e w' ⟨rfl, ⟨nd, rfl⟩⟩))
                              go_ret
                              exact ⟨by first | rfl | (simp [errW_none, errW_some] <;> rfl) | (simp [*, errW_none, errW_some] <;> rfl), by repeat (first | (with_reducible first | exact HB.out | apply below_alloc | apply pw_below_drewN | apply below_drew1 | refine below_set ?_ GE330.out | refine below_set ?_ GE335.out) | exact HB.out)⟩
                          · replace c37 := Bool.eq_false_iff.mpr c37
                            subst c37
                            have H1 : (some false) = some r := by rw [if_neg (show ¬ (false = true) by decide)] at H; exact H
                            clear H
                            have H := H1
                            clear H1
                            obtain rfl := Option.some.inj H
                            have hnb46 := NB335_330.out
                            have hnc46 := NB330_335.out
                            have hcz47_0 : wr.cell? ⟨gb335, 0, none⟩ = some (.slice A334_0 ((rd_T78 l0_0 x31_2).f0).length c334_0) := (blk_cell BK335.out 0).trans rfl
                            have hcz47_1 : wr.cell? ⟨gb335, 1, none⟩ = some (.int .i64 ((rd_T78 l0_0 x31_2).f1)) := (blk_cell BK335.out 1).trans rfl
                            have hcz47_2 : wr.cell? ⟨gb335, 2, none⟩ = some (.int .i64 ((rd_T78 l0_0 x31_2).f2)) := (blk_cell BK335.out 2).trans rfl
                            have hcz47_3 : wr.cell? ⟨gb335, 3, none⟩ = some (.int .i64 ((rd_T78 l0_0 x31_2).f3)) := (blk_cell BK335.out 3).trans rfl
                            have hfz47_0 := blk_frozen BK335.out 0
                            have hfz47_1 := blk_frozen BK335.out 1
                            have hfz47_2 := blk_frozen BK335.out 2
                            have hfz47_3 := blk_frozen BK335.out 3
                            have hcz48_0 : wr.cell? ⟨gb330, 0, none⟩ = some (.slice (some ad334) l0_0.length c0_0) := (blk_cell BK330.out 0).trans rfl
                            have hcz48_1 : wr.cell? ⟨gb330, 1, none⟩ = some (.slice A0_1 l0_1.length c0_1) := (blk_cell BK330.out 1).trans rfl
                            have hfz48_0 := blk_frozen BK330.out 0
                            have hfz48_1 := blk_frozen BK330.out 1
                            go_wp2_with (first | ((with_reducible refine gate_callee (f := 46) rfl ?_); refine goesL_ (some 68) rfl rfl Try.func46 (by kernel_rfl) rfl #[.int .i64 ((rd_T78 l0_0 x31_2).f1), .int .i64 1, .int .i64 (l0_1.length : Int)] rfl (by (try simp only [List.map_toArray, List.map_cons, List.map_nil]); first | done | rfl | (simp only [List.length_drop, List.length_take]; rfl)) ?_; (with_reducible refine (impl_in.calls ((rd_T78 l0_0 x31_2).f1) 1 (l0_1.length : Int) true _ A34.out).mono ?_); rintro e w' ⟨rfl, ⟨nd, rfl⟩⟩; refine ⟨_, rfl, ?_⟩) | (go_at_call 46; (with_reducible refine (impl_in.calls ((rd_T78 l0_0 x31_2).f2) 0 1000000000000 false _ A36.out).mono ?_); rintro e w' ⟨rfl, ⟨nd, rfl⟩⟩))
                            go_ret
                            exact ⟨by first | rfl | (simp [errW_none, errW_some] <;> rfl) | (simp [*, errW_none, errW_some] <;> rfl), by repeat (first | (with_reducible first | exact HB.out | apply below_alloc | apply pw_below_drewN | apply below_drew1 | refine below_set ?_ GE330.out | refine below_set ?_ GE335.out) | exact HB.out)⟩
                        · replace c35 := Bool.eq_false_iff.mpr c35
                          subst c35
                          have H1 : (some false) = some r := by rw [if_neg (show ¬ (false = true) by decide)] at H; exact H
                          clear H
                          have H := H1
                          clear H1
                          obtain rfl := Option.some.inj H
                          have hnb49 := NB335_330.out
                          have hnc49 := NB330_335.out
                          have hcz50_0 : wr.cell? ⟨gb335, 0, none⟩ = some (.slice A334_0 ((rd_T78 l0_0 x31_2).f0).length c334_0) := (blk_cell BK335.out 0).trans rfl
                          have hcz50_1 : wr.cell? ⟨gb335, 1, none⟩ = some (.int .i64 ((rd_T78 l0_0 x31_2).f1)) := (blk_cell BK335.out 1).trans rfl
                          have hcz50_2 : wr.cell? ⟨gb335, 2, none⟩ = some (.int .i64 ((rd_T78 l0_0 x31_2).f2)) := (blk_cell BK335.out 2).trans rfl
                          have hcz50_3 : wr.cell? ⟨gb335, 3, none⟩ = some (.int .i64 ((rd_T78 l0_0 x31_2).f3)) := (blk_cell BK335.out 3).trans rfl
                          have hfz50_0 := blk_frozen BK335.out 0
                          have hfz50_1 := blk_frozen BK335.out 1
                          have hfz50_2 := blk_frozen BK335.out 2
                          have hfz50_3 := blk_frozen BK335.out 3
                          have hcz51_0 : wr.cell? ⟨gb330, 0, none⟩ = some (.slice (some ad334) l0_0.length c0_0) := (blk_cell BK330.out 0).trans rfl
                          have hcz51_1 : wr.cell? ⟨gb330, 1, none⟩ = some (.slice A0_1 l0_1.length c0_1) := (blk_cell BK330.out 1).trans rfl
                          have hfz51_0 := blk_frozen BK330.out 0
                          have hfz51_1 := blk_frozen BK330.out 1
                          go_wp2_with (first | ((with_reducible refine gate_callee (f := 46) rfl ?_); refine goesL_ (some 68) rfl rfl Try.func46 (by kernel_rfl) rfl #[.int .i64 ((rd_T78 l0_0 x31_2).f1), .int .i64 1, .int .i64 (l0_1.length : Int)] rfl (by (try simp only [List.map_toArray, List.map_cons, List.map_nil]); first | done | rfl | (simp only [List.length_drop, List.length_take]; rfl)) ?_; (with_reducible refine (impl_in.calls ((rd_T78 l0_0 x31_2).f1) 1 (l0_1.length : Int) false _ A34.out).mono ?_); rintro e w' ⟨rfl, ⟨nd, rfl⟩⟩; refine ⟨_, rfl, ?_⟩))
                          go_ret
                          exact ⟨by first | rfl | (simp [errW_none, errW_some] <;> rfl) | (simp [*, errW_none, errW_some] <;> rfl), by repeat (first | (with_reducible first | exact HB.out | apply below_alloc | apply pw_below_drewN | apply below_drew1 | refine below_set ?_ GE330.out | refine below_set ?_ GE335.out) | exact HB.out)⟩
                · rw [if_neg c16] at H
                  exact absurd H (by simp)
              · rw [if_neg c15] at H
                exact absurd H (by simp)
            · rw [if_neg c14] at H
              have c14b0 : decide (x31_2 < (l0_0.length : Int)) = false := decide_eq_false c14
              clear c14
              obtain rfl := Option.some.inj H
              go_wp2
              go_ret
              exact ⟨by first | rfl | (simp [errW_none, errW_some] <;> rfl) | (simp [*, errW_none, errW_some] <;> rfl), by repeat (first | (with_reducible first | exact HB.out | apply below_alloc | apply pw_below_drewN | apply below_drew1 | refine below_set ?_ GE330.out) | exact HB.out)⟩

end Go.Proofs.Ytcdghhihfjojaaa.Q
