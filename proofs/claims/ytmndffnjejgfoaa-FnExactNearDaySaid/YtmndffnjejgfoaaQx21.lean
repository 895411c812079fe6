/- Plain Lean functions with the same answers as the Go functions of this seat, and a proof for each that the Go code comes to just these answers; no condition. Written by a program of this session (the kit's printer, turned). -/
import Derived.Test.YtmndffnjejgfoaaQx0
import Derived.Test.YtmndffnjejgfoaaQx9
import Derived.Test.YtmndffnjejgfoaaQx20
namespace Go.Proofs.Ytmndffnjejgfoaa.Q
open Go.RowKit Go.Proofs.YtmndffnjejgfoaaW.PrintWords Go.Proofs.YtmndffnjejgfoaaW.PrintLast Go.Proofs.YtmndffnjejgfoaaW.PrintMore
attribute [local go_sem] max2_int min2_int max_two min_two max_three min_three max_four min_four   -- for this text's walks alone
set_option linter.unusedVariables false
set_option linter.unusedSimpArgs false

/-! ### impl_NearDay: function 27 -/
mutual
def impl_NearDay.j0 : Nat → Int → Int → Int → Int → Bool → Option (Int × Bool)
  | 0, _, _, _, _, _ => none
  | k + 1, x0, x1, x2, x3, x40 => if x40 = true then (some (0, false)) else (impl_NearDay.l0 k x0 x1 x2 x3 0 false 2000)
def impl_NearDay.l0 : Nat → Int → Int → Int → Int → Int → Bool → Int → Option (Int × Bool)
  | 0, _, _, _, _, _, _, _ => none
  | k + 1, x0, x1, x2, x3, x10, x11, x12 => if x12 ≤ 2100 then (impl_NearDay.l1 k x0 x1 x2 x3 x10 x11 x12 1) else (some (x10, x11))
def impl_NearDay.l1 : Nat → Int → Int → Int → Int → Int → Bool → Int → Int → Option (Int × Bool)
  | 0, _, _, _, _, _, _, _, _ => none
  | k + 1, x0, x1, x2, x3, x10, x11, x12, x13 => if x13 ≤ 12 then ((impl_monthDays.f x12 x13).bind fun t347 => (if x0 > t347 then (impl_NearDay.l1 k x0 x1 x2 x3 x10 x11 x12 (wrap64 (x13 + 1))) else ((impl_daysTo.f k x12 x13 x0).bind fun t348 => ((impl_isTime.f (wrap64 ((wrap64 ((wrap64 (t348 * 1440)) + (wrap64 (x1 * 60)))) + x2))).bind fun t349 => (if t349 = true then (if x11 = true then (if (mx (wrap64 ((wrap64 ((wrap64 ((wrap64 (t348 * 1440)) + (wrap64 (x1 * 60)))) + x2)) - x3)) (wrap64 (x3 - (wrap64 ((wrap64 ((wrap64 (t348 * 1440)) + (wrap64 (x1 * 60)))) + x2))))) < (mx (wrap64 (x10 - x3)) (wrap64 (x3 - x10))) then (impl_NearDay.l1 k x0 x1 x2 x3 (wrap64 ((wrap64 ((wrap64 (t348 * 1440)) + (wrap64 (x1 * 60)))) + x2)) true x12 (wrap64 (x13 + 1))) else (impl_NearDay.l1 k x0 x1 x2 x3 x10 x11 x12 (wrap64 (x13 + 1)))) else (impl_NearDay.l1 k x0 x1 x2 x3 (wrap64 ((wrap64 ((wrap64 (t348 * 1440)) + (wrap64 (x1 * 60)))) + x2)) true x12 (wrap64 (x13 + 1)))) else (impl_NearDay.l1 k x0 x1 x2 x3 x10 x11 x12 (wrap64 (x13 + 1)))))))) else (impl_NearDay.l0 k x0 x1 x2 x3 x10 x11 (wrap64 (x12 + 1)))
end
def impl_NearDay.f (k : Nat) (a0 : Int) (a1 : Int) (a2 : Int) (a3 : Int) : Option (Int × Bool) := (impl_isTime.f a3).bind fun t343 => (if t343 = true then ((impl_in.f a0 1 31).bind fun t344 => (if t344 = true then ((impl_in.f a1 0 24).bind fun t345 => (if t345 = true then ((impl_in.f a2 0 59).bind fun t346 => (if t346 = true then (if a1 = 24 then (impl_NearDay.j0 k a0 a1 a2 a3 (a2 != 0)) else (impl_NearDay.j0 k a0 a1 a2 a3 false)) else (impl_NearDay.j0 k a0 a1 a2 a3 true))) else (impl_NearDay.j0 k a0 a1 a2 a3 true))) else (impl_NearDay.j0 k a0 a1 a2 a3 true))) else (impl_NearDay.j0 k a0 a1 a2 a3 true))
theorem impl_NearDay.mono_l : ∀ k, (∀ y0 y1 y2 y3 y4, LeO (impl_NearDay.j0 k y0 y1 y2 y3 y4) (impl_NearDay.j0 (k + 1) y0 y1 y2 y3 y4)) ∧ (∀ y0 y1 y2 y3 y4 y5 y6, LeO (impl_NearDay.l0 k y0 y1 y2 y3 y4 y5 y6) (impl_NearDay.l0 (k + 1) y0 y1 y2 y3 y4 y5 y6)) ∧ (∀ y0 y1 y2 y3 y4 y5 y6 y7, LeO (impl_NearDay.l1 k y0 y1 y2 y3 y4 y5 y6 y7) (impl_NearDay.l1 (k + 1) y0 y1 y2 y3 y4 y5 y6 y7))
  | 0 => ⟨fun _ _ _ _ _ r h => by simp [impl_NearDay.j0] at h, fun _ _ _ _ _ _ _ r h => by simp [impl_NearDay.l0] at h, fun _ _ _ _ _ _ _ _ r h => by simp [impl_NearDay.l1] at h⟩
  | k + 1 => by
    obtain ⟨ih0, ih1, ih2⟩ := impl_NearDay.mono_l k
    refine ⟨?_, ?_, ?_⟩
    · intro y0 y1 y2 y3 y4
      unfold impl_NearDay.j0
      repeat' first
      | (with_reducible exact ih0 _ _ _ _ _)
      | (with_reducible exact ih1 _ _ _ _ _ _ _)
      | (with_reducible exact ih2 _ _ _ _ _ _ _ _)
      | (with_reducible exact impl_daysTo.mono _ _ _ _)
      | (with_reducible exact LeO.refl _)
      | (with_reducible exact LeO.none _)
      | (with_reducible refine LeO.ite ?_ ?_)
      | (with_reducible refine LeO.bind ?_ (fun _ => ?_))
      | exact ih0 _ _ _ _ _
      | exact ih1 _ _ _ _ _ _ _
      | exact ih2 _ _ _ _ _ _ _ _
      | exact impl_daysTo.mono _ _ _ _
      | exact LeO.none _
      | refine LeO.ite ?_ ?_
      | refine LeO.bind ?_ (fun _ => ?_)
    · intro y0 y1 y2 y3 y4 y5 y6
      unfold impl_NearDay.l0
      repeat' first
      | (with_reducible exact ih0 _ _ _ _ _)
      | (with_reducible exact ih1 _ _ _ _ _ _ _)
      | (with_reducible exact ih2 _ _ _ _ _ _ _ _)
      | (with_reducible exact impl_daysTo.mono _ _ _ _)
      | (with_reducible exact LeO.refl _)
      | (with_reducible exact LeO.none _)
      | (with_reducible refine LeO.ite ?_ ?_)
      | (with_reducible refine LeO.bind ?_ (fun _ => ?_))
      | exact ih0 _ _ _ _ _
      | exact ih1 _ _ _ _ _ _ _
      | exact ih2 _ _ _ _ _ _ _ _
      | exact impl_daysTo.mono _ _ _ _
      | exact LeO.none _
      | refine LeO.ite ?_ ?_
      | refine LeO.bind ?_ (fun _ => ?_)
    · intro y0 y1 y2 y3 y4 y5 y6 y7
      unfold impl_NearDay.l1
      repeat' first
      | (with_reducible exact ih0 _ _ _ _ _)
      | (with_reducible exact ih1 _ _ _ _ _ _ _)
      | (with_reducible exact ih2 _ _ _ _ _ _ _ _)
      | (with_reducible exact impl_daysTo.mono _ _ _ _)
      | (with_reducible exact LeO.refl _)
      | (with_reducible exact LeO.none _)
      | (with_reducible refine LeO.ite ?_ ?_)
      | (with_reducible refine LeO.bind ?_ (fun _ => ?_))
      | exact ih0 _ _ _ _ _
      | exact ih1 _ _ _ _ _ _ _
      | exact ih2 _ _ _ _ _ _ _ _
      | exact impl_daysTo.mono _ _ _ _
      | exact LeO.none _
      | refine LeO.ite ?_ ?_
      | refine LeO.bind ?_ (fun _ => ?_)
theorem impl_NearDay.mono : ∀ a0 a1 a2 a3 k, LeO (impl_NearDay.f k a0 a1 a2 a3) (impl_NearDay.f (k + 1) a0 a1 a2 a3) := by
  intro a0 a1 a2 a3 k
  obtain ⟨ih0, ih1, ih2⟩ := impl_NearDay.mono_l k
  unfold impl_NearDay.f
  repeat' first
      | (with_reducible exact ih0 _ _ _ _ _)
      | (with_reducible exact ih1 _ _ _ _ _ _ _)
      | (with_reducible exact ih2 _ _ _ _ _ _ _ _)
      | (with_reducible exact impl_daysTo.mono _ _ _ _)
      | (with_reducible exact LeO.refl _)
      | (with_reducible exact LeO.none _)
      | (with_reducible refine LeO.ite ?_ ?_)
      | (with_reducible refine LeO.bind ?_ (fun _ => ?_))
      | exact ih0 _ _ _ _ _
      | exact ih1 _ _ _ _ _ _ _
      | exact ih2 _ _ _ _ _ _ _ _
      | exact impl_daysTo.mono _ _ _ _
      | exact LeO.none _
      | refine LeO.ite ?_ ?_
      | refine LeO.bind ?_ (fun _ => ?_)
set_option maxHeartbeats 8000000 in
set_option maxRecDepth 100000 in
theorem impl_NearDay.calls (k : Nat) (a0 : Int) (a1 : Int) (a2 : Int) (a3 : Int) (r1 : Int) (r2 : Bool) (w : World) (h : impl_NearDay.f k a0 a1 a2 a3 = some (r1, r2)) :
    Calls Try.prog 27 #[.int .i64 a0, .int .i64 a1, .int .i64 a2, .int .i64 a3] w fun e w' => e = .returned (.tuple #[.int .i64 r1, .bool r2]) ∧ Below w.heap.size w w' := by
  have HB := Aside0.mk (Below.refl w.heap.size w)
  have H : ((impl_isTime.f a3).bind fun t343 => (if t343 = true then ((impl_in.f a0 1 31).bind fun t344 => (if t344 = true then ((impl_in.f a1 0 24).bind fun t345 => (if t345 = true then ((impl_in.f a2 0 59).bind fun t346 => (if t346 = true then (if a1 = 24 then (impl_NearDay.j0 k a0 a1 a2 a3 (a2 != 0)) else (impl_NearDay.j0 k a0 a1 a2 a3 false)) else (impl_NearDay.j0 k a0 a1 a2 a3 true))) else (impl_NearDay.j0 k a0 a1 a2 a3 true))) else (impl_NearDay.j0 k a0 a1 a2 a3 true))) else (impl_NearDay.j0 k a0 a1 a2 a3 true))) = some (r1, r2) := h
  clear h
  have HC5 := Aside0.mk H
  clear H
  go_enter Try.func27, Try.ntmps27
  go_upto_region 1 with (fail)
  go_cut [40] (fun v40 wc => ∃ (kq : Nat) (x40_4 : Bool), v40 = .bool x40_4 ∧ Aside0 (impl_NearDay.j0 kq a0 a1 a2 a3 x40_4 = some (r1, r2)) ∧ Aside0 (kq ≤ k) ∧ Aside0 (Below w.heap.size w wc))
  case first =>
    have H := HC5.out
    clear HC5
    replace H := Option.bind_eq_some_iff.mp H
    obtain ⟨t343, A60, H⟩ := H
    replace H : (if t343 = true then ((impl_in.f a0 1 31).bind fun t344 => (if t344 = true then ((impl_in.f a1 0 24).bind fun t345 => (if t345 = true then ((impl_in.f a2 0 59).bind fun t346 => (if t346 = true then (if a1 = 24 then (impl_NearDay.j0 k a0 a1 a2 a3 (a2 != 0)) else (impl_NearDay.j0 k a0 a1 a2 a3 false)) else (impl_NearDay.j0 k a0 a1 a2 a3 true))) else (impl_NearDay.j0 k a0 a1 a2 a3 true))) else (impl_NearDay.j0 k a0 a1 a2 a3 true))) else (impl_NearDay.j0 k a0 a1 a2 a3 true)) = some (r1, r2) := H
    have A6 := Aside0.mk A60
    clear A60
    by_cases c7 : t343 = true
    · subst c7
      have H1 : ((impl_in.f a0 1 31).bind fun t344 => (if t344 = true then ((impl_in.f a1 0 24).bind fun t345 => (if t345 = true then ((impl_in.f a2 0 59).bind fun t346 => (if t346 = true then (if a1 = 24 then (impl_NearDay.j0 k a0 a1 a2 a3 (a2 != 0)) else (impl_NearDay.j0 k a0 a1 a2 a3 false)) else (impl_NearDay.j0 k a0 a1 a2 a3 true))) else (impl_NearDay.j0 k a0 a1 a2 a3 true))) else (impl_NearDay.j0 k a0 a1 a2 a3 true))) = some (r1, r2) := by rw [if_pos rfl] at H; exact H
      clear H
      have H := H1
      clear H1
      replace H := Option.bind_eq_some_iff.mp H
      obtain ⟨t344, A80, H⟩ := H
      replace H : (if t344 = true then ((impl_in.f a1 0 24).bind fun t345 => (if t345 = true then ((impl_in.f a2 0 59).bind fun t346 => (if t346 = true then (if a1 = 24 then (impl_NearDay.j0 k a0 a1 a2 a3 (a2 != 0)) else (impl_NearDay.j0 k a0 a1 a2 a3 false)) else (impl_NearDay.j0 k a0 a1 a2 a3 true))) else (impl_NearDay.j0 k a0 a1 a2 a3 true))) else (impl_NearDay.j0 k a0 a1 a2 a3 true)) = some (r1, r2) := H
      have A8 := Aside0.mk A80
      clear A80
      by_cases c9 : t344 = true
      · subst c9
        have H1 : ((impl_in.f a1 0 24).bind fun t345 => (if t345 = true then ((impl_in.f a2 0 59).bind fun t346 => (if t346 = true then (if a1 = 24 then (impl_NearDay.j0 k a0 a1 a2 a3 (a2 != 0)) else (impl_NearDay.j0 k a0 a1 a2 a3 false)) else (impl_NearDay.j0 k a0 a1 a2 a3 true))) else (impl_NearDay.j0 k a0 a1 a2 a3 true))) = some (r1, r2) := by rw [if_pos rfl] at H; exact H
        clear H
        have H := H1
        clear H1
        replace H := Option.bind_eq_some_iff.mp H
        obtain ⟨t345, A100, H⟩ := H
        replace H : (if t345 = true then ((impl_in.f a2 0 59).bind fun t346 => (if t346 = true then (if a1 = 24 then (impl_NearDay.j0 k a0 a1 a2 a3 (a2 != 0)) else (impl_NearDay.j0 k a0 a1 a2 a3 false)) else (impl_NearDay.j0 k a0 a1 a2 a3 true))) else (impl_NearDay.j0 k a0 a1 a2 a3 true)) = some (r1, r2) := H
        have A10 := Aside0.mk A100
        clear A100
        by_cases c11 : t345 = true
        · subst c11
          have H1 : ((impl_in.f a2 0 59).bind fun t346 => (if t346 = true then (if a1 = 24 then (impl_NearDay.j0 k a0 a1 a2 a3 (a2 != 0)) else (impl_NearDay.j0 k a0 a1 a2 a3 false)) else (impl_NearDay.j0 k a0 a1 a2 a3 true))) = some (r1, r2) := by rw [if_pos rfl] at H; exact H
          clear H
          have H := H1
          clear H1
          replace H := Option.bind_eq_some_iff.mp H
          obtain ⟨t346, A120, H⟩ := H
          replace H : (if t346 = true then (if a1 = 24 then (impl_NearDay.j0 k a0 a1 a2 a3 (a2 != 0)) else (impl_NearDay.j0 k a0 a1 a2 a3 false)) else (impl_NearDay.j0 k a0 a1 a2 a3 true)) = some (r1, r2) := H
          have A12 := Aside0.mk A120
          clear A120
          by_cases c13 : t346 = true
          · subst c13
            have H1 : (if a1 = 24 then (impl_NearDay.j0 k a0 a1 a2 a3 (a2 != 0)) else (impl_NearDay.j0 k a0 a1 a2 a3 false)) = some (r1, r2) := by rw [if_pos rfl] at H; exact H
            clear H
            have H := H1
            clear H1
            by_cases c14 : a1 = 24
            · rw [if_pos c14] at H
              have c14b0 : (a1 == 24) = true := beq_iff_eq.mpr c14
              have c14b1 : (a1 != 24) = false := bne_eq_false_iff_eq.mpr c14
              clear c14
              (first | rw [c14b0] | (simp only [i64_w, i32_w]; rw [c14b0]) | skip)
              have H' := Aside0.mk H
              clear H
              go_wp2_with (first | ((with_reducible refine gate_callee (f := 47) rfl ?_); refine goesL_ (some 16) rfl rfl Try.func47 (by kernel_rfl) rfl #[.int .i64 a3] rfl (by (try simp only [List.map_toArray, List.map_cons, List.map_nil]); first | done | rfl | (simp only [List.length_drop, List.length_take]; rfl)) ?_; (with_reducible refine (impl_isTime.calls a3 true _ A6.out).mono ?_); rintro e w' ⟨rfl, ⟨nd, rfl⟩⟩; refine ⟨_, rfl, ?_⟩) | (go_at_call 42; (with_reducible refine (impl_in.calls a0 1 31 true _ A8.out).mono ?_); rintro e w' ⟨rfl, ⟨nd, rfl⟩⟩) | (go_at_call 42; (with_reducible refine (impl_in.calls a1 0 24 true _ A10.out).mono ?_); rintro e w' ⟨rfl, ⟨nd, rfl⟩⟩) | (go_at_call 42; (with_reducible refine (impl_in.calls a2 0 59 true _ A12.out).mono ?_); rintro e w' ⟨rfl, ⟨nd, rfl⟩⟩))
              go_meet
              case rel => exact ⟨_, ((a2 != 0)), (by first | rfl | (simp; done) | (simp [*]; done)), H', ⟨by first | omega | exact Nat.le_refl _⟩, ⟨by repeat (first | (with_reducible first | exact HB.out | apply below_alloc | apply pw_below_drewN | apply below_drew1) | exact HB.out)⟩⟩
            · rw [if_neg c14] at H
              have c14b0 : (a1 == 24) = false := beq_eq_false_iff_ne.mpr c14
              have c14b1 : (a1 != 24) = true := bne_iff_ne.mpr c14
              (first | rw [c14b0] | (simp only [i64_w, i32_w]; rw [c14b0]) | skip)
              have H' := Aside0.mk H
              clear H
              go_wp2_with (first | ((with_reducible refine gate_callee (f := 47) rfl ?_); refine goesL_ (some 16) rfl rfl Try.func47 (by kernel_rfl) rfl #[.int .i64 a3] rfl (by (try simp only [List.map_toArray, List.map_cons, List.map_nil]); first | done | rfl | (simp only [List.length_drop, List.length_take]; rfl)) ?_; (with_reducible refine (impl_isTime.calls a3 true _ A6.out).mono ?_); rintro e w' ⟨rfl, ⟨nd, rfl⟩⟩; refine ⟨_, rfl, ?_⟩) | (go_at_call 42; (with_reducible refine (impl_in.calls a0 1 31 true _ A8.out).mono ?_); rintro e w' ⟨rfl, ⟨nd, rfl⟩⟩) | (go_at_call 42; (with_reducible refine (impl_in.calls a1 0 24 true _ A10.out).mono ?_); rintro e w' ⟨rfl, ⟨nd, rfl⟩⟩) | (go_at_call 42; (with_reducible refine (impl_in.calls a2 0 59 true _ A12.out).mono ?_); rintro e w' ⟨rfl, ⟨nd, rfl⟩⟩))
              go_meet
              case rel => exact ⟨_, (false), (by first | rfl | (simp; done) | (simp [*]; done)), H', ⟨by first | omega | exact Nat.le_refl _⟩, ⟨by repeat (first | (with_reducible first | exact HB.out | apply below_alloc | apply pw_below_drewN | apply below_drew1) | exact HB.out)⟩⟩
          · replace c13 := Bool.eq_false_iff.mpr c13
            subst c13
            have H1 : (impl_NearDay.j0 k a0 a1 a2 a3 true) = some (r1, r2) := by rw [if_neg (show ¬ (false = true) by decide)] at H; exact H
            clear H
            have H := H1
            clear H1
            have H' := Aside0.mk H
            clear H
            go_wp2_with (first | ((with_reducible refine gate_callee (f := 47) rfl ?_); refine goesL_ (some 16) rfl rfl Try.func47 (by kernel_rfl) rfl #[.int .i64 a3] rfl (by (try simp only [List.map_toArray, List.map_cons, List.map_nil]); first | done | rfl | (simp only [List.length_drop, List.length_take]; rfl)) ?_; (with_reducible refine (impl_isTime.calls a3 true _ A6.out).mono ?_); rintro e w' ⟨rfl, ⟨nd, rfl⟩⟩; refine ⟨_, rfl, ?_⟩) | (go_at_call 42; (with_reducible refine (impl_in.calls a0 1 31 true _ A8.out).mono ?_); rintro e w' ⟨rfl, ⟨nd, rfl⟩⟩) | (go_at_call 42; (with_reducible refine (impl_in.calls a1 0 24 true _ A10.out).mono ?_); rintro e w' ⟨rfl, ⟨nd, rfl⟩⟩) | (go_at_call 42; (with_reducible refine (impl_in.calls a2 0 59 false _ A12.out).mono ?_); rintro e w' ⟨rfl, ⟨nd, rfl⟩⟩))
            go_meet
            case rel => exact ⟨_, (true), (by first | rfl | (simp; done) | (simp [*]; done)), H', ⟨by first | omega | exact Nat.le_refl _⟩, ⟨by repeat (first | (with_reducible first | exact HB.out | apply below_alloc | apply pw_below_drewN | apply below_drew1) | exact HB.out)⟩⟩
        · replace c11 := Bool.eq_false_iff.mpr c11
          subst c11
          have H1 : (impl_NearDay.j0 k a0 a1 a2 a3 true) = some (r1, r2) := by rw [if_neg (show ¬ (false = true) by decide)] at H; exact H
          clear H
          have H := H1
          clear H1
          have H' := Aside0.mk H
          clear H
          go_wp2_with (first | ((with_reducible refine gate_callee (f := 47) rfl ?_); refine goesL_ (some 16) rfl rfl Try.func47 (by kernel_rfl) rfl #[.int .i64 a3] rfl (by (try simp only [List.map_toArray, List.map_cons, List.map_nil]); first | done | rfl | (simp only [List.length_drop, List.length_take]; rfl)) ?_; (with_reducible refine (impl_isTime.calls a3 true _ A6.out).mono ?_); rintro e w' ⟨rfl, ⟨nd, rfl⟩⟩; refine ⟨_, rfl, ?_⟩) | (go_at_call 42; (with_reducible refine (impl_in.calls a0 1 31 true _ A8.out).mono ?_); rintro e w' ⟨rfl, ⟨nd, rfl⟩⟩) | (go_at_call 42; (with_reducible refine (impl_in.calls a1 0 24 false _ A10.out).mono ?_); rintro e w' ⟨rfl, ⟨nd, rfl⟩⟩))
          go_meet
          case rel => exact ⟨_, (true), (by first | rfl | (simp; done) | (simp [*]; done)), H', ⟨by first | omega | exact Nat.le_refl _⟩, ⟨by repeat (first | (with_reducible first | exact HB.out | apply below_alloc | apply pw_below_drewN | apply below_drew1) | exact HB.out)⟩⟩
      · replace c9 := Bool.eq_false_iff.mpr c9
        subst c9
        have H1 : (impl_NearDay.j0 k a0 a1 a2 a3 true) = some (r1, r2) := by rw [if_neg (show ¬ (false = true) by decide)] at H; exact H
        clear H
        have H := H1
        clear H1
        have H' := Aside0.mk H
        clear H
        go_wp2_with (first | ((with_reducible refine gate_callee (f := 47) rfl ?_); refine goesL_ (some 16) rfl rfl Try.func47 (by kernel_rfl) rfl #[.int .i64 a3] rfl (by (try simp only [List.map_toArray, List.map_cons, List.map_nil]); first | done | rfl | (simp only [List.length_drop, List.length_take]; rfl)) ?_; (with_reducible refine (impl_isTime.calls a3 true _ A6.out).mono ?_); rintro e w' ⟨rfl, ⟨nd, rfl⟩⟩; refine ⟨_, rfl, ?_⟩) | (go_at_call 42; (with_reducible refine (impl_in.calls a0 1 31 false _ A8.out).mono ?_); rintro e w' ⟨rfl, ⟨nd, rfl⟩⟩))
        go_meet
        case rel => exact ⟨_, (true), (by first | rfl | (simp; done) | (simp [*]; done)), H', ⟨by first | omega | exact Nat.le_refl _⟩, ⟨by repeat (first | (with_reducible first | exact HB.out | apply below_alloc | apply pw_below_drewN | apply below_drew1) | exact HB.out)⟩⟩
    · replace c7 := Bool.eq_false_iff.mpr c7
      subst c7
      have H1 : (impl_NearDay.j0 k a0 a1 a2 a3 true) = some (r1, r2) := by rw [if_neg (show ¬ (false = true) by decide)] at H; exact H
      clear H
      have H := H1
      clear H1
      have H' := Aside0.mk H
      clear H
      go_wp2_with (first | ((with_reducible refine gate_callee (f := 47) rfl ?_); refine goesL_ (some 16) rfl rfl Try.func47 (by kernel_rfl) rfl #[.int .i64 a3] rfl (by (try simp only [List.map_toArray, List.map_cons, List.map_nil]); first | done | rfl | (simp only [List.length_drop, List.length_take]; rfl)) ?_; (with_reducible refine (impl_isTime.calls a3 false _ A6.out).mono ?_); rintro e w' ⟨rfl, ⟨nd, rfl⟩⟩; refine ⟨_, rfl, ?_⟩))
      go_meet
      case rel => exact ⟨_, (true), (by first | rfl | (simp; done) | (simp [*]; done)), H', ⟨by first | omega | exact Nat.le_refl _⟩, ⟨by repeat (first | (with_reducible first | exact HB.out | apply below_alloc | apply pw_below_drewN | apply below_drew1) | exact HB.out)⟩⟩
  case rest =>
    clear HC5
    try clear c1
    try clear c2
    try clear p2
    try clear c4
    try clear c7
    try clear c9
    try clear c11
    try clear c13
    try clear c14
    try clear c14b0
    try clear c14b1
    obtain ⟨kq, x40_4, rfl, HA, HJ4, HB⟩ := hcut
    cases kq with
    | zero => exact absurd HA.out (by simp [impl_NearDay.j0])
    | succ kj4 =>
      have H := HA.out
      clear HA
      simp only [impl_NearDay.j0] at H
      by_cases c15 : x40_4 = true
      · subst c15
        have H1 : (some (0, false)) = some (r1, r2) := by rw [if_pos rfl] at H; exact H
        clear H
        have H := H1
        clear H1
        simp only [Option.some.injEq, Prod.mk.injEq] at H
        obtain ⟨rfl, rfl⟩ := H
        go_wp2
        go_ret2
        exact ⟨by first | rfl | (simp [errW_none, errW_some] <;> rfl) | (simp [*, errW_none, errW_some] <;> rfl), by repeat (first | (with_reducible first | exact HB.out | apply below_alloc | apply pw_below_drewN | apply below_drew1) | exact HB.out)⟩
      · replace c15 := Bool.eq_false_iff.mpr c15
        subst c15
        have H1 : (impl_NearDay.l0 kj4 a0 a1 a2 a3 0 false 2000) = some (r1, r2) := by rw [if_neg (show ¬ (false = true) by decide)] at H; exact H
        clear H
        have H := H1
        clear H1
        have H' := Aside0.mk H
        clear H
        go_wp2
        go_loopg [10, 11, 12] kj4 (fun kq v10 v11 v12 w' => ∃ (x10_2 : Int) (x11_2 : Bool) (x12_2 : Int), v10 = .int .i64 x10_2 ∧ v11 = .bool x11_2 ∧ v12 = .int .i64 x12_2 ∧ Aside0 (impl_NearDay.l0 kq a0 a1 a2 a3 x10_2 x11_2 x12_2 = some (r1, r2)) ∧ Aside0 (kq ≤ kj4) ∧ Aside0 (Below w.heap.size w w'))
        case atStart => exact ⟨(0), (false), (2000), (by first | rfl | (simp; done) | (simp [*]; done)), (by first | rfl | (simp; done) | (simp [*]; done)), (by first | rfl | (simp; done) | (simp [*]; done)), H', ⟨Nat.le_refl _⟩, ⟨by repeat (first | (with_reducible first | exact HB.out | apply below_alloc | apply pw_below_drewN | apply below_drew1) | exact HB.out)⟩⟩
        case round =>
          clear H'
          try clear c1
          try clear c2
          try clear p2
          try clear c4
          try clear c7
          try clear c9
          try clear c11
          try clear c13
          try clear c14
          try clear c14b0
          try clear c14b1
          try clear c15
          try clear p2
          obtain ⟨x10_2, x11_2, x12_2, rfl, rfl, rfl, HA, HK2, HB⟩ := hrel
          cases gk with
          | zero => exact absurd HA.out (by simp [impl_NearDay.l0])
          | succ k2 =>
            have H := HA.out
            clear HA
            simp only [impl_NearDay.l0] at H
            by_cases c16 : x12_2 ≤ 2100
            · rw [if_pos c16] at H
              have c16b0 : decide (x12_2 ≤ 2100) = true := decide_eq_true c16
              clear c16
              have H' := Aside0.mk H
              clear H
              go_wp2
              go_loopg [10, 11, 13] k2 (fun kq v10 v11 v13 w' => ∃ (x10_3 : Int) (x11_3 : Bool) (x13_3 : Int), v10 = .int .i64 x10_3 ∧ v11 = .bool x11_3 ∧ v13 = .int .i64 x13_3 ∧ Aside0 (impl_NearDay.l1 kq a0 a1 a2 a3 x10_3 x11_3 x12_2 x13_3 = some (r1, r2)) ∧ Aside0 (kq ≤ k2) ∧ Aside0 (Below w.heap.size w w'))
              case atStart => exact ⟨(x10_2), (x11_2), (1), (by first | rfl | (simp; done) | (simp [*]; done)), (by first | rfl | (simp; done) | (simp [*]; done)), (by first | rfl | (simp; done) | (simp [*]; done)), H', ⟨Nat.le_refl _⟩, ⟨by repeat (first | (with_reducible first | exact HB.out | apply below_alloc | apply pw_below_drewN | apply below_drew1) | exact HB.out)⟩⟩
              case round =>
                clear H'
                try clear c1
                try clear c2
                try clear p2
                try clear c4
                try clear c7
                try clear c9
                try clear c11
                try clear c13
                try clear c14
                try clear c14b0
                try clear c14b1
                try clear c15
                try clear c16
                try clear c16b0
                try clear p2
                obtain ⟨x10_3, x11_3, x13_3, rfl, rfl, rfl, HA, HK3, HB⟩ := hrel
                cases gk with
                | zero => exact absurd HA.out (by simp [impl_NearDay.l1])
                | succ k3 =>
                  have H := HA.out
                  clear HA
                  simp only [impl_NearDay.l1] at H
                  by_cases c17 : x13_3 ≤ 12
                  · rw [if_pos c17] at H
                    have c17b0 : decide (x13_3 ≤ 12) = true := decide_eq_true c17
                    clear c17
                    replace H := Option.bind_eq_some_iff.mp H
                    obtain ⟨t347, A180, H⟩ := H
                    replace H : (if a0 > t347 then (impl_NearDay.l1 k3 a0 a1 a2 a3 x10_3 x11_3 x12_2 (wrap64 (x13_3 + 1))) else ((impl_daysTo.f k3 x12_2 x13_3 a0).bind fun t348 => ((impl_isTime.f (wrap64 ((wrap64 ((wrap64 (t348 * 1440)) + (wrap64 (a1 * 60)))) + a2))).bind fun t349 => (if t349 = true then (if x11_3 = true then (if (mx (wrap64 ((wrap64 ((wrap64 ((wrap64 (t348 * 1440)) + (wrap64 (a1 * 60)))) + a2)) - a3)) (wrap64 (a3 - (wrap64 ((wrap64 ((wrap64 (t348 * 1440)) + (wrap64 (a1 * 60)))) + a2))))) < (mx (wrap64 (x10_3 - a3)) (wrap64 (a3 - x10_3))) then (impl_NearDay.l1 k3 a0 a1 a2 a3 (wrap64 ((wrap64 ((wrap64 (t348 * 1440)) + (wrap64 (a1 * 60)))) + a2)) true x12_2 (wrap64 (x13_3 + 1))) else (impl_NearDay.l1 k3 a0 a1 a2 a3 x10_3 x11_3 x12_2 (wrap64 (x13_3 + 1)))) else (impl_NearDay.l1 k3 a0 a1 a2 a3 (wrap64 ((wrap64 ((wrap64 (t348 * 1440)) + (wrap64 (a1 * 60)))) + a2)) true x12_2 (wrap64 (x13_3 + 1)))) else (impl_NearDay.l1 k3 a0 a1 a2 a3 x10_3 x11_3 x12_2 (wrap64 (x13_3 + 1))))))) = some (r1, r2) := H
                    have A18 := Aside0.mk A180
                    clear A180
                    by_cases c19 : a0 > t347
                    · rw [if_pos c19] at H
                      have c19b0 : decide (t347 < a0) = true := decide_eq_true c19
                      clear c19
                      have H' := Aside0.mk H
                      clear H
                      go_wp2_with (first | ((with_reducible refine gate_callee (f := 48) rfl ?_); refine goesL_ (some 52) rfl rfl Try.func48 (by kernel_rfl) rfl #[.int .i64 x12_2, .int .i64 x13_3] rfl (by (try simp only [List.map_toArray, List.map_cons, List.map_nil]); first | done | rfl | (simp only [List.length_drop, List.length_take]; rfl)) ?_; (with_reducible refine (impl_monthDays.calls x12_2 x13_3 t347 _ A18.out).mono ?_); rintro e w' ⟨rfl, ⟨nd, rfl⟩⟩; refine ⟨_, rfl, ?_⟩))
                      go_roundg k3
                      case measure => have := HJ4.out; have := HK2.out; have := HK3.out; omega
                      case rel => exact ⟨(x10_3), (x11_3), (wrap64 (x13_3 + 1)), (by first | rfl | (simp; done) | (simp [*]; done)), (by first | rfl | (simp; done) | (simp [*]; done)), (by first | rfl | (simp; done) | (simp [*]; done)), H', ⟨by have := HJ4.out; have := HK2.out; have := HK3.out; omega⟩, ⟨by repeat (first | (with_reducible first | exact HB.out | apply below_alloc | apply pw_below_drewN | apply below_drew1) | exact HB.out)⟩⟩
                    · rw [if_neg c19] at H
                      have c19b0 : decide (t347 < a0) = false := decide_eq_false c19
                      clear c19
                      replace H := Option.bind_eq_some_iff.mp H
                      obtain ⟨t348, A200, H⟩ := H
                      replace H : ((impl_isTime.f (wrap64 ((wrap64 ((wrap64 (t348 * 1440)) + (wrap64 (a1 * 60)))) + a2))).bind fun t349 => (if t349 = true then (if x11_3 = true then (if (mx (wrap64 ((wrap64 ((wrap64 ((wrap64 (t348 * 1440)) + (wrap64 (a1 * 60)))) + a2)) - a3)) (wrap64 (a3 - (wrap64 ((wrap64 ((wrap64 (t348 * 1440)) + (wrap64 (a1 * 60)))) + a2))))) < (mx (wrap64 (x10_3 - a3)) (wrap64 (a3 - x10_3))) then (impl_NearDay.l1 k3 a0 a1 a2 a3 (wrap64 ((wrap64 ((wrap64 (t348 * 1440)) + (wrap64 (a1 * 60)))) + a2)) true x12_2 (wrap64 (x13_3 + 1))) else (impl_NearDay.l1 k3 a0 a1 a2 a3 x10_3 x11_3 x12_2 (wrap64 (x13_3 + 1)))) else (impl_NearDay.l1 k3 a0 a1 a2 a3 (wrap64 ((wrap64 ((wrap64 (t348 * 1440)) + (wrap64 (a1 * 60)))) + a2)) true x12_2 (wrap64 (x13_3 + 1)))) else (impl_NearDay.l1 k3 a0 a1 a2 a3 x10_3 x11_3 x12_2 (wrap64 (x13_3 + 1))))) = some (r1, r2) := H
                      have A20 := Aside0.mk A200
                      clear A200
                      replace H := Option.bind_eq_some_iff.mp H
                      obtain ⟨t349, A210, H⟩ := H
                      replace H : (if t349 = true then (if x11_3 = true then (if (mx (wrap64 ((wrap64 ((wrap64 ((wrap64 (t348 * 1440)) + (wrap64 (a1 * 60)))) + a2)) - a3)) (wrap64 (a3 - (wrap64 ((wrap64 ((wrap64 (t348 * 1440)) + (wrap64 (a1 * 60)))) + a2))))) < (mx (wrap64 (x10_3 - a3)) (wrap64 (a3 - x10_3))) then (impl_NearDay.l1 k3 a0 a1 a2 a3 (wrap64 ((wrap64 ((wrap64 (t348 * 1440)) + (wrap64 (a1 * 60)))) + a2)) true x12_2 (wrap64 (x13_3 + 1))) else (impl_NearDay.l1 k3 a0 a1 a2 a3 x10_3 x11_3 x12_2 (wrap64 (x13_3 + 1)))) else (impl_NearDay.l1 k3 a0 a1 a2 a3 (wrap64 ((wrap64 ((wrap64 (t348 * 1440)) + (wrap64 (a1 * 60)))) + a2)) true x12_2 (wrap64 (x13_3 + 1)))) else (impl_NearDay.l1 k3 a0 a1 a2 a3 x10_3 x11_3 x12_2 (wrap64 (x13_3 + 1)))) = some (r1, r2) := H
                      have A21 := Aside0.mk A210
                      clear A210
                      by_cases c22 : t349 = true
                      · subst c22
                        have H1 : (if x11_3 = true then (if (mx (wrap64 ((wrap64 ((wrap64 ((wrap64 (t348 * 1440)) + (wrap64 (a1 * 60)))) + a2)) - a3)) (wrap64 (a3 - (wrap64 ((wrap64 ((wrap64 (t348 * 1440)) + (wrap64 (a1 * 60)))) + a2))))) < (mx (wrap64 (x10_3 - a3)) (wrap64 (a3 - x10_3))) then (impl_NearDay.l1 k3 a0 a1 a2 a3 (wrap64 ((wrap64 ((wrap64 (t348 * 1440)) + (wrap64 (a1 * 60)))) + a2)) true x12_2 (wrap64 (x13_3 + 1))) else (impl_NearDay.l1 k3 a0 a1 a2 a3 x10_3 x11_3 x12_2 (wrap64 (x13_3 + 1)))) else (impl_NearDay.l1 k3 a0 a1 a2 a3 (wrap64 ((wrap64 ((wrap64 (t348 * 1440)) + (wrap64 (a1 * 60)))) + a2)) true x12_2 (wrap64 (x13_3 + 1)))) = some (r1, r2) := by rw [if_pos rfl] at H; exact H
                        clear H
                        have H := H1
                        clear H1
                        by_cases c23 : x11_3 = true
                        · subst c23
                          have H1 : (if (mx (wrap64 ((wrap64 ((wrap64 ((wrap64 (t348 * 1440)) + (wrap64 (a1 * 60)))) + a2)) - a3)) (wrap64 (a3 - (wrap64 ((wrap64 ((wrap64 (t348 * 1440)) + (wrap64 (a1 * 60)))) + a2))))) < (mx (wrap64 (x10_3 - a3)) (wrap64 (a3 - x10_3))) then (impl_NearDay.l1 k3 a0 a1 a2 a3 (wrap64 ((wrap64 ((wrap64 (t348 * 1440)) + (wrap64 (a1 * 60)))) + a2)) true x12_2 (wrap64 (x13_3 + 1))) else (impl_NearDay.l1 k3 a0 a1 a2 a3 x10_3 true x12_2 (wrap64 (x13_3 + 1)))) = some (r1, r2) := by rw [if_pos rfl] at H; exact H
                          clear H
                          have H := H1
                          clear H1
                          obtain ⟨ji24, hji24⟩ : ∃ j_ : Int, (mx (wrap64 ((wrap64 ((wrap64 ((wrap64 (t348 * 1440)) + (wrap64 (a1 * 60)))) + a2)) - a3)) (wrap64 (a3 - (wrap64 ((wrap64 ((wrap64 (t348 * 1440)) + (wrap64 (a1 * 60)))) + a2))))) = j_ := ⟨_, rfl⟩
                          replace H : (if (ji24) < (mx (wrap64 (x10_3 - a3)) (wrap64 (a3 - x10_3))) then (impl_NearDay.l1 k3 a0 a1 a2 a3 (wrap64 ((wrap64 ((wrap64 (t348 * 1440)) + (wrap64 (a1 * 60)))) + a2)) true x12_2 (wrap64 (x13_3 + 1))) else (impl_NearDay.l1 k3 a0 a1 a2 a3 x10_3 true x12_2 (wrap64 (x13_3 + 1)))) = some (r1, r2) := by first | (rw [hji24] at H; exact H) | (simp only [hji24] at H ⊢; exact H)
                          (try rw [hji24] at A18)
                          (try rw [hji24] at A20)
                          (try rw [hji24] at A21)
                          have hji24_ : (if (wrap64 ((wrap64 ((wrap64 ((wrap64 (t348 * 1440)) + (wrap64 (a1 * 60)))) + a2)) - a3)) < (wrap64 (a3 - (wrap64 ((wrap64 ((wrap64 (t348 * 1440)) + (wrap64 (a1 * 60)))) + a2)))) then (wrap64 (a3 - (wrap64 ((wrap64 ((wrap64 (t348 * 1440)) + (wrap64 (a1 * 60)))) + a2)))) else (wrap64 ((wrap64 ((wrap64 ((wrap64 (t348 * 1440)) + (wrap64 (a1 * 60)))) + a2)) - a3))) = ji24 := hji24
                          obtain ⟨ji25, hji25⟩ : ∃ j_ : Int, (mx (wrap64 (x10_3 - a3)) (wrap64 (a3 - x10_3))) = j_ := ⟨_, rfl⟩
                          replace H : (if (ji24) < (ji25) then (impl_NearDay.l1 k3 a0 a1 a2 a3 (wrap64 ((wrap64 ((wrap64 (t348 * 1440)) + (wrap64 (a1 * 60)))) + a2)) true x12_2 (wrap64 (x13_3 + 1))) else (impl_NearDay.l1 k3 a0 a1 a2 a3 x10_3 true x12_2 (wrap64 (x13_3 + 1)))) = some (r1, r2) := by first | (rw [hji25] at H; exact H) | (simp only [hji25] at H ⊢; exact H)
                          (try rw [hji25] at A18)
                          (try rw [hji25] at A20)
                          (try rw [hji25] at A21)
                          have hji25_ : (if (wrap64 (x10_3 - a3)) < (wrap64 (a3 - x10_3)) then (wrap64 (a3 - x10_3)) else (wrap64 (x10_3 - a3))) = ji25 := hji25
                          by_cases c26 : (ji24) < (ji25)
                          · rw [if_pos c26] at H
                            have c26b0 : decide ((ji24) < (ji25)) = true := decide_eq_true c26
                            clear c26
                            have H' := Aside0.mk H
                            clear H
                            go_wp2_with (first | ((with_reducible refine gate_callee (f := 48) rfl ?_); refine goesL_ (some 52) rfl rfl Try.func48 (by kernel_rfl) rfl #[.int .i64 x12_2, .int .i64 x13_3] rfl (by (try simp only [List.map_toArray, List.map_cons, List.map_nil]); first | done | rfl | (simp only [List.length_drop, List.length_take]; rfl)) ?_; (with_reducible refine (impl_monthDays.calls x12_2 x13_3 t347 _ A18.out).mono ?_); rintro e w' ⟨rfl, ⟨nd, rfl⟩⟩; refine ⟨_, rfl, ?_⟩) | ((with_reducible refine gate_callee (f := 49) rfl ?_); refine goesL_ (some 57) rfl rfl Try.func49 (by kernel_rfl) rfl #[.int .i64 x12_2, .int .i64 x13_3, .int .i64 a0] rfl (by (try simp only [List.map_toArray, List.map_cons, List.map_nil]); first | done | rfl | (simp only [List.length_drop, List.length_take]; rfl)) ?_; (with_reducible refine (impl_daysTo.calls k3 x12_2 x13_3 a0 t348 _ A20.out).mono ?_); rintro e w' ⟨rfl, ⟨nd, rfl⟩⟩; refine ⟨_, rfl, ?_⟩) | ((with_reducible refine gate_callee (f := 47) rfl ?_); refine goesL_ (some 65) rfl rfl Try.func47 (by kernel_rfl) rfl #[.int .i64 (wrap64 ((wrap64 ((wrap64 (t348 * 1440)) + (wrap64 (a1 * 60)))) + a2))] rfl (by (try simp only [List.map_toArray, List.map_cons, List.map_nil]); first | done | rfl | (simp only [List.length_drop, List.length_take]; rfl)) ?_; (with_reducible refine (impl_isTime.calls (wrap64 ((wrap64 ((wrap64 (t348 * 1440)) + (wrap64 (a1 * 60)))) + a2)) true _ A21.out).mono ?_); rintro e w' ⟨rfl, ⟨nd, rfl⟩⟩; refine ⟨_, rfl, ?_⟩))
                            go_roundg k3
                            case measure => have := HJ4.out; have := HK2.out; have := HK3.out; omega
                            case rel => exact ⟨(wrap64 ((wrap64 ((wrap64 (t348 * 1440)) + (wrap64 (a1 * 60)))) + a2)), (true), (wrap64 (x13_3 + 1)), (by first | rfl | (simp; done) | (simp [*]; done)), (by first | rfl | (simp; done) | (simp [*]; done)), (by first | rfl | (simp; done) | (simp [*]; done)), H', ⟨by have := HJ4.out; have := HK2.out; have := HK3.out; omega⟩, ⟨by repeat (first | (with_reducible first | exact HB.out | apply below_alloc | apply pw_below_drewN | apply below_drew1) | exact HB.out)⟩⟩
                          · rw [if_neg c26] at H
                            have c26b0 : decide ((ji24) < (ji25)) = false := decide_eq_false c26
                            clear c26
                            have H' := Aside0.mk H
                            clear H
                            go_wp2_with (first | ((with_reducible refine gate_callee (f := 48) rfl ?_); refine goesL_ (some 52) rfl rfl Try.func48 (by kernel_rfl) rfl #[.int .i64 x12_2, .int .i64 x13_3] rfl (by (try simp only [List.map_toArray, List.map_cons, List.map_nil]); first | done | rfl | (simp only [List.length_drop, List.length_take]; rfl)) ?_; (with_reducible refine (impl_monthDays.calls x12_2 x13_3 t347 _ A18.out).mono ?_); rintro e w' ⟨rfl, ⟨nd, rfl⟩⟩; refine ⟨_, rfl, ?_⟩) | ((with_reducible refine gate_callee (f := 49) rfl ?_); refine goesL_ (some 57) rfl rfl Try.func49 (by kernel_rfl) rfl #[.int .i64 x12_2, .int .i64 x13_3, .int .i64 a0] rfl (by (try simp only [List.map_toArray, List.map_cons, List.map_nil]); first | done | rfl | (simp only [List.length_drop, List.length_take]; rfl)) ?_; (with_reducible refine (impl_daysTo.calls k3 x12_2 x13_3 a0 t348 _ A20.out).mono ?_); rintro e w' ⟨rfl, ⟨nd, rfl⟩⟩; refine ⟨_, rfl, ?_⟩) | ((with_reducible refine gate_callee (f := 47) rfl ?_); refine goesL_ (some 65) rfl rfl Try.func47 (by kernel_rfl) rfl #[.int .i64 (wrap64 ((wrap64 ((wrap64 (t348 * 1440)) + (wrap64 (a1 * 60)))) + a2))] rfl (by (try simp only [List.map_toArray, List.map_cons, List.map_nil]); first | done | rfl | (simp only [List.length_drop, List.length_take]; rfl)) ?_; (with_reducible refine (impl_isTime.calls (wrap64 ((wrap64 ((wrap64 (t348 * 1440)) + (wrap64 (a1 * 60)))) + a2)) true _ A21.out).mono ?_); rintro e w' ⟨rfl, ⟨nd, rfl⟩⟩; refine ⟨_, rfl, ?_⟩))
                            go_roundg k3
                            case measure => have := HJ4.out; have := HK2.out; have := HK3.out; omega
                            case rel => exact ⟨(x10_3), (true), (wrap64 (x13_3 + 1)), (by first | rfl | (simp; done) | (simp [*]; done)), (by first | rfl | (simp; done) | (simp [*]; done)), (by first | rfl | (simp; done) | (simp [*]; done)), H', ⟨by have := HJ4.out; have := HK2.out; have := HK3.out; omega⟩, ⟨by repeat (first | (with_reducible first | exact HB.out | apply below_alloc | apply pw_below_drewN | apply below_drew1) | exact HB.out)⟩⟩
                        · replace c23 := Bool.eq_false_iff.mpr c23
                          subst c23
                          have H1 : (impl_NearDay.l1 k3 a0 a1 a2 a3 (wrap64 ((wrap64 ((wrap64 (t348 * 1440)) + (wrap64 (a1 * 60)))) + a2)) true x12_2 (wrap64 (x13_3 + 1))) = some (r1, r2) := by rw [if_neg (show ¬ (false = true) by decide)] at H; exact H
                          clear H
                          have H := H1
                          clear H1
                          have H' := Aside0.mk H
                          clear H
                          go_wp2_with (first | ((with_reducible refine gate_callee (f := 48) rfl ?_); refine goesL_ (some 52) rfl rfl Try.func48 (by kernel_rfl) rfl #[.int .i64 x12_2, .int .i64 x13_3] rfl (by (try simp only [List.map_toArray, List.map_cons, List.map_nil]); first | done | rfl | (simp only [List.length_drop, List.length_take]; rfl)) ?_; (with_reducible refine (impl_monthDays.calls x12_2 x13_3 t347 _ A18.out).mono ?_); rintro e w' ⟨rfl, ⟨nd, rfl⟩⟩; refine ⟨_, rfl, ?_⟩) | ((with_reducible refine gate_callee (f := 49) rfl ?_); refine goesL_ (some 57) rfl rfl Try.func49 (by kernel_rfl) rfl #[.int .i64 x12_2, .int .i64 x13_3, .int .i64 a0] rfl (by (try simp only [List.map_toArray, List.map_cons, List.map_nil]); first | done | rfl | (simp only [List.length_drop, List.length_take]; rfl)) ?_; (with_reducible refine (impl_daysTo.calls k3 x12_2 x13_3 a0 t348 _ A20.out).mono ?_); rintro e w' ⟨rfl, ⟨nd, rfl⟩⟩; refine ⟨_, rfl, ?_⟩) | ((with_reducible refine gate_callee (f := 47) rfl ?_); refine goesL_ (some 65) rfl rfl Try.func47 (by kernel_rfl) rfl #[.int .i64 (wrap64 ((wrap64 ((wrap64 (t348 * 1440)) + (wrap64 (a1 * 60)))) + a2))] rfl (by (try simp only [List.map_toArray, List.map_cons, List.map_nil]); first | done | rfl | (simp only [List.length_drop, List.length_take]; rfl)) ?_; (with_reducible refine (impl_isTime.calls (wrap64 ((wrap64 ((wrap64 (t348 * 1440)) + (wrap64 (a1 * 60)))) + a2)) true _ A21.out).mono ?_); rintro e w' ⟨rfl, ⟨nd, rfl⟩⟩; refine ⟨_, rfl, ?_⟩))
                          go_roundg k3
                          case measure => have := HJ4.out; have := HK2.out; have := HK3.out; omega
                          case rel => exact ⟨(wrap64 ((wrap64 ((wrap64 (t348 * 1440)) + (wrap64 (a1 * 60)))) + a2)), (true), (wrap64 (x13_3 + 1)), (by first | rfl | (simp; done) | (simp [*]; done)), (by first | rfl | (simp; done) | (simp [*]; done)), (by first | rfl | (simp; done) | (simp [*]; done)), H', ⟨by have := HJ4.out; have := HK2.out; have := HK3.out; omega⟩, ⟨by repeat (first | (with_reducible first | exact HB.out | apply below_alloc | apply pw_below_drewN | apply below_drew1) | exact HB.out)⟩⟩
                      · replace c22 := Bool.eq_false_iff.mpr c22
                        subst c22
                        have H1 : (impl_NearDay.l1 k3 a0 a1 a2 a3 x10_3 x11_3 x12_2 (wrap64 (x13_3 + 1))) = some (r1, r2) := by rw [if_neg (show ¬ (false = true) by decide)] at H; exact H
                        clear H
                        have H := H1
                        clear H1
                        have H' := Aside0.mk H
                        clear H
                        go_wp2_with (first | ((with_reducible refine gate_callee (f := 48) rfl ?_); refine goesL_ (some 52) rfl rfl Try.func48 (by kernel_rfl) rfl #[.int .i64 x12_2, .int .i64 x13_3] rfl (by (try simp only [List.map_toArray, List.map_cons, List.map_nil]); first | done | rfl | (simp only [List.length_drop, List.length_take]; rfl)) ?_; (with_reducible refine (impl_monthDays.calls x12_2 x13_3 t347 _ A18.out).mono ?_); rintro e w' ⟨rfl, ⟨nd, rfl⟩⟩; refine ⟨_, rfl, ?_⟩) | ((with_reducible refine gate_callee (f := 49) rfl ?_); refine goesL_ (some 57) rfl rfl Try.func49 (by kernel_rfl) rfl #[.int .i64 x12_2, .int .i64 x13_3, .int .i64 a0] rfl (by (try simp only [List.map_toArray, List.map_cons, List.map_nil]); first | done | rfl | (simp only [List.length_drop, List.length_take]; rfl)) ?_; (with_reducible refine (impl_daysTo.calls k3 x12_2 x13_3 a0 t348 _ A20.out).mono ?_); rintro e w' ⟨rfl, ⟨nd, rfl⟩⟩; refine ⟨_, rfl, ?_⟩) | ((with_reducible refine gate_callee (f := 47) rfl ?_); refine goesL_ (some 65) rfl rfl Try.func47 (by kernel_rfl) rfl #[.int .i64 (wrap64 ((wrap64 ((wrap64 (t348 * 1440)) + (wrap64 (a1 * 60)))) + a2))] rfl (by (try simp only [List.map_toArray, List.map_cons, List.map_nil]); first | done | rfl | (simp only [List.length_drop, List.length_take]; rfl)) ?_; (with_reducible refine (impl_isTime.calls (wrap64 ((wrap64 ((wrap64 (t348 * 1440)) + (wrap64 (a1 * 60)))) + a2)) false _ A21.out).mono ?_); rintro e w' ⟨rfl, ⟨nd, rfl⟩⟩; refine ⟨_, rfl, ?_⟩))
                        go_roundg k3
                        case measure => have := HJ4.out; have := HK2.out; have := HK3.out; omega
                        case rel => exact ⟨(x10_3), (x11_3), (wrap64 (x13_3 + 1)), (by first | rfl | (simp; done) | (simp [*]; done)), (by first | rfl | (simp; done) | (simp [*]; done)), (by first | rfl | (simp; done) | (simp [*]; done)), H', ⟨by have := HJ4.out; have := HK2.out; have := HK3.out; omega⟩, ⟨by repeat (first | (with_reducible first | exact HB.out | apply below_alloc | apply pw_below_drewN | apply below_drew1) | exact HB.out)⟩⟩
                  · rw [if_neg c17] at H
                    have c17b0 : decide (x13_3 ≤ 12) = false := decide_eq_false c17
                    clear c17
                    have H' := Aside0.mk H
                    clear H
                    go_wp2
                    go_roundg k3
                    case measure => have := HJ4.out; have := HK2.out; have := HK3.out; omega
                    case rel => exact ⟨(x10_3), (x11_3), (wrap64 (x12_2 + 1)), (by first | rfl | (simp; done) | (simp [*]; done)), (by first | rfl | (simp; done) | (simp [*]; done)), (by first | rfl | (simp; done) | (simp [*]; done)), H', ⟨by have := HJ4.out; have := HK2.out; have := HK3.out; omega⟩, ⟨by repeat (first | (with_reducible first | exact HB.out | apply below_alloc | apply pw_below_drewN | apply below_drew1) | exact HB.out)⟩⟩
            · rw [if_neg c16] at H
              have c16b0 : decide (x12_2 ≤ 2100) = false := decide_eq_false c16
              clear c16
              simp only [Option.some.injEq, Prod.mk.injEq] at H
              obtain ⟨rfl, rfl⟩ := H
              go_wp2
              go_ret2
              exact ⟨by first | rfl | (simp [errW_none, errW_some] <;> rfl) | (simp [*, errW_none, errW_some] <;> rfl), by repeat (first | (with_reducible first | exact HB.out | apply below_alloc | apply pw_below_drewN | apply below_drew1) | exact HB.out)⟩

end Go.Proofs.Ytmndffnjejgfoaa.Q
