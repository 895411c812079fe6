/- Plain Lean functions with the same answers as the Go functions of this seat, and a proof for each that the Go code comes to just these answers; no condition. Written by a program of this session (the kit's printer, turned). -/
import Derived.Test.YtmndffnjejgfoaaQx0
import Derived.Test.YtmndffnjejgfoaaQx7
import Derived.Test.YtmndffnjejgfoaaQx15
import Derived.Test.YtmndffnjejgfoaaQx16
import Derived.Test.YtmndffnjejgfoaaQx18
namespace Go.Proofs.Ytmndffnjejgfoaa.Q
open Go.RowKit Go.Proofs.YtmndffnjejgfoaaW.PrintWords Go.Proofs.YtmndffnjejgfoaaW.PrintLast Go.Proofs.YtmndffnjejgfoaaW.PrintMore
attribute [local go_sem] max2_int min2_int max_two min_two max_three min_three max_four min_four   -- for this text's walks alone
set_option linter.unusedVariables false
set_option linter.unusedSimpArgs false

/-! ### spec_NearDay: function 26 -/
mutual
def spec_NearDay.j0 : Nat → Int → Int → Int → Int → Bool → Option (Int × Bool)
  | 0, _, _, _, _, _ => none
  | k + 1, x0, x1, x2, x3, x42 => if x42 = true then (some (0, false)) else ((spec_DateOf.f k x3).bind fun bt329 => (spec_NearDay.l0 k x0 x1 x2 x3 (-1) (wrap64 (bt329.1 - 1)) bt329.1 bt329.2.1 bt329.2.2.1 bt329.2.2.2.1 bt329.2.2.2.2.1))
def spec_NearDay.l0 : Nat → Int → Int → Int → Int → Int → Int → Int → Int → Int → Int → Int → Option (Int × Bool)
  | 0, _, _, _, _, _, _, _, _, _, _, _ => none
  | k + 1, x0, x1, x2, x3, x10, x13, x336000, x336001, x336002, x336003, x336004 => if x13 ≤ (wrap64 (x336000 + 1)) then (spec_NearDay.l1 k x0 x1 x2 x3 x10 x13 1 x336000 x336001 x336002 x336003 x336004) else (if x10 < 0 then (some (0, false)) else (some (x10, true)))
def spec_NearDay.l1 : Nat → Int → Int → Int → Int → Int → Int → Int → Int → Int → Int → Int → Int → Option (Int × Bool)
  | 0, _, _, _, _, _, _, _, _, _, _, _, _ => none
  | k + 1, x0, x1, x2, x3, x10, x13, x14, x336000, x336001, x336002, x336003, x336004 => if x14 ≤ 12 then ((spec_TimeOf.f k x13 x14 x0 (Int.tmod x1 24) x2).bind fun bt336 => (if bt336.2 = true then (if x1 = 24 then ((spec_l2Time.f (wrap64 (bt336.1 + 1440))).bind fun t338 => (if t338 = true then (if x10 < 0 then (spec_NearDay.l1 k x0 x1 x2 x3 (wrap64 (bt336.1 + 1440)) x13 (wrap64 (x14 + 1)) x336000 x336001 x336002 x336003 x336004) else (if (mx (wrap64 ((wrap64 (bt336.1 + 1440)) - x3)) (wrap64 (x3 - (wrap64 (bt336.1 + 1440))))) < (mx (wrap64 (x10 - x3)) (wrap64 (x3 - x10))) then (spec_NearDay.l1 k x0 x1 x2 x3 (wrap64 (bt336.1 + 1440)) x13 (wrap64 (x14 + 1)) x336000 x336001 x336002 x336003 x336004) else (spec_NearDay.l1 k x0 x1 x2 x3 x10 x13 (wrap64 (x14 + 1)) x336000 x336001 x336002 x336003 x336004))) else (spec_NearDay.l1 k x0 x1 x2 x3 x10 x13 (wrap64 (x14 + 1)) x336000 x336001 x336002 x336003 x336004))) else ((spec_l2Time.f bt336.1).bind fun t339 => (if t339 = true then (if x10 < 0 then (spec_NearDay.l1 k x0 x1 x2 x3 bt336.1 x13 (wrap64 (x14 + 1)) x336000 x336001 x336002 x336003 x336004) else (if (mx (wrap64 (bt336.1 - x3)) (wrap64 (x3 - bt336.1))) < (mx (wrap64 (x10 - x3)) (wrap64 (x3 - x10))) then (spec_NearDay.l1 k x0 x1 x2 x3 bt336.1 x13 (wrap64 (x14 + 1)) x336000 x336001 x336002 x336003 x336004) else (spec_NearDay.l1 k x0 x1 x2 x3 x10 x13 (wrap64 (x14 + 1)) x336000 x336001 x336002 x336003 x336004))) else (spec_NearDay.l1 k x0 x1 x2 x3 x10 x13 (wrap64 (x14 + 1)) x336000 x336001 x336002 x336003 x336004)))) else (spec_NearDay.l1 k x0 x1 x2 x3 x10 x13 (wrap64 (x14 + 1)) x336000 x336001 x336002 x336003 x336004))) else (spec_NearDay.l0 k x0 x1 x2 x3 x10 (wrap64 (x13 + 1)) x336000 x336001 x336002 x336003 x336004)
end
def spec_NearDay.f (k : Nat) (a0 : Int) (a1 : Int) (a2 : Int) (a3 : Int) : Option (Int × Bool) := (spec_l2Time.f a3).bind fun t325 => (if t325 = true then ((spec_l2In.f a0 1 31).bind fun t326 => (if t326 = true then ((spec_l2In.f a1 0 24).bind fun t327 => (if t327 = true then ((spec_l2In.f a2 0 59).bind fun t328 => (if t328 = true then (if a1 = 24 then (spec_NearDay.j0 k a0 a1 a2 a3 (a2 != 0)) else (spec_NearDay.j0 k a0 a1 a2 a3 false)) else (spec_NearDay.j0 k a0 a1 a2 a3 true))) else (spec_NearDay.j0 k a0 a1 a2 a3 true))) else (spec_NearDay.j0 k a0 a1 a2 a3 true))) else (spec_NearDay.j0 k a0 a1 a2 a3 true))
theorem spec_NearDay.mono_l : ∀ k, (∀ y0 y1 y2 y3 y4, LeO (spec_NearDay.j0 k y0 y1 y2 y3 y4) (spec_NearDay.j0 (k + 1) y0 y1 y2 y3 y4)) ∧ (∀ y0 y1 y2 y3 y4 y5 y6 y7 y8 y9 y10, LeO (spec_NearDay.l0 k y0 y1 y2 y3 y4 y5 y6 y7 y8 y9 y10) (spec_NearDay.l0 (k + 1) y0 y1 y2 y3 y4 y5 y6 y7 y8 y9 y10)) ∧ (∀ y0 y1 y2 y3 y4 y5 y6 y7 y8 y9 y10 y11, LeO (spec_NearDay.l1 k y0 y1 y2 y3 y4 y5 y6 y7 y8 y9 y10 y11) (spec_NearDay.l1 (k + 1) y0 y1 y2 y3 y4 y5 y6 y7 y8 y9 y10 y11))
  | 0 => ⟨fun _ _ _ _ _ r h => by simp [spec_NearDay.j0] at h, fun _ _ _ _ _ _ _ _ _ _ _ r h => by simp [spec_NearDay.l0] at h, fun _ _ _ _ _ _ _ _ _ _ _ _ r h => by simp [spec_NearDay.l1] at h⟩
  | k + 1 => by
    obtain ⟨ih0, ih1, ih2⟩ := spec_NearDay.mono_l k
    refine ⟨?_, ?_, ?_⟩
    · intro y0 y1 y2 y3 y4
      unfold spec_NearDay.j0
      repeat' first
      | (with_reducible exact ih0 _ _ _ _ _)
      | (with_reducible exact ih1 _ _ _ _ _ _ _ _ _ _ _)
      | (with_reducible exact ih2 _ _ _ _ _ _ _ _ _ _ _ _)
      | (with_reducible exact spec_DateOf.mono _ _)
      | (with_reducible exact spec_TimeOf.mono _ _ _ _ _ _)
      | (with_reducible exact LeO.refl _)
      | (with_reducible exact LeO.none _)
      | (with_reducible refine LeO.ite ?_ ?_)
      | (with_reducible refine LeO.bind ?_ (fun _ => ?_))
      | exact ih0 _ _ _ _ _
      | exact ih1 _ _ _ _ _ _ _ _ _ _ _
      | exact ih2 _ _ _ _ _ _ _ _ _ _ _ _
      | exact spec_DateOf.mono _ _
      | exact spec_TimeOf.mono _ _ _ _ _ _
      | exact LeO.none _
      | refine LeO.ite ?_ ?_
      | refine LeO.bind ?_ (fun _ => ?_)
    · intro y0 y1 y2 y3 y4 y5 y6 y7 y8 y9 y10
      unfold spec_NearDay.l0
      repeat' first
      | (with_reducible exact ih0 _ _ _ _ _)
      | (with_reducible exact ih1 _ _ _ _ _ _ _ _ _ _ _)
      | (with_reducible exact ih2 _ _ _ _ _ _ _ _ _ _ _ _)
      | (with_reducible exact spec_DateOf.mono _ _)
      | (with_reducible exact spec_TimeOf.mono _ _ _ _ _ _)
      | (with_reducible exact LeO.refl _)
      | (with_reducible exact LeO.none _)
      | (with_reducible refine LeO.ite ?_ ?_)
      | (with_reducible refine LeO.bind ?_ (fun _ => ?_))
      | exact ih0 _ _ _ _ _
      | exact ih1 _ _ _ _ _ _ _ _ _ _ _
      | exact ih2 _ _ _ _ _ _ _ _ _ _ _ _
      | exact spec_DateOf.mono _ _
      | exact spec_TimeOf.mono _ _ _ _ _ _
      | exact LeO.none _
      | refine LeO.ite ?_ ?_
      | refine LeO.bind ?_ (fun _ => ?_)
    · intro y0 y1 y2 y3 y4 y5 y6 y7 y8 y9 y10 y11
      unfold spec_NearDay.l1
      repeat' first
      | (with_reducible exact ih0 _ _ _ _ _)
      | (with_reducible exact ih1 _ _ _ _ _ _ _ _ _ _ _)
      | (with_reducible exact ih2 _ _ _ _ _ _ _ _ _ _ _ _)
      | (with_reducible exact spec_DateOf.mono _ _)
      | (with_reducible exact spec_TimeOf.mono _ _ _ _ _ _)
      | (with_reducible exact LeO.refl _)
      | (with_reducible exact LeO.none _)
      | (with_reducible refine LeO.ite ?_ ?_)
      | (with_reducible refine LeO.bind ?_ (fun _ => ?_))
      | exact ih0 _ _ _ _ _
      | exact ih1 _ _ _ _ _ _ _ _ _ _ _
      | exact ih2 _ _ _ _ _ _ _ _ _ _ _ _
      | exact spec_DateOf.mono _ _
      | exact spec_TimeOf.mono _ _ _ _ _ _
      | exact LeO.none _
      | refine LeO.ite ?_ ?_
      | refine LeO.bind ?_ (fun _ => ?_)
theorem spec_NearDay.mono : ∀ a0 a1 a2 a3 k, LeO (spec_NearDay.f k a0 a1 a2 a3) (spec_NearDay.f (k + 1) a0 a1 a2 a3) := by
  intro a0 a1 a2 a3 k
  obtain ⟨ih0, ih1, ih2⟩ := spec_NearDay.mono_l k
  unfold spec_NearDay.f
  repeat' first
      | (with_reducible exact ih0 _ _ _ _ _)
      | (with_reducible exact ih1 _ _ _ _ _ _ _ _ _ _ _)
      | (with_reducible exact ih2 _ _ _ _ _ _ _ _ _ _ _ _)
      | (with_reducible exact spec_DateOf.mono _ _)
      | (with_reducible exact spec_TimeOf.mono _ _ _ _ _ _)
      | (with_reducible exact LeO.refl _)
      | (with_reducible exact LeO.none _)
      | (with_reducible refine LeO.ite ?_ ?_)
      | (with_reducible refine LeO.bind ?_ (fun _ => ?_))
      | exact ih0 _ _ _ _ _
      | exact ih1 _ _ _ _ _ _ _ _ _ _ _
      | exact ih2 _ _ _ _ _ _ _ _ _ _ _ _
      | exact spec_DateOf.mono _ _
      | exact spec_TimeOf.mono _ _ _ _ _ _
      | exact LeO.none _
      | refine LeO.ite ?_ ?_
      | refine LeO.bind ?_ (fun _ => ?_)
set_option maxHeartbeats 8000000 in
set_option maxRecDepth 100000 in
theorem spec_NearDay.calls (k : Nat) (a0 : Int) (a1 : Int) (a2 : Int) (a3 : Int) (r1 : Int) (r2 : Bool) (w : World) (h : spec_NearDay.f k a0 a1 a2 a3 = some (r1, r2)) :
    Calls Try.prog 26 #[.int .i64 a0, .int .i64 a1, .int .i64 a2, .int .i64 a3] w fun e w' => e = .returned (.tuple #[.int .i64 r1, .bool r2]) ∧ Below w.heap.size w w' := by
  have hu70 := Try.underlying70
  have HB := Aside0.mk (Below.refl w.heap.size w)
  have H : ((spec_l2Time.f a3).bind fun t325 => (if t325 = true then ((spec_l2In.f a0 1 31).bind fun t326 => (if t326 = true then ((spec_l2In.f a1 0 24).bind fun t327 => (if t327 = true then ((spec_l2In.f a2 0 59).bind fun t328 => (if t328 = true then (if a1 = 24 then (spec_NearDay.j0 k a0 a1 a2 a3 (a2 != 0)) else (spec_NearDay.j0 k a0 a1 a2 a3 false)) else (spec_NearDay.j0 k a0 a1 a2 a3 true))) else (spec_NearDay.j0 k a0 a1 a2 a3 true))) else (spec_NearDay.j0 k a0 a1 a2 a3 true))) else (spec_NearDay.j0 k a0 a1 a2 a3 true))) = some (r1, r2) := h
  clear h
  have HC5 := Aside0.mk H
  clear H
  go_enter Try.func26, Try.ntmps26
  go_upto_region 1 with (fail)
  go_cut [42] (fun v42 wc => ∃ (kq : Nat) (x42_4 : Bool), v42 = .bool x42_4 ∧ Aside0 (spec_NearDay.j0 kq a0 a1 a2 a3 x42_4 = some (r1, r2)) ∧ Aside0 (kq ≤ k) ∧ Aside0 (Below w.heap.size w wc))
  case first =>
    have H := HC5.out
    clear HC5
    replace H := Option.bind_eq_some_iff.mp H
    obtain ⟨t325, A60, H⟩ := H
    replace H : (if t325 = true then ((spec_l2In.f a0 1 31).bind fun t326 => (if t326 = true then ((spec_l2In.f a1 0 24).bind fun t327 => (if t327 = true then ((spec_l2In.f a2 0 59).bind fun t328 => (if t328 = true then (if a1 = 24 then (spec_NearDay.j0 k a0 a1 a2 a3 (a2 != 0)) else (spec_NearDay.j0 k a0 a1 a2 a3 false)) else (spec_NearDay.j0 k a0 a1 a2 a3 true))) else (spec_NearDay.j0 k a0 a1 a2 a3 true))) else (spec_NearDay.j0 k a0 a1 a2 a3 true))) else (spec_NearDay.j0 k a0 a1 a2 a3 true)) = some (r1, r2) := H
    have A6 := Aside0.mk A60
    clear A60
    by_cases c7 : t325 = true
    · subst c7
      have H1 : ((spec_l2In.f a0 1 31).bind fun t326 => (if t326 = true then ((spec_l2In.f a1 0 24).bind fun t327 => (if t327 = true then ((spec_l2In.f a2 0 59).bind fun t328 => (if t328 = true then (if a1 = 24 then (spec_NearDay.j0 k a0 a1 a2 a3 (a2 != 0)) else (spec_NearDay.j0 k a0 a1 a2 a3 false)) else (spec_NearDay.j0 k a0 a1 a2 a3 true))) else (spec_NearDay.j0 k a0 a1 a2 a3 true))) else (spec_NearDay.j0 k a0 a1 a2 a3 true))) = some (r1, r2) := by rw [if_pos rfl] at H; exact H
      clear H
      have H := H1
      clear H1
      replace H := Option.bind_eq_some_iff.mp H
      obtain ⟨t326, A80, H⟩ := H
      replace H : (if t326 = true then ((spec_l2In.f a1 0 24).bind fun t327 => (if t327 = true then ((spec_l2In.f a2 0 59).bind fun t328 => (if t328 = true then (if a1 = 24 then (spec_NearDay.j0 k a0 a1 a2 a3 (a2 != 0)) else (spec_NearDay.j0 k a0 a1 a2 a3 false)) else (spec_NearDay.j0 k a0 a1 a2 a3 true))) else (spec_NearDay.j0 k a0 a1 a2 a3 true))) else (spec_NearDay.j0 k a0 a1 a2 a3 true)) = some (r1, r2) := H
      have A8 := Aside0.mk A80
      clear A80
      by_cases c9 : t326 = true
      · subst c9
        have H1 : ((spec_l2In.f a1 0 24).bind fun t327 => (if t327 = true then ((spec_l2In.f a2 0 59).bind fun t328 => (if t328 = true then (if a1 = 24 then (spec_NearDay.j0 k a0 a1 a2 a3 (a2 != 0)) else (spec_NearDay.j0 k a0 a1 a2 a3 false)) else (spec_NearDay.j0 k a0 a1 a2 a3 true))) else (spec_NearDay.j0 k a0 a1 a2 a3 true))) = some (r1, r2) := by rw [if_pos rfl] at H; exact H
        clear H
        have H := H1
        clear H1
        replace H := Option.bind_eq_some_iff.mp H
        obtain ⟨t327, A100, H⟩ := H
        replace H : (if t327 = true then ((spec_l2In.f a2 0 59).bind fun t328 => (if t328 = true then (if a1 = 24 then (spec_NearDay.j0 k a0 a1 a2 a3 (a2 != 0)) else (spec_NearDay.j0 k a0 a1 a2 a3 false)) else (spec_NearDay.j0 k a0 a1 a2 a3 true))) else (spec_NearDay.j0 k a0 a1 a2 a3 true)) = some (r1, r2) := H
        have A10 := Aside0.mk A100
        clear A100
        by_cases c11 : t327 = true
        · subst c11
          have H1 : ((spec_l2In.f a2 0 59).bind fun t328 => (if t328 = true then (if a1 = 24 then (spec_NearDay.j0 k a0 a1 a2 a3 (a2 != 0)) else (spec_NearDay.j0 k a0 a1 a2 a3 false)) else (spec_NearDay.j0 k a0 a1 a2 a3 true))) = some (r1, r2) := by rw [if_pos rfl] at H; exact H
          clear H
          have H := H1
          clear H1
          replace H := Option.bind_eq_some_iff.mp H
          obtain ⟨t328, A120, H⟩ := H
          replace H : (if t328 = true then (if a1 = 24 then (spec_NearDay.j0 k a0 a1 a2 a3 (a2 != 0)) else (spec_NearDay.j0 k a0 a1 a2 a3 false)) else (spec_NearDay.j0 k a0 a1 a2 a3 true)) = some (r1, r2) := H
          have A12 := Aside0.mk A120
          clear A120
          by_cases c13 : t328 = true
          · subst c13
            have H1 : (if a1 = 24 then (spec_NearDay.j0 k a0 a1 a2 a3 (a2 != 0)) else (spec_NearDay.j0 k a0 a1 a2 a3 false)) = some (r1, r2) := by rw [if_pos rfl] at H; exact H
            clear H
            have H := H1
            clear H1
            by_cases c14 : a1 = 24
            · rw [if_pos c14] at H
              have c14b0 : (a1 == 24) = true := beq_iff_eq.mpr c14
              have c14b1 : (a1 != 24) = false := bne_eq_false_iff_eq.mpr c14
              clear c14
              (first | rw [c14b0] | (simp only [i64_w, i32_w]; rw [c14b0]) | skip)
              have H' := Aside0.mk H
              clear H
              go_wp2_with (first | ((with_reducible refine gate_callee (f := 44) rfl ?_); refine goesL_ (some 18) rfl rfl Try.func44 (by kernel_rfl) rfl #[.int .i64 a3] rfl (by (try simp only [List.map_toArray, List.map_cons, List.map_nil]); first | done | rfl | (simp only [List.length_drop, List.length_take]; rfl)) ?_; (with_reducible refine (spec_l2Time.calls a3 true _ A6.out).mono ?_); rintro e w' ⟨rfl, ⟨nd, rfl⟩⟩; refine ⟨_, rfl, ?_⟩) | (go_at_call 40; (with_reducible refine (spec_l2In.calls a0 1 31 true _ A8.out).mono ?_); rintro e w' ⟨rfl, ⟨nd, rfl⟩⟩) | (go_at_call 40; (with_reducible refine (spec_l2In.calls a1 0 24 true _ A10.out).mono ?_); rintro e w' ⟨rfl, ⟨nd, rfl⟩⟩) | (go_at_call 40; (with_reducible refine (spec_l2In.calls a2 0 59 true _ A12.out).mono ?_); rintro e w' ⟨rfl, ⟨nd, rfl⟩⟩))
              go_meet
              case rel => exact ⟨_, ((a2 != 0)), (by first | rfl | (simp; done) | (simp [*]; done)), H', ⟨by first | omega | exact Nat.le_refl _⟩, ⟨by repeat (first | (with_reducible first | exact HB.out | apply below_alloc | apply pw_below_drewN | apply below_drew1) | exact HB.out)⟩⟩
            · rw [if_neg c14] at H
              have c14b0 : (a1 == 24) = false := beq_eq_false_iff_ne.mpr c14
              have c14b1 : (a1 != 24) = true := bne_iff_ne.mpr c14
              (first | rw [c14b0] | (simp only [i64_w, i32_w]; rw [c14b0]) | skip)
              have H' := Aside0.mk H
              clear H
              go_wp2_with (first | ((with_reducible refine gate_callee (f := 44) rfl ?_); refine goesL_ (some 18) rfl rfl Try.func44 (by kernel_rfl) rfl #[.int .i64 a3] rfl (by (try simp only [List.map_toArray, List.map_cons, List.map_nil]); first | done | rfl | (simp only [List.length_drop, List.length_take]; rfl)) ?_; (with_reducible refine (spec_l2Time.calls a3 true _ A6.out).mono ?_); rintro e w' ⟨rfl, ⟨nd, rfl⟩⟩; refine ⟨_, rfl, ?_⟩) | (go_at_call 40; (with_reducible refine (spec_l2In.calls a0 1 31 true _ A8.out).mono ?_); rintro e w' ⟨rfl, ⟨nd, rfl⟩⟩) | (go_at_call 40; (with_reducible refine (spec_l2In.calls a1 0 24 true _ A10.out).mono ?_); rintro e w' ⟨rfl, ⟨nd, rfl⟩⟩) | (go_at_call 40; (with_reducible refine (spec_l2In.calls a2 0 59 true _ A12.out).mono ?_); rintro e w' ⟨rfl, ⟨nd, rfl⟩⟩))
              go_meet
              case rel => exact ⟨_, (false), (by first | rfl | (simp; done) | (simp [*]; done)), H', ⟨by first | omega | exact Nat.le_refl _⟩, ⟨by repeat (first | (with_reducible first | exact HB.out | apply below_alloc | apply pw_below_drewN | apply below_drew1) | exact HB.out)⟩⟩
          · replace c13 := Bool.eq_false_iff.mpr c13
            subst c13
            have H1 : (spec_NearDay.j0 k a0 a1 a2 a3 true) = some (r1, r2) := by rw [if_neg (show ¬ (false = true) by decide)] at H; exact H
            clear H
            have H := H1
            clear H1
            have H' := Aside0.mk H
            clear H
            go_wp2_with (first | ((with_reducible refine gate_callee (f := 44) rfl ?_); refine goesL_ (some 18) rfl rfl Try.func44 (by kernel_rfl) rfl #[.int .i64 a3] rfl (by (try simp only [List.map_toArray, List.map_cons, List.map_nil]); first | done | rfl | (simp only [List.length_drop, List.length_take]; rfl)) ?_; (with_reducible refine (spec_l2Time.calls a3 true _ A6.out).mono ?_); rintro e w' ⟨rfl, ⟨nd, rfl⟩⟩; refine ⟨_, rfl, ?_⟩) | (go_at_call 40; (with_reducible refine (spec_l2In.calls a0 1 31 true _ A8.out).mono ?_); rintro e w' ⟨rfl, ⟨nd, rfl⟩⟩) | (go_at_call 40; (with_reducible refine (spec_l2In.calls a1 0 24 true _ A10.out).mono ?_); rintro e w' ⟨rfl, ⟨nd, rfl⟩⟩) | (go_at_call 40; (with_reducible refine (spec_l2In.calls a2 0 59 false _ A12.out).mono ?_); rintro e w' ⟨rfl, ⟨nd, rfl⟩⟩))
            go_meet
            case rel => exact ⟨_, (true), (by first | rfl | (simp; done) | (simp [*]; done)), H', ⟨by first | omega | exact Nat.le_refl _⟩, ⟨by repeat (first | (with_reducible first | exact HB.out | apply below_alloc | apply pw_below_drewN | apply below_drew1) | exact HB.out)⟩⟩
        · replace c11 := Bool.eq_false_iff.mpr c11
          subst c11
          have H1 : (spec_NearDay.j0 k a0 a1 a2 a3 true) = some (r1, r2) := by rw [if_neg (show ¬ (false = true) by decide)] at H; exact H
          clear H
          have H := H1
          clear H1
          have H' := Aside0.mk H
          clear H
          go_wp2_with (first | ((with_reducible refine gate_callee (f := 44) rfl ?_); refine goesL_ (some 18) rfl rfl Try.func44 (by kernel_rfl) rfl #[.int .i64 a3] rfl (by (try simp only [List.map_toArray, List.map_cons, List.map_nil]); first | done | rfl | (simp only [List.length_drop, List.length_take]; rfl)) ?_; (with_reducible refine (spec_l2Time.calls a3 true _ A6.out).mono ?_); rintro e w' ⟨rfl, ⟨nd, rfl⟩⟩; refine ⟨_, rfl, ?_⟩) | (go_at_call 40; (with_reducible refine (spec_l2In.calls a0 1 31 true _ A8.out).mono ?_); rintro e w' ⟨rfl, ⟨nd, rfl⟩⟩) | (go_at_call 40; (with_reducible refine (spec_l2In.calls a1 0 24 false _ A10.out).mono ?_); rintro e w' ⟨rfl, ⟨nd, rfl⟩⟩))
          go_meet
          case rel => exact ⟨_, (true), (by first | rfl | (simp; done) | (simp [*]; done)), H', ⟨by first | omega | exact Nat.le_refl _⟩, ⟨by repeat (first | (with_reducible first | exact HB.out | apply below_alloc | apply pw_below_drewN | apply below_drew1) | exact HB.out)⟩⟩
      · replace c9 := Bool.eq_false_iff.mpr c9
        subst c9
        have H1 : (spec_NearDay.j0 k a0 a1 a2 a3 true) = some (r1, r2) := by rw [if_neg (show ¬ (false = true) by decide)] at H; exact H
        clear H
        have H := H1
        clear H1
        have H' := Aside0.mk H
        clear H
        go_wp2_with (first | ((with_reducible refine gate_callee (f := 44) rfl ?_); refine goesL_ (some 18) rfl rfl Try.func44 (by kernel_rfl) rfl #[.int .i64 a3] rfl (by (try simp only [List.map_toArray, List.map_cons, List.map_nil]); first | done | rfl | (simp only [List.length_drop, List.length_take]; rfl)) ?_; (with_reducible refine (spec_l2Time.calls a3 true _ A6.out).mono ?_); rintro e w' ⟨rfl, ⟨nd, rfl⟩⟩; refine ⟨_, rfl, ?_⟩) | (go_at_call 40; (with_reducible refine (spec_l2In.calls a0 1 31 false _ A8.out).mono ?_); rintro e w' ⟨rfl, ⟨nd, rfl⟩⟩))
        go_meet
        case rel => exact ⟨_, (true), (by first | rfl | (simp; done) | (simp [*]; done)), H', ⟨by first | omega | exact Nat.le_refl _⟩, ⟨by repeat (first | (with_reducible first | exact HB.out | apply below_alloc | apply pw_below_drewN | apply below_drew1) | exact HB.out)⟩⟩
    · replace c7 := Bool.eq_false_iff.mpr c7
      subst c7
      have H1 : (spec_NearDay.j0 k a0 a1 a2 a3 true) = some (r1, r2) := by rw [if_neg (show ¬ (false = true) by decide)] at H; exact H
      clear H
      have H := H1
      clear H1
      have H' := Aside0.mk H
      clear H
      go_wp2_with (first | ((with_reducible refine gate_callee (f := 44) rfl ?_); refine goesL_ (some 18) rfl rfl Try.func44 (by kernel_rfl) rfl #[.int .i64 a3] rfl (by (try simp only [List.map_toArray, List.map_cons, List.map_nil]); first | done | rfl | (simp only [List.length_drop, List.length_take]; rfl)) ?_; (with_reducible refine (spec_l2Time.calls a3 false _ A6.out).mono ?_); rintro e w' ⟨rfl, ⟨nd, rfl⟩⟩; refine ⟨_, rfl, ?_⟩))
      go_meet
      case rel => exact ⟨_, (true), (by first | rfl | (simp; done) | (simp [*]; done)), H', ⟨by first | omega | exact Nat.le_refl _⟩, ⟨by repeat (first | (with_reducible first | exact HB.out | apply below_alloc | apply pw_below_drewN | apply below_drew1) | exact HB.out)⟩⟩
  case rest =>
    clear HC5
    try clear c1
    try clear c2
    try clear p2
    try clear c4
    try clear c7
    try clear c9
    try clear c11
    try clear c13
    try clear c14
    try clear c14b0
    try clear c14b1
    obtain ⟨kq, x42_4, rfl, HA, HJ4, HB⟩ := hcut
    cases kq with
    | zero => exact absurd HA.out (by simp [spec_NearDay.j0])
    | succ kj4 =>
      have H := HA.out
      clear HA
      simp only [spec_NearDay.j0] at H
      by_cases c15 : x42_4 = true
      · subst c15
        have H1 : (some (0, false)) = some (r1, r2) := by rw [if_pos rfl] at H; exact H
        clear H
        have H := H1
        clear H1
        simp only [Option.some.injEq, Prod.mk.injEq] at H
        obtain ⟨rfl, rfl⟩ := H
        go_wp2
        go_ret2
        exact ⟨by first | rfl | (simp [errW_none, errW_some] <;> rfl) | (simp [*, errW_none, errW_some] <;> rfl), by repeat (first | (with_reducible first | exact HB.out | apply below_alloc | apply pw_below_drewN | apply below_drew1) | exact HB.out)⟩
      · replace c15 := Bool.eq_false_iff.mpr c15
        subst c15
        have H1 : ((spec_DateOf.f kj4 a3).bind fun bt329 => (spec_NearDay.l0 kj4 a0 a1 a2 a3 (-1) (wrap64 (bt329.1 - 1)) bt329.1 bt329.2.1 bt329.2.2.1 bt329.2.2.2.1 bt329.2.2.2.2.1)) = some (r1, r2) := by rw [if_neg (show ¬ (false = true) by decide)] at H; exact H
        clear H
        have H := H1
        clear H1
        replace H := Option.bind_eq_some_iff.mp H
        obtain ⟨⟨t329, t330, t331, t332, t333, t334⟩, A160, H⟩ := H
        replace H : (spec_NearDay.l0 kj4 a0 a1 a2 a3 (-1) (wrap64 (t329 - 1)) t329 t330 t331 t332 t333) = some (r1, r2) := H
        have A16 := Aside0.mk A160
        clear A160
        have H' := Aside0.mk H
        clear H
        go_wp2_with (first | ((with_reducible refine gate_callee (f := 45) rfl ?_); refine goesL_ (some 45) rfl rfl Try.func45 (by kernel_rfl) rfl #[.int .i64 a3] rfl (by (try simp only [List.map_toArray, List.map_cons, List.map_nil]); first | done | rfl | (simp only [List.length_drop, List.length_take]; rfl)) ?_; (with_reducible refine (spec_DateOf.calls kj4 a3 t329 t330 t331 t332 t333 t334 _ A16.out).mono ?_); rintro e w17 ⟨rfl, hb⟩; refine ⟨_, rfl, ?_⟩; have n0_ := Aside0.mk (below_step (by repeat (first | (with_reducible first | exact HB.out | apply below_alloc | apply pw_below_drewN | apply below_drew1) | exact HB.out)) hb); clear HB; have HB := n0_; clear n0_; (try clear hb); (try clear hb2); (try clear hk); (try clear hi)) | ((with_reducible refine gate_dst (N := 11) rfl ?_); (try (refine gate_guard (by rfl) ?_; dsimp only)); refine box_event ?hg (N := 11) ?hd (cs := #[.int .i64 0, .int .i64 0, .int .i64 0, .int .i64 0, .int .i64 0]) (t := 70) ?hr ?_; (case hd => rfl); (case hg => rfl); (case hr => first | (go_simp; done) | (go_simp; rfl)); intro gb335 hg w18 hbox hb; have n0_ := Aside0.mk (below_step (by repeat (first | (with_reducible first | exact HB.out | apply below_alloc | apply pw_below_drewN | apply below_drew1) | exact HB.out)) hb); have n1_ := Aside0.mk (hbox); have n2_ := Aside0.mk ((by rw [hg]; exact (below_size (by repeat (first | (with_reducible first | exact HB.out | apply below_alloc | apply pw_below_drewN | apply below_drew1) | exact HB.out))) : w.heap.size ≤ gb335)); have n3_ := Aside0.mk ((by rw [hg]; exact (below_size (by repeat (first | (with_reducible first | exact HB.out | apply below_alloc | apply pw_below_drewN | apply below_drew1) | exact HB.out))) : w.heap.size ≤ gb335)); clear HB; have HB := n0_; have BK335 := n1_; have GW335 := n2_; have GE335 := n3_; clear n0_ n1_ n2_ n3_; clear hb hbox hg; have hcz19_0 : w18.cell? ⟨gb335, 0, none⟩ = some (.int .i64 0) := (blk_cell BK335.out 0).trans rfl; have hcz19_1 : w18.cell? ⟨gb335, 1, none⟩ = some (.int .i64 0) := (blk_cell BK335.out 1).trans rfl; have hcz19_2 : w18.cell? ⟨gb335, 2, none⟩ = some (.int .i64 0) := (blk_cell BK335.out 2).trans rfl; have hcz19_3 : w18.cell? ⟨gb335, 3, none⟩ = some (.int .i64 0) := (blk_cell BK335.out 3).trans rfl; have hcz19_4 : w18.cell? ⟨gb335, 4, none⟩ = some (.int .i64 0) := (blk_cell BK335.out 4).trans rfl; have hfz19_0 := blk_frozen BK335.out 0; have hfz19_1 := blk_frozen BK335.out 1; have hfz19_2 := blk_frozen BK335.out 2; have hfz19_3 := blk_frozen BK335.out 3; have hfz19_4 := blk_frozen BK335.out 4))
        go_loopg [10, 13] kj4 (fun kq v10 v13 w' => ∃ (x10_2 : Int) (x13_2 : Int), v10 = .int .i64 x10_2 ∧ v13 = .int .i64 x13_2 ∧ Aside0 (spec_NearDay.l0 kq a0 a1 a2 a3 x10_2 x13_2 t329 t330 t331 t332 t333 = some (r1, r2)) ∧ Aside0 (kq ≤ kj4) ∧ Aside0 (w'.heap[gb335]? = some (.cells #[.int .i64 t329, .int .i64 t330, .int .i64 t331, .int .i64 t332, .int .i64 t333] 70 (0, 0))) ∧ Aside0 (Below w.heap.size w w'))
        case atStart => exact ⟨((-1)), (wrap64 (t329 - 1)), (by first | rfl | (simp; done) | (simp [*]; done)), (by first | rfl | (simp; done) | (simp [*]; done)), H', ⟨Nat.le_refl _⟩, ⟨by (with_reducible repeat (first | refine blk_drewN ?_ _ | refine blk_drew ?_ | refine blk_alloc ?_ _)); refine blk_put (cs := #[.int .i64 t329, .int .i64 t330, .int .i64 t331, .int .i64 t332, .int .i64 0]) ?_ 4 _ rfl; (with_reducible repeat (first | refine blk_drewN ?_ _ | refine blk_drew ?_ | refine blk_alloc ?_ _)); refine blk_put (cs := #[.int .i64 t329, .int .i64 t330, .int .i64 t331, .int .i64 0, .int .i64 0]) ?_ 3 _ rfl; (with_reducible repeat (first | refine blk_drewN ?_ _ | refine blk_drew ?_ | refine blk_alloc ?_ _)); refine blk_put (cs := #[.int .i64 t329, .int .i64 t330, .int .i64 0, .int .i64 0, .int .i64 0]) ?_ 2 _ rfl; (with_reducible repeat (first | refine blk_drewN ?_ _ | refine blk_drew ?_ | refine blk_alloc ?_ _)); refine blk_put (cs := #[.int .i64 t329, .int .i64 0, .int .i64 0, .int .i64 0, .int .i64 0]) ?_ 1 _ rfl; (with_reducible repeat (first | refine blk_drewN ?_ _ | refine blk_drew ?_ | refine blk_alloc ?_ _)); refine blk_put (cs := #[.int .i64 0, .int .i64 0, .int .i64 0, .int .i64 0, .int .i64 0]) ?_ 0 _ rfl; (with_reducible repeat (first | refine blk_drewN ?_ _ | refine blk_drew ?_ | refine blk_alloc ?_ _)); exact BK335.out⟩, ⟨by repeat (first | (with_reducible first | exact HB.out | apply below_alloc | apply pw_below_drewN | apply below_drew1 | refine below_set ?_ GE335.out) | exact HB.out)⟩⟩
        case round =>
          clear H'
          try clear c1
          try clear c2
          try clear p2
          try clear c4
          try clear p6
          try clear c7
          try clear c9
          try clear c11
          try clear c13
          try clear c14
          try clear c14b0
          try clear c14b1
          try clear c15
          try clear hcz19_0
          try clear hcz19_1
          try clear hcz19_2
          try clear hcz19_3
          try clear hcz19_4
          try clear hfz19_0
          try clear hfz19_1
          try clear hfz19_2
          try clear hfz19_3
          try clear hfz19_4
          try clear p2
          obtain ⟨x10_2, x13_2, rfl, rfl, HA, HK2, BK335, HB⟩ := hrel
          cases gk with
          | zero => exact absurd HA.out (by simp [spec_NearDay.l0])
          | succ k2 =>
            have H := HA.out
            clear HA
            simp only [spec_NearDay.l0] at H
            by_cases c20 : x13_2 ≤ (wrap64 (t329 + 1))
            · rw [if_pos c20] at H
              have c20b0 : decide (x13_2 ≤ (wrap64 (t329 + 1))) = true := decide_eq_true c20
              clear c20
              have H' := Aside0.mk H
              clear H
              have hcz21_0 : wr.cell? ⟨gb335, 0, none⟩ = some (.int .i64 t329) := (blk_cell BK335.out 0).trans rfl
              have hcz21_1 : wr.cell? ⟨gb335, 1, none⟩ = some (.int .i64 t330) := (blk_cell BK335.out 1).trans rfl
              have hcz21_2 : wr.cell? ⟨gb335, 2, none⟩ = some (.int .i64 t331) := (blk_cell BK335.out 2).trans rfl
              have hcz21_3 : wr.cell? ⟨gb335, 3, none⟩ = some (.int .i64 t332) := (blk_cell BK335.out 3).trans rfl
              have hcz21_4 : wr.cell? ⟨gb335, 4, none⟩ = some (.int .i64 t333) := (blk_cell BK335.out 4).trans rfl
              have hfz21_0 := blk_frozen BK335.out 0
              have hfz21_1 := blk_frozen BK335.out 1
              have hfz21_2 := blk_frozen BK335.out 2
              have hfz21_3 := blk_frozen BK335.out 3
              have hfz21_4 := blk_frozen BK335.out 4
              go_wp2
              go_loopg [10, 14] k2 (fun kq v10 v14 w' => ∃ (x10_3 : Int) (x14_3 : Int), v10 = .int .i64 x10_3 ∧ v14 = .int .i64 x14_3 ∧ Aside0 (spec_NearDay.l1 kq a0 a1 a2 a3 x10_3 x13_2 x14_3 t329 t330 t331 t332 t333 = some (r1, r2)) ∧ Aside0 (kq ≤ k2) ∧ Aside0 (w'.heap[gb335]? = some (.cells #[.int .i64 t329, .int .i64 t330, .int .i64 t331, .int .i64 t332, .int .i64 t333] 70 (0, 0))) ∧ Aside0 (Below w.heap.size w w'))
              case atStart => exact ⟨(x10_2), (1), (by first | rfl | (simp; done) | (simp [*]; done)), (by first | rfl | (simp; done) | (simp [*]; done)), H', ⟨Nat.le_refl _⟩, ⟨by (with_reducible repeat (first | refine blk_drewN ?_ _ | refine blk_drew ?_ | refine blk_alloc ?_ _)); exact BK335.out⟩, ⟨by repeat (first | (with_reducible first | exact HB.out | apply below_alloc | apply pw_below_drewN | apply below_drew1 | refine below_set ?_ GE335.out) | exact HB.out)⟩⟩
              case round =>
                clear H'
                try clear c1
                try clear c2
                try clear p2
                try clear c4
                try clear p6
                try clear c7
                try clear c9
                try clear c11
                try clear c13
                try clear c14
                try clear c14b0
                try clear c14b1
                try clear c15
                try clear c20
                try clear c20b0
                try clear hcz19_0
                try clear hcz19_1
                try clear hcz19_2
                try clear hcz19_3
                try clear hcz19_4
                try clear hcz21_0
                try clear hcz21_1
                try clear hcz21_2
                try clear hcz21_3
                try clear hcz21_4
                try clear hfz19_0
                try clear hfz19_1
                try clear hfz19_2
                try clear hfz19_3
                try clear hfz19_4
                try clear hfz21_0
                try clear hfz21_1
                try clear hfz21_2
                try clear hfz21_3
                try clear hfz21_4
                try clear p2
                try clear p6
                obtain ⟨x10_3, x14_3, rfl, rfl, HA, HK3, BK335, HB⟩ := hrel
                cases gk with
                | zero => exact absurd HA.out (by simp [spec_NearDay.l1])
                | succ k3 =>
                  have H := HA.out
                  clear HA
                  simp only [spec_NearDay.l1] at H
                  by_cases c22 : x14_3 ≤ 12
                  · rw [if_pos c22] at H
                    have c22b0 : decide (x14_3 ≤ 12) = true := decide_eq_true c22
                    clear c22
                    replace H := Option.bind_eq_some_iff.mp H
                    obtain ⟨⟨t336, t337⟩, A230, H⟩ := H
                    replace H : (if t337 = true then (if a1 = 24 then ((spec_l2Time.f (wrap64 (t336 + 1440))).bind fun t338 => (if t338 = true then (if x10_3 < 0 then (spec_NearDay.l1 k3 a0 a1 a2 a3 (wrap64 (t336 + 1440)) x13_2 (wrap64 (x14_3 + 1)) t329 t330 t331 t332 t333) else (if (mx (wrap64 ((wrap64 (t336 + 1440)) - a3)) (wrap64 (a3 - (wrap64 (t336 + 1440))))) < (mx (wrap64 (x10_3 - a3)) (wrap64 (a3 - x10_3))) then (spec_NearDay.l1 k3 a0 a1 a2 a3 (wrap64 (t336 + 1440)) x13_2 (wrap64 (x14_3 + 1)) t329 t330 t331 t332 t333) else (spec_NearDay.l1 k3 a0 a1 a2 a3 x10_3 x13_2 (wrap64 (x14_3 + 1)) t329 t330 t331 t332 t333))) else (spec_NearDay.l1 k3 a0 a1 a2 a3 x10_3 x13_2 (wrap64 (x14_3 + 1)) t329 t330 t331 t332 t333))) else ((spec_l2Time.f t336).bind fun t339 => (if t339 = true then (if x10_3 < 0 then (spec_NearDay.l1 k3 a0 a1 a2 a3 t336 x13_2 (wrap64 (x14_3 + 1)) t329 t330 t331 t332 t333) else (if (mx (wrap64 (t336 - a3)) (wrap64 (a3 - t336))) < (mx (wrap64 (x10_3 - a3)) (wrap64 (a3 - x10_3))) then (spec_NearDay.l1 k3 a0 a1 a2 a3 t336 x13_2 (wrap64 (x14_3 + 1)) t329 t330 t331 t332 t333) else (spec_NearDay.l1 k3 a0 a1 a2 a3 x10_3 x13_2 (wrap64 (x14_3 + 1)) t329 t330 t331 t332 t333))) else (spec_NearDay.l1 k3 a0 a1 a2 a3 x10_3 x13_2 (wrap64 (x14_3 + 1)) t329 t330 t331 t332 t333)))) else (spec_NearDay.l1 k3 a0 a1 a2 a3 x10_3 x13_2 (wrap64 (x14_3 + 1)) t329 t330 t331 t332 t333)) = some (r1, r2) := H
                    have A23 := Aside0.mk A230
                    clear A230
                    by_cases c24 : t337 = true
                    · subst c24
                      have H1 : (if a1 = 24 then ((spec_l2Time.f (wrap64 (t336 + 1440))).bind fun t338 => (if t338 = true then (if x10_3 < 0 then (spec_NearDay.l1 k3 a0 a1 a2 a3 (wrap64 (t336 + 1440)) x13_2 (wrap64 (x14_3 + 1)) t329 t330 t331 t332 t333) else (if (mx (wrap64 ((wrap64 (t336 + 1440)) - a3)) (wrap64 (a3 - (wrap64 (t336 + 1440))))) < (mx (wrap64 (x10_3 - a3)) (wrap64 (a3 - x10_3))) then (spec_NearDay.l1 k3 a0 a1 a2 a3 (wrap64 (t336 + 1440)) x13_2 (wrap64 (x14_3 + 1)) t329 t330 t331 t332 t333) else (spec_NearDay.l1 k3 a0 a1 a2 a3 x10_3 x13_2 (wrap64 (x14_3 + 1)) t329 t330 t331 t332 t333))) else (spec_NearDay.l1 k3 a0 a1 a2 a3 x10_3 x13_2 (wrap64 (x14_3 + 1)) t329 t330 t331 t332 t333))) else ((spec_l2Time.f t336).bind fun t339 => (if t339 = true then (if x10_3 < 0 then (spec_NearDay.l1 k3 a0 a1 a2 a3 t336 x13_2 (wrap64 (x14_3 + 1)) t329 t330 t331 t332 t333) else (if (mx (wrap64 (t336 - a3)) (wrap64 (a3 - t336))) < (mx (wrap64 (x10_3 - a3)) (wrap64 (a3 - x10_3))) then (spec_NearDay.l1 k3 a0 a1 a2 a3 t336 x13_2 (wrap64 (x14_3 + 1)) t329 t330 t331 t332 t333) else (spec_NearDay.l1 k3 a0 a1 a2 a3 x10_3 x13_2 (wrap64 (x14_3 + 1)) t329 t330 t331 t332 t333))) else (spec_NearDay.l1 k3 a0 a1 a2 a3 x10_3 x13_2 (wrap64 (x14_3 + 1)) t329 t330 t331 t332 t333)))) = some (r1, r2) := by rw [if_pos rfl] at H; exact H
                      clear H
                      have H := H1
                      clear H1
                      by_cases c25 : a1 = 24
                      · rw [if_pos c25] at H
                        have c25b0 : (a1 == 24) = true := beq_iff_eq.mpr c25
                        have c25b1 : (a1 != 24) = false := bne_eq_false_iff_eq.mpr c25
                        clear c25
                        replace H := Option.bind_eq_some_iff.mp H
                        obtain ⟨t338, A260, H⟩ := H
                        replace H : (if t338 = true then (if x10_3 < 0 then (spec_NearDay.l1 k3 a0 a1 a2 a3 (wrap64 (t336 + 1440)) x13_2 (wrap64 (x14_3 + 1)) t329 t330 t331 t332 t333) else (if (mx (wrap64 ((wrap64 (t336 + 1440)) - a3)) (wrap64 (a3 - (wrap64 (t336 + 1440))))) < (mx (wrap64 (x10_3 - a3)) (wrap64 (a3 - x10_3))) then (spec_NearDay.l1 k3 a0 a1 a2 a3 (wrap64 (t336 + 1440)) x13_2 (wrap64 (x14_3 + 1)) t329 t330 t331 t332 t333) else (spec_NearDay.l1 k3 a0 a1 a2 a3 x10_3 x13_2 (wrap64 (x14_3 + 1)) t329 t330 t331 t332 t333))) else (spec_NearDay.l1 k3 a0 a1 a2 a3 x10_3 x13_2 (wrap64 (x14_3 + 1)) t329 t330 t331 t332 t333)) = some (r1, r2) := H
                        have A26 := Aside0.mk A260
                        clear A260
                        by_cases c27 : t338 = true
                        · subst c27
                          have H1 : (if x10_3 < 0 then (spec_NearDay.l1 k3 a0 a1 a2 a3 (wrap64 (t336 + 1440)) x13_2 (wrap64 (x14_3 + 1)) t329 t330 t331 t332 t333) else (if (mx (wrap64 ((wrap64 (t336 + 1440)) - a3)) (wrap64 (a3 - (wrap64 (t336 + 1440))))) < (mx (wrap64 (x10_3 - a3)) (wrap64 (a3 - x10_3))) then (spec_NearDay.l1 k3 a0 a1 a2 a3 (wrap64 (t336 + 1440)) x13_2 (wrap64 (x14_3 + 1)) t329 t330 t331 t332 t333) else (spec_NearDay.l1 k3 a0 a1 a2 a3 x10_3 x13_2 (wrap64 (x14_3 + 1)) t329 t330 t331 t332 t333))) = some (r1, r2) := by rw [if_pos rfl] at H; exact H
                          clear H
                          have H := H1
                          clear H1
                          by_cases c28 : x10_3 < 0
                          · rw [if_pos c28] at H
                            have c28b0 : decide (x10_3 < 0) = true := decide_eq_true c28
                            clear c28
                            have H' := Aside0.mk H
                            clear H
                            go_wp2_with (first | ((with_reducible refine gate_callee (f := 46) rfl ?_); refine goesL_ (some 70) rfl rfl Try.func46 (by kernel_rfl) rfl #[.agg #[.int .i64 x13_2, .int .i64 x14_3, .int .i64 a0, .int .i64 (Int.tmod a1 24), .int .i64 a2]] rfl (by (try simp only [List.map_toArray, List.map_cons, List.map_nil]); first | done | rfl | (simp only [List.length_drop, List.length_take]; rfl)) ?_; (with_reducible refine (spec_TimeOf.calls k3 x13_2 x14_3 a0 (Int.tmod a1 24) a2 t336 true _ A23.out).mono ?_); rintro e w29 ⟨rfl, hb⟩; refine ⟨_, rfl, ?_⟩; have n0_ := Aside0.mk (blk_below (g := gb335) (o := .cells #[.int .i64 t329, .int .i64 t330, .int .i64 t331, .int .i64 t332, .int .i64 t333] 70 (0, 0)) (by (with_reducible repeat (first | refine blk_drewN ?_ _ | refine blk_drew ?_ | refine blk_alloc ?_ _)); exact BK335.out) hb); have n1_ := Aside0.mk (below_step (by repeat (first | (with_reducible first | exact HB.out | apply below_alloc | apply pw_below_drewN | apply below_drew1 | refine below_set ?_ GE335.out) | exact HB.out)) hb); clear BK335; clear HB; have BK335 := n0_; have HB := n1_; clear n0_ n1_; (try clear hb); (try clear hb2); (try clear hk); (try clear hi)) | ((with_reducible refine gate_callee (f := 44) rfl ?_); refine goesL_ (some 80) rfl rfl Try.func44 (by kernel_rfl) rfl #[.int .i64 (wrap64 (t336 + 1440))] rfl (by (try simp only [List.map_toArray, List.map_cons, List.map_nil]); first | done | rfl | (simp only [List.length_drop, List.length_take]; rfl)) ?_; (with_reducible refine (spec_l2Time.calls (wrap64 (t336 + 1440)) true _ A26.out).mono ?_); rintro e w' ⟨rfl, ⟨nd, rfl⟩⟩; refine ⟨_, rfl, ?_⟩))
                            go_roundg k3
                            case measure => have := HJ4.out; have := HK2.out; have := HK3.out; omega
                            case rel => exact ⟨(wrap64 (t336 + 1440)), (wrap64 (x14_3 + 1)), (by first | rfl | (simp; done) | (simp [*]; done)), (by first | rfl | (simp; done) | (simp [*]; done)), H', ⟨by have := HJ4.out; have := HK2.out; have := HK3.out; omega⟩, ⟨by (with_reducible repeat (first | refine blk_drewN ?_ _ | refine blk_drew ?_ | refine blk_alloc ?_ _)); exact BK335.out⟩, ⟨by repeat (first | (with_reducible first | exact HB.out | apply below_alloc | apply pw_below_drewN | apply below_drew1 | refine below_set ?_ GE335.out) | exact HB.out)⟩⟩
                          · rw [if_neg c28] at H
                            have c28b0 : decide (x10_3 < 0) = false := decide_eq_false c28
                            clear c28
                            obtain ⟨ji30, hji30⟩ : ∃ j_ : Int, (mx (wrap64 ((wrap64 (t336 + 1440)) - a3)) (wrap64 (a3 - (wrap64 (t336 + 1440))))) = j_ := ⟨_, rfl⟩
                            replace H : (if (ji30) < (mx (wrap64 (x10_3 - a3)) (wrap64 (a3 - x10_3))) then (spec_NearDay.l1 k3 a0 a1 a2 a3 (wrap64 (t336 + 1440)) x13_2 (wrap64 (x14_3 + 1)) t329 t330 t331 t332 t333) else (spec_NearDay.l1 k3 a0 a1 a2 a3 x10_3 x13_2 (wrap64 (x14_3 + 1)) t329 t330 t331 t332 t333)) = some (r1, r2) := by first | (rw [hji30] at H; exact H) | (simp only [hji30] at H ⊢; exact H)
                            (try rw [hji30] at A23)
                            (try rw [hji30] at A26)
                            have hji30_ : (if (wrap64 ((wrap64 (t336 + 1440)) - a3)) < (wrap64 (a3 - (wrap64 (t336 + 1440)))) then (wrap64 (a3 - (wrap64 (t336 + 1440)))) else (wrap64 ((wrap64 (t336 + 1440)) - a3))) = ji30 := hji30
                            obtain ⟨ji31, hji31⟩ : ∃ j_ : Int, (mx (wrap64 (x10_3 - a3)) (wrap64 (a3 - x10_3))) = j_ := ⟨_, rfl⟩
                            replace H : (if (ji30) < (ji31) then (spec_NearDay.l1 k3 a0 a1 a2 a3 (wrap64 (t336 + 1440)) x13_2 (wrap64 (x14_3 + 1)) t329 t330 t331 t332 t333) else (spec_NearDay.l1 k3 a0 a1 a2 a3 x10_3 x13_2 (wrap64 (x14_3 + 1)) t329 t330 t331 t332 t333)) = some (r1, r2) := by first | (rw [hji31] at H; exact H) | (simp only [hji31] at H ⊢; exact H)
                            (try rw [hji31] at A23)
                            (try rw [hji31] at A26)
                            have hji31_ : (if (wrap64 (x10_3 - a3)) < (wrap64 (a3 - x10_3)) then (wrap64 (a3 - x10_3)) else (wrap64 (x10_3 - a3))) = ji31 := hji31
                            by_cases c32 : (ji30) < (ji31)
                            · rw [if_pos c32] at H
                              have c32b0 : decide ((ji30) < (ji31)) = true := decide_eq_true c32
                              clear c32
                              have H' := Aside0.mk H
                              clear H
                              go_wp2_with (first | ((with_reducible refine gate_callee (f := 46) rfl ?_); refine goesL_ (some 70) rfl rfl Try.func46 (by kernel_rfl) rfl #[.agg #[.int .i64 x13_2, .int .i64 x14_3, .int .i64 a0, .int .i64 (Int.tmod a1 24), .int .i64 a2]] rfl (by (try simp only [List.map_toArray, List.map_cons, List.map_nil]); first | done | rfl | (simp only [List.length_drop, List.length_take]; rfl)) ?_; (with_reducible refine (spec_TimeOf.calls k3 x13_2 x14_3 a0 (Int.tmod a1 24) a2 t336 true _ A23.out).mono ?_); rintro e w33 ⟨rfl, hb⟩; refine ⟨_, rfl, ?_⟩; have n0_ := Aside0.mk (blk_below (g := gb335) (o := .cells #[.int .i64 t329, .int .i64 t330, .int .i64 t331, .int .i64 t332, .int .i64 t333] 70 (0, 0)) (by (with_reducible repeat (first | refine blk_drewN ?_ _ | refine blk_drew ?_ | refine blk_alloc ?_ _)); exact BK335.out) hb); have n1_ := Aside0.mk (below_step (by repeat (first | (with_reducible first | exact HB.out | apply below_alloc | apply pw_below_drewN | apply below_drew1 | refine below_set ?_ GE335.out) | exact HB.out)) hb); clear BK335; clear HB; have BK335 := n0_; have HB := n1_; clear n0_ n1_; (try clear hb); (try clear hb2); (try clear hk); (try clear hi)) | ((with_reducible refine gate_callee (f := 44) rfl ?_); refine goesL_ (some 80) rfl rfl Try.func44 (by kernel_rfl) rfl #[.int .i64 (wrap64 (t336 + 1440))] rfl (by (try simp only [List.map_toArray, List.map_cons, List.map_nil]); first | done | rfl | (simp only [List.length_drop, List.length_take]; rfl)) ?_; (with_reducible refine (spec_l2Time.calls (wrap64 (t336 + 1440)) true _ A26.out).mono ?_); rintro e w' ⟨rfl, ⟨nd, rfl⟩⟩; refine ⟨_, rfl, ?_⟩))
                              go_roundg k3
                              case measure => have := HJ4.out; have := HK2.out; have := HK3.out; omega
                              case rel => exact ⟨(wrap64 (t336 + 1440)), (wrap64 (x14_3 + 1)), (by first | rfl | (simp; done) | (simp [*]; done)), (by first | rfl | (simp; done) | (simp [*]; done)), H', ⟨by have := HJ4.out; have := HK2.out; have := HK3.out; omega⟩, ⟨by (with_reducible repeat (first | refine blk_drewN ?_ _ | refine blk_drew ?_ | refine blk_alloc ?_ _)); exact BK335.out⟩, ⟨by repeat (first | (with_reducible first | exact HB.out | apply below_alloc | apply pw_below_drewN | apply below_drew1 | refine below_set ?_ GE335.out) | exact HB.out)⟩⟩
                            · rw [if_neg c32] at H
                              have c32b0 : decide ((ji30) < (ji31)) = false := decide_eq_false c32
                              clear c32
                              have H' := Aside0.mk H
                              clear H
                              go_wp2_with (first | ((with_reducible refine gate_callee (f := 46) rfl ?_); refine goesL_ (some 70) rfl rfl Try.func46 (by kernel_rfl) rfl #[.agg #[.int .i64 x13_2, .int .i64 x14_3, .int .i64 a0, .int .i64 (Int.tmod a1 24), .int .i64 a2]] rfl (by (try simp only [List.map_toArray, List.map_cons, List.map_nil]); first | done | rfl | (simp only [List.length_drop, List.length_take]; rfl)) ?_; (with_reducible refine (spec_TimeOf.calls k3 x13_2 x14_3 a0 (Int.tmod a1 24) a2 t336 true _ A23.out).mono ?_); rintro e w34 ⟨rfl, hb⟩; refine ⟨_, rfl, ?_⟩; have n0_ := Aside0.mk (blk_below (g := gb335) (o := .cells #[.int .i64 t329, .int .i64 t330, .int .i64 t331, .int .i64 t332, .int .i64 t333] 70 (0, 0)) (by (with_reducible repeat (first | refine blk_drewN ?_ _ | refine blk_drew ?_ | refine blk_alloc ?_ _)); exact BK335.out) hb); have n1_ := Aside0.mk (below_step (by repeat (first | (with_reducible first | exact HB.out | apply below_alloc | apply pw_below_drewN | apply below_drew1 | refine below_set ?_ GE335.out) | exact HB.out)) hb); clear BK335; clear HB; have BK335 := n0_; have HB := n1_; clear n0_ n1_; (try clear hb); (try clear hb2); (try clear hk); (try clear hi)) | ((with_reducible refine gate_callee (f := 44) rfl ?_); refine goesL_ (some 80) rfl rfl Try.func44 (by kernel_rfl) rfl #[.int .i64 (wrap64 (t336 + 1440))] rfl (by (try simp only [List.map_toArray, List.map_cons, List.map_nil]); first | done | rfl | (simp only [List.length_drop, List.length_take]; rfl)) ?_; (with_reducible refine (spec_l2Time.calls (wrap64 (t336 + 1440)) true _ A26.out).mono ?_); rintro e w' ⟨rfl, ⟨nd, rfl⟩⟩; refine ⟨_, rfl, ?_⟩))
                              go_roundg k3
                              case measure => have := HJ4.out; have := HK2.out; have := HK3.out; omega
                              case rel => exact ⟨(x10_3), (wrap64 (x14_3 + 1)), (by first | rfl | (simp; done) | (simp [*]; done)), (by first | rfl | (simp; done) | (simp [*]; done)), H', ⟨by have := HJ4.out; have := HK2.out; have := HK3.out; omega⟩, ⟨by (with_reducible repeat (first | refine blk_drewN ?_ _ | refine blk_drew ?_ | refine blk_alloc ?_ _)); exact BK335.out⟩, ⟨by repeat (first | (with_reducible first | exact HB.out | apply below_alloc | apply pw_below_drewN | apply below_drew1 | refine below_set ?_ GE335.out) | exact HB.out)⟩⟩
                        · replace c27 := Bool.eq_false_iff.mpr c27
                          subst c27
                          have H1 : (spec_NearDay.l1 k3 a0 a1 a2 a3 x10_3 x13_2 (wrap64 (x14_3 + 1)) t329 t330 t331 t332 t333) = some (r1, r2) := by rw [if_neg (show ¬ (false = true) by decide)] at H; exact H
                          clear H
                          have H := H1
                          clear H1
                          have H' := Aside0.mk H
                          clear H
                          go_wp2_with (first | ((with_reducible refine gate_callee (f := 46) rfl ?_); refine goesL_ (some 70) rfl rfl Try.func46 (by kernel_rfl) rfl #[.agg #[.int .i64 x13_2, .int .i64 x14_3, .int .i64 a0, .int .i64 (Int.tmod a1 24), .int .i64 a2]] rfl (by (try simp only [List.map_toArray, List.map_cons, List.map_nil]); first | done | rfl | (simp only [List.length_drop, List.length_take]; rfl)) ?_; (with_reducible refine (spec_TimeOf.calls k3 x13_2 x14_3 a0 (Int.tmod a1 24) a2 t336 true _ A23.out).mono ?_); rintro e w35 ⟨rfl, hb⟩; refine ⟨_, rfl, ?_⟩; have n0_ := Aside0.mk (blk_below (g := gb335) (o := .cells #[.int .i64 t329, .int .i64 t330, .int .i64 t331, .int .i64 t332, .int .i64 t333] 70 (0, 0)) (by (with_reducible repeat (first | refine blk_drewN ?_ _ | refine blk_drew ?_ | refine blk_alloc ?_ _)); exact BK335.out) hb); have n1_ := Aside0.mk (below_step (by repeat (first | (with_reducible first | exact HB.out | apply below_alloc | apply pw_below_drewN | apply below_drew1 | refine below_set ?_ GE335.out) | exact HB.out)) hb); clear BK335; clear HB; have BK335 := n0_; have HB := n1_; clear n0_ n1_; (try clear hb); (try clear hb2); (try clear hk); (try clear hi)) | ((with_reducible refine gate_callee (f := 44) rfl ?_); refine goesL_ (some 80) rfl rfl Try.func44 (by kernel_rfl) rfl #[.int .i64 (wrap64 (t336 + 1440))] rfl (by (try simp only [List.map_toArray, List.map_cons, List.map_nil]); first | done | rfl | (simp only [List.length_drop, List.length_take]; rfl)) ?_; (with_reducible refine (spec_l2Time.calls (wrap64 (t336 + 1440)) false _ A26.out).mono ?_); rintro e w' ⟨rfl, ⟨nd, rfl⟩⟩; refine ⟨_, rfl, ?_⟩))
                          go_roundg k3
                          case measure => have := HJ4.out; have := HK2.out; have := HK3.out; omega
                          case rel => exact ⟨(x10_3), (wrap64 (x14_3 + 1)), (by first | rfl | (simp; done) | (simp [*]; done)), (by first | rfl | (simp; done) | (simp [*]; done)), H', ⟨by have := HJ4.out; have := HK2.out; have := HK3.out; omega⟩, ⟨by (with_reducible repeat (first | refine blk_drewN ?_ _ | refine blk_drew ?_ | refine blk_alloc ?_ _)); exact BK335.out⟩, ⟨by repeat (first | (with_reducible first | exact HB.out | apply below_alloc | apply pw_below_drewN | apply below_drew1 | refine below_set ?_ GE335.out) | exact HB.out)⟩⟩
                      · rw [if_neg c25] at H
                        have c25b0 : (a1 == 24) = false := beq_eq_false_iff_ne.mpr c25
                        have c25b1 : (a1 != 24) = true := bne_iff_ne.mpr c25
                        replace H := Option.bind_eq_some_iff.mp H
                        obtain ⟨t339, A360, H⟩ := H
                        replace H : (if t339 = true then (if x10_3 < 0 then (spec_NearDay.l1 k3 a0 a1 a2 a3 t336 x13_2 (wrap64 (x14_3 + 1)) t329 t330 t331 t332 t333) else (if (mx (wrap64 (t336 - a3)) (wrap64 (a3 - t336))) < (mx (wrap64 (x10_3 - a3)) (wrap64 (a3 - x10_3))) then (spec_NearDay.l1 k3 a0 a1 a2 a3 t336 x13_2 (wrap64 (x14_3 + 1)) t329 t330 t331 t332 t333) else (spec_NearDay.l1 k3 a0 a1 a2 a3 x10_3 x13_2 (wrap64 (x14_3 + 1)) t329 t330 t331 t332 t333))) else (spec_NearDay.l1 k3 a0 a1 a2 a3 x10_3 x13_2 (wrap64 (x14_3 + 1)) t329 t330 t331 t332 t333)) = some (r1, r2) := H
                        have A36 := Aside0.mk A360
                        clear A360
                        by_cases c37 : t339 = true
                        · subst c37
                          have H1 : (if x10_3 < 0 then (spec_NearDay.l1 k3 a0 a1 a2 a3 t336 x13_2 (wrap64 (x14_3 + 1)) t329 t330 t331 t332 t333) else (if (mx (wrap64 (t336 - a3)) (wrap64 (a3 - t336))) < (mx (wrap64 (x10_3 - a3)) (wrap64 (a3 - x10_3))) then (spec_NearDay.l1 k3 a0 a1 a2 a3 t336 x13_2 (wrap64 (x14_3 + 1)) t329 t330 t331 t332 t333) else (spec_NearDay.l1 k3 a0 a1 a2 a3 x10_3 x13_2 (wrap64 (x14_3 + 1)) t329 t330 t331 t332 t333))) = some (r1, r2) := by rw [if_pos rfl] at H; exact H
                          clear H
                          have H := H1
                          clear H1
                          by_cases c38 : x10_3 < 0
                          · rw [if_pos c38] at H
                            have c38b0 : decide (x10_3 < 0) = true := decide_eq_true c38
                            clear c38
                            have H' := Aside0.mk H
                            clear H
                            go_wp2_with (first | ((with_reducible refine gate_callee (f := 46) rfl ?_); refine goesL_ (some 70) rfl rfl Try.func46 (by kernel_rfl) rfl #[.agg #[.int .i64 x13_2, .int .i64 x14_3, .int .i64 a0, .int .i64 (Int.tmod a1 24), .int .i64 a2]] rfl (by (try simp only [List.map_toArray, List.map_cons, List.map_nil]); first | done | rfl | (simp only [List.length_drop, List.length_take]; rfl)) ?_; (with_reducible refine (spec_TimeOf.calls k3 x13_2 x14_3 a0 (Int.tmod a1 24) a2 t336 true _ A23.out).mono ?_); rintro e w39 ⟨rfl, hb⟩; refine ⟨_, rfl, ?_⟩; have n0_ := Aside0.mk (blk_below (g := gb335) (o := .cells #[.int .i64 t329, .int .i64 t330, .int .i64 t331, .int .i64 t332, .int .i64 t333] 70 (0, 0)) (by (with_reducible repeat (first | refine blk_drewN ?_ _ | refine blk_drew ?_ | refine blk_alloc ?_ _)); exact BK335.out) hb); have n1_ := Aside0.mk (below_step (by repeat (first | (with_reducible first | exact HB.out | apply below_alloc | apply pw_below_drewN | apply below_drew1 | refine below_set ?_ GE335.out) | exact HB.out)) hb); clear BK335; clear HB; have BK335 := n0_; have HB := n1_; clear n0_ n1_; (try clear hb); (try clear hb2); (try clear hk); (try clear hi)) | ((with_reducible refine gate_callee (f := 44) rfl ?_); refine goesL_ (some 80) rfl rfl Try.func44 (by kernel_rfl) rfl #[.int .i64 t336] rfl (by (try simp only [List.map_toArray, List.map_cons, List.map_nil]); first | done | rfl | (simp only [List.length_drop, List.length_take]; rfl)) ?_; (with_reducible refine (spec_l2Time.calls t336 true _ A36.out).mono ?_); rintro e w' ⟨rfl, ⟨nd, rfl⟩⟩; refine ⟨_, rfl, ?_⟩))
                            go_roundg k3
                            case measure => have := HJ4.out; have := HK2.out; have := HK3.out; omega
                            case rel => exact ⟨(t336), (wrap64 (x14_3 + 1)), (by first | rfl | (simp; done) | (simp [*]; done)), (by first | rfl | (simp; done) | (simp [*]; done)), H', ⟨by have := HJ4.out; have := HK2.out; have := HK3.out; omega⟩, ⟨by (with_reducible repeat (first | refine blk_drewN ?_ _ | refine blk_drew ?_ | refine blk_alloc ?_ _)); exact BK335.out⟩, ⟨by repeat (first | (with_reducible first | exact HB.out | apply below_alloc | apply pw_below_drewN | apply below_drew1 | refine below_set ?_ GE335.out) | exact HB.out)⟩⟩
                          · rw [if_neg c38] at H
                            have c38b0 : decide (x10_3 < 0) = false := decide_eq_false c38
                            clear c38
                            obtain ⟨ji40, hji40⟩ : ∃ j_ : Int, (mx (wrap64 (t336 - a3)) (wrap64 (a3 - t336))) = j_ := ⟨_, rfl⟩
                            replace H : (if (ji40) < (mx (wrap64 (x10_3 - a3)) (wrap64 (a3 - x10_3))) then (spec_NearDay.l1 k3 a0 a1 a2 a3 t336 x13_2 (wrap64 (x14_3 + 1)) t329 t330 t331 t332 t333) else (spec_NearDay.l1 k3 a0 a1 a2 a3 x10_3 x13_2 (wrap64 (x14_3 + 1)) t329 t330 t331 t332 t333)) = some (r1, r2) := by first | (rw [hji40] at H; exact H) | (simp only [hji40] at H ⊢; exact H)
                            (try rw [hji40] at A23)
                            (try rw [hji40] at A36)
                            have hji40_ : (if (wrap64 (t336 - a3)) < (wrap64 (a3 - t336)) then (wrap64 (a3 - t336)) else (wrap64 (t336 - a3))) = ji40 := hji40
                            obtain ⟨ji41, hji41⟩ : ∃ j_ : Int, (mx (wrap64 (x10_3 - a3)) (wrap64 (a3 - x10_3))) = j_ := ⟨_, rfl⟩
                            replace H : (if (ji40) < (ji41) then (spec_NearDay.l1 k3 a0 a1 a2 a3 t336 x13_2 (wrap64 (x14_3 + 1)) t329 t330 t331 t332 t333) else (spec_NearDay.l1 k3 a0 a1 a2 a3 x10_3 x13_2 (wrap64 (x14_3 + 1)) t329 t330 t331 t332 t333)) = some (r1, r2) := by first | (rw [hji41] at H; exact H) | (simp only [hji41] at H ⊢; exact H)
                            (try rw [hji41] at A23)
                            (try rw [hji41] at A36)
                            have hji41_ : (if (wrap64 (x10_3 - a3)) < (wrap64 (a3 - x10_3)) then (wrap64 (a3 - x10_3)) else (wrap64 (x10_3 - a3))) = ji41 := hji41
                            by_cases c42 : (ji40) < (ji41)
                            · rw [if_pos c42] at H
                              have c42b0 : decide ((ji40) < (ji41)) = true := decide_eq_true c42
                              clear c42
                              have H' := Aside0.mk H
                              clear H
                              go_wp2_with (first | ((with_reducible refine gate_callee (f := 46) rfl ?_); refine goesL_ (some 70) rfl rfl Try.func46 (by kernel_rfl) rfl #[.agg #[.int .i64 x13_2, .int .i64 x14_3, .int .i64 a0, .int .i64 (Int.tmod a1 24), .int .i64 a2]] rfl (by (try simp only [List.map_toArray, List.map_cons, List.map_nil]); first | done | rfl | (simp only [List.length_drop, List.length_take]; rfl)) ?_; (with_reducible refine (spec_TimeOf.calls k3 x13_2 x14_3 a0 (Int.tmod a1 24) a2 t336 true _ A23.out).mono ?_); rintro e w43 ⟨rfl, hb⟩; refine ⟨_, rfl, ?_⟩; have n0_ := Aside0.mk (blk_below (g := gb335) (o := .cells #[.int .i64 t329, .int .i64 t330, .int .i64 t331, .int .i64 t332, .int .i64 t333] 70 (0, 0)) (by (with_reducible repeat (first | refine blk_drewN ?_ _ | refine blk_drew ?_ | refine blk_alloc ?_ _)); exact BK335.out) hb); have n1_ := Aside0.mk (below_step (by repeat (first | (with_reducible first | exact HB.out | apply below_alloc | apply pw_below_drewN | apply below_drew1 | refine below_set ?_ GE335.out) | exact HB.out)) hb); clear BK335; clear HB; have BK335 := n0_; have HB := n1_; clear n0_ n1_; (try clear hb); (try clear hb2); (try clear hk); (try clear hi)) | ((with_reducible refine gate_callee (f := 44) rfl ?_); refine goesL_ (some 80) rfl rfl Try.func44 (by kernel_rfl) rfl #[.int .i64 t336] rfl (by (try simp only [List.map_toArray, List.map_cons, List.map_nil]); first | done | rfl | (simp only [List.length_drop, List.length_take]; rfl)) ?_; (with_reducible refine (spec_l2Time.calls t336 true _ A36.out).mono ?_); rintro e w' ⟨rfl, ⟨nd, rfl⟩⟩; refine ⟨_, rfl, ?_⟩))
                              go_roundg k3
                              case measure => have := HJ4.out; have := HK2.out; have := HK3.out; omega
                              case rel => exact ⟨(t336), (wrap64 (x14_3 + 1)), (by first | rfl | (simp; done) | (simp [*]; done)), (by first | rfl | (simp; done) | (simp [*]; done)), H', ⟨by have := HJ4.out; have := HK2.out; have := HK3.out; omega⟩, ⟨by (with_reducible repeat (first | refine blk_drewN ?_ _ | refine blk_drew ?_ | refine blk_alloc ?_ _)); exact BK335.out⟩, ⟨by repeat (first | (with_reducible first | exact HB.out | apply below_alloc | apply pw_below_drewN | apply below_drew1 | refine below_set ?_ GE335.out) | exact HB.out)⟩⟩
                            · rw [if_neg c42] at H
                              have c42b0 : decide ((ji40) < (ji41)) = false := decide_eq_false c42
                              clear c42
                              have H' := Aside0.mk H
                              clear H
                              go_wp2_with (first | ((with_reducible refine gate_callee (f := 46) rfl ?_); refine goesL_ (some 70) rfl rfl Try.func46 (by kernel_rfl) rfl #[.agg #[.int .i64 x13_2, .int .i64 x14_3, .int .i64 a0, .int .i64 (Int.tmod a1 24), .int .i64 a2]] rfl (by (try simp only [List.map_toArray, List.map_cons, List.map_nil]); first | done | rfl | (simp only [List.length_drop, List.length_take]; rfl)) ?_; (with_reducible refine (spec_TimeOf.calls k3 x13_2 x14_3 a0 (Int.tmod a1 24) a2 t336 true _ A23.out).mono ?_); rintro e w44 ⟨rfl, hb⟩; refine ⟨_, rfl, ?_⟩; have n0_ := Aside0.mk (blk_below (g := gb335) (o := .cells #[.int .i64 t329, .int .i64 t330, .int .i64 t331, .int .i64 t332, .int .i64 t333] 70 (0, 0)) (by (with_reducible repeat (first | refine blk_drewN ?_ _ | refine blk_drew ?_ | refine blk_alloc ?_ _)); exact BK335.out) hb); have n1_ := Aside0.mk (below_step (by repeat (first | (with_reducible first | exact HB.out | apply below_alloc | apply pw_below_drewN | apply below_drew1 | refine below_set ?_ GE335.out) | exact HB.out)) hb); clear BK335; clear HB; have BK335 := n0_; have HB := n1_; clear n0_ n1_; (try clear hb); (try clear hb2); (try clear hk); (try clear hi)) | ((with_reducible refine gate_callee (f := 44) rfl ?_); refine goesL_ (some 80) rfl rfl Try.func44 (by kernel_rfl) rfl #[.int .i64 t336] rfl (by (try simp only [List.map_toArray, List.map_cons, List.map_nil]); first | done | rfl | (simp only [List.length_drop, List.length_take]; rfl)) ?_; (with_reducible refine (spec_l2Time.calls t336 true _ A36.out).mono ?_); rintro e w' ⟨rfl, ⟨nd, rfl⟩⟩; refine ⟨_, rfl, ?_⟩))
                              go_roundg k3
                              case measure => have := HJ4.out; have := HK2.out; have := HK3.out; omega
                              case rel => exact ⟨(x10_3), (wrap64 (x14_3 + 1)), (by first | rfl | (simp; done) | (simp [*]; done)), (by first | rfl | (simp; done) | (simp [*]; done)), H', ⟨by have := HJ4.out; have := HK2.out; have := HK3.out; omega⟩, ⟨by (with_reducible repeat (first | refine blk_drewN ?_ _ | refine blk_drew ?_ | refine blk_alloc ?_ _)); exact BK335.out⟩, ⟨by repeat (first | (with_reducible first | exact HB.out | apply below_alloc | apply pw_below_drewN | apply below_drew1 | refine below_set ?_ GE335.out) | exact HB.out)⟩⟩
                        · replace c37 := Bool.eq_false_iff.mpr c37
                          subst c37
                          have H1 : (spec_NearDay.l1 k3 a0 a1 a2 a3 x10_3 x13_2 (wrap64 (x14_3 + 1)) t329 t330 t331 t332 t333) = some (r1, r2) := by rw [if_neg (show ¬ (false = true) by decide)] at H; exact H
                          clear H
                          have H := H1
                          clear H1
                          have H' := Aside0.mk H
                          clear H
                          go_wp2_with (first | ((with_reducible refine gate_callee (f := 46) rfl ?_); refine goesL_ (some 70) rfl rfl Try.func46 (by kernel_rfl) rfl #[.agg #[.int .i64 x13_2, .int .i64 x14_3, .int .i64 a0, .int .i64 (Int.tmod a1 24), .int .i64 a2]] rfl (by (try simp only [List.map_toArray, List.map_cons, List.map_nil]); first | done | rfl | (simp only [List.length_drop, List.length_take]; rfl)) ?_; (with_reducible refine (spec_TimeOf.calls k3 x13_2 x14_3 a0 (Int.tmod a1 24) a2 t336 true _ A23.out).mono ?_); rintro e w45 ⟨rfl, hb⟩; refine ⟨_, rfl, ?_⟩; have n0_ := Aside0.mk (blk_below (g := gb335) (o := .cells #[.int .i64 t329, .int .i64 t330, .int .i64 t331, .int .i64 t332, .int .i64 t333] 70 (0, 0)) (by (with_reducible repeat (first | refine blk_drewN ?_ _ | refine blk_drew ?_ | refine blk_alloc ?_ _)); exact BK335.out) hb); have n1_ := Aside0.mk (below_step (by repeat (first | (with_reducible first | exact HB.out | apply below_alloc | apply pw_below_drewN | apply below_drew1 | refine below_set ?_ GE335.out) | exact HB.out)) hb); clear BK335; clear HB; have BK335 := n0_; have HB := n1_; clear n0_ n1_; (try clear hb); (try clear hb2); (try clear hk); (try clear hi)) | ((with_reducible refine gate_callee (f := 44) rfl ?_); refine goesL_ (some 80) rfl rfl Try.func44 (by kernel_rfl) rfl #[.int .i64 t336] rfl (by (try simp only [List.map_toArray, List.map_cons, List.map_nil]); first | done | rfl | (simp only [List.length_drop, List.length_take]; rfl)) ?_; (with_reducible refine (spec_l2Time.calls t336 false _ A36.out).mono ?_); rintro e w' ⟨rfl, ⟨nd, rfl⟩⟩; refine ⟨_, rfl, ?_⟩))
                          go_roundg k3
                          case measure => have := HJ4.out; have := HK2.out; have := HK3.out; omega
                          case rel => exact ⟨(x10_3), (wrap64 (x14_3 + 1)), (by first | rfl | (simp; done) | (simp [*]; done)), (by first | rfl | (simp; done) | (simp [*]; done)), H', ⟨by have := HJ4.out; have := HK2.out; have := HK3.out; omega⟩, ⟨by (with_reducible repeat (first | refine blk_drewN ?_ _ | refine blk_drew ?_ | refine blk_alloc ?_ _)); exact BK335.out⟩, ⟨by repeat (first | (with_reducible first | exact HB.out | apply below_alloc | apply pw_below_drewN | apply below_drew1 | refine below_set ?_ GE335.out) | exact HB.out)⟩⟩
                    · replace c24 := Bool.eq_false_iff.mpr c24
                      subst c24
                      have H1 : (spec_NearDay.l1 k3 a0 a1 a2 a3 x10_3 x13_2 (wrap64 (x14_3 + 1)) t329 t330 t331 t332 t333) = some (r1, r2) := by rw [if_neg (show ¬ (false = true) by decide)] at H; exact H
                      clear H
                      have H := H1
                      clear H1
                      have H' := Aside0.mk H
                      clear H
                      go_wp2_with (first | ((with_reducible refine gate_callee (f := 46) rfl ?_); refine goesL_ (some 70) rfl rfl Try.func46 (by kernel_rfl) rfl #[.agg #[.int .i64 x13_2, .int .i64 x14_3, .int .i64 a0, .int .i64 (Int.tmod a1 24), .int .i64 a2]] rfl (by (try simp only [List.map_toArray, List.map_cons, List.map_nil]); first | done | rfl | (simp only [List.length_drop, List.length_take]; rfl)) ?_; (with_reducible refine (spec_TimeOf.calls k3 x13_2 x14_3 a0 (Int.tmod a1 24) a2 t336 false _ A23.out).mono ?_); rintro e w46 ⟨rfl, hb⟩; refine ⟨_, rfl, ?_⟩; have n0_ := Aside0.mk (blk_below (g := gb335) (o := .cells #[.int .i64 t329, .int .i64 t330, .int .i64 t331, .int .i64 t332, .int .i64 t333] 70 (0, 0)) (by (with_reducible repeat (first | refine blk_drewN ?_ _ | refine blk_drew ?_ | refine blk_alloc ?_ _)); exact BK335.out) hb); have n1_ := Aside0.mk (below_step (by repeat (first | (with_reducible first | exact HB.out | apply below_alloc | apply pw_below_drewN | apply below_drew1 | refine below_set ?_ GE335.out) | exact HB.out)) hb); clear BK335; clear HB; have BK335 := n0_; have HB := n1_; clear n0_ n1_; (try clear hb); (try clear hb2); (try clear hk); (try clear hi)))
                      go_roundg k3
                      case measure => have := HJ4.out; have := HK2.out; have := HK3.out; omega
                      case rel => exact ⟨(x10_3), (wrap64 (x14_3 + 1)), (by first | rfl | (simp; done) | (simp [*]; done)), (by first | rfl | (simp; done) | (simp [*]; done)), H', ⟨by have := HJ4.out; have := HK2.out; have := HK3.out; omega⟩, ⟨by (with_reducible repeat (first | refine blk_drewN ?_ _ | refine blk_drew ?_ | refine blk_alloc ?_ _)); exact BK335.out⟩, ⟨by repeat (first | (with_reducible first | exact HB.out | apply below_alloc | apply pw_below_drewN | apply below_drew1 | refine below_set ?_ GE335.out) | exact HB.out)⟩⟩
                  · rw [if_neg c22] at H
                    have c22b0 : decide (x14_3 ≤ 12) = false := decide_eq_false c22
                    clear c22
                    have H' := Aside0.mk H
                    clear H
                    go_wp2
                    go_roundg k3
                    case measure => have := HJ4.out; have := HK2.out; have := HK3.out; omega
                    case rel => exact ⟨(x10_3), (wrap64 (x13_2 + 1)), (by first | rfl | (simp; done) | (simp [*]; done)), (by first | rfl | (simp; done) | (simp [*]; done)), H', ⟨by have := HJ4.out; have := HK2.out; have := HK3.out; omega⟩, ⟨by (with_reducible repeat (first | refine blk_drewN ?_ _ | refine blk_drew ?_ | refine blk_alloc ?_ _)); exact BK335.out⟩, ⟨by repeat (first | (with_reducible first | exact HB.out | apply below_alloc | apply pw_below_drewN | apply below_drew1 | refine below_set ?_ GE335.out) | exact HB.out)⟩⟩
            · rw [if_neg c20] at H
              have c20b0 : decide (x13_2 ≤ (wrap64 (t329 + 1))) = false := decide_eq_false c20
              clear c20
              by_cases c47 : x10_2 < 0
              · rw [if_pos c47] at H
                have c47b0 : decide (x10_2 < 0) = true := decide_eq_true c47
                clear c47
                simp only [Option.some.injEq, Prod.mk.injEq] at H
                obtain ⟨rfl, rfl⟩ := H
                have hcz48_0 : wr.cell? ⟨gb335, 0, none⟩ = some (.int .i64 t329) := (blk_cell BK335.out 0).trans rfl
                have hcz48_1 : wr.cell? ⟨gb335, 1, none⟩ = some (.int .i64 t330) := (blk_cell BK335.out 1).trans rfl
                have hcz48_2 : wr.cell? ⟨gb335, 2, none⟩ = some (.int .i64 t331) := (blk_cell BK335.out 2).trans rfl
                have hcz48_3 : wr.cell? ⟨gb335, 3, none⟩ = some (.int .i64 t332) := (blk_cell BK335.out 3).trans rfl
                have hcz48_4 : wr.cell? ⟨gb335, 4, none⟩ = some (.int .i64 t333) := (blk_cell BK335.out 4).trans rfl
                have hfz48_0 := blk_frozen BK335.out 0
                have hfz48_1 := blk_frozen BK335.out 1
                have hfz48_2 := blk_frozen BK335.out 2
                have hfz48_3 := blk_frozen BK335.out 3
                have hfz48_4 := blk_frozen BK335.out 4
                go_wp2
                go_ret2
                exact ⟨by first | rfl | (simp [errW_none, errW_some] <;> rfl) | (simp [*, errW_none, errW_some] <;> rfl), by repeat (first | (with_reducible first | exact HB.out | apply below_alloc | apply pw_below_drewN | apply below_drew1 | refine below_set ?_ GE335.out) | exact HB.out)⟩
              · rw [if_neg c47] at H
                have c47b0 : decide (x10_2 < 0) = false := decide_eq_false c47
                clear c47
                simp only [Option.some.injEq, Prod.mk.injEq] at H
                obtain ⟨rfl, rfl⟩ := H
                have hcz49_0 : wr.cell? ⟨gb335, 0, none⟩ = some (.int .i64 t329) := (blk_cell BK335.out 0).trans rfl
                have hcz49_1 : wr.cell? ⟨gb335, 1, none⟩ = some (.int .i64 t330) := (blk_cell BK335.out 1).trans rfl
                have hcz49_2 : wr.cell? ⟨gb335, 2, none⟩ = some (.int .i64 t331) := (blk_cell BK335.out 2).trans rfl
                have hcz49_3 : wr.cell? ⟨gb335, 3, none⟩ = some (.int .i64 t332) := (blk_cell BK335.out 3).trans rfl
                have hcz49_4 : wr.cell? ⟨gb335, 4, none⟩ = some (.int .i64 t333) := (blk_cell BK335.out 4).trans rfl
                have hfz49_0 := blk_frozen BK335.out 0
                have hfz49_1 := blk_frozen BK335.out 1
                have hfz49_2 := blk_frozen BK335.out 2
                have hfz49_3 := blk_frozen BK335.out 3
                have hfz49_4 := blk_frozen BK335.out 4
                go_wp2
                go_ret2
                exact ⟨by first | rfl | (simp [errW_none, errW_some] <;> rfl) | (simp [*, errW_none, errW_some] <;> rfl), by repeat (first | (with_reducible first | exact HB.out | apply below_alloc | apply pw_below_drewN | apply below_drew1 | refine below_set ?_ GE335.out) | exact HB.out)⟩

end Go.Proofs.Ytmndffnjejgfoaa.Q
