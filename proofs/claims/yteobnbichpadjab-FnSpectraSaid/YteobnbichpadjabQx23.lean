/- Plain Lean functions with the same answers as the Go functions of this seat, and a proof for each that the Go code comes to just these answers; no condition. Written by a program of this session (the kit's printer, turned). -/
import Derived.Test.YteobnbichpadjabQx0
import Derived.Test.YteobnbichpadjabQx19
import Derived.Test.YteobnbichpadjabQx21
import Derived.Test.YteobnbichpadjabQx22
namespace Go.Proofs.Yteobnbichpadjab.Q
open Go.RowKit Go.Proofs.YteobnbichpadjabW.PrintWords Go.Proofs.YteobnbichpadjabW.PrintLast Go.Proofs.YteobnbichpadjabW.PrintMore
attribute [local go_sem] max2_int min2_int max_two min_two max_three min_three max_four min_four   -- for this text's walks alone
set_option linter.unusedVariables false
set_option linter.unusedSimpArgs false

/-! ### impl_Spectrum: function 21 -/
def impl_Spectrum.f (k : Nat) (l0 : List Int) : Option (List Int × Bool) := (impl_residues.f k l0).bind fun t572 => (if t572 = true then (if (l0.length : Int) = 0 then (none) else ((impl_powMod.f k 3 ((65536 : Int) / (l0.length : Int))).bind fun t573 => ((impl_spectrum.f k l0 t573).bind fun t574 => (some (t574, true))))) else (some (([] : List Int), false)))
theorem impl_Spectrum.mono : ∀ a0 k, LeO (impl_Spectrum.f k a0) (impl_Spectrum.f (k + 1) a0) := by
  intro a0 k
  unfold impl_Spectrum.f
  repeat' first
      | (with_reducible exact impl_powMod.mono _ _ _)
      | (with_reducible exact impl_residues.mono _ _)
      | (with_reducible exact impl_spectrum.mono _ _ _)
      | (with_reducible exact LeO.refl _)
      | (with_reducible exact LeO.none _)
      | (with_reducible refine LeO.ite ?_ ?_)
      | (with_reducible refine LeO.bind ?_ (fun _ => ?_))
      | exact impl_powMod.mono _ _ _
      | exact impl_residues.mono _ _
      | exact impl_spectrum.mono _ _ _
      | exact LeO.none _
      | refine LeO.ite ?_ ?_
      | refine LeO.bind ?_ (fun _ => ?_)
set_option maxHeartbeats 8000000 in
set_option maxRecDepth 100000 in
theorem impl_Spectrum.calls (k : Nat) (A0 : Option Addr) (c0 : Nat) (l0 : List Int) (r1 : List Int) (r2 : Bool) (w : World) (hr0 : Kd.C (Kd.int .i64) w A0 l0.length l0) (hc0 : l0.length ≤ c0) (h : impl_Spectrum.f k l0 = some (r1, r2)) :
    Calls Try.prog 21 #[.slice A0 l0.length c0] w fun e w' => ∃ v0_ : Value, e = .returned (.tuple #[v0_, .bool r2]) ∧ Kd.R (Kd.int .i64) 2 w' w.heap.size (fun _ => True) v0_ r1 ∧ Below w.heap.size w w' := by
  have HR0 := Aside0.mk hr0
  have HC0 := Aside0.mk hc0
  clear hr0 hc0
  have HB := Aside0.mk (Below.refl w.heap.size w)
  have H : ((impl_residues.f k l0).bind fun t572 => (if t572 = true then (if (l0.length : Int) = 0 then (none) else ((impl_powMod.f k 3 ((65536 : Int) / (l0.length : Int))).bind fun t573 => ((impl_spectrum.f k l0 t573).bind fun t574 => (some (t574, true))))) else (some (([] : List Int), false)))) = some (r1, r2) := h
  clear h
  replace H := Option.bind_eq_some_iff.mp H
  obtain ⟨t572, A20, H⟩ := H
  replace H : (if t572 = true then (if (l0.length : Int) = 0 then (none) else ((impl_powMod.f k 3 ((65536 : Int) / (l0.length : Int))).bind fun t573 => ((impl_spectrum.f k l0 t573).bind fun t574 => (some (t574, true))))) else (some (([] : List Int), false))) = some (r1, r2) := H
  have A2 := Aside0.mk A20
  clear A20
  by_cases c3 : t572 = true
  · subst c3
    have H1 : (if (l0.length : Int) = 0 then (none) else ((impl_powMod.f k 3 ((65536 : Int) / (l0.length : Int))).bind fun t573 => ((impl_spectrum.f k l0 t573).bind fun t574 => (some (t574, true))))) = some (r1, r2) := by rw [if_pos rfl] at H; exact H
    clear H
    have H := H1
    clear H1
    by_cases c4 : (l0.length : Int) = 0
    · rw [if_pos c4] at H
      exact absurd H (by simp)
    · rw [if_neg c4] at H
      have c4b0 : ((l0.length : Int) == 0) = false := beq_eq_false_iff_ne.mpr c4
      have c4b1 : ((l0.length : Int) != 0) = true := bne_iff_ne.mpr c4
      have c4b2 : ¬ (l0 = []) := fun h_ => c4 (by rw [h_]; rfl)
      replace H := Option.bind_eq_some_iff.mp H
      obtain ⟨t573, A50, H⟩ := H
      replace H : ((impl_spectrum.f k l0 t573).bind fun t574 => (some (t574, true))) = some (r1, r2) := H
      have A5 := Aside0.mk A50
      clear A50
      replace H := Option.bind_eq_some_iff.mp H
      obtain ⟨t574, A60, H⟩ := H
      replace H : (some (t574, true)) = some (r1, r2) := H
      have A6 := Aside0.mk A60
      clear A60
      simp only [Option.some.injEq, Prod.mk.injEq] at H
      obtain ⟨rfl, rfl⟩ := H
      go_enter Try.func21, Try.ntmps21
      go_wp2_with (first | ((with_reducible refine gate_callee (f := 54) rfl ?_); refine goesL_ (some 5) rfl rfl Try.func54 (by kernel_rfl) rfl #[.slice A0 l0.length c0] rfl (by (try simp only [List.map_toArray, List.map_cons, List.map_nil]); first | done | rfl | (simp only [List.length_drop, List.length_take]; rfl)) ?_; (with_reducible refine (impl_residues.calls k _ _ l0 true _ ?side1 ?side2 A2.out).mono ?_); (case side1 => repeat (first | exact HR0.out | (with_reducible refine Kd.C_alloc ?_ _) | (with_reducible refine Kd.C_drewN ?_ _) | (with_reducible refine Kd.C_drew ?_))); (case side2 => exact HC0.out); rintro e w' ⟨rfl, ⟨nd, rfl⟩⟩; refine ⟨_, rfl, ?_⟩) | ((with_reducible refine gate_callee (f := 56) rfl ?_); refine goesL_ (some 11) rfl rfl Try.func56 (by kernel_rfl) rfl #[.int .i64 3, .int .i64 ((65536 : Int) / (l0.length : Int))] rfl (by (try simp only [List.map_toArray, List.map_cons, List.map_nil]); first | done | rfl | (simp only [List.length_drop, List.length_take]; rfl)) ?_; (with_reducible refine (impl_powMod.calls k 3 ((65536 : Int) / (l0.length : Int)) t573 _ A5.out).mono ?_); rintro e w' ⟨rfl, ⟨nd, rfl⟩⟩; refine ⟨_, rfl, ?_⟩) | ((with_reducible refine gate_callee (f := 55) rfl ?_); refine goesL_ (some 12) rfl rfl Try.func55 (by kernel_rfl) rfl #[.slice A0 l0.length c0, .int .i64 t573] rfl (by (try simp only [List.map_toArray, List.map_cons, List.map_nil]); first | done | rfl | (simp only [List.length_drop, List.length_take]; rfl)) ?_; (with_reducible refine (impl_spectrum.calls k _ _ l0 t573 t574 _ ?side1 ?side2 A6.out).mono ?_); (case side1 => repeat (first | exact HR0.out | (with_reducible refine Kd.C_alloc ?_ _) | (with_reducible refine Kd.C_drewN ?_ _) | (with_reducible refine Kd.C_drew ?_))); (case side2 => exact HC0.out); rintro e w7 ⟨v575, rfl, ho0, hb⟩; refine ⟨_, rfl, ?_⟩; have n0_ := Aside0.mk (Kd.R_lower ho0 (below_size (by repeat (first | (with_reducible first | exact HB.out | apply below_alloc | apply pw_below_drewN | apply below_drew1) | exact HB.out)))); have n1_ := Aside0.mk (below_step (by repeat (first | (with_reducible first | exact HB.out | apply below_alloc | apply pw_below_drewN | apply below_drew1) | exact HB.out)) hb); clear HB; have HO576 := n0_; have HB := n1_; clear n0_ n1_; (try clear hb); (try clear hb2); (try clear hk); (try clear hi); (try clear ho0)))
      go_ret2
      exact ⟨_, by first | rfl | (simp [errW_none, errW_some] <;> rfl) | (simp [*, errW_none, errW_some] <;> rfl), by (with_reducible repeat (first | apply Kd.R_alloc | apply Kd.R_drewN | apply Kd.R_drew)); exact HO576.out, by repeat (first | (with_reducible first | exact HB.out | apply below_alloc | apply pw_below_drewN | apply below_drew1) | exact HB.out)⟩
  · replace c3 := Bool.eq_false_iff.mpr c3
    subst c3
    have H1 : (some (([] : List Int), false)) = some (r1, r2) := by rw [if_neg (show ¬ (false = true) by decide)] at H; exact H
    clear H
    have H := H1
    clear H1
    simp only [Option.some.injEq, Prod.mk.injEq] at H
    obtain ⟨rfl, rfl⟩ := H
    go_enter Try.func21, Try.ntmps21
    go_wp2_with (first | ((with_reducible refine gate_callee (f := 54) rfl ?_); refine goesL_ (some 5) rfl rfl Try.func54 (by kernel_rfl) rfl #[.slice A0 l0.length c0] rfl (by (try simp only [List.map_toArray, List.map_cons, List.map_nil]); first | done | rfl | (simp only [List.length_drop, List.length_take]; rfl)) ?_; (with_reducible refine (impl_residues.calls k _ _ l0 false _ ?side1 ?side2 A2.out).mono ?_); (case side1 => repeat (first | exact HR0.out | (with_reducible refine Kd.C_alloc ?_ _) | (with_reducible refine Kd.C_drewN ?_ _) | (with_reducible refine Kd.C_drew ?_))); (case side2 => exact HC0.out); rintro e w' ⟨rfl, ⟨nd, rfl⟩⟩; refine ⟨_, rfl, ?_⟩))
    go_ret2
    exact ⟨_, by first | rfl | (simp [errW_none, errW_some] <;> rfl) | (simp [*, errW_none, errW_some] <;> rfl), by first | exact Kd.R_nil _ _ _ _ _ | exact Kd.N_nil _ _ _ _ _ | exact Kd.V_nil _ _ _ _ _ | exact Kd.Q_nil _ _ _ _ _ | exact Kd.S_nil _ _ _ _ _, by repeat (first | (with_reducible first | exact HB.out | apply below_alloc | apply pw_below_drewN | apply below_drew1) | exact HB.out)⟩

/-! ### impl_Unspectrum: function 22 -/
def impl_Unspectrum.l0 : Nat → List Int → Int → Int → Int → Option (List Int × Bool)
  | 0, _, _, _, _ => none
  | k + 1, x5, x6, x22, x23 => if x23 < x22 then (if 0 ≤ x23 then (if x23 < (x5.length : Int) then (impl_Unspectrum.l0 k (x5.set (x23 : Int).toNat (Int.tmod (wrap64 ((rd x5 x23) * x6)) 65537)) x6 x22 (wrap64 (x23 + 1))) else (none)) else (none)) else (some (x5, true))
def impl_Unspectrum.f (k : Nat) (l0 : List Int) : Option (List Int × Bool) := (impl_residues.f k l0).bind fun t577 => (if t577 = true then (if (l0.length : Int) = 0 then (none) else ((impl_powMod.f k 3 ((65536 : Int) / (l0.length : Int))).bind fun t578 => ((impl_powMod.f k t578 65535).bind fun t579 => ((impl_spectrum.f k l0 t579).bind fun t580 => ((impl_powMod.f k (l0.length : Int) 65535).bind fun t583 => (impl_Unspectrum.l0 k t580 t583 (t580.length : Int) 0)))))) else (some (([] : List Int), false)))
theorem impl_Unspectrum.mono_l : ∀ k, (∀ y0 y1 y2 y3, LeO (impl_Unspectrum.l0 k y0 y1 y2 y3) (impl_Unspectrum.l0 (k + 1) y0 y1 y2 y3))
  | 0 => fun _ _ _ _ r h => by simp [impl_Unspectrum.l0] at h
  | k + 1 => by
    have ih0 := impl_Unspectrum.mono_l k
    · intro y0 y1 y2 y3
      unfold impl_Unspectrum.l0
      repeat' first
      | (with_reducible exact ih0 _ _ _ _)
      | (with_reducible exact impl_powMod.mono _ _ _)
      | (with_reducible exact impl_residues.mono _ _)
      | (with_reducible exact impl_spectrum.mono _ _ _)
      | (with_reducible exact LeO.refl _)
      | (with_reducible exact LeO.none _)
      | (with_reducible refine LeO.ite ?_ ?_)
      | (with_reducible refine LeO.bind ?_ (fun _ => ?_))
      | exact ih0 _ _ _ _
      | exact impl_powMod.mono _ _ _
      | exact impl_residues.mono _ _
      | exact impl_spectrum.mono _ _ _
      | exact LeO.none _
      | refine LeO.ite ?_ ?_
      | refine LeO.bind ?_ (fun _ => ?_)
theorem impl_Unspectrum.mono : ∀ a0 k, LeO (impl_Unspectrum.f k a0) (impl_Unspectrum.f (k + 1) a0) := by
  intro a0 k
  have ih0 := impl_Unspectrum.mono_l k
  unfold impl_Unspectrum.f
  repeat' first
      | (with_reducible exact ih0 _ _ _ _)
      | (with_reducible exact impl_powMod.mono _ _ _)
      | (with_reducible exact impl_residues.mono _ _)
      | (with_reducible exact impl_spectrum.mono _ _ _)
      | (with_reducible exact LeO.refl _)
      | (with_reducible exact LeO.none _)
      | (with_reducible refine LeO.ite ?_ ?_)
      | (with_reducible refine LeO.bind ?_ (fun _ => ?_))
      | exact ih0 _ _ _ _
      | exact impl_powMod.mono _ _ _
      | exact impl_residues.mono _ _
      | exact impl_spectrum.mono _ _ _
      | exact LeO.none _
      | refine LeO.ite ?_ ?_
      | refine LeO.bind ?_ (fun _ => ?_)
set_option maxHeartbeats 8000000 in
set_option maxRecDepth 100000 in
theorem impl_Unspectrum.calls (k : Nat) (A0 : Option Addr) (c0 : Nat) (l0 : List Int) (r1 : List Int) (r2 : Bool) (w : World) (hr0 : Kd.C (Kd.int .i64) w A0 l0.length l0) (hc0 : l0.length ≤ c0) (h : impl_Unspectrum.f k l0 = some (r1, r2)) :
    Calls Try.prog 22 #[.slice A0 l0.length c0] w fun e w' => ∃ v0_ : Value, e = .returned (.tuple #[v0_, .bool r2]) ∧ Kd.R (Kd.int .i64) 2 w' w.heap.size (fun _ => True) v0_ r1 ∧ Below w.heap.size w w' := by
  have HR0 := Aside0.mk hr0
  have HC0 := Aside0.mk hc0
  clear hr0 hc0
  have HB := Aside0.mk (Below.refl w.heap.size w)
  have H : ((impl_residues.f k l0).bind fun t577 => (if t577 = true then (if (l0.length : Int) = 0 then (none) else ((impl_powMod.f k 3 ((65536 : Int) / (l0.length : Int))).bind fun t578 => ((impl_powMod.f k t578 65535).bind fun t579 => ((impl_spectrum.f k l0 t579).bind fun t580 => ((impl_powMod.f k (l0.length : Int) 65535).bind fun t583 => (impl_Unspectrum.l0 k t580 t583 (t580.length : Int) 0)))))) else (some (([] : List Int), false)))) = some (r1, r2) := h
  clear h
  replace H := Option.bind_eq_some_iff.mp H
  obtain ⟨t577, A20, H⟩ := H
  replace H : (if t577 = true then (if (l0.length : Int) = 0 then (none) else ((impl_powMod.f k 3 ((65536 : Int) / (l0.length : Int))).bind fun t578 => ((impl_powMod.f k t578 65535).bind fun t579 => ((impl_spectrum.f k l0 t579).bind fun t580 => ((impl_powMod.f k (l0.length : Int) 65535).bind fun t583 => (impl_Unspectrum.l0 k t580 t583 (t580.length : Int) 0)))))) else (some (([] : List Int), false))) = some (r1, r2) := H
  have A2 := Aside0.mk A20
  clear A20
  by_cases c3 : t577 = true
  · subst c3
    have H1 : (if (l0.length : Int) = 0 then (none) else ((impl_powMod.f k 3 ((65536 : Int) / (l0.length : Int))).bind fun t578 => ((impl_powMod.f k t578 65535).bind fun t579 => ((impl_spectrum.f k l0 t579).bind fun t580 => ((impl_powMod.f k (l0.length : Int) 65535).bind fun t583 => (impl_Unspectrum.l0 k t580 t583 (t580.length : Int) 0)))))) = some (r1, r2) := by rw [if_pos rfl] at H; exact H
    clear H
    have H := H1
    clear H1
    by_cases c4 : (l0.length : Int) = 0
    · rw [if_pos c4] at H
      exact absurd H (by simp)
    · rw [if_neg c4] at H
      have c4b0 : ((l0.length : Int) == 0) = false := beq_eq_false_iff_ne.mpr c4
      have c4b1 : ((l0.length : Int) != 0) = true := bne_iff_ne.mpr c4
      have c4b2 : ¬ (l0 = []) := fun h_ => c4 (by rw [h_]; rfl)
      replace H := Option.bind_eq_some_iff.mp H
      obtain ⟨t578, A50, H⟩ := H
      replace H : ((impl_powMod.f k t578 65535).bind fun t579 => ((impl_spectrum.f k l0 t579).bind fun t580 => ((impl_powMod.f k (l0.length : Int) 65535).bind fun t583 => (impl_Unspectrum.l0 k t580 t583 (t580.length : Int) 0)))) = some (r1, r2) := H
      have A5 := Aside0.mk A50
      clear A50
      replace H := Option.bind_eq_some_iff.mp H
      obtain ⟨t579, A60, H⟩ := H
      replace H : ((impl_spectrum.f k l0 t579).bind fun t580 => ((impl_powMod.f k (l0.length : Int) 65535).bind fun t583 => (impl_Unspectrum.l0 k t580 t583 (t580.length : Int) 0))) = some (r1, r2) := H
      have A6 := Aside0.mk A60
      clear A60
      replace H := Option.bind_eq_some_iff.mp H
      obtain ⟨t580, A70, H⟩ := H
      replace H : ((impl_powMod.f k (l0.length : Int) 65535).bind fun t583 => (impl_Unspectrum.l0 k t580 t583 (t580.length : Int) 0)) = some (r1, r2) := H
      have A7 := Aside0.mk A70
      clear A70
      replace H := Option.bind_eq_some_iff.mp H
      obtain ⟨t583, A80, H⟩ := H
      replace H : (impl_Unspectrum.l0 k t580 t583 (t580.length : Int) 0) = some (r1, r2) := H
      have A8 := Aside0.mk A80
      clear A80
      have H' := Aside0.mk H
      clear H
      go_enter Try.func22, Try.ntmps22
      go_wp2_with (first | ((with_reducible refine gate_callee (f := 54) rfl ?_); refine goesL_ (some 9) rfl rfl Try.func54 (by kernel_rfl) rfl #[.slice A0 l0.length c0] rfl (by (try simp only [List.map_toArray, List.map_cons, List.map_nil]); first | done | rfl | (simp only [List.length_drop, List.length_take]; rfl)) ?_; (with_reducible refine (impl_residues.calls k _ _ l0 true _ ?side1 ?side2 A2.out).mono ?_); (case side1 => repeat (first | exact HR0.out | (with_reducible refine Kd.C_alloc ?_ _) | (with_reducible refine Kd.C_drewN ?_ _) | (with_reducible refine Kd.C_drew ?_))); (case side2 => exact HC0.out); rintro e w' ⟨rfl, ⟨nd, rfl⟩⟩; refine ⟨_, rfl, ?_⟩) | ((with_reducible refine gate_callee (f := 56) rfl ?_); refine goesL_ (some 16) rfl rfl Try.func56 (by kernel_rfl) rfl #[.int .i64 3, .int .i64 ((65536 : Int) / (l0.length : Int))] rfl (by (try simp only [List.map_toArray, List.map_cons, List.map_nil]); first | done | rfl | (simp only [List.length_drop, List.length_take]; rfl)) ?_; (with_reducible refine (impl_powMod.calls k 3 ((65536 : Int) / (l0.length : Int)) t578 _ A5.out).mono ?_); rintro e w' ⟨rfl, ⟨nd, rfl⟩⟩; refine ⟨_, rfl, ?_⟩) | ((with_reducible refine gate_callee (f := 56) rfl ?_); refine goesL_ (some 17) rfl rfl Try.func56 (by kernel_rfl) rfl #[.int .i64 t578, .int .i64 65535] rfl (by (try simp only [List.map_toArray, List.map_cons, List.map_nil]); first | done | rfl | (simp only [List.length_drop, List.length_take]; rfl)) ?_; (with_reducible refine (impl_powMod.calls k t578 65535 t579 _ A6.out).mono ?_); rintro e w' ⟨rfl, ⟨nd, rfl⟩⟩; refine ⟨_, rfl, ?_⟩) | ((with_reducible refine gate_callee (f := 55) rfl ?_); refine goesL_ (some 18) rfl rfl Try.func55 (by kernel_rfl) rfl #[.slice A0 l0.length c0, .int .i64 t579] rfl (by (try simp only [List.map_toArray, List.map_cons, List.map_nil]); first | done | rfl | (simp only [List.length_drop, List.length_take]; rfl)) ?_; (with_reducible refine (impl_spectrum.calls k _ _ l0 t579 t580 _ ?side1 ?side2 A7.out).mono ?_); (case side1 => repeat (first | exact HR0.out | (with_reducible refine Kd.C_alloc ?_ _) | (with_reducible refine Kd.C_drewN ?_ _) | (with_reducible refine Kd.C_drew ?_))); (case side2 => exact HC0.out); rintro e w9 ⟨v581, rfl, ho0, hb⟩; refine ⟨_, rfl, ?_⟩; have n0_ := Aside0.mk (Kd.R_lower ho0 (below_size (by repeat (first | (with_reducible first | exact HB.out | apply below_alloc | apply pw_below_drewN | apply below_drew1) | exact HB.out)))); have n1_ := Aside0.mk (below_step (by repeat (first | (with_reducible first | exact HB.out | apply below_alloc | apply pw_below_drewN | apply below_drew1) | exact HB.out)) hb); clear HB; have HO582 := n0_; have HB := n1_; clear n0_ n1_; (try clear hb); (try clear hb2); (try clear hk); (try clear hi); (try clear ho0)) | ((with_reducible refine gate_callee (f := 56) rfl ?_); refine goesL_ (some 20) rfl rfl Try.func56 (by kernel_rfl) rfl #[.int .i64 (l0.length : Int), .int .i64 65535] rfl (by (try simp only [List.map_toArray, List.map_cons, List.map_nil]); first | done | rfl | (simp only [List.length_drop, List.length_take]; rfl)) ?_; (with_reducible refine (impl_powMod.calls k (l0.length : Int) 65535 t583 _ A8.out).mono ?_); rintro e w' ⟨rfl, ⟨nd, rfl⟩⟩; refine ⟨_, rfl, ?_⟩; obtain ⟨Ao10, co10, eo10⟩ := Kd.R_slice HO582.out; subst eo10))
      go_loopg [23] k (fun kq v23 w' => ∃ (x5_1 : List Int) (x23_1 : Int), v23 = .int .i64 x23_1 ∧ Aside0 (impl_Unspectrum.l0 kq x5_1 t583 (t580.length : Int) x23_1 = some (r1, r2)) ∧ Aside0 (kq ≤ k) ∧ Aside0 (Kd.R (Kd.int .i64) 2 w' w.heap.size (fun _ => True) (.slice Ao10 t580.length co10) x5_1) ∧ Aside0 (Below w.heap.size w w'))
      case atStart => exact ⟨(t580), (0), (by first | rfl | (simp; done) | (simp [*]; done)), H', ⟨Nat.le_refl _⟩, ⟨by (with_reducible repeat (first | apply Kd.R_alloc | apply Kd.R_drewN | apply Kd.R_drew)); exact HO582.out⟩, ⟨by repeat (first | (with_reducible first | exact HB.out | apply below_alloc | apply pw_below_drewN | apply below_drew1) | exact HB.out)⟩⟩
      case round =>
        clear H'
        try clear c2
        try clear p2
        try clear c3
        try clear c4
        try clear c4b0
        try clear c4b1
        try clear c4b2
        try clear c5
        obtain ⟨x5_1, x23_1, rfl, HA, HK1, HO_5, HB⟩ := hrel
        have hl5_1 := (Kd.R_reads' HO_5.out).1
        rw [hl5_1] at HO_5
        (try simp only [hl5_1])
        cases gk with
        | zero => exact absurd HA.out (by simp [impl_Unspectrum.l0])
        | succ k1 =>
          have H := HA.out
          clear HA
          simp only [impl_Unspectrum.l0] at H
          by_cases c11 : x23_1 < (t580.length : Int)
          · rw [if_pos c11] at H
            have c11b0 : decide (x23_1 < (t580.length : Int)) = true := decide_eq_true c11
            (try simp only [hl5_1] at c11b0)
            clear c11
            by_cases c12 : 0 ≤ x23_1
            · rw [if_pos c12] at H
              have c12b0 : decide (0 ≤ x23_1) = true := decide_eq_true c12
              clear c12
              by_cases c13 : x23_1 < (x5_1.length : Int)
              · rw [if_pos c13] at H
                have c13b0 : decide (x23_1 < (x5_1.length : Int)) = true := decide_eq_true c13
                (try simp only [hl5_1] at c13b0)
                clear c13
                obtain ⟨y585, hy585⟩ : ∃ y_ : List Int, y_ = (x5_1.set (x23_1 : Int).toNat (Int.tmod (wrap64 ((rd x5_1 x23_1) * t583)) 65537)) := ⟨_, rfl⟩
                replace H : (impl_Unspectrum.l0 k1 y585 t583 (t580.length : Int) (wrap64 (x23_1 + 1))) = some (r1, r2) := by first | (rw [hy585]; with_reducible exact H) | (have H2_ := (Option.bind_some _ _).symm.trans H; rw [hy585]; with_reducible exact H2_) | (have H2_ := (Option.bind_some _ _).symm.trans H; with_reducible exact H2_) | with_reducible exact H | (rw [hy585]; exact H) | exact H
                have Ny585 := Aside0.mk hy585
                clear hy585
                have H' := Aside0.mk H
                clear H
                have p584 : 0 ≤ (x23_1 : Int) := of_decide_eq_true (by first | (with_reducible assumption) | assumption)
                have q584 : x23_1 < (x5_1.length : Int) := of_decide_eq_true (by first | (with_reducible assumption) | assumption)
                obtain ⟨ad584, e584, hx584_0⟩ := Kd.at_int (Kd.R_reads' HO_5.out).2.2 x23_1 p584 q584
                cases e584
                replace p584 := eq_true p584
                replace q584 := eq_true q584
                have p14 : 0 ≤ (x23_1 : Int) := of_decide_eq_true (by first | (with_reducible assumption) | assumption)
                have q14 : (x23_1 : Int) < ((x5_1.length : Int) : Int) := of_decide_eq_true (by first | (with_reducible assumption) | assumption)
                obtain ⟨go14, co14, eo14, gb14, gl14, cl14, HG14⟩ := Kd.R_form HO_5.out (by omega)
                (first | cases eo14 | (injection eo14 with ea_ en_ ec_; (first | subst ea_ | (injection ea_ with ea_; subst ea_)); subst ec_; clear en_))
                have GB14 := Aside0.mk gb14
                have GG14 := Aside0.mk HG14
                clear gb14 gl14 HG14
                (first | simp only [add_plain] at hx584_0 | skip)
                obtain ⟨hx14_0, hf14_0⟩ := Kd.R_celln 0 HO_5.out (x23_1 : Int) p14 q14
                replace p14 := eq_true p14
                replace q14 := eq_true q14
                have HP15 := Kd.R_putg HO_5.out (x23_1 : Int) (Int.tmod (wrap64 ((rd x5_1 x23_1) * t583)) 65537)
                go_wp2_with (first | ((with_reducible refine gate_store (t := 2) (p := 35) rfl ?_); refine store_event (t := 2) (p := 35) (v := ?vo_w16) (w1 := (wr.setCell ⟨go14, (x23_1 : Int).toNat, none⟩ (.int .i64 (Int.tmod (wrap64 ((rd x5_1 x23_1) * t583)) 65537)))) ?hg ?ho ?hn ?hr ?_; (case ho => rfl); (case hg => rfl); (case hn => rfl); (case hr => first | (go_simp; done) | (go_simp; rfl)); intro w16 hw; have hg : wr.grownBy w16 (some go14) := (by rw [hw]; exact HP15.2); have hp_ : Kd.R (Kd.int .i64) 2 w16 w.heap.size (fun _ => True) (.slice (some ⟨go14, 0, none⟩) x5_1.length co10) y585 := (by rw [hw, Ny585.out]; exact HP15.1); clear HP15; have n0_ := Aside0.mk (hp_); have n1_ := Aside0.mk ((by rw [hw]; exact below_set (HB.out) GB14.out : Below w.heap.size w w16)); clear HO_5; clear HB; have HO_5 := n0_; have HB := n1_; clear n0_ n1_; clear hg hw hp_))
                (try simp only [← hl5_1])
                go_roundg k1
                case measure => have := HK1.out; omega
                case rel => exact ⟨(y585), (wrap64 (x23_1 + 1)), (by first | rfl | (simp; done) | (simp [*]; done)), H', ⟨by have := HK1.out; omega⟩, ⟨by (try simp only [hl5_1]); (with_reducible repeat (first | apply Kd.R_alloc | apply Kd.R_drewN | apply Kd.R_drew)); exact HO_5.out⟩, ⟨by repeat (first | (with_reducible first | exact HB.out | apply below_alloc | apply pw_below_drewN | apply below_drew1) | exact HB.out)⟩⟩
              · rw [if_neg c13] at H
                exact absurd H (by simp)
            · rw [if_neg c12] at H
              exact absurd H (by simp)
          · rw [if_neg c11] at H
            have c11b0 : decide (x23_1 < (t580.length : Int)) = false := decide_eq_false c11
            (try simp only [hl5_1] at c11b0)
            clear c11
            simp only [Option.some.injEq, Prod.mk.injEq] at H
            obtain ⟨rfl, rfl⟩ := H
            go_wp2
            go_ret2
            exact ⟨_, by first | rfl | (simp [errW_none, errW_some] <;> rfl) | (simp [*, errW_none, errW_some] <;> rfl), by (with_reducible repeat (first | apply Kd.R_alloc | apply Kd.R_drewN | apply Kd.R_drew)); exact HO_5.out, by repeat (first | (with_reducible first | exact HB.out | apply below_alloc | apply pw_below_drewN | apply below_drew1) | exact HB.out)⟩
  · replace c3 := Bool.eq_false_iff.mpr c3
    subst c3
    have H1 : (some (([] : List Int), false)) = some (r1, r2) := by rw [if_neg (show ¬ (false = true) by decide)] at H; exact H
    clear H
    have H := H1
    clear H1
    simp only [Option.some.injEq, Prod.mk.injEq] at H
    obtain ⟨rfl, rfl⟩ := H
    go_enter Try.func22, Try.ntmps22
    go_wp2_with (first | ((with_reducible refine gate_callee (f := 54) rfl ?_); refine goesL_ (some 9) rfl rfl Try.func54 (by kernel_rfl) rfl #[.slice A0 l0.length c0] rfl (by (try simp only [List.map_toArray, List.map_cons, List.map_nil]); first | done | rfl | (simp only [List.length_drop, List.length_take]; rfl)) ?_; (with_reducible refine (impl_residues.calls k _ _ l0 false _ ?side1 ?side2 A2.out).mono ?_); (case side1 => repeat (first | exact HR0.out | (with_reducible refine Kd.C_alloc ?_ _) | (with_reducible refine Kd.C_drewN ?_ _) | (with_reducible refine Kd.C_drew ?_))); (case side2 => exact HC0.out); rintro e w' ⟨rfl, ⟨nd, rfl⟩⟩; refine ⟨_, rfl, ?_⟩))
    go_ret2
    exact ⟨_, by first | rfl | (simp [errW_none, errW_some] <;> rfl) | (simp [*, errW_none, errW_some] <;> rfl), by first | exact Kd.R_nil _ _ _ _ _ | exact Kd.N_nil _ _ _ _ _ | exact Kd.V_nil _ _ _ _ _ | exact Kd.Q_nil _ _ _ _ _ | exact Kd.S_nil _ _ _ _ _, by repeat (first | (with_reducible first | exact HB.out | apply below_alloc | apply pw_below_drewN | apply below_drew1) | exact HB.out)⟩

end Go.Proofs.Yteobnbichpadjab.Q
