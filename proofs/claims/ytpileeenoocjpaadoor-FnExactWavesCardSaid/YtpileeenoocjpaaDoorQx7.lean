/- Plain Lean functions with the same answers as the Go functions of this seat, and a proof for each that the Go code comes to just these answers; no condition. Written by a program of this session (the kit's printer, turned). -/
import Derived.Test.YtpileeenoocjpaaDoorQx0
import Derived.Test.YtpileeenoocjpaaDoorQx3
import Derived.Test.YtpileeenoocjpaaDoorQx6
namespace Go.Proofs.YtpileeenoocjpaaDoor.Q
open Go.RowKit Go.Proofs.YtpileeenoocjpaaDoorW.PrintWords Go.Proofs.YtpileeenoocjpaaDoorW.PrintLast Go.Proofs.YtpileeenoocjpaaDoorW.PrintMore Go.Proofs.YtpileeenoocjpaaDoorW.PrintFlt
attribute [local go_sem] cmp_lss cmp_leq cmp_gtr cmp_geq cmp_eql cmp_neq flt_l flt_r fgt_l fgt_r feq_l feq_r fne_l fne_r ord_lt ord_gt ord_eq ord_ne conv_int foi_fold run_store_flt
attribute [local go_sem] max2_int min2_int max_two min_two max_three min_three max_four min_four   -- for this text's walks alone
set_option linter.unusedVariables false
set_option linter.unusedSimpArgs false

/-! ### impl_Waves: function 18 -/
def impl_Waves.f (k : Nat) (l0 : List (S42)) (l1 : List (Nat)) : Option ((List (S42))) := (impl_waveLength.f (l0.length : Int)).bind fun t214 => (if t214 = true then ((impl_waves.f k l0 (-1) l1).bind fun t215 => (some t215)) else (some ([] : List (S42))))
theorem impl_Waves.mono : ∀ a0 a1 k, LeO (impl_Waves.f k a0 a1) (impl_Waves.f (k + 1) a0 a1) := by
 intro a0 a1 k
 unfold impl_Waves.f
 repeat' first
   | (with_reducible exact impl_waves.mono _ _ _ _)
   | (with_reducible exact LeO.refl _)
   | (with_reducible exact LeO.none _)
   | (with_reducible refine LeO.ite ?_ ?_)
   | (with_reducible refine LeO.bind ?_ (fun _ => ?_))
   | exact impl_waves.mono _ _ _ _
   | exact LeO.none _
   | refine LeO.ite ?_ ?_
   | refine LeO.bind ?_ (fun _ => ?_)
set_option maxHeartbeats 8000000 in
set_option maxRecDepth 100000 in
theorem impl_Waves.calls (k : Nat) (A0 : Option Addr) (c0 : Nat) (l0 : List (S42)) (l1 : List (Nat)) (r : List (S42)) (w : World) (hr0 : Kd.C k42 w A0 l0.length l0) (hc0 : l0.length ≤ c0) (hr1 : Kd.C Kd.flt w (some ⟨1, 0, none⟩) l1.length l1) (hc1 : l1.length ≤ l1.length) (hn1 : l1.length = 10) (h : impl_Waves.f k l0 l1 = some r) :
  Calls Tryd.prog 18 #[.slice A0 l0.length c0] w fun e w' => ∃ v0_ : Value, e = .returned (v0_) ∧ Kd.R k42 42 w' w.heap.size (fun _ => True) v0_ r ∧ Below w.heap.size w w' := by
 have HR0 := Aside0.mk hr0
 have HC0 := Aside0.mk hc0
 clear hr0 hc0
 have HR1 := Aside0.mk hr1
 have HC1 := Aside0.mk hc1
 clear hr1 hc1
 have HN1 := Aside0.mk hn1
 clear hn1
 have HB := Aside0.mk (Below.refl w.heap.size w)
 have H : ((impl_waveLength.f (l0.length : Int)).bind fun t214 => (if t214 = true then ((impl_waves.f k l0 (-1) l1).bind fun t215 => (some t215)) else (some ([] : List (S42))))) = some r := h
 clear h
 replace H := Option.bind_eq_some_iff.mp H
 obtain ⟨t214, A30, H⟩ := H
 replace H : (if t214 = true then ((impl_waves.f k l0 (-1) l1).bind fun t215 => (some t215)) else (some ([] : List (S42)))) = some r := H
 have A3 := Aside0.mk A30
 clear A30
 by_cases c4 : t214 = true
 ·subst c4
  have H1 : ((impl_waves.f k l0 (-1) l1).bind fun t215 => (some t215)) = some r := by rw [if_pos rfl] at H; exact H
  clear H
  have H := H1
  clear H1
  replace H := Option.bind_eq_some_iff.mp H
  obtain ⟨t215, A50, H⟩ := H
  replace H : (some t215) = some r := H
  have A5 := Aside0.mk A50
  clear A50
  obtain rfl := Option.some.inj H
  go_enter Tryd.func18, Tryd.ntmps18
  go_wp2_with (first | ((with_reducible refine gate_callee (f := 56) rfl ?_); refine goesL_ (some 5) rfl rfl Tryd.func56 (by kernel_rfl) rfl #[.int .i64 (l0.length : Int)] rfl (by (try simp only [List.map_toArray, List.map_cons, List.map_nil]); first | done | rfl | (simp only [List.length_drop, List.length_take]; rfl)) ?_; (with_reducible refine (impl_waveLength.calls (l0.length : Int) true _ A3.out).mono ?_); rintro e w' ⟨rfl, ⟨nd, rfl⟩⟩; refine ⟨_, rfl, ?_⟩) | ((with_reducible refine gate_callee (f := 57) rfl ?_); refine goesL_ (some 8) rfl rfl Tryd.func57 (by kernel_rfl) rfl #[.slice A0 l0.length c0, .int .i64 (-1)] rfl (by (try simp only [List.map_toArray, List.map_cons, List.map_nil]); first | done | rfl | (simp only [List.length_drop, List.length_take]; rfl)) ?_; (with_reducible refine (impl_waves.calls k _ _ l0 (-1) l1 t215 _ ?side1 ?side2 ?side3 ?side4 ?side5 A5.out).mono ?_); (case side1 => repeat (first | exact HR0.out | (with_reducible refine Kd.C_alloc ?_ _) | (with_reducible refine Kd.C_drewN ?_ _) | (with_reducible refine Kd.C_drew ?_))); (case side2 => exact HC0.out); (case side3 => repeat (first | exact HR1.out | (with_reducible refine Kd.C_alloc ?_ _) | (with_reducible refine Kd.C_drewN ?_ _) | (with_reducible refine Kd.C_drew ?_))); (case side4 => exact HC1.out); (case side5 => exact HN1.out); rintro e w6 ⟨v216, rfl, ho0, hb⟩; refine ⟨_, rfl, ?_⟩; have n0_ := Aside0.mk (Kd.R_lower ho0 (below_size (by repeat (first | (with_reducible first | exact HB.out | apply below_alloc | apply pw_below_drewN | apply below_drew1) | exact HB.out)))); have n1_ := Aside0.mk (below_step (by repeat (first | (with_reducible first | exact HB.out | apply below_alloc | apply pw_below_drewN | apply below_drew1) | exact HB.out)) hb); clear HB; have HO217 := n0_; have HB := n1_; clear n0_ n1_; (try clear hb); (try clear hb2); (try clear hk); (try clear hi); (try clear ho0)))
  go_ret
  exact ⟨_, by first | rfl | (simp [errW_none, errW_some] <;> rfl) | (simp [*, errW_none, errW_some] <;> rfl), by (with_reducible repeat (first | apply Kd.R_alloc | apply Kd.R_drewN | apply Kd.R_drew)); exact HO217.out, by repeat (first | (with_reducible first | exact HB.out | apply below_alloc | apply pw_below_drewN | apply below_drew1) | exact HB.out)⟩
 ·replace c4 := Bool.eq_false_iff.mpr c4
  subst c4
  have H1 : (some ([] : List (S42))) = some r := by rw [if_neg (show ¬ (false = true) by decide)] at H; exact H
  clear H
  have H := H1
  clear H1
  obtain rfl := Option.some.inj H
  go_enter Tryd.func18, Tryd.ntmps18
  go_wp2_with (first | ((with_reducible refine gate_callee (f := 56) rfl ?_); refine goesL_ (some 5) rfl rfl Tryd.func56 (by kernel_rfl) rfl #[.int .i64 (l0.length : Int)] rfl (by (try simp only [List.map_toArray, List.map_cons, List.map_nil]); first | done | rfl | (simp only [List.length_drop, List.length_take]; rfl)) ?_; (with_reducible refine (impl_waveLength.calls (l0.length : Int) false _ A3.out).mono ?_); rintro e w' ⟨rfl, ⟨nd, rfl⟩⟩; refine ⟨_, rfl, ?_⟩))
  go_ret
  exact ⟨_, by first | rfl | (simp [errW_none, errW_some] <;> rfl) | (simp [*, errW_none, errW_some] <;> rfl), by first | exact Kd.R_nil _ _ _ _ _ | exact Kd.N_nil _ _ _ _ _ | exact Kd.V_nil _ _ _ _ _ | exact Kd.Q_nil _ _ _ _ _ | exact Kd.S_nil _ _ _ _ _, by repeat (first | (with_reducible first | exact HB.out | apply below_alloc | apply pw_below_drewN | apply below_drew1) | exact HB.out)⟩

/-! ### laws_sameFloat: function 13 -/
def laws_sameFloat.j0 : Nat → Nat → Nat → Bool → Option (Bool)
 | 0, _, _, _ => none
 | k + 1, x0, x1, x12 => if x12 = true then (if (fne x0 x0) = true then (some (fne x1 x1)) else (some false)) else (if (feq x0 0) = true then (if (feq x1 0) = true then (some ((fgt (fdiv 4607182418800017408 x0) 0) == (fgt (fdiv 4607182418800017408 x1) 0))) else (some (feq x0 x1))) else (some (feq x0 x1)))
def laws_sameFloat.f (k : Nat) (a0 : Nat) (a1 : Nat) : Option (Bool) := if (fne a0 a0) = true then (laws_sameFloat.j0 k a0 a1 true) else (laws_sameFloat.j0 k a0 a1 (fne a1 a1))
theorem laws_sameFloat.mono_l : ∀ k, (∀ y0 y1 y2, LeO (laws_sameFloat.j0 k y0 y1 y2) (laws_sameFloat.j0 (k + 1) y0 y1 y2))
 | 0 => fun _ _ _ r h => by simp [laws_sameFloat.j0] at h
 | k + 1 => by
  have ih0 := laws_sameFloat.mono_l k
  ·intro y0 y1 y2
   unfold laws_sameFloat.j0
   repeat' first
   | (with_reducible exact ih0 _ _ _)
   | (with_reducible exact LeO.refl _)
   | (with_reducible exact LeO.none _)
   | (with_reducible refine LeO.ite ?_ ?_)
   | (with_reducible refine LeO.bind ?_ (fun _ => ?_))
   | exact ih0 _ _ _
   | exact LeO.none _
   | refine LeO.ite ?_ ?_
   | refine LeO.bind ?_ (fun _ => ?_)
theorem laws_sameFloat.mono : ∀ a0 a1 k, LeO (laws_sameFloat.f k a0 a1) (laws_sameFloat.f (k + 1) a0 a1) := by
 intro a0 a1 k
 have ih0 := laws_sameFloat.mono_l k
 unfold laws_sameFloat.f
 repeat' first
   | (with_reducible exact ih0 _ _ _)
   | (with_reducible exact LeO.refl _)
   | (with_reducible exact LeO.none _)
   | (with_reducible refine LeO.ite ?_ ?_)
   | (with_reducible refine LeO.bind ?_ (fun _ => ?_))
   | exact ih0 _ _ _
   | exact LeO.none _
   | refine LeO.ite ?_ ?_
   | refine LeO.bind ?_ (fun _ => ?_)
set_option maxHeartbeats 8000000 in
set_option maxRecDepth 100000 in
theorem laws_sameFloat.calls (k : Nat) (pa0 : Nat) (a0 : Nat) (pa1 : Nat) (a1 : Nat) (r : Bool) (w : World) (h : laws_sameFloat.f k a0 a1 = some r) :
  Calls Tryd.prog 13 #[.float .f64 (un pa0 a0), .float .f64 (un pa1 a1)] w fun e w' => e = .returned (.bool r) ∧ Drawn0 w w' := by
 have H : (if (fne a0 a0) = true then (laws_sameFloat.j0 k a0 a1 true) else (laws_sameFloat.j0 k a0 a1 (fne a1 a1))) = some r := h
 clear h
 have HC3 := Aside0.mk H
 clear H
 go_enter Tryd.func13, Tryd.ntmps13
 go_upto_region 1 with (fail)
 go_cut [12] (fun v12 wc => ∃ (kq : Nat) (x12_2 : Bool), v12 = .bool x12_2 ∧ Aside0 (laws_sameFloat.j0 kq a0 a1 x12_2 = some r) ∧ Aside0 (kq ≤ k) ∧ Drawn0 w wc)
 case first =>
  have H := HC3.out
  clear HC3
  by_cases c4 : (fne a0 a0) = true
  ·rw [if_pos c4] at H
   have c4b0 : (fne a0 a0) = true := c4
   clear c4
   (first | rw [c4b0] | (simp only [i64_w, i32_w]; rw [c4b0]) | skip)
   have H' := Aside0.mk H
   clear H
   go_wp2
   go_meet
   case rel => exact ⟨_, (true), (by first | rfl | (simp; done) | (simp [*]; done)), H', ⟨by first | omega | exact Nat.le_refl _⟩, by repeat (first | exact Drawn0.refl _ | apply Drawn0.step)⟩
  ·rw [if_neg c4] at H
   have c4b0 : (fne a0 a0) = false := by simpa using c4
   clear c4
   (first | rw [c4b0] | (simp only [i64_w, i32_w]; rw [c4b0]) | skip)
   have H' := Aside0.mk H
   clear H
   go_wp2
   go_meet
   case rel => exact ⟨_, ((fne a1 a1)), (by first | rfl | (simp; done) | (simp [*]; done)), H', ⟨by first | omega | exact Nat.le_refl _⟩, by repeat (first | exact Drawn0.refl _ | apply Drawn0.step)⟩
 case rest =>
  clear HC3
  try clear c1
  try clear p2
  try clear c4
  try clear c4b0
  obtain ⟨kq, x12_2, rfl, HA, HJ2, ⟨mc2, rfl⟩⟩ := hcut
  cases kq with
  | zero => exact absurd HA.out (by simp [laws_sameFloat.j0])
  | succ kj2 =>
   have H := HA.out
   clear HA
   simp only [laws_sameFloat.j0] at H
   by_cases c5 : x12_2 = true
   ·subst c5
    have H1 : (if (fne a0 a0) = true then (some (fne a1 a1)) else (some false)) = some r := by rw [if_pos rfl] at H; exact H
    clear H
    have H := H1
    clear H1
    by_cases c6 : (fne a0 a0) = true
    ·rw [if_pos c6] at H
     have c6b0 : (fne a0 a0) = true := c6
     clear c6
     obtain rfl := Option.some.inj H
     go_wp2
     go_ret
     exact ⟨by first | rfl | (simp; done) | (simp [*]; done), by repeat (first | exact Drawn0.refl _ | apply Drawn0.step)⟩
    ·rw [if_neg c6] at H
     have c6b0 : (fne a0 a0) = false := by simpa using c6
     clear c6
     obtain rfl := Option.some.inj H
     go_wp2
     go_ret
     exact ⟨by first | rfl | (simp; done) | (simp [*]; done), by repeat (first | exact Drawn0.refl _ | apply Drawn0.step)⟩
   ·replace c5 := Bool.eq_false_iff.mpr c5
    subst c5
    have H1 : (if (feq a0 0) = true then (if (feq a1 0) = true then (some ((fgt (fdiv 4607182418800017408 a0) 0) == (fgt (fdiv 4607182418800017408 a1) 0))) else (some (feq a0 a1))) else (some (feq a0 a1))) = some r := by rw [if_neg (show ¬ (false = true) by decide)] at H; exact H
    clear H
    have H := H1
    clear H1
    by_cases c7 : (feq a0 0) = true
    ·rw [if_pos c7] at H
     have c7b0 : (feq a0 0) = true := c7
     clear c7
     by_cases c8 : (feq a1 0) = true
     ·rw [if_pos c8] at H
      have c8b0 : (feq a1 0) = true := c8
      clear c8
      obtain rfl := Option.some.inj H
      go_wp2_with (first | ((with_reducible refine gate_dst (N := 28) rfl ?_); (try (refine gate_guard (by rfl) ?_; dsimp only)); refine fop_event rfl (N := 28) rfl (op := .quo) rfl rfl 0 4607182418800017408 pa0 a0 rfl rfl ?hA ?hB fdiv rfl ?_; (case hA => first | rfl | exact (un_zero _).symm); (case hB => first | rfl | exact (un_zero _).symm); rintro pb218 _ ⟨nd, rfl⟩) | ((with_reducible refine gate_dst (N := 31) rfl ?_); (try (refine gate_guard (by rfl) ?_; dsimp only)); refine fop_event rfl (N := 31) rfl (op := .quo) rfl rfl 0 4607182418800017408 pa1 a1 rfl rfl ?hA ?hB fdiv rfl ?_; (case hA => first | rfl | exact (un_zero _).symm); (case hB => first | rfl | exact (un_zero _).symm); rintro pb219 _ ⟨nd, rfl⟩))
      go_ret
      exact ⟨by first | rfl | (simp; done) | (simp [*]; done), by repeat (first | exact Drawn0.refl _ | apply Drawn0.step)⟩
     ·rw [if_neg c8] at H
      have c8b0 : (feq a1 0) = false := by simpa using c8
      clear c8
      obtain rfl := Option.some.inj H
      go_wp2
      go_ret
      exact ⟨by first | rfl | (simp; done) | (simp [*]; done), by repeat (first | exact Drawn0.refl _ | apply Drawn0.step)⟩
    ·rw [if_neg c7] at H
     have c7b0 : (feq a0 0) = false := by simpa using c7
     clear c7
     obtain rfl := Option.some.inj H
     go_wp2
     go_ret
     exact ⟨by first | rfl | (simp; done) | (simp [*]; done), by repeat (first | exact Drawn0.refl _ | apply Drawn0.step)⟩

/-! ### laws_eqPair: function 26 -/
def laws_eqPair.f (k : Nat) (a0_0 : Nat) (a0_1 : Nat) (a1_0 : Nat) (a1_1 : Nat) : Option (Bool) := (laws_sameFloat.f k a0_0 a1_0).bind fun t222 => (if t222 = true then ((laws_sameFloat.f k a0_1 a1_1).bind fun t223 => (if t223 = true then (some true) else (some false))) else (some false))
theorem laws_eqPair.mono : ∀ a0 a1 a2 a3 k, LeO (laws_eqPair.f k a0 a1 a2 a3) (laws_eqPair.f (k + 1) a0 a1 a2 a3) := by
 intro a0 a1 a2 a3 k
 unfold laws_eqPair.f
 repeat' first
   | (with_reducible exact laws_sameFloat.mono _ _ _)
   | (with_reducible exact LeO.refl _)
   | (with_reducible exact LeO.none _)
   | (with_reducible refine LeO.ite ?_ ?_)
   | (with_reducible refine LeO.bind ?_ (fun _ => ?_))
   | exact laws_sameFloat.mono _ _ _
   | exact LeO.none _
   | refine LeO.ite ?_ ?_
   | refine LeO.bind ?_ (fun _ => ?_)
set_option maxHeartbeats 8000000 in
set_option maxRecDepth 100000 in
theorem laws_eqPair.calls (k : Nat) (pa0_0 : Nat) (a0_0 : Nat) (pa0_1 : Nat) (a0_1 : Nat) (pa1_0 : Nat) (a1_0 : Nat) (pa1_1 : Nat) (a1_1 : Nat) (r : Bool) (w : World) (h : laws_eqPair.f k a0_0 a0_1 a1_0 a1_1 = some r) :
  Calls Tryd.prog 26 #[.agg #[.float .f64 (un pa0_0 a0_0), .float .f64 (un pa0_1 a0_1)], .agg #[.float .f64 (un pa1_0 a1_0), .float .f64 (un pa1_1 a1_1)]] w fun e w' => e = .returned (.bool r) ∧ Below w.heap.size w w' := by
 have hu42 := Tryd.underlying42
 have HB := Aside0.mk (Below.refl w.heap.size w)
 have H : ((laws_sameFloat.f k a0_0 a1_0).bind fun t222 => (if t222 = true then ((laws_sameFloat.f k a0_1 a1_1).bind fun t223 => (if t223 = true then (some true) else (some false))) else (some false))) = some r := h
 clear h
 replace H := Option.bind_eq_some_iff.mp H
 obtain ⟨t222, A30, H⟩ := H
 replace H : (if t222 = true then ((laws_sameFloat.f k a0_1 a1_1).bind fun t223 => (if t223 = true then (some true) else (some false))) else (some false)) = some r := H
 have A3 := Aside0.mk A30
 clear A30
 by_cases c4 : t222 = true
 ·subst c4
  have H1 : ((laws_sameFloat.f k a0_1 a1_1).bind fun t223 => (if t223 = true then (some true) else (some false))) = some r := by rw [if_pos rfl] at H; exact H
  clear H
  have H := H1
  clear H1
  replace H := Option.bind_eq_some_iff.mp H
  obtain ⟨t223, A50, H⟩ := H
  replace H : (if t223 = true then (some true) else (some false)) = some r := H
  have A5 := Aside0.mk A50
  clear A50
  by_cases c6 : t223 = true
  ·subst c6
   have H1 : (some true) = some r := by rw [if_pos rfl] at H; exact H
   clear H
   have H := H1
   clear H1
   obtain rfl := Option.some.inj H
   go_enter Tryd.func26, Tryd.ntmps26
   go_wp2_with (first | ((with_reducible refine gate_dst (N := 2) rfl ?_); refine box_event ?hg (N := 2) ?hd (cs := #[.float .f64 (un pa0_0 a0_0), .float .f64 (un pa0_1 a0_1)]) (t := 42) ?hr ?_; (case hd => rfl); (case hg => rfl); (case hr => first | (go_simp; done) | (go_simp; rfl)); intro gb220 hg w7 hbox hb; have n0_ := Aside0.mk (below_step (by repeat (first | (with_reducible first | exact HB.out | apply below_alloc | apply pw_below_drewN | apply below_drew1) | exact HB.out)) hb); have n1_ := Aside0.mk (hbox); have n2_ := Aside0.mk ((by rw [hg]; exact (below_size (by repeat (first | (with_reducible first | exact HB.out | apply below_alloc | apply pw_below_drewN | apply below_drew1) | exact HB.out))) : w.heap.size ≤ gb220)); have n3_ := Aside0.mk ((by rw [hg]; exact (below_size (by repeat (first | (with_reducible first | exact HB.out | apply below_alloc | apply pw_below_drewN | apply below_drew1) | exact HB.out))) : w.heap.size ≤ gb220)); clear HB; have HB := n0_; have BK220 := n1_; have GW220 := n2_; have GE220 := n3_; clear n0_ n1_ n2_ n3_; clear hb hbox hg) | ((with_reducible refine gate_dst (N := 3) rfl ?_); refine box_event ?hg (N := 3) ?hd (cs := #[.float .f64 (un pa1_0 a1_0), .float .f64 (un pa1_1 a1_1)]) (t := 42) ?hr ?_; (case hd => rfl); (case hg => rfl); (case hr => first | (go_simp; done) | (go_simp; rfl)); intro gb221 hg w8 hbox hb; have n0_ := Aside0.mk (blk_below (g := gb220) (o := .cells #[.float .f64 (un pa0_0 a0_0), .float .f64 (un pa0_1 a0_1)] 42 (0, 0)) (by (with_reducible repeat (first | refine blk_drewN ?_ _ | refine blk_drew ?_ | refine blk_alloc ?_ _)); exact BK220.out) hb); have n1_ := Aside0.mk (below_step (by repeat (first | (with_reducible first | exact HB.out | apply below_alloc | apply pw_below_drewN | apply below_drew1 | refine below_set ?_ GE220.out) | exact HB.out)) hb); have n2_ := Aside0.mk (hbox); have n3_ := Aside0.mk ((by rw [hg]; exact (below_size (by repeat (first | (with_reducible first | exact HB.out | apply below_alloc | apply pw_below_drewN | apply below_drew1 | refine below_set ?_ GE220.out) | exact HB.out))) : w.heap.size ≤ gb221)); have n4_ := Aside0.mk ((by rw [hg]; exact (below_size (by repeat (first | (with_reducible first | exact HB.out | apply below_alloc | apply pw_below_drewN | apply below_drew1 | refine below_set ?_ GE220.out) | exact HB.out))) : w.heap.size ≤ gb221)); have n5_ := Aside0.mk ((by rw [hg]; exact Nat.ne_of_lt (blk_lt (g := gb220) (o := .cells #[.float .f64 (un pa0_0 a0_0), .float .f64 (un pa0_1 a0_1)] 42 (0, 0)) (by (with_reducible repeat (first | refine blk_drewN ?_ _ | refine blk_drew ?_ | refine blk_alloc ?_ _)); exact BK220.out)) : gb220 ≠ gb221)); have n6_ := Aside0.mk ((by rw [hg]; exact Nat.ne_of_gt (blk_lt (g := gb220) (o := .cells #[.float .f64 (un pa0_0 a0_0), .float .f64 (un pa0_1 a0_1)] 42 (0, 0)) (by (with_reducible repeat (first | refine blk_drewN ?_ _ | refine blk_drew ?_ | refine blk_alloc ?_ _)); exact BK220.out)) : gb221 ≠ gb220)); clear BK220; clear HB; have BK220 := n0_; have HB := n1_; have BK221 := n2_; have GW221 := n3_; have GE221 := n4_; have NB220_221 := n5_; have NB221_220 := n6_; clear n0_ n1_ n2_ n3_ n4_ n5_ n6_; clear hb hbox hg; have hnb9 := NB220_221.out; have hnc9 := NB221_220.out; have hcz10_0 : w8.cell? ⟨gb220, 0, none⟩ = some (.float .f64 (un pa0_0 a0_0)) := (blk_cell BK220.out 0).trans rfl; have hcz10_1 : w8.cell? ⟨gb220, 1, none⟩ = some (.float .f64 (un pa0_1 a0_1)) := (blk_cell BK220.out 1).trans rfl; have hfz10_0 := blk_frozen BK220.out 0; have hfz10_1 := blk_frozen BK220.out 1; have hcz11_0 : w8.cell? ⟨gb221, 0, none⟩ = some (.float .f64 (un pa1_0 a1_0)) := (blk_cell BK221.out 0).trans rfl; have hcz11_1 : w8.cell? ⟨gb221, 1, none⟩ = some (.float .f64 (un pa1_1 a1_1)) := (blk_cell BK221.out 1).trans rfl; have hfz11_0 := blk_frozen BK221.out 0; have hfz11_1 := blk_frozen BK221.out 1) | ((with_reducible refine gate_callee (f := 13) rfl ?_); refine goesL_ (some 9) rfl rfl Tryd.func13 (by kernel_rfl) rfl #[.float .f64 (un pa0_0 a0_0), .float .f64 (un pa1_0 a1_0)] rfl (by (try simp only [List.map_toArray, List.map_cons, List.map_nil]); first | done | rfl | (simp only [List.length_drop, List.length_take]; rfl)) ?_; (with_reducible refine (laws_sameFloat.calls k pa0_0 a0_0 pa1_0 a1_0 true _ A3.out).mono ?_); rintro e w' ⟨rfl, ⟨nd, rfl⟩⟩; refine ⟨_, rfl, ?_⟩) | ((with_reducible refine gate_callee (f := 13) rfl ?_); refine goesL_ (some 15) rfl rfl Tryd.func13 (by kernel_rfl) rfl #[.float .f64 (un pa0_1 a0_1), .float .f64 (un pa1_1 a1_1)] rfl (by (try simp only [List.map_toArray, List.map_cons, List.map_nil]); first | done | rfl | (simp only [List.length_drop, List.length_take]; rfl)) ?_; (with_reducible refine (laws_sameFloat.calls k pa0_1 a0_1 pa1_1 a1_1 true _ A5.out).mono ?_); rintro e w' ⟨rfl, ⟨nd, rfl⟩⟩; refine ⟨_, rfl, ?_⟩))
   go_ret
   exact ⟨by first | rfl | (simp [errW_none, errW_some] <;> rfl) | (simp [*, errW_none, errW_some] <;> rfl), by repeat (first | (with_reducible first | exact HB.out | apply below_alloc | apply pw_below_drewN | apply below_drew1 | refine below_set ?_ GE220.out | refine below_set ?_ GE221.out) | exact HB.out)⟩
  ·replace c6 := Bool.eq_false_iff.mpr c6
   subst c6
   have H1 : (some false) = some r := by rw [if_neg (show ¬ (false = true) by decide)] at H; exact H
   clear H
   have H := H1
   clear H1
   obtain rfl := Option.some.inj H
   go_enter Tryd.func26, Tryd.ntmps26
   go_wp2_with (first | ((with_reducible refine gate_dst (N := 2) rfl ?_); refine box_event ?hg (N := 2) ?hd (cs := #[.float .f64 (un pa0_0 a0_0), .float .f64 (un pa0_1 a0_1)]) (t := 42) ?hr ?_; (case hd => rfl); (case hg => rfl); (case hr => first | (go_simp; done) | (go_simp; rfl)); intro gb220 hg w12 hbox hb; have n0_ := Aside0.mk (below_step (by repeat (first | (with_reducible first | exact HB.out | apply below_alloc | apply pw_below_drewN | apply below_drew1) | exact HB.out)) hb); have n1_ := Aside0.mk (hbox); have n2_ := Aside0.mk ((by rw [hg]; exact (below_size (by repeat (first | (with_reducible first | exact HB.out | apply below_alloc | apply pw_below_drewN | apply below_drew1) | exact HB.out))) : w.heap.size ≤ gb220)); have n3_ := Aside0.mk ((by rw [hg]; exact (below_size (by repeat (first | (with_reducible first | exact HB.out | apply below_alloc | apply pw_below_drewN | apply below_drew1) | exact HB.out))) : w.heap.size ≤ gb220)); clear HB; have HB := n0_; have BK220 := n1_; have GW220 := n2_; have GE220 := n3_; clear n0_ n1_ n2_ n3_; clear hb hbox hg) | ((with_reducible refine gate_dst (N := 3) rfl ?_); refine box_event ?hg (N := 3) ?hd (cs := #[.float .f64 (un pa1_0 a1_0), .float .f64 (un pa1_1 a1_1)]) (t := 42) ?hr ?_; (case hd => rfl); (case hg => rfl); (case hr => first | (go_simp; done) | (go_simp; rfl)); intro gb221 hg w13 hbox hb; have n0_ := Aside0.mk (blk_below (g := gb220) (o := .cells #[.float .f64 (un pa0_0 a0_0), .float .f64 (un pa0_1 a0_1)] 42 (0, 0)) (by (with_reducible repeat (first | refine blk_drewN ?_ _ | refine blk_drew ?_ | refine blk_alloc ?_ _)); exact BK220.out) hb); have n1_ := Aside0.mk (below_step (by repeat (first | (with_reducible first | exact HB.out | apply below_alloc | apply pw_below_drewN | apply below_drew1 | refine below_set ?_ GE220.out) | exact HB.out)) hb); have n2_ := Aside0.mk (hbox); have n3_ := Aside0.mk ((by rw [hg]; exact (below_size (by repeat (first | (with_reducible first | exact HB.out | apply below_alloc | apply pw_below_drewN | apply below_drew1 | refine below_set ?_ GE220.out) | exact HB.out))) : w.heap.size ≤ gb221)); have n4_ := Aside0.mk ((by rw [hg]; exact (below_size (by repeat (first | (with_reducible first | exact HB.out | apply below_alloc | apply pw_below_drewN | apply below_drew1 | refine below_set ?_ GE220.out) | exact HB.out))) : w.heap.size ≤ gb221)); have n5_ := Aside0.mk ((by rw [hg]; exact Nat.ne_of_lt (blk_lt (g := gb220) (o := .cells #[.float .f64 (un pa0_0 a0_0), .float .f64 (un pa0_1 a0_1)] 42 (0, 0)) (by (with_reducible repeat (first | refine blk_drewN ?_ _ | refine blk_drew ?_ | refine blk_alloc ?_ _)); exact BK220.out)) : gb220 ≠ gb221)); have n6_ := Aside0.mk ((by rw [hg]; exact Nat.ne_of_gt (blk_lt (g := gb220) (o := .cells #[.float .f64 (un pa0_0 a0_0), .float .f64 (un pa0_1 a0_1)] 42 (0, 0)) (by (with_reducible repeat (first | refine blk_drewN ?_ _ | refine blk_drew ?_ | refine blk_alloc ?_ _)); exact BK220.out)) : gb221 ≠ gb220)); clear BK220; clear HB; have BK220 := n0_; have HB := n1_; have BK221 := n2_; have GW221 := n3_; have GE221 := n4_; have NB220_221 := n5_; have NB221_220 := n6_; clear n0_ n1_ n2_ n3_ n4_ n5_ n6_; clear hb hbox hg; have hnb14 := NB220_221.out; have hnc14 := NB221_220.out; have hcz15_0 : w13.cell? ⟨gb220, 0, none⟩ = some (.float .f64 (un pa0_0 a0_0)) := (blk_cell BK220.out 0).trans rfl; have hcz15_1 : w13.cell? ⟨gb220, 1, none⟩ = some (.float .f64 (un pa0_1 a0_1)) := (blk_cell BK220.out 1).trans rfl; have hfz15_0 := blk_frozen BK220.out 0; have hfz15_1 := blk_frozen BK220.out 1; have hcz16_0 : w13.cell? ⟨gb221, 0, none⟩ = some (.float .f64 (un pa1_0 a1_0)) := (blk_cell BK221.out 0).trans rfl; have hcz16_1 : w13.cell? ⟨gb221, 1, none⟩ = some (.float .f64 (un pa1_1 a1_1)) := (blk_cell BK221.out 1).trans rfl; have hfz16_0 := blk_frozen BK221.out 0; have hfz16_1 := blk_frozen BK221.out 1) | ((with_reducible refine gate_callee (f := 13) rfl ?_); refine goesL_ (some 9) rfl rfl Tryd.func13 (by kernel_rfl) rfl #[.float .f64 (un pa0_0 a0_0), .float .f64 (un pa1_0 a1_0)] rfl (by (try simp only [List.map_toArray, List.map_cons, List.map_nil]); first | done | rfl | (simp only [List.length_drop, List.length_take]; rfl)) ?_; (with_reducible refine (laws_sameFloat.calls k pa0_0 a0_0 pa1_0 a1_0 true _ A3.out).mono ?_); rintro e w' ⟨rfl, ⟨nd, rfl⟩⟩; refine ⟨_, rfl, ?_⟩) | ((with_reducible refine gate_callee (f := 13) rfl ?_); refine goesL_ (some 15) rfl rfl Tryd.func13 (by kernel_rfl) rfl #[.float .f64 (un pa0_1 a0_1), .float .f64 (un pa1_1 a1_1)] rfl (by (try simp only [List.map_toArray, List.map_cons, List.map_nil]); first | done | rfl | (simp only [List.length_drop, List.length_take]; rfl)) ?_; (with_reducible refine (laws_sameFloat.calls k pa0_1 a0_1 pa1_1 a1_1 false _ A5.out).mono ?_); rintro e w' ⟨rfl, ⟨nd, rfl⟩⟩; refine ⟨_, rfl, ?_⟩))
   go_ret
   exact ⟨by first | rfl | (simp [errW_none, errW_some] <;> rfl) | (simp [*, errW_none, errW_some] <;> rfl), by repeat (first | (with_reducible first | exact HB.out | apply below_alloc | apply pw_below_drewN | apply below_drew1 | refine below_set ?_ GE220.out | refine below_set ?_ GE221.out) | exact HB.out)⟩
 ·replace c4 := Bool.eq_false_iff.mpr c4
  subst c4
  have H1 : (some false) = some r := by rw [if_neg (show ¬ (false = true) by decide)] at H; exact H
  clear H
  have H := H1
  clear H1
  obtain rfl := Option.some.inj H
  go_enter Tryd.func26, Tryd.ntmps26
  go_wp2_with (first | ((with_reducible refine gate_dst (N := 2) rfl ?_); refine box_event ?hg (N := 2) ?hd (cs := #[.float .f64 (un pa0_0 a0_0), .float .f64 (un pa0_1 a0_1)]) (t := 42) ?hr ?_; (case hd => rfl); (case hg => rfl); (case hr => first | (go_simp; done) | (go_simp; rfl)); intro gb220 hg w17 hbox hb; have n0_ := Aside0.mk (below_step (by repeat (first | (with_reducible first | exact HB.out | apply below_alloc | apply pw_below_drewN | apply below_drew1) | exact HB.out)) hb); have n1_ := Aside0.mk (hbox); have n2_ := Aside0.mk ((by rw [hg]; exact (below_size (by repeat (first | (with_reducible first | exact HB.out | apply below_alloc | apply pw_below_drewN | apply below_drew1) | exact HB.out))) : w.heap.size ≤ gb220)); have n3_ := Aside0.mk ((by rw [hg]; exact (below_size (by repeat (first | (with_reducible first | exact HB.out | apply below_alloc | apply pw_below_drewN | apply below_drew1) | exact HB.out))) : w.heap.size ≤ gb220)); clear HB; have HB := n0_; have BK220 := n1_; have GW220 := n2_; have GE220 := n3_; clear n0_ n1_ n2_ n3_; clear hb hbox hg) | ((with_reducible refine gate_dst (N := 3) rfl ?_); refine box_event ?hg (N := 3) ?hd (cs := #[.float .f64 (un pa1_0 a1_0), .float .f64 (un pa1_1 a1_1)]) (t := 42) ?hr ?_; (case hd => rfl); (case hg => rfl); (case hr => first | (go_simp; done) | (go_simp; rfl)); intro gb221 hg w18 hbox hb; have n0_ := Aside0.mk (blk_below (g := gb220) (o := .cells #[.float .f64 (un pa0_0 a0_0), .float .f64 (un pa0_1 a0_1)] 42 (0, 0)) (by (with_reducible repeat (first | refine blk_drewN ?_ _ | refine blk_drew ?_ | refine blk_alloc ?_ _)); exact BK220.out) hb); have n1_ := Aside0.mk (below_step (by repeat (first | (with_reducible first | exact HB.out | apply below_alloc | apply pw_below_drewN | apply below_drew1 | refine below_set ?_ GE220.out) | exact HB.out)) hb); have n2_ := Aside0.mk (hbox); have n3_ := Aside0.mk ((by rw [hg]; exact (below_size (by repeat (first | (with_reducible first | exact HB.out | apply below_alloc | apply pw_below_drewN | apply below_drew1 | refine below_set ?_ GE220.out) | exact HB.out))) : w.heap.size ≤ gb221)); have n4_ := Aside0.mk ((by rw [hg]; exact (below_size (by repeat (first | (with_reducible first | exact HB.out | apply below_alloc | apply pw_below_drewN | apply below_drew1 | refine below_set ?_ GE220.out) | exact HB.out))) : w.heap.size ≤ gb221)); have n5_ := Aside0.mk ((by rw [hg]; exact Nat.ne_of_lt (blk_lt (g := gb220) (o := .cells #[.float .f64 (un pa0_0 a0_0), .float .f64 (un pa0_1 a0_1)] 42 (0, 0)) (by (with_reducible repeat (first | refine blk_drewN ?_ _ | refine blk_drew ?_ | refine blk_alloc ?_ _)); exact BK220.out)) : gb220 ≠ gb221)); have n6_ := Aside0.mk ((by rw [hg]; exact Nat.ne_of_gt (blk_lt (g := gb220) (o := .cells #[.float .f64 (un pa0_0 a0_0), .float .f64 (un pa0_1 a0_1)] 42 (0, 0)) (by (with_reducible repeat (first | refine blk_drewN ?_ _ | refine blk_drew ?_ | refine blk_alloc ?_ _)); exact BK220.out)) : gb221 ≠ gb220)); clear BK220; clear HB; have BK220 := n0_; have HB := n1_; have BK221 := n2_; have GW221 := n3_; have GE221 := n4_; have NB220_221 := n5_; have NB221_220 := n6_; clear n0_ n1_ n2_ n3_ n4_ n5_ n6_; clear hb hbox hg; have hnb19 := NB220_221.out; have hnc19 := NB221_220.out; have hcz20_0 : w18.cell? ⟨gb220, 0, none⟩ = some (.float .f64 (un pa0_0 a0_0)) := (blk_cell BK220.out 0).trans rfl; have hcz20_1 : w18.cell? ⟨gb220, 1, none⟩ = some (.float .f64 (un pa0_1 a0_1)) := (blk_cell BK220.out 1).trans rfl; have hfz20_0 := blk_frozen BK220.out 0; have hfz20_1 := blk_frozen BK220.out 1; have hcz21_0 : w18.cell? ⟨gb221, 0, none⟩ = some (.float .f64 (un pa1_0 a1_0)) := (blk_cell BK221.out 0).trans rfl; have hcz21_1 : w18.cell? ⟨gb221, 1, none⟩ = some (.float .f64 (un pa1_1 a1_1)) := (blk_cell BK221.out 1).trans rfl; have hfz21_0 := blk_frozen BK221.out 0; have hfz21_1 := blk_frozen BK221.out 1) | ((with_reducible refine gate_callee (f := 13) rfl ?_); refine goesL_ (some 9) rfl rfl Tryd.func13 (by kernel_rfl) rfl #[.float .f64 (un pa0_0 a0_0), .float .f64 (un pa1_0 a1_0)] rfl (by (try simp only [List.map_toArray, List.map_cons, List.map_nil]); first | done | rfl | (simp only [List.length_drop, List.length_take]; rfl)) ?_; (with_reducible refine (laws_sameFloat.calls k pa0_0 a0_0 pa1_0 a1_0 false _ A3.out).mono ?_); rintro e w' ⟨rfl, ⟨nd, rfl⟩⟩; refine ⟨_, rfl, ?_⟩))
  go_ret
  exact ⟨by first | rfl | (simp [errW_none, errW_some] <;> rfl) | (simp [*, errW_none, errW_some] <;> rfl), by repeat (first | (with_reducible first | exact HB.out | apply below_alloc | apply pw_below_drewN | apply below_drew1 | refine below_set ?_ GE220.out | refine below_set ?_ GE221.out) | exact HB.out)⟩

end Go.Proofs.YtpileeenoocjpaaDoor.Q
