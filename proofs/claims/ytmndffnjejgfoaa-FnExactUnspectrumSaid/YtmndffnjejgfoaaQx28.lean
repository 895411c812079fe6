/- Plain Lean functions with the same answers as the Go functions of this seat, and a proof for each that the Go code comes to just these answers; no condition. Written by a program of this session (the kit's printer, turned). -/
import Derived.Test.YtmndffnjejgfoaaQx0
import Derived.Test.YtmndffnjejgfoaaQx22
import Derived.Test.YtmndffnjejgfoaaQx23
namespace Go.Proofs.Ytmndffnjejgfoaa.Q
open Go.RowKit Go.Proofs.YtmndffnjejgfoaaW.PrintWords Go.Proofs.YtmndffnjejgfoaaW.PrintLast Go.Proofs.YtmndffnjejgfoaaW.PrintMore
attribute [local go_sem] max2_int min2_int max_two min_two max_three min_three max_four min_four   -- for this text's walks alone
set_option linter.unusedVariables false
set_option linter.unusedSimpArgs false

/-! ### spec_l16Power: function 56 -/
def spec_l16Power.l0 : Nat → Int → Int → Int → Int → Option (Int)
  | 0, _, _, _, _ => none
  | k + 1, x0, x1, x5, x6 => if x6 < x1 then (spec_l16Power.l0 k x0 x1 (Int.tmod (wrap64 (x5 * x0)) 65537) (wrap64 (x6 + 1))) else (some x5)
def spec_l16Power.f (k : Nat) (a0 : Int) (a1 : Int) : Option (Int) := spec_l16Power.l0 k a0 a1 1 0
theorem spec_l16Power.mono_l : ∀ k, (∀ y0 y1 y2 y3, LeO (spec_l16Power.l0 k y0 y1 y2 y3) (spec_l16Power.l0 (k + 1) y0 y1 y2 y3))
  | 0 => fun _ _ _ _ r h => by simp [spec_l16Power.l0] at h
  | k + 1 => by
    have ih0 := spec_l16Power.mono_l k
    · intro y0 y1 y2 y3
      unfold spec_l16Power.l0
      repeat' first
      | (with_reducible exact ih0 _ _ _ _)
      | (with_reducible exact LeO.refl _)
      | (with_reducible exact LeO.none _)
      | (with_reducible refine LeO.ite ?_ ?_)
      | (with_reducible refine LeO.bind ?_ (fun _ => ?_))
      | exact ih0 _ _ _ _
      | exact LeO.none _
      | refine LeO.ite ?_ ?_
      | refine LeO.bind ?_ (fun _ => ?_)
theorem spec_l16Power.mono : ∀ a0 a1 k, LeO (spec_l16Power.f k a0 a1) (spec_l16Power.f (k + 1) a0 a1) := by
  intro a0 a1 k
  have ih0 := spec_l16Power.mono_l k
  unfold spec_l16Power.f
  repeat' first
      | (with_reducible exact ih0 _ _ _ _)
      | (with_reducible exact LeO.refl _)
      | (with_reducible exact LeO.none _)
      | (with_reducible refine LeO.ite ?_ ?_)
      | (with_reducible refine LeO.bind ?_ (fun _ => ?_))
      | exact ih0 _ _ _ _
      | exact LeO.none _
      | refine LeO.ite ?_ ?_
      | refine LeO.bind ?_ (fun _ => ?_)
set_option maxHeartbeats 8000000 in
set_option maxRecDepth 100000 in
theorem spec_l16Power.calls (k : Nat) (a0 : Int) (a1 : Int) (r : Int) (w : World) (h : spec_l16Power.f k a0 a1 = some r) :
    Calls Try.prog 56 #[.int .i64 a0, .int .i64 a1] w fun e w' => e = .returned (.int .i64 r) ∧ Drawn0 w w' := by
  have H : (spec_l16Power.l0 k a0 a1 1 0) = some r := h
  clear h
  have H' := Aside0.mk H
  clear H
  go_enter Try.func56, Try.ntmps56
  go_wp2
  go_loopg [5, 6] k (fun kq v5 v6 w' => ∃ (x5_1 : Int) (x6_1 : Int), v5 = .int .i64 x5_1 ∧ v6 = .int .i64 x6_1 ∧ Aside0 (spec_l16Power.l0 kq a0 a1 x5_1 x6_1 = some r) ∧ Aside0 (kq ≤ k) ∧ Drawn0 w w')
  case atStart => exact ⟨(1), (0), (by first | rfl | (simp; done) | (simp [*]; done)), (by first | rfl | (simp; done) | (simp [*]; done)), H', ⟨Nat.le_refl _⟩, by repeat (first | exact Drawn0.refl _ | apply Drawn0.step)⟩
  case round =>
    clear H'
    try clear p2
    obtain ⟨x5_1, x6_1, rfl, rfl, HA, HK1, ⟨m1, rfl⟩⟩ := hrel
    cases gk with
    | zero => exact absurd HA.out (by simp [spec_l16Power.l0])
    | succ k1 =>
      have H := HA.out
      clear HA
      simp only [spec_l16Power.l0] at H
      by_cases c3 : x6_1 < a1
      · rw [if_pos c3] at H
        have c3b0 : decide (x6_1 < a1) = true := decide_eq_true c3
        clear c3
        have H' := Aside0.mk H
        clear H
        go_wp2
        go_roundg k1
        case measure => have := HK1.out; omega
        case rel => exact ⟨(Int.tmod (wrap64 (x5_1 * a0)) 65537), (wrap64 (x6_1 + 1)), (by first | rfl | (simp; done) | (simp [*]; done)), (by first | rfl | (simp; done) | (simp [*]; done)), H', ⟨by have := HK1.out; omega⟩, by repeat (first | exact Drawn0.refl _ | apply Drawn0.step)⟩
      · rw [if_neg c3] at H
        have c3b0 : decide (x6_1 < a1) = false := decide_eq_false c3
        clear c3
        obtain rfl := Option.some.inj H
        go_wp2
        go_ret
        exact ⟨by first | rfl | (simp; done) | (simp [*]; done), by repeat (first | exact Drawn0.refl _ | apply Drawn0.step)⟩

/-! ### spec_Unspectrum: function 30 -/
def spec_Unspectrum.l0 : Nat → List Int → Int → Int → Option (List Int × Bool)
  | 0, _, _, _ => none
  | k + 1, x5, x6, x7 => if x7 < (x5.length : Int) then (if 0 ≤ x7 then (spec_Unspectrum.l0 k (x5.set (x7 : Int).toNat (Int.tmod (wrap64 ((rd x5 x7) * x6)) 65537)) x6 (wrap64 (x7 + 1))) else (none)) else (some (x5, true))
def spec_Unspectrum.f (k : Nat) (l0 : List Int) : Option (List Int × Bool) := (spec_l16RowOk.f k l0).bind fun t428 => (if t428 = true then ((spec_l16Turn.f k (l0.length : Int)).bind fun t432 => ((spec_l16Power.f k t432 (wrap64 ((l0.length : Int) - 1))).bind fun t433 => ((spec_l16Sums.f k l0 t433).bind fun t434 => ((spec_l16Power.f k (l0.length : Int) 65535).bind fun t437 => (spec_Unspectrum.l0 k t434 t437 0))))) else (some ((([] : List Int)), false)))
theorem spec_Unspectrum.mono_l : ∀ k, (∀ y0 y1 y2, LeO (spec_Unspectrum.l0 k y0 y1 y2) (spec_Unspectrum.l0 (k + 1) y0 y1 y2))
  | 0 => fun _ _ _ r h => by simp [spec_Unspectrum.l0] at h
  | k + 1 => by
    have ih0 := spec_Unspectrum.mono_l k
    · intro y0 y1 y2
      unfold spec_Unspectrum.l0
      repeat' first
      | (with_reducible exact ih0 _ _ _)
      | (with_reducible exact spec_l16Power.mono _ _ _)
      | (with_reducible exact spec_l16RowOk.mono _ _)
      | (with_reducible exact spec_l16Sums.mono _ _ _)
      | (with_reducible exact spec_l16Turn.mono _ _)
      | (with_reducible exact LeO.refl _)
      | (with_reducible exact LeO.none _)
      | (with_reducible refine LeO.ite ?_ ?_)
      | (with_reducible refine LeO.bind ?_ (fun _ => ?_))
      | exact ih0 _ _ _
      | exact spec_l16Power.mono _ _ _
      | exact spec_l16RowOk.mono _ _
      | exact spec_l16Sums.mono _ _ _
      | exact spec_l16Turn.mono _ _
      | exact LeO.none _
      | refine LeO.ite ?_ ?_
      | refine LeO.bind ?_ (fun _ => ?_)
theorem spec_Unspectrum.mono : ∀ a0 k, LeO (spec_Unspectrum.f k a0) (spec_Unspectrum.f (k + 1) a0) := by
  intro a0 k
  have ih0 := spec_Unspectrum.mono_l k
  unfold spec_Unspectrum.f
  repeat' first
      | (with_reducible exact ih0 _ _ _)
      | (with_reducible exact spec_l16Power.mono _ _ _)
      | (with_reducible exact spec_l16RowOk.mono _ _)
      | (with_reducible exact spec_l16Sums.mono _ _ _)
      | (with_reducible exact spec_l16Turn.mono _ _)
      | (with_reducible exact LeO.refl _)
      | (with_reducible exact LeO.none _)
      | (with_reducible refine LeO.ite ?_ ?_)
      | (with_reducible refine LeO.bind ?_ (fun _ => ?_))
      | exact ih0 _ _ _
      | exact spec_l16Power.mono _ _ _
      | exact spec_l16RowOk.mono _ _
      | exact spec_l16Sums.mono _ _ _
      | exact spec_l16Turn.mono _ _
      | exact LeO.none _
      | refine LeO.ite ?_ ?_
      | refine LeO.bind ?_ (fun _ => ?_)
set_option maxHeartbeats 8000000 in
set_option maxRecDepth 100000 in
theorem spec_Unspectrum.calls (k : Nat) (A0 : Option Addr) (c0 : Nat) (l0 : List Int) (r1 : List Int) (r2 : Bool) (w : World) (hr0 : Kd.C (Kd.int .i64) w A0 l0.length l0) (hc0 : l0.length ≤ c0) (h : spec_Unspectrum.f k l0 = some (r1, r2)) :
    Calls Try.prog 30 #[.slice A0 l0.length c0] w fun e w' => ∃ v0_ : Value, e = .returned (.tuple #[v0_, .bool r2]) ∧ Kd.R (Kd.int .i64) 2 w' w.heap.size (fun _ => True) v0_ r1 ∧ Below w.heap.size w w' := by
  have HR0 := Aside0.mk hr0
  have HC0 := Aside0.mk hc0
  clear hr0 hc0
  have HB := Aside0.mk (Below.refl w.heap.size w)
  have H : ((spec_l16RowOk.f k l0).bind fun t428 => (if t428 = true then ((spec_l16Turn.f k (l0.length : Int)).bind fun t432 => ((spec_l16Power.f k t432 (wrap64 ((l0.length : Int) - 1))).bind fun t433 => ((spec_l16Sums.f k l0 t433).bind fun t434 => ((spec_l16Power.f k (l0.length : Int) 65535).bind fun t437 => (spec_Unspectrum.l0 k t434 t437 0))))) else (some ((([] : List Int)), false)))) = some (r1, r2) := h
  clear h
  replace H := Option.bind_eq_some_iff.mp H
  obtain ⟨t428, A20, H⟩ := H
  replace H : (if t428 = true then ((spec_l16Turn.f k (l0.length : Int)).bind fun t432 => ((spec_l16Power.f k t432 (wrap64 ((l0.length : Int) - 1))).bind fun t433 => ((spec_l16Sums.f k l0 t433).bind fun t434 => ((spec_l16Power.f k (l0.length : Int) 65535).bind fun t437 => (spec_Unspectrum.l0 k t434 t437 0))))) else (some ((([] : List Int)), false))) = some (r1, r2) := H
  have A2 := Aside0.mk A20
  clear A20
  by_cases c3 : t428 = true
  · subst c3
    have H1 : ((spec_l16Turn.f k (l0.length : Int)).bind fun t432 => ((spec_l16Power.f k t432 (wrap64 ((l0.length : Int) - 1))).bind fun t433 => ((spec_l16Sums.f k l0 t433).bind fun t434 => ((spec_l16Power.f k (l0.length : Int) 65535).bind fun t437 => (spec_Unspectrum.l0 k t434 t437 0))))) = some (r1, r2) := by rw [if_pos rfl] at H; exact H
    clear H
    have H := H1
    clear H1
    replace H := Option.bind_eq_some_iff.mp H
    obtain ⟨t432, A40, H⟩ := H
    replace H : ((spec_l16Power.f k t432 (wrap64 ((l0.length : Int) - 1))).bind fun t433 => ((spec_l16Sums.f k l0 t433).bind fun t434 => ((spec_l16Power.f k (l0.length : Int) 65535).bind fun t437 => (spec_Unspectrum.l0 k t434 t437 0)))) = some (r1, r2) := H
    have A4 := Aside0.mk A40
    clear A40
    replace H := Option.bind_eq_some_iff.mp H
    obtain ⟨t433, A50, H⟩ := H
    replace H : ((spec_l16Sums.f k l0 t433).bind fun t434 => ((spec_l16Power.f k (l0.length : Int) 65535).bind fun t437 => (spec_Unspectrum.l0 k t434 t437 0))) = some (r1, r2) := H
    have A5 := Aside0.mk A50
    clear A50
    replace H := Option.bind_eq_some_iff.mp H
    obtain ⟨t434, A60, H⟩ := H
    replace H : ((spec_l16Power.f k (l0.length : Int) 65535).bind fun t437 => (spec_Unspectrum.l0 k t434 t437 0)) = some (r1, r2) := H
    have A6 := Aside0.mk A60
    clear A60
    replace H := Option.bind_eq_some_iff.mp H
    obtain ⟨t437, A70, H⟩ := H
    replace H : (spec_Unspectrum.l0 k t434 t437 0) = some (r1, r2) := H
    have A7 := Aside0.mk A70
    clear A70
    have H' := Aside0.mk H
    clear H
    go_enter Try.func30, Try.ntmps30
    go_wp2_with (first | ((with_reducible refine gate_callee (f := 50) rfl ?_); refine goesL_ (some 9) rfl rfl Try.func50 (by kernel_rfl) rfl #[.slice A0 l0.length c0] rfl (by (try simp only [List.map_toArray, List.map_cons, List.map_nil]); first | done | rfl | (simp only [List.length_drop, List.length_take]; rfl)) ?_; (with_reducible refine (spec_l16RowOk.calls k _ _ l0 true _ ?side1 ?side2 A2.out).mono ?_); (case side1 => repeat (first | exact HR0.out | (with_reducible refine Kd.C_alloc ?_ _) | (with_reducible refine Kd.C_drewN ?_ _) | (with_reducible refine Kd.C_drew ?_))); (case side2 => exact HC0.out); rintro e w' ⟨rfl, ⟨nd, rfl⟩⟩; refine ⟨_, rfl, ?_⟩) | ((with_reducible refine gate_callee (f := 52) rfl ?_); refine goesL_ (some 16) rfl rfl Try.func52 (by kernel_rfl) rfl #[.int .i64 (l0.length : Int)] rfl (by (try simp only [List.map_toArray, List.map_cons, List.map_nil]); first | done | rfl | (simp only [List.length_drop, List.length_take]; rfl)) ?_; (with_reducible refine (spec_l16Turn.calls k (l0.length : Int) t432 _ A4.out).mono ?_); rintro e w' ⟨rfl, ⟨nd, rfl⟩⟩; refine ⟨_, rfl, ?_⟩) | ((with_reducible refine gate_callee (f := 56) rfl ?_); refine goesL_ (some 19) rfl rfl Try.func56 (by kernel_rfl) rfl #[.int .i64 t432, .int .i64 (wrap64 ((l0.length : Int) - 1))] rfl (by (try simp only [List.map_toArray, List.map_cons, List.map_nil]); first | done | rfl | (simp only [List.length_drop, List.length_take]; rfl)) ?_; (with_reducible refine (spec_l16Power.calls k t432 (wrap64 ((l0.length : Int) - 1)) t433 _ A5.out).mono ?_); rintro e w' ⟨rfl, ⟨nd, rfl⟩⟩; refine ⟨_, rfl, ?_⟩) | ((with_reducible refine gate_callee (f := 51) rfl ?_); refine goesL_ (some 20) rfl rfl Try.func51 (by kernel_rfl) rfl #[.slice A0 l0.length c0, .int .i64 t433] rfl (by (try simp only [List.map_toArray, List.map_cons, List.map_nil]); first | done | rfl | (simp only [List.length_drop, List.length_take]; rfl)) ?_; (with_reducible refine (spec_l16Sums.calls k _ _ l0 t433 t434 _ ?side1 ?side2 A6.out).mono ?_); (case side1 => repeat (first | exact HR0.out | (with_reducible refine Kd.C_alloc ?_ _) | (with_reducible refine Kd.C_drewN ?_ _) | (with_reducible refine Kd.C_drew ?_))); (case side2 => exact HC0.out); rintro e w8 ⟨v435, rfl, ho0, hb⟩; refine ⟨_, rfl, ?_⟩; have n0_ := Aside0.mk (Kd.R_lower ho0 (below_size (by repeat (first | (with_reducible first | exact HB.out | apply below_alloc | apply pw_below_drewN | apply below_drew1) | exact HB.out)))); have n1_ := Aside0.mk (below_step (by repeat (first | (with_reducible first | exact HB.out | apply below_alloc | apply pw_below_drewN | apply below_drew1) | exact HB.out)) hb); clear HB; have HO436 := n0_; have HB := n1_; clear n0_ n1_; (try clear hb); (try clear hb2); (try clear hk); (try clear hi); (try clear ho0)) | ((with_reducible refine gate_callee (f := 56) rfl ?_); refine goesL_ (some 22) rfl rfl Try.func56 (by kernel_rfl) rfl #[.int .i64 (l0.length : Int), .int .i64 65535] rfl (by (try simp only [List.map_toArray, List.map_cons, List.map_nil]); first | done | rfl | (simp only [List.length_drop, List.length_take]; rfl)) ?_; (with_reducible refine (spec_l16Power.calls k (l0.length : Int) 65535 t437 _ A7.out).mono ?_); rintro e w' ⟨rfl, ⟨nd, rfl⟩⟩; refine ⟨_, rfl, ?_⟩))
    go_loopg [7] k (fun kq v7 w' => ∃ (x5_1 : List Int) (x7_1 : Int), v7 = .int .i64 x7_1 ∧ Aside0 (spec_Unspectrum.l0 kq x5_1 t437 x7_1 = some (r1, r2)) ∧ Aside0 (kq ≤ k) ∧ Aside0 (Kd.R (Kd.int .i64) 2 w' w.heap.size (fun _ => True) v435 x5_1) ∧ Aside0 (Below w.heap.size w w'))
    case atStart => exact ⟨(t434), (0), (by first | rfl | (simp; done) | (simp [*]; done)), H', ⟨Nat.le_refl _⟩, ⟨by (with_reducible repeat (first | apply Kd.R_alloc | apply Kd.R_drewN | apply Kd.R_drew)); exact HO436.out⟩, ⟨by repeat (first | (with_reducible first | exact HB.out | apply below_alloc | apply pw_below_drewN | apply below_drew1) | exact HB.out)⟩⟩
    case round =>
      clear H'
      try clear p2
      try clear c3
      try clear c5
      try clear p6
      obtain ⟨x5_1, x7_1, rfl, HA, HK1, HO_5, HB⟩ := hrel
      cases gk with
      | zero => exact absurd HA.out (by simp [spec_Unspectrum.l0])
      | succ k1 =>
        have H := HA.out
        clear HA
        simp only [spec_Unspectrum.l0] at H
        by_cases c9 : x7_1 < (x5_1.length : Int)
        · rw [if_pos c9] at H
          have c9b0 : decide (x7_1 < (x5_1.length : Int)) = true := decide_eq_true c9
          clear c9
          by_cases c10 : 0 ≤ x7_1
          · rw [if_pos c10] at H
            have c10b0 : decide (0 ≤ x7_1) = true := decide_eq_true c10
            clear c10
            obtain ⟨y439, hy439⟩ : ∃ y_ : List Int, y_ = (x5_1.set (x7_1 : Int).toNat (Int.tmod (wrap64 ((rd x5_1 x7_1) * t437)) 65537)) := ⟨_, rfl⟩
            replace H : (spec_Unspectrum.l0 k1 y439 t437 (wrap64 (x7_1 + 1))) = some (r1, r2) := by first | (rw [hy439]; with_reducible exact H) | (have H2_ := (Option.bind_some _ _).symm.trans H; rw [hy439]; with_reducible exact H2_) | (have H2_ := (Option.bind_some _ _).symm.trans H; with_reducible exact H2_) | with_reducible exact H | (rw [hy439]; exact H) | exact H
            have Ny439 := Aside0.mk hy439
            clear hy439
            have H' := Aside0.mk H
            clear H
            obtain ⟨Ao12, co12, eo12⟩ := Kd.R_slice HO_5.out
            subst eo12
            have p438 : 0 ≤ (x7_1 : Int) := of_decide_eq_true (by first | (with_reducible assumption) | assumption)
            have q438 : x7_1 < (x5_1.length : Int) := of_decide_eq_true (by first | (with_reducible assumption) | assumption)
            obtain ⟨ad438, e438, hx438_0⟩ := Kd.at_int (Kd.R_reads' HO_5.out).2.2 x7_1 p438 q438
            cases e438
            replace p438 := eq_true p438
            replace q438 := eq_true q438
            have p11 : 0 ≤ (x7_1 : Int) := of_decide_eq_true (by first | (with_reducible assumption) | assumption)
            have q11 : (x7_1 : Int) < ((x5_1.length : Int) : Int) := of_decide_eq_true (by first | (with_reducible assumption) | assumption)
            obtain ⟨go11, co11, eo11, gb11, gl11, cl11, HG11⟩ := Kd.R_form HO_5.out (by omega)
            (first | cases eo11 | (injection eo11 with ea_ en_ ec_; (first | subst ea_ | (injection ea_ with ea_; subst ea_)); subst ec_; clear en_))
            have GB11 := Aside0.mk gb11
            have GG11 := Aside0.mk HG11
            clear gb11 gl11 HG11
            (first | simp only [add_plain] at hx438_0 | skip)
            obtain ⟨hx11_0, hf11_0⟩ := Kd.R_celln 0 HO_5.out (x7_1 : Int) p11 q11
            replace p11 := eq_true p11
            replace q11 := eq_true q11
            have HP13 := Kd.R_putg HO_5.out (x7_1 : Int) (Int.tmod (wrap64 ((rd x5_1 x7_1) * t437)) 65537)
            go_wp2_with (first | ((with_reducible refine gate_store (t := 2) (p := 38) rfl ?_); refine store_event (t := 2) (p := 38) (v := ?vo_w14) (w1 := (wr.setCell ⟨go11, (x7_1 : Int).toNat, none⟩ (.int .i64 (Int.tmod (wrap64 ((rd x5_1 x7_1) * t437)) 65537)))) ?hg ?ho ?hn ?hr ?_; (case ho => rfl); (case hg => rfl); (case hn => rfl); (case hr => first | (go_simp; done) | (go_simp; rfl)); intro w14 hw; have hg : wr.grownBy w14 (some go11) := (by rw [hw]; exact HP13.2); have hp_ : Kd.R (Kd.int .i64) 2 w14 w.heap.size (fun _ => True) (.slice (some ⟨go11, 0, none⟩) x5_1.length co12) y439 := (by rw [hw, Ny439.out]; exact HP13.1); clear HP13; have n0_ := Aside0.mk (hp_); have n1_ := Aside0.mk ((by rw [hw]; exact below_set (HB.out) GB11.out : Below w.heap.size w w14)); clear HO_5; clear HB; have HO_5 := n0_; have HB := n1_; clear n0_ n1_; clear hg hw hp_))
            go_roundg k1
            case measure => have := HK1.out; omega
            case rel => exact ⟨(y439), (wrap64 (x7_1 + 1)), (by first | rfl | (simp; done) | (simp [*]; done)), H', ⟨by have := HK1.out; omega⟩, ⟨by (with_reducible repeat (first | apply Kd.R_alloc | apply Kd.R_drewN | apply Kd.R_drew)); exact HO_5.out⟩, ⟨by repeat (first | (with_reducible first | exact HB.out | apply below_alloc | apply pw_below_drewN | apply below_drew1) | exact HB.out)⟩⟩
          · rw [if_neg c10] at H
            exact absurd H (by simp)
        · rw [if_neg c9] at H
          have c9b0 : decide (x7_1 < (x5_1.length : Int)) = false := decide_eq_false c9
          clear c9
          simp only [Option.some.injEq, Prod.mk.injEq] at H
          obtain ⟨rfl, rfl⟩ := H
          obtain ⟨Ao15, co15, eo15⟩ := Kd.R_slice HO_5.out
          subst eo15
          go_wp2
          go_ret2
          exact ⟨_, by first | rfl | (simp [errW_none, errW_some] <;> rfl) | (simp [*, errW_none, errW_some] <;> rfl), by (with_reducible repeat (first | apply Kd.R_alloc | apply Kd.R_drewN | apply Kd.R_drew)); exact HO_5.out, by repeat (first | (with_reducible first | exact HB.out | apply below_alloc | apply pw_below_drewN | apply below_drew1) | exact HB.out)⟩
  · replace c3 := Bool.eq_false_iff.mpr c3
    subst c3
    have H1 : (some ((([] : List Int)), false)) = some (r1, r2) := by rw [if_neg (show ¬ (false = true) by decide)] at H; exact H
    clear H
    have H := H1
    clear H1
    obtain ⟨y429, hy429⟩ : ∃ y_ : List Int, y_ = (([] : List Int)) := ⟨_, rfl⟩
    replace H : (some (y429, false)) = some (r1, r2) := by first | (rw [hy429]; with_reducible exact H) | (have H2_ := (Option.bind_some _ _).symm.trans H; rw [hy429]; with_reducible exact H2_) | (have H2_ := (Option.bind_some _ _).symm.trans H; with_reducible exact H2_) | with_reducible exact H | (rw [hy429]; exact H) | exact H
    have Ny429 := Aside0.mk hy429
    clear hy429
    simp only [Option.some.injEq, Prod.mk.injEq] at H
    obtain ⟨rfl, rfl⟩ := H
    go_enter Try.func30, Try.ntmps30
    go_wp2_with (first | ((with_reducible refine gate_callee (f := 50) rfl ?_); refine goesL_ (some 9) rfl rfl Try.func50 (by kernel_rfl) rfl #[.slice A0 l0.length c0] rfl (by (try simp only [List.map_toArray, List.map_cons, List.map_nil]); first | done | rfl | (simp only [List.length_drop, List.length_take]; rfl)) ?_; (with_reducible refine (spec_l16RowOk.calls k _ _ l0 false _ ?side1 ?side2 A2.out).mono ?_); (case side1 => repeat (first | exact HR0.out | (with_reducible refine Kd.C_alloc ?_ _) | (with_reducible refine Kd.C_drewN ?_ _) | (with_reducible refine Kd.C_drew ?_))); (case side2 => exact HC0.out); rintro e w' ⟨rfl, ⟨nd, rfl⟩⟩; refine ⟨_, rfl, ?_⟩) | ((with_reducible refine gate_dst (N := 11) rfl ?_); refine Kd.R_lit (Kd.int .i64) _ 2 ?hg (N := 11) ?hd (xs := ([] : List Int)) (inner := []) (ok := fun _ => True) (okp := fun _ => True) ?hr ?hp (fun _ hk => hk) trivial (Below.refl _ _) (Nat.le_refl _) (by simp) ?_; (case hd => rfl); (case hg => rfl); (case hr => first | (go_simp; done) | (go_simp; rfl)); (case hp => exact (Reps.none _ _)); intro v430 w16 ho17 hb hg_ hnew_; clear hg_ hnew_; (first | rw [← Ny429.out] at ho17 | (simp only [Int.reduceToNat] at ho17; rw [← Ny429.out] at ho17)); have n0_ := Aside0.mk (Kd.R_lower ho17 (below_size (by repeat (first | (with_reducible first | exact HB.out | apply below_alloc | apply pw_below_drewN | apply below_drew1) | exact HB.out)))); have n1_ := Aside0.mk (below_step (by repeat (first | (with_reducible first | exact HB.out | apply below_alloc | apply pw_below_drewN | apply below_drew1) | exact HB.out)) hb); clear HB; have HO431 := n0_; have HB := n1_; clear n0_ n1_; clear hb ho17))
    go_ret2
    exact ⟨_, by first | rfl | (simp [errW_none, errW_some] <;> rfl) | (simp [*, errW_none, errW_some] <;> rfl), by (with_reducible repeat (first | apply Kd.R_alloc | apply Kd.R_drewN | apply Kd.R_drew)); exact HO431.out, by repeat (first | (with_reducible first | exact HB.out | apply below_alloc | apply pw_below_drewN | apply below_drew1) | exact HB.out)⟩

end Go.Proofs.Ytmndffnjejgfoaa.Q
