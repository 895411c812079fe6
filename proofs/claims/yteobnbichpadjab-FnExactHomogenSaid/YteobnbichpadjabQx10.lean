/- Plain Lean functions with the same answers as the Go functions of this seat, and a proof for each that the Go code comes to just these answers; no condition. Written by a program of this session (the kit's printer, turned). -/
import Derived.Test.YteobnbichpadjabQx0
import Derived.Test.YteobnbichpadjabQx7
import Derived.Test.YteobnbichpadjabQx8
import Derived.Test.YteobnbichpadjabQx9
namespace Go.Proofs.Yteobnbichpadjab.Q
open Go.RowKit Go.Proofs.YteobnbichpadjabW.PrintWords Go.Proofs.YteobnbichpadjabW.PrintLast Go.Proofs.YteobnbichpadjabW.PrintMore Go.Proofs.YteobnbichpadjabW.PrintFlt
attribute [local go_sem] cmp_lss cmp_leq cmp_gtr cmp_geq cmp_eql cmp_neq flt_l flt_r fgt_l fgt_r feq_l feq_r fne_l fne_r ord_lt ord_gt ord_eq ord_ne conv_int foi_fold run_store_flt
attribute [local go_sem] max2_int min2_int max_two min_two max_three min_three max_four min_four   -- for this text's walks alone
set_option linter.unusedVariables false
set_option linter.unusedSimpArgs false

/-! ### spec_Homogen: function 29 -/
def spec_Homogen.l0 : Nat → List Int → Int → Int → Int → Option (List Int × Int)
 | 0, _, _, _, _ => none
 | k + 1, x4, x5, x8, x9 => if x9 < x5 then (if 0 ≤ x9 then (if x9 < (x4.length : Int) then (spec_Homogen.l0 k (x4.set (x9 : Int).toNat (wrap64 ((rd x4 x9) + x8))) x5 x8 (wrap64 (x9 + 1))) else (none)) else (none)) else ((spec_l19Ok.f k x4).bind fun t136 => (if t136 = true then (some (x4, x8)) else (some ((([] : List Int)), 0))))
def spec_Homogen.f (k : Nat) (l0 : List Int) : Option (List Int × Int) := (spec_l19Ok.f k l0).bind fun t118 => (if t118 = true then ((some (([] : List Int) : List Int)).bind fun y122 => (if y122.length + l0.length < 17592186044416 then ((some (y122 ++ l0 : List Int)).bind fun y125 => ((spec_Break.f k l0).bind fun bt128 => (if bt128.1 = 0 then (some (y125, 0)) else (if 0 ≤ bt128.1 then (if bt128.1 ≤ (l0.length : Int) then ((spec_l19Sum.f k (l0.drop (bt128.1 : Int).toNat)).bind fun t131 => ((spec_l19Sum.f k (l0.take (bt128.1 : Int).toNat)).bind fun t133 => (if (wrap64 (bt128.1 * (wrap64 ((l0.length : Int) - bt128.1)))) = 0 then (none) else (spec_Homogen.l0 k y125 bt128.1 (wrap64 (Int.tdiv (wrap64 ((wrap64 (t131 * bt128.1)) - (wrap64 (t133 * (wrap64 ((l0.length : Int) - bt128.1)))))) (wrap64 (bt128.1 * (wrap64 ((l0.length : Int) - bt128.1)))))) 0)))) else (none)) else (none))))) else (none))) else (some ((([] : List Int)), 0)))
theorem spec_Homogen.mono_l : ∀ k, (∀ y0 y1 y2 y3, LeO (spec_Homogen.l0 k y0 y1 y2 y3) (spec_Homogen.l0 (k + 1) y0 y1 y2 y3))
 | 0 => fun _ _ _ _ r h => by simp [spec_Homogen.l0] at h
 | k + 1 => by
  have ih0 := spec_Homogen.mono_l k
  ·intro y0 y1 y2 y3
   unfold spec_Homogen.l0
   repeat' first
   | (with_reducible exact ih0 _ _ _ _)
   | (with_reducible exact spec_Break.mono _ _)
   | (with_reducible exact spec_l19Ok.mono _ _)
   | (with_reducible exact spec_l19Sum.mono _ _)
   | (with_reducible exact LeO.refl _)
   | (with_reducible exact LeO.none _)
   | (with_reducible refine LeO.ite ?_ ?_)
   | (with_reducible refine LeO.bind ?_ (fun _ => ?_))
   | exact ih0 _ _ _ _
   | exact spec_Break.mono _ _
   | exact spec_l19Ok.mono _ _
   | exact spec_l19Sum.mono _ _
   | exact LeO.none _
   | refine LeO.ite ?_ ?_
   | refine LeO.bind ?_ (fun _ => ?_)
theorem spec_Homogen.mono : ∀ a0 k, LeO (spec_Homogen.f k a0) (spec_Homogen.f (k + 1) a0) := by
 intro a0 k
 have ih0 := spec_Homogen.mono_l k
 unfold spec_Homogen.f
 repeat' first
   | (with_reducible exact ih0 _ _ _ _)
   | (with_reducible exact spec_Break.mono _ _)
   | (with_reducible exact spec_l19Ok.mono _ _)
   | (with_reducible exact spec_l19Sum.mono _ _)
   | (with_reducible exact LeO.refl _)
   | (with_reducible exact LeO.none _)
   | (with_reducible refine LeO.ite ?_ ?_)
   | (with_reducible refine LeO.bind ?_ (fun _ => ?_))
   | exact ih0 _ _ _ _
   | exact spec_Break.mono _ _
   | exact spec_l19Ok.mono _ _
   | exact spec_l19Sum.mono _ _
   | exact LeO.none _
   | refine LeO.ite ?_ ?_
   | refine LeO.bind ?_ (fun _ => ?_)
def spec_Homogen.T8 : Bool × List (List Nat × List Nat) := (true, [([], []), ([], []), ([0, 1], [0, 1]), ([2], [2]), ([], []), ([3, 4], [3, 4]), ([], []), ([], []), ([6, 7], [6, 7]), ([8, 3], [8]), ([], []), ([], []), ([10, 11], [10, 11]), ([9, 12], [9, 12]), ([5, 13], [5, 13]), ([], []), ([], []), ([], []), ([16, 17], [16, 17]), ([15, 18], [15, 18]), ([14, 19], [14, 19]), ([20, 9, 0, 1, 2, 3, 4, 5, 6, 7, 8, 9, 10, 11, 12, 13, 14, 15, 16, 17, 18, 19, 20], [20])])
def spec_Homogen.B8 : List Nat := [0, 0, 3, 7, 0, 31, 0, 0, 192, 463, 0, 0, 3072, 8143, 16383, 0, 0, 0, 196608, 491520, 1048575, 2097151]
theorem spec_Homogen.tab8 : rtab .any (opsOf Try.f29 8) = spec_Homogen.T8 := by kernel_rfl
theorem spec_Homogen.bits8 : waitsOk spec_Homogen.T8.2 spec_Homogen.B8 = true := by kernel_rfl
set_option maxHeartbeats 8000000 in
set_option maxRecDepth 100000 in
theorem spec_Homogen.calls (k : Nat) (A0 : Option Addr) (c0 : Nat) (l0 : List Int) (r1 : List Int) (r2 : Int) (w : World) (hr0 : Kd.C (Kd.int .i64) w A0 l0.length l0) (hc0 : l0.length ≤ c0) (h : spec_Homogen.f k l0 = some (r1, r2)) :
  Calls Try.prog 29 #[.slice A0 l0.length c0] w fun e w' => ∃ v0_ : Value, e = .returned (.tuple #[v0_, .int .i64 r2]) ∧ Kd.R (Kd.int .i64) 2 w' w.heap.size (fun _ => True) v0_ r1 ∧ Below w.heap.size w w' := by
 have HR0 := Aside0.mk hr0
 have HC0 := Aside0.mk hc0
 clear hr0 hc0
 have HB := Aside0.mk (Below.refl w.heap.size w)
 have H : ((spec_l19Ok.f k l0).bind fun t118 => (if t118 = true then ((some (([] : List Int) : List Int)).bind fun y122 => (if y122.length + l0.length < 17592186044416 then ((some (y122 ++ l0 : List Int)).bind fun y125 => ((spec_Break.f k l0).bind fun bt128 => (if bt128.1 = 0 then (some (y125, 0)) else (if 0 ≤ bt128.1 then (if bt128.1 ≤ (l0.length : Int) then ((spec_l19Sum.f k (l0.drop (bt128.1 : Int).toNat)).bind fun t131 => ((spec_l19Sum.f k (l0.take (bt128.1 : Int).toNat)).bind fun t133 => (if (wrap64 (bt128.1 * (wrap64 ((l0.length : Int) - bt128.1)))) = 0 then (none) else (spec_Homogen.l0 k y125 bt128.1 (wrap64 (Int.tdiv (wrap64 ((wrap64 (t131 * bt128.1)) - (wrap64 (t133 * (wrap64 ((l0.length : Int) - bt128.1)))))) (wrap64 (bt128.1 * (wrap64 ((l0.length : Int) - bt128.1)))))) 0)))) else (none)) else (none))))) else (none))) else (some ((([] : List Int)), 0)))) = some (r1, r2) := h
 clear h
 replace H := Option.bind_eq_some_iff.mp H
 obtain ⟨t118, A20, H⟩ := H
 replace H : (if t118 = true then ((some (([] : List Int) : List Int)).bind fun y122 => (if y122.length + l0.length < 17592186044416 then ((some (y122 ++ l0 : List Int)).bind fun y125 => ((spec_Break.f k l0).bind fun bt128 => (if bt128.1 = 0 then (some (y125, 0)) else (if 0 ≤ bt128.1 then (if bt128.1 ≤ (l0.length : Int) then ((spec_l19Sum.f k (l0.drop (bt128.1 : Int).toNat)).bind fun t131 => ((spec_l19Sum.f k (l0.take (bt128.1 : Int).toNat)).bind fun t133 => (if (wrap64 (bt128.1 * (wrap64 ((l0.length : Int) - bt128.1)))) = 0 then (none) else (spec_Homogen.l0 k y125 bt128.1 (wrap64 (Int.tdiv (wrap64 ((wrap64 (t131 * bt128.1)) - (wrap64 (t133 * (wrap64 ((l0.length : Int) - bt128.1)))))) (wrap64 (bt128.1 * (wrap64 ((l0.length : Int) - bt128.1)))))) 0)))) else (none)) else (none))))) else (none))) else (some ((([] : List Int)), 0))) = some (r1, r2) := H
 have A2 := Aside0.mk A20
 clear A20
 by_cases c3 : t118 = true
 ·subst c3
  have H1 : ((some (([] : List Int) : List Int)).bind fun y122 => (if y122.length + l0.length < 17592186044416 then ((some (y122 ++ l0 : List Int)).bind fun y125 => ((spec_Break.f k l0).bind fun bt128 => (if bt128.1 = 0 then (some (y125, 0)) else (if 0 ≤ bt128.1 then (if bt128.1 ≤ (l0.length : Int) then ((spec_l19Sum.f k (l0.drop (bt128.1 : Int).toNat)).bind fun t131 => ((spec_l19Sum.f k (l0.take (bt128.1 : Int).toNat)).bind fun t133 => (if (wrap64 (bt128.1 * (wrap64 ((l0.length : Int) - bt128.1)))) = 0 then (none) else (spec_Homogen.l0 k y125 bt128.1 (wrap64 (Int.tdiv (wrap64 ((wrap64 (t131 * bt128.1)) - (wrap64 (t133 * (wrap64 ((l0.length : Int) - bt128.1)))))) (wrap64 (bt128.1 * (wrap64 ((l0.length : Int) - bt128.1)))))) 0)))) else (none)) else (none))))) else (none))) = some (r1, r2) := by rw [if_pos rfl] at H; exact H
  clear H
  have H := H1
  clear H1
  obtain ⟨y122, hy122⟩ : ∃ y_ : List Int, y_ = (([] : List Int)) := ⟨_, rfl⟩
  replace H : (if y122.length + l0.length < 17592186044416 then ((some (y122 ++ l0 : List Int)).bind fun y125 => ((spec_Break.f k l0).bind fun bt128 => (if bt128.1 = 0 then (some (y125, 0)) else (if 0 ≤ bt128.1 then (if bt128.1 ≤ (l0.length : Int) then ((spec_l19Sum.f k (l0.drop (bt128.1 : Int).toNat)).bind fun t131 => ((spec_l19Sum.f k (l0.take (bt128.1 : Int).toNat)).bind fun t133 => (if (wrap64 (bt128.1 * (wrap64 ((l0.length : Int) - bt128.1)))) = 0 then (none) else (spec_Homogen.l0 k y125 bt128.1 (wrap64 (Int.tdiv (wrap64 ((wrap64 (t131 * bt128.1)) - (wrap64 (t133 * (wrap64 ((l0.length : Int) - bt128.1)))))) (wrap64 (bt128.1 * (wrap64 ((l0.length : Int) - bt128.1)))))) 0)))) else (none)) else (none))))) else (none)) = some (r1, r2) := by first | (rw [hy122]; with_reducible exact H) | (have H2_ := (Option.bind_some _ _).symm.trans H; rw [hy122]; with_reducible exact H2_) | (have H2_ := (Option.bind_some _ _).symm.trans H; with_reducible exact H2_) | with_reducible exact H | (rw [hy122]; exact H) | exact H
  have Ny122 := Aside0.mk hy122
  clear hy122
  by_cases c4 : y122.length + l0.length < 17592186044416
  ·rw [if_pos c4] at H
   have LMc4 := Aside0.mk c4
   clear c4
   obtain ⟨y125, hy125⟩ : ∃ y_ : List Int, y_ = (y122 ++ l0) := ⟨_, rfl⟩
   replace H : ((spec_Break.f k l0).bind fun bt128 => (if bt128.1 = 0 then (some (y125, 0)) else (if 0 ≤ bt128.1 then (if bt128.1 ≤ (l0.length : Int) then ((spec_l19Sum.f k (l0.drop (bt128.1 : Int).toNat)).bind fun t131 => ((spec_l19Sum.f k (l0.take (bt128.1 : Int).toNat)).bind fun t133 => (if (wrap64 (bt128.1 * (wrap64 ((l0.length : Int) - bt128.1)))) = 0 then (none) else (spec_Homogen.l0 k y125 bt128.1 (wrap64 (Int.tdiv (wrap64 ((wrap64 (t131 * bt128.1)) - (wrap64 (t133 * (wrap64 ((l0.length : Int) - bt128.1)))))) (wrap64 (bt128.1 * (wrap64 ((l0.length : Int) - bt128.1)))))) 0)))) else (none)) else (none)))) = some (r1, r2) := by first | (rw [hy125]; with_reducible exact H) | (have H2_ := (Option.bind_some _ _).symm.trans H; rw [hy125]; with_reducible exact H2_) | (have H2_ := (Option.bind_some _ _).symm.trans H; with_reducible exact H2_) | with_reducible exact H | (rw [hy125]; exact H) | exact H
   have Ny125 := Aside0.mk hy125
   clear hy125
   replace H := Option.bind_eq_some_iff.mp H
   obtain ⟨⟨t128, t129⟩, A50, H⟩ := H
   replace H : (if t128 = 0 then (some (y125, 0)) else (if 0 ≤ t128 then (if t128 ≤ (l0.length : Int) then ((spec_l19Sum.f k (l0.drop (t128 : Int).toNat)).bind fun t131 => ((spec_l19Sum.f k (l0.take (t128 : Int).toNat)).bind fun t133 => (if (wrap64 (t128 * (wrap64 ((l0.length : Int) - t128)))) = 0 then (none) else (spec_Homogen.l0 k y125 t128 (wrap64 (Int.tdiv (wrap64 ((wrap64 (t131 * t128)) - (wrap64 (t133 * (wrap64 ((l0.length : Int) - t128)))))) (wrap64 (t128 * (wrap64 ((l0.length : Int) - t128)))))) 0)))) else (none)) else (none))) = some (r1, r2) := H
   have A5 := Aside0.mk A50
   clear A50
   by_cases c6 : t128 = 0
   ·rw [if_pos c6] at H
    have c6b0 : (t128 == 0) = true := beq_iff_eq.mpr c6
    have c6b1 : (t128 != 0) = false := bne_eq_false_iff_eq.mpr c6
    clear c6
    simp only [Option.some.injEq, Prod.mk.injEq] at H
    obtain ⟨rfl, rfl⟩ := H
    go_enter Try.func29, Try.ntmps29
    go_wp2_with (first | ((with_reducible refine gate_callee (f := 57) rfl ?_); refine goesL_ (some 11) rfl rfl Try.func57 (by kernel_rfl) rfl #[.slice A0 l0.length c0] rfl (by (try simp only [List.map_toArray, List.map_cons, List.map_nil]); first | done | rfl | (simp only [List.length_drop, List.length_take]; rfl)) ?_; (with_reducible refine (spec_l19Ok.calls k _ _ l0 true _ ?side1 ?side2 A2.out).mono ?_); (case side1 => repeat (first | exact HR0.out | (with_reducible refine Kd.C_alloc ?_ _) | (with_reducible refine Kd.C_drewN ?_ _) | (with_reducible refine Kd.C_drew ?_))); (case side2 => exact HC0.out); rintro e w' ⟨rfl, ⟨nd, rfl⟩⟩; refine ⟨_, rfl, ?_⟩) | ((with_reducible refine gate_dst (N := 14) rfl ?_); refine Kd.R_lit (Kd.int .i64) _ 2 ?hg (N := 14) ?hd (xs := ([] : List Int)) (inner := []) (ok := fun _ => True) (okp := fun _ => True) ?hr ?hp (fun _ hk => hk) trivial (Below.refl _ _) (Nat.le_refl _) (by simp) ?_; (case hd => rfl); (case hg => rfl); (case hr => first | (go_simp; done) | (go_simp; rfl)); (case hp => exact (Reps.none _ _)); intro v123 w7 ho8 hb hg_ hnew_; clear hg_ hnew_; (first | rw [← Ny122.out] at ho8 | (simp only [Int.reduceToNat] at ho8; rw [← Ny122.out] at ho8)); have n0_ := Aside0.mk (Kd.R_lower ho8 (below_size (by repeat (first | (with_reducible first | exact HB.out | apply below_alloc | apply pw_below_drewN | apply below_drew1) | exact HB.out)))); have n1_ := Aside0.mk (below_step (by repeat (first | (with_reducible first | exact HB.out | apply below_alloc | apply pw_below_drewN | apply below_drew1) | exact HB.out)) hb); clear HB; have HO124 := n0_; have HB := n1_; clear n0_ n1_; clear hb ho8) | ((with_reducible refine gate_builtin (b := .append) (xs := #[.tmp 14, .tmp 15]) rfl ?_); at_builtin; refine Kd.R_append_rows (Kd.int .i64) (w0 := w) w.heap.size rfl (.tmp 14) (.tmp 15) 27 2 (.int .i64 0) 8 rfl Try.underlying27 info2 rfl (by decide) (by omega) v123 y122 l0 _ _ _ (fun _ => True) (fun _ => False) rfl rfl ?aO ?aR (fun _ _ h => h) (fun _ h => h.elim) ?aF ?aB ?aS ?aL ?_; (case aR => repeat (first | exact (Kd.C_below HR0.out HB.out) | (with_reducible refine Kd.C_alloc ?_ _) | (with_reducible refine Kd.C_drewN ?_ _) | (with_reducible refine Kd.C_drew ?_))); (case aB => exact (by repeat (first | (with_reducible first | exact HB.out | apply below_alloc | apply pw_below_drewN | apply below_drew1) | exact HB.out))); (case aF => exact (fun _ _ => trivial)); (case aO => exact (by (with_reducible repeat (first | apply Kd.R_alloc | apply Kd.R_drewN | apply Kd.R_drew)); exact HO124.out)); (case aS => exact (below_size (by repeat (first | (with_reducible first | exact HB.out | apply below_alloc | apply pw_below_drewN | apply below_drew1) | exact HB.out)))); (case aL => have := LMc4.out; omega); intro v126 w9 ho hb hg hat; rw [← Ny125.out] at ho; have n0_ := Aside0.mk (hb); have n1_ := Aside0.mk (ho); clear HB; clear HO124; have HB := n0_; have HO127 := n1_; clear n0_ n1_; clear ho hb hg hat) | ((with_reducible refine gate_callee (f := 63) rfl ?_); refine goesL_ (some 19) rfl rfl Try.func63 (by kernel_rfl) rfl #[.slice A0 l0.length c0] rfl (by (try simp only [List.map_toArray, List.map_cons, List.map_nil]); first | done | rfl | (simp only [List.length_drop, List.length_take]; rfl)) ?_; (with_reducible refine (spec_Break.calls k _ _ l0 t128 t129 _ ?side1 ?side2 A5.out).mono ?_); (case side1 => repeat (first | exact (Kd.C_below HR0.out HB.out) | (with_reducible refine Kd.C_alloc ?_ _) | (with_reducible refine Kd.C_drewN ?_ _) | (with_reducible refine Kd.C_drew ?_))); (case side2 => exact HC0.out); rintro e w10 ⟨rfl, hb⟩; refine ⟨_, rfl, ?_⟩; have n0_ := Aside0.mk (Kd.R_below (by (with_reducible repeat (first | apply Kd.R_alloc | apply Kd.R_drewN | apply Kd.R_drew)); exact HO127.out) hb); have n1_ := Aside0.mk (below_step (by repeat (first | (with_reducible first | exact HB.out | apply below_alloc | apply pw_below_drewN | apply below_drew1) | exact HB.out)) hb); clear HO127; clear HB; have HO127 := n0_; have HB := n1_; clear n0_ n1_; (try clear hb); (try clear hb2); (try clear hk); (try clear hi)))
    go_ret2
    exact ⟨_, by first | rfl | (simp [errW_none, errW_some] <;> rfl) | (simp [*, errW_none, errW_some] <;> rfl), by (with_reducible repeat (first | apply Kd.R_alloc | apply Kd.R_drewN | apply Kd.R_drew)); exact HO127.out, by repeat (first | (with_reducible first | exact HB.out | apply below_alloc | apply pw_below_drewN | apply below_drew1) | exact HB.out)⟩
   ·rw [if_neg c6] at H
    have c6b0 : (t128 == 0) = false := beq_eq_false_iff_ne.mpr c6
    have c6b1 : (t128 != 0) = true := bne_iff_ne.mpr c6
    by_cases c11 : 0 ≤ t128
    ·rw [if_pos c11] at H
     have c11b0 := eq_true c11
     have c11b1 : decide (0 ≤ t128) = true := decide_eq_true c11
     clear c11
     by_cases c12 : t128 ≤ (l0.length : Int)
     ·rw [if_pos c12] at H
      have c12b0 := eq_true c12
      have c12b1 : decide (t128 ≤ (l0.length : Int)) = true := decide_eq_true c12
      clear c12
      replace H := Option.bind_eq_some_iff.mp H
      obtain ⟨t131, A130, H⟩ := H
      replace H : ((spec_l19Sum.f k (l0.take (t128 : Int).toNat)).bind fun t133 => (if (wrap64 (t128 * (wrap64 ((l0.length : Int) - t128)))) = 0 then (none) else (spec_Homogen.l0 k y125 t128 (wrap64 (Int.tdiv (wrap64 ((wrap64 (t131 * t128)) - (wrap64 (t133 * (wrap64 ((l0.length : Int) - t128)))))) (wrap64 (t128 * (wrap64 ((l0.length : Int) - t128)))))) 0))) = some (r1, r2) := H
      have A13 := Aside0.mk A130
      clear A130
      have c14b0 := eq_true (of_decide_eq_true (by first | (with_reducible assumption) | assumption) : 0 ≤ t128)
      have c15b0 := eq_true (of_decide_eq_true (by first | (with_reducible assumption) | assumption) : t128 ≤ (l0.length : Int))
      replace H := Option.bind_eq_some_iff.mp H
      obtain ⟨t133, A160, H⟩ := H
      replace H : (if (wrap64 (t128 * (wrap64 ((l0.length : Int) - t128)))) = 0 then (none) else (spec_Homogen.l0 k y125 t128 (wrap64 (Int.tdiv (wrap64 ((wrap64 (t131 * t128)) - (wrap64 (t133 * (wrap64 ((l0.length : Int) - t128)))))) (wrap64 (t128 * (wrap64 ((l0.length : Int) - t128)))))) 0)) = some (r1, r2) := H
      have A16 := Aside0.mk A160
      clear A160
      by_cases c17 : (wrap64 (t128 * (wrap64 ((l0.length : Int) - t128)))) = 0
      ·rw [if_pos c17] at H
       exact absurd H (by simp)
      ·rw [if_neg c17] at H
       have c17b0 : ((wrap64 (t128 * (wrap64 ((l0.length : Int) - t128)))) == 0) = false := beq_eq_false_iff_ne.mpr c17
       have c17b1 : ((wrap64 (t128 * (wrap64 ((l0.length : Int) - t128)))) != 0) = true := bne_iff_ne.mpr c17
       have H' := Aside0.mk H
       clear H
       go_enter Try.func29, Try.ntmps29
       try go_wp2_with (first | ((with_reducible refine gate_callee (f := 57) rfl ?_); refine goesL_ (some 11) rfl rfl Try.func57 (by kernel_rfl) rfl #[.slice A0 l0.length c0] rfl (by (try simp only [List.map_toArray, List.map_cons, List.map_nil]); first | done | rfl | (simp only [List.length_drop, List.length_take]; rfl)) ?_; (with_reducible refine (spec_l19Ok.calls k _ _ l0 true _ ?side1 ?side2 A2.out).mono ?_); (case side1 => repeat (first | exact HR0.out | (with_reducible refine Kd.C_alloc ?_ _) | (with_reducible refine Kd.C_drewN ?_ _) | (with_reducible refine Kd.C_drew ?_))); (case side2 => exact HC0.out); rintro e w' ⟨rfl, ⟨nd, rfl⟩⟩; refine ⟨_, rfl, ?_⟩) | ((with_reducible refine gate_dst (N := 14) rfl ?_); refine Kd.R_lit (Kd.int .i64) _ 2 ?hg (N := 14) ?hd (xs := ([] : List Int)) (inner := []) (ok := fun _ => True) (okp := fun _ => True) ?hr ?hp (fun _ hk => hk) trivial (Below.refl _ _) (Nat.le_refl _) (by simp) ?_; (case hd => rfl); (case hg => rfl); (case hr => first | (go_simp; done) | (go_simp; rfl)); (case hp => exact (Reps.none _ _)); intro v123 w18 ho19 hb hg_ hnew_; clear hg_ hnew_; (first | rw [← Ny122.out] at ho19 | (simp only [Int.reduceToNat] at ho19; rw [← Ny122.out] at ho19)); have n0_ := Aside0.mk (Kd.R_lower ho19 (below_size (by repeat (first | (with_reducible first | exact HB.out | apply below_alloc | apply pw_below_drewN | apply below_drew1) | exact HB.out)))); have n1_ := Aside0.mk (below_step (by repeat (first | (with_reducible first | exact HB.out | apply below_alloc | apply pw_below_drewN | apply below_drew1) | exact HB.out)) hb); clear HB; have HO124 := n0_; have HB := n1_; clear n0_ n1_; clear hb ho19) | ((with_reducible refine gate_builtin (b := .append) (xs := #[.tmp 14, .tmp 15]) rfl ?_); at_builtin; refine Kd.R_append_rows (Kd.int .i64) (w0 := w) w.heap.size rfl (.tmp 14) (.tmp 15) 27 2 (.int .i64 0) 8 rfl Try.underlying27 info2 rfl (by decide) (by omega) v123 y122 l0 _ _ _ (fun _ => True) (fun _ => False) rfl rfl ?aO ?aR (fun _ _ h => h) (fun _ h => h.elim) ?aF ?aB ?aS ?aL ?_; (case aR => repeat (first | exact (Kd.C_below HR0.out HB.out) | (with_reducible refine Kd.C_alloc ?_ _) | (with_reducible refine Kd.C_drewN ?_ _) | (with_reducible refine Kd.C_drew ?_))); (case aB => exact (by repeat (first | (with_reducible first | exact HB.out | apply below_alloc | apply pw_below_drewN | apply below_drew1) | exact HB.out))); (case aF => exact (fun _ _ => trivial)); (case aO => exact (by (with_reducible repeat (first | apply Kd.R_alloc | apply Kd.R_drewN | apply Kd.R_drew)); exact HO124.out)); (case aS => exact (below_size (by repeat (first | (with_reducible first | exact HB.out | apply below_alloc | apply pw_below_drewN | apply below_drew1) | exact HB.out)))); (case aL => have := LMc4.out; omega); intro v126 w20 ho hb hg hat; rw [← Ny125.out] at ho; have n0_ := Aside0.mk (hb); have n1_ := Aside0.mk (ho); clear HB; clear HO124; have HB := n0_; have HO127 := n1_; clear n0_ n1_; clear ho hb hg hat) | ((with_reducible refine gate_callee (f := 63) rfl ?_); refine goesL_ (some 19) rfl rfl Try.func63 (by kernel_rfl) rfl #[.slice A0 l0.length c0] rfl (by (try simp only [List.map_toArray, List.map_cons, List.map_nil]); first | done | rfl | (simp only [List.length_drop, List.length_take]; rfl)) ?_; (with_reducible refine (spec_Break.calls k _ _ l0 t128 t129 _ ?side1 ?side2 A5.out).mono ?_); (case side1 => repeat (first | exact (Kd.C_below HR0.out HB.out) | (with_reducible refine Kd.C_alloc ?_ _) | (with_reducible refine Kd.C_drewN ?_ _) | (with_reducible refine Kd.C_drew ?_))); (case side2 => exact HC0.out); rintro e w21 ⟨rfl, hb⟩; refine ⟨_, rfl, ?_⟩; have n0_ := Aside0.mk (Kd.R_below (by (with_reducible repeat (first | apply Kd.R_alloc | apply Kd.R_drewN | apply Kd.R_drew)); exact HO127.out) hb); have n1_ := Aside0.mk (below_step (by repeat (first | (with_reducible first | exact HB.out | apply below_alloc | apply pw_below_drewN | apply below_drew1) | exact HB.out)) hb); clear HO127; clear HB; have HO127 := n0_; have HB := n1_; clear n0_ n1_; (try clear hb); (try clear hb2); (try clear hk); (try clear hi)))
       have n0_ := Aside0.mk (Kd.R_drew HO127.out)
       have n1_ := Aside0.mk (below_drew1 HB.out)
       clear HO127
       clear HB
       have HO127 := n0_
       have HB := n1_
       clear n0_ n1_
       obtain ⟨i023, hi023, _, hsz23, _⟩ := info_parts info2
       obtain ⟨A23, hcut23, hA23, hC23⟩ := print_drop_of (P := Try.prog) (Value.int .i64) 0 27 2 .i64 Try.underlying27 hi023 hsz23 A0 c0 l0 t128 (of_decide_eq_true (by first | (with_reducible assumption) | assumption)) (of_decide_eq_true (by first | (with_reducible assumption) | assumption)) HC0.out
       have HR130 := Aside0.mk (Kd.C_of_reads (h1 := fun _ => rfl) (hA23 _ (Kd.reads_of_C HR0.out)))
       have HC130 := Aside0.mk hC23
       clear hA23 hC23 hi023 hsz23
       obtain ⟨i024, hi024, _, hsz24, _⟩ := info_parts info2
       obtain ⟨hcut24, hA24, hC24⟩ := print_take_of (P := Try.prog) (Value.int .i64) 0 27 2 .i64 Try.underlying27 hi024 hsz24 A0 c0 l0 t128 (of_decide_eq_true (by first | (with_reducible assumption) | assumption)) (of_decide_eq_true (by first | (with_reducible assumption) | assumption)) HC0.out
       have HR132 := Aside0.mk (Kd.C_of_reads (h1 := fun _ => rfl) (hA24 _ (Kd.reads_of_C HR0.out)))
       have HC132 := Aside0.mk hC24
       clear hA24 hC24 hi024 hsz24
       refine start_ (n := 22) (S := fun w' => True) (ds := []) #[false, false, false, false, false, false, false, false, false, false, false, false, false, false, false, false, false, false, false, false, false, false] (by kernel_rfl) rfl rfl trivial (fun hHeld => ?_); refine with_tabW spec_Homogen.tab8 spec_Homogen.bits8 (fun HT_ HW_ => ?_)
       generalize w21.drew = w22 at HO127 HB HR130 HR132 hHeld ⊢
       refine pure_ (i := 0) (N := some 27) (v := ?_) (a' := ?_) #[true, false, false, false, false, false, false, false, false, false, false, false, false, false, false, false, false, false, false, false, false, false] rfl rfl (any_of HT_.out (by kernel_rfl)) (fun _ _ _ h => h) (Or.inl ⟨by rfl, ?_⟩) ?_ ?_
       rotate_left
       ·intro w'
        go_simp
        with_reducible rfl
       rotate_left
       ·simp only [Act.put, sqA, sqZ, sqS, i64_w, i32_w]
        rfl
       refine pure_ (i := 1) (N := some 28) (v := ?_) (a' := ?_) #[true, true, false, false, false, false, false, false, false, false, false, false, false, false, false, false, false, false, false, false, false, false] rfl rfl (any_of HT_.out (by kernel_rfl)) (fun _ _ _ h => h) (Or.inl ⟨by rfl, ?_⟩) ?_ ?_
       rotate_left
       ·intro w'
        go_simp
        with_reducible rfl
       rotate_left
       ·simp only [Act.put, sqA, sqZ, sqS, i64_w, i32_w]
        rfl
       refine pure_ (i := 2) (N := some 29) (v := ?_) (a' := ?_) #[true, true, true, false, false, false, false, false, false, false, false, false, false, false, false, false, false, false, false, false, false, false] rfl rfl (any_of HT_.out (by kernel_rfl)) (fun _ _ _ h => h) (Or.inl ⟨by rfl, ?_⟩) ?_ ?_
       rotate_left
       ·intro w'
        go_simp
        with_reducible rfl
       rotate_left
       ·simp only [Act.put, sqA, sqZ, sqS, i64_w, i32_w]
        rfl
       refine pure_ (i := 4) (N := some 31) (v := ?_) (a' := ?_) #[true, true, true, false, true, false, false, false, false, false, false, false, false, false, false, false, false, false, false, false, false, false] rfl rfl (any_of HT_.out (by kernel_rfl)) (fun _ _ _ h => h) (Or.inl ⟨by rfl, ?_⟩) ?_ ?_
       rotate_left
       ·intro w'
        go_simp
        with_reducible rfl
       rotate_left
       ·simp only [Act.put, sqA, sqZ, sqS, i64_w, i32_w]
        rfl
       refine pure_ (i := 6) (N := some 33) (v := ?_) (a' := ?_) #[true, true, true, false, true, false, true, false, false, false, false, false, false, false, false, false, false, false, false, false, false, false] rfl rfl (any_of HT_.out (by kernel_rfl)) (fun _ _ _ h => h) (Or.inl ⟨by rfl, ?_⟩) ?_ ?_
       rotate_left
       ·intro w'
        go_simp
        with_reducible rfl
       rotate_left
       ·simp only [Act.put, sqA, sqZ, sqS, i64_w, i32_w]
        rfl
       refine pure_ (i := 7) (N := some 34) (v := ?_) (a' := ?_) #[true, true, true, false, true, false, true, true, false, false, false, false, false, false, false, false, false, false, false, false, false, false] rfl rfl (any_of HT_.out (by kernel_rfl)) (fun _ _ _ h => h) (Or.inl ⟨by rfl, ?_⟩) ?_ ?_
       rotate_left
       ·intro w'
        go_simp
        with_reducible rfl
       rotate_left
       ·simp only [Act.put, sqA, sqZ, sqS, i64_w, i32_w]
        rfl
       refine pure_ (i := 8) (N := some 35) (v := ?_) (a' := ?_) #[true, true, true, false, true, false, true, true, true, false, false, false, false, false, false, false, false, false, false, false, false, false] rfl rfl (any_of HT_.out (by kernel_rfl)) (fun _ _ _ h => h) (Or.inl ⟨by rfl, ?_⟩) ?_ ?_
       rotate_left
       ·intro w'
        go_simp
        with_reducible rfl
       rotate_left
       ·simp only [Act.put, sqA, sqZ, sqS, i64_w, i32_w]
        rfl
       refine pure_ (i := 10) (N := some 37) (v := ?_) (a' := ?_) #[true, true, true, false, true, false, true, true, true, false, true, false, false, false, false, false, false, false, false, false, false, false] rfl rfl (any_of HT_.out (by kernel_rfl)) (fun _ _ _ h => h) (Or.inl ⟨by rfl, ?_⟩) ?_ ?_
       rotate_left
       ·intro w'
        go_simp
        with_reducible rfl
       rotate_left
       ·simp only [Act.put, sqA, sqZ, sqS, i64_w, i32_w]
        rfl
       refine pure_ (i := 11) (N := some 38) (v := ?_) (a' := ?_) #[true, true, true, false, true, false, true, true, true, false, true, true, false, false, false, false, false, false, false, false, false, false] rfl rfl (any_of HT_.out (by kernel_rfl)) (fun _ _ _ h => h) (Or.inl ⟨by rfl, ?_⟩) ?_ ?_
       rotate_left
       ·intro w'
        go_simp
        with_reducible rfl
       rotate_left
       ·simp only [Act.put, sqA, sqZ, sqS, i64_w, i32_w]
        rfl
       refine pure_ (i := 12) (N := some 39) (v := ?_) (a' := ?_) #[true, true, true, false, true, false, true, true, true, false, true, true, true, false, false, false, false, false, false, false, false, false] rfl rfl (any_of HT_.out (by kernel_rfl)) (fun _ _ _ h => h) (Or.inl ⟨by rfl, ?_⟩) ?_ ?_
       rotate_left
       ·intro w'
        go_simp
        with_reducible rfl
       rotate_left
       ·simp only [Act.put, sqA, sqZ, sqS, i64_w, i32_w]
        rfl
       refine pure_ (i := 15) (N := some 42) (v := ?_) (a' := ?_) #[true, true, true, false, true, false, true, true, true, false, true, true, true, false, false, true, false, false, false, false, false, false] rfl rfl (any_of HT_.out (by kernel_rfl)) (fun _ _ _ h => h) (Or.inl ⟨by rfl, ?_⟩) ?_ ?_
       rotate_left
       ·intro w'
        go_simp
        with_reducible rfl
       rotate_left
       ·simp only [Act.put, sqA, sqZ, sqS, i64_w, i32_w]
        rfl
       refine pure_ (i := 16) (N := some 43) (v := ?_) (a' := ?_) #[true, true, true, false, true, false, true, true, true, false, true, true, true, false, false, true, true, false, false, false, false, false] rfl rfl (any_of HT_.out (by kernel_rfl)) (fun _ _ _ h => h) (Or.inl ⟨by rfl, ?_⟩) ?_ ?_
       rotate_left
       ·intro w'
        go_simp
        with_reducible rfl
       rotate_left
       ·simp only [Act.put, sqA, sqZ, sqS, i64_w, i32_w]
        rfl
       refine pure_ (i := 17) (N := some 44) (v := ?_) (a' := ?_) #[true, true, true, false, true, false, true, true, true, false, true, true, true, false, false, true, true, true, false, false, false, false] rfl rfl (any_of HT_.out (by kernel_rfl)) (fun _ _ _ h => h) (Or.inl ⟨by rfl, ?_⟩) ?_ ?_
       rotate_left
       ·intro w'
        go_simp
        with_reducible rfl
       rotate_left
       ·simp only [Act.put, sqA, sqZ, sqS, i64_w, i32_w]
        rfl
       refine pure_ (i := 18) (N := some 45) (v := ?_) (a' := ?_) #[true, true, true, false, true, false, true, true, true, false, true, true, true, false, false, true, true, true, true, false, false, false] rfl rfl (any_of HT_.out (by kernel_rfl)) (fun _ _ _ h => h) (Or.inl ⟨by rfl, ?_⟩) ?_ ?_
       rotate_left
       ·intro w'
        go_simp
        with_reducible rfl
       rotate_left
       ·simp only [Act.put, sqA, sqZ, sqS, i64_w, i32_w]
        rfl
       refine pure_ (i := 19) (N := some 46) (v := ?_) (a' := ?_) #[true, true, true, false, true, false, true, true, true, false, true, true, true, false, false, true, true, true, true, true, false, false] rfl rfl (any_of HT_.out (by kernel_rfl)) (fun _ _ _ h => h) (Or.inl ⟨by rfl, ?_⟩) ?_ ?_
       rotate_left
       ·intro w'
        go_simp
        with_reducible rfl
       rotate_left
       ·simp only [Act.put, sqA, sqZ, sqS, i64_w, i32_w]
        rfl
       refine one_ (i := 3) (N := some 30) #[true, true, true, true, true, false, true, true, true, false, true, true, true, false, false, true, true, true, true, true, false, false] rfl rfl (one_of HT_.out (by kernel_rfl)) (by decide) (fun K hK => ?_)
       refine goes_ Try.func64 (by kernel_rfl) rfl #[.slice A23 (l0.drop (t128 : Int).toNat).length (c0 - t128.toNat)] (by rfl) rfl rfl (by (try simp only [List.map_toArray, List.map_cons, List.map_nil]); first | done | (rw [show (l0.drop (t128 : Int).toNat).length = (l0.length - t128.toNat) from List.length_drop] <;> rfl) | rfl | (simp only [List.length_drop, List.length_take]; rfl)) ?_
       with_reducible refine (spec_l19Sum.calls k _ _ (l0.drop (t128 : Int).toNat) t131 _ ?side1 ?side2 A13.out).mono ?_
       (case side1 => repeat (first | exact (Kd.C_below HR130.out HB.out) | (with_reducible refine Kd.C_alloc ?_ _) | (with_reducible refine Kd.C_drewN ?_ _) | (with_reducible refine Kd.C_drew ?_)))
       (case side2 => exact HC130.out)
       rintro e w' ⟨rfl, ⟨nd, rfl⟩⟩
       refine ⟨_, rfl, ?_⟩
       refine hK.out _ _ trivial (fun hHeld => ?_)
       clear hK K
       refine norm_ (a' := ?_) ?_ ?_
       rotate_left
       ·show Act.put _ (some 30) _ = _
        simp only [Act.put, sqA, sqZ, sqS, i64_w, i32_w]
        rfl
       refine pure_ (i := 5) (N := some 32) (v := ?_) (a' := ?_) #[true, true, true, true, true, true, true, true, true, false, true, true, true, false, false, true, true, true, true, true, false, false] rfl rfl (any_of HT_.out (by kernel_rfl)) (fun _ _ _ h => h) (Or.inl ⟨by rfl, ?_⟩) ?_ ?_
       rotate_left
       ·intro w'
        go_simp
        with_reducible rfl
       rotate_left
       ·simp only [Act.put, sqA, sqZ, sqS, i64_w, i32_w]
        rfl
       refine one_ (i := 9) (N := some 36) #[true, true, true, true, true, true, true, true, true, true, true, true, true, false, false, true, true, true, true, true, false, false] rfl rfl (one_of HT_.out (by kernel_rfl)) (by decide) (fun K hK => ?_)
       refine goes_ Try.func64 (by kernel_rfl) rfl #[.slice A0 (l0.take (t128 : Int).toNat).length c0] (by rfl) rfl rfl (by (try simp only [List.map_toArray, List.map_cons, List.map_nil]); first | done | (rw [show (l0.take (t128 : Int).toNat).length = t128.toNat from (by rw [List.length_take]; have h_ : (t128 : Int) ≤ (l0.length : Int) := of_decide_eq_true (by first | (with_reducible assumption) | assumption); omega)] <;> rfl) | rfl | (simp only [List.length_drop, List.length_take]; rfl)) ?_
       with_reducible refine (spec_l19Sum.calls k _ _ (l0.take (t128 : Int).toNat) t133 _ ?side1 ?side2 A16.out).mono ?_
       (case side1 => repeat (first | exact (Kd.C_below HR132.out (by repeat (first | (with_reducible first | exact HB.out | apply below_alloc | apply pw_below_drewN | apply below_drew1) | exact HB.out))) | (with_reducible refine Kd.C_alloc ?_ _) | (with_reducible refine Kd.C_drewN ?_ _) | (with_reducible refine Kd.C_drew ?_)))
       (case side2 => exact HC132.out)
       rintro e w' ⟨rfl, ⟨nd, rfl⟩⟩
       refine ⟨_, rfl, ?_⟩
       refine hK.out _ _ trivial (fun hHeld => ?_)
       clear hK K
       refine norm_ (a' := ?_) ?_ ?_
       rotate_left
       ·show Act.put _ (some 36) _ = _
        simp only [Act.put, sqA, sqZ, sqS, i64_w, i32_w]
        rfl
       refine pure_ (i := 13) (N := some 40) (v := ?_) (a' := ?_) #[true, true, true, true, true, true, true, true, true, true, true, true, true, true, false, true, true, true, true, true, false, false] rfl rfl (any_of HT_.out (by kernel_rfl)) (fun _ _ _ h => h) (Or.inl ⟨by rfl, ?_⟩) ?_ ?_
       rotate_left
       ·intro w'
        go_simp
        with_reducible rfl
       rotate_left
       ·simp only [Act.put, sqA, sqZ, sqS, i64_w, i32_w]
        rfl
       refine pure_ (i := 14) (N := some 41) (v := ?_) (a' := ?_) #[true, true, true, true, true, true, true, true, true, true, true, true, true, true, true, true, true, true, true, true, false, false] rfl rfl (any_of HT_.out (by kernel_rfl)) (fun _ _ _ h => h) (Or.inl ⟨by rfl, ?_⟩) ?_ ?_
       rotate_left
       ·intro w'
        go_simp
        with_reducible rfl
       rotate_left
       ·simp only [Act.put, sqA, sqZ, sqS, i64_w, i32_w]
        rfl
       refine pure_ (i := 20) (N := some 47) (v := ?_) (a' := ?_) #[true, true, true, true, true, true, true, true, true, true, true, true, true, true, true, true, true, true, true, true, true, false] rfl rfl (any_of HT_.out (by kernel_rfl)) (fun _ _ _ h => h) (Or.inl ⟨by rfl, ?_⟩) ?_ ?_
       rotate_left
       ·intro w'
        go_simp
        with_reducible rfl
       rotate_left
       ·simp only [Act.put, sqA, sqZ, sqS, i64_w, i32_w]
        rfl
       refine pure_ (i := 21) (N := some 8) (v := ?_) (a' := ?_) #[true, true, true, true, true, true, true, true, true, true, true, true, true, true, true, true, true, true, true, true, true, true] rfl rfl (any_of HT_.out (by kernel_rfl)) (fun _ _ _ h => h) (Or.inl ⟨by rfl, ?_⟩) ?_ ?_
       rotate_left
       ·intro w'
        go_simp
        with_reducible rfl
       rotate_left
       ·simp only [Act.put, sqA, sqZ, sqS, i64_w, i32_w]
        rfl
       refine done_ (done_of HT_.out (by kernel_rfl)) ?_
       try go_wp2
       go_loopg [9] k (fun kq v9 w' => ∃ (x4_1 : List Int) (x9_1 : Int), v9 = .int .i64 x9_1 ∧ Aside0 (spec_Homogen.l0 kq x4_1 t128 (wrap64 (Int.tdiv (wrap64 ((wrap64 (t131 * t128)) - (wrap64 (t133 * (wrap64 ((l0.length : Int) - t128)))))) (wrap64 (t128 * (wrap64 ((l0.length : Int) - t128)))))) x9_1 = some (r1, r2)) ∧ Aside0 (kq ≤ k) ∧ Aside0 (Kd.R (Kd.int .i64) 2 w' w.heap.size (fun _ => True) v126 x4_1) ∧ Aside0 (Below w.heap.size w w'))
       case atStart => exact ⟨(y125), (0), (by first | rfl | (simp; done) | (simp [*]; done)), H', ⟨Nat.le_refl _⟩, ⟨by (with_reducible repeat (first | apply Kd.R_alloc | apply Kd.R_drewN | apply Kd.R_drew)); exact HO127.out⟩, ⟨by repeat (first | (with_reducible first | exact HB.out | apply below_alloc | apply pw_below_drewN | apply below_drew1) | exact HB.out)⟩⟩
       case round =>
        clear H'
        try clear c1
        try clear c2
        try clear p2
        try clear c3
        try clear c4
        try clear c5
        try clear c6
        try clear c6b0
        try clear c6b1
        try clear p6
        try clear c11
        try clear c11b0
        try clear c11b1
        try clear c12
        try clear c12b0
        try clear c12b1
        try clear c14
        try clear c14b0
        try clear c15
        try clear c15b0
        try clear c17
        try clear c17b0
        try clear c17b1
        obtain ⟨x4_1, x9_1, rfl, HA, HK1, HO_4, HB⟩ := hrel
        cases gk with
        | zero => exact absurd HA.out (by simp [spec_Homogen.l0])
        | succ k1 =>
         have H := HA.out
         clear HA
         simp only [spec_Homogen.l0] at H
         by_cases c25 : x9_1 < t128
         ·rw [if_pos c25] at H
          have c25b0 : decide (x9_1 < t128) = true := decide_eq_true c25
          clear c25
          by_cases c26 : 0 ≤ x9_1
          ·rw [if_pos c26] at H
           have c26b0 : decide (0 ≤ x9_1) = true := decide_eq_true c26
           clear c26
           by_cases c27 : x9_1 < (x4_1.length : Int)
           ·rw [if_pos c27] at H
            have c27b0 : decide (x9_1 < (x4_1.length : Int)) = true := decide_eq_true c27
            clear c27
            obtain ⟨y135, hy135⟩ : ∃ y_ : List Int, y_ = (x4_1.set (x9_1 : Int).toNat (wrap64 ((rd x4_1 x9_1) + (wrap64 (Int.tdiv (wrap64 ((wrap64 (t131 * t128)) - (wrap64 (t133 * (wrap64 ((l0.length : Int) - t128)))))) (wrap64 (t128 * (wrap64 ((l0.length : Int) - t128))))))))) := ⟨_, rfl⟩
            replace H : (spec_Homogen.l0 k1 y135 t128 (wrap64 (Int.tdiv (wrap64 ((wrap64 (t131 * t128)) - (wrap64 (t133 * (wrap64 ((l0.length : Int) - t128)))))) (wrap64 (t128 * (wrap64 ((l0.length : Int) - t128)))))) (wrap64 (x9_1 + 1))) = some (r1, r2) := by first | (rw [hy135]; with_reducible exact H) | (have H2_ := (Option.bind_some _ _).symm.trans H; rw [hy135]; with_reducible exact H2_) | (have H2_ := (Option.bind_some _ _).symm.trans H; with_reducible exact H2_) | with_reducible exact H | (rw [hy135]; exact H) | exact H
            have Ny135 := Aside0.mk hy135
            clear hy135
            have H' := Aside0.mk H
            clear H
            obtain ⟨Ao29, co29, eo29⟩ := Kd.R_slice HO_4.out
            subst eo29
            have p134 : 0 ≤ (x9_1 : Int) := of_decide_eq_true (by first | (with_reducible assumption) | assumption)
            have q134 : x9_1 < (x4_1.length : Int) := of_decide_eq_true (by first | (with_reducible assumption) | assumption)
            obtain ⟨ad134, e134, hx134_0⟩ := Kd.at_int (Kd.R_reads' HO_4.out).2.2 x9_1 p134 q134
            cases e134
            replace p134 := eq_true p134
            replace q134 := eq_true q134
            have p28 : 0 ≤ (x9_1 : Int) := of_decide_eq_true (by first | (with_reducible assumption) | assumption)
            have q28 : (x9_1 : Int) < ((x4_1.length : Int) : Int) := of_decide_eq_true (by first | (with_reducible assumption) | assumption)
            obtain ⟨go28, co28, eo28, gb28, gl28, cl28, HG28⟩ := Kd.R_form HO_4.out (by omega)
            (first | cases eo28 | (injection eo28 with ea_ en_ ec_; (first | subst ea_ | (injection ea_ with ea_; subst ea_)); subst ec_; clear en_))
            have GB28 := Aside0.mk gb28
            have GG28 := Aside0.mk HG28
            clear gb28 gl28 HG28
            (first | simp only [add_plain] at hx134_0 | skip)
            obtain ⟨hx28_0, hf28_0⟩ := Kd.R_celln 0 HO_4.out (x9_1 : Int) p28 q28
            replace p28 := eq_true p28
            replace q28 := eq_true q28
            have HP30 := Kd.R_putg HO_4.out (x9_1 : Int) (wrap64 ((rd x4_1 x9_1) + (wrap64 (Int.tdiv (wrap64 ((wrap64 (t131 * t128)) - (wrap64 (t133 * (wrap64 ((l0.length : Int) - t128)))))) (wrap64 (t128 * (wrap64 ((l0.length : Int) - t128))))))))
            go_wp2_with (first | ((with_reducible refine gate_store (t := 2) (p := 61) rfl ?_); refine store_event (t := 2) (p := 61) (v := ?vo_w31) (w1 := (wr.setCell ⟨go28, (x9_1 : Int).toNat, none⟩ (.int .i64 (wrap64 ((rd x4_1 x9_1) + (wrap64 (Int.tdiv (wrap64 ((wrap64 (t131 * t128)) - (wrap64 (t133 * (wrap64 ((l0.length : Int) - t128)))))) (wrap64 (t128 * (wrap64 ((l0.length : Int) - t128))))))))))) ?hg ?ho ?hn ?hr ?_; (case ho => rfl); (case hg => rfl); (case hn => rfl); (case hr => first | (go_simp; done) | (go_simp; rfl)); intro w31 hw; have hg : wr.grownBy w31 (some go28) := (by rw [hw]; exact HP30.2); have hp_ : Kd.R (Kd.int .i64) 2 w31 w.heap.size (fun _ => True) (.slice (some ⟨go28, 0, none⟩) x4_1.length co29) y135 := (by rw [hw, Ny135.out]; exact HP30.1); clear HP30; have n0_ := Aside0.mk (hp_); have n1_ := Aside0.mk ((by rw [hw]; exact below_set (HB.out) GB28.out : Below w.heap.size w w31)); clear HO_4; clear HB; have HO_4 := n0_; have HB := n1_; clear n0_ n1_; clear hg hw hp_))
            go_roundg k1
            case measure => have := HK1.out; omega
            case rel => exact ⟨(y135), (wrap64 (x9_1 + 1)), (by first | rfl | (simp; done) | (simp [*]; done)), H', ⟨by have := HK1.out; omega⟩, ⟨by (with_reducible repeat (first | apply Kd.R_alloc | apply Kd.R_drewN | apply Kd.R_drew)); exact HO_4.out⟩, ⟨by repeat (first | (with_reducible first | exact HB.out | apply below_alloc | apply pw_below_drewN | apply below_drew1) | exact HB.out)⟩⟩
           ·rw [if_neg c27] at H
            exact absurd H (by simp)
          ·rw [if_neg c26] at H
           exact absurd H (by simp)
         ·rw [if_neg c25] at H
          have c25b0 : decide (x9_1 < t128) = false := decide_eq_false c25
          clear c25
          replace H := Option.bind_eq_some_iff.mp H
          obtain ⟨t136, A320, H⟩ := H
          replace H : (if t136 = true then (some (x4_1, (wrap64 (Int.tdiv (wrap64 ((wrap64 (t131 * t128)) - (wrap64 (t133 * (wrap64 ((l0.length : Int) - t128)))))) (wrap64 (t128 * (wrap64 ((l0.length : Int) - t128)))))))) else (some ((([] : List Int)), 0))) = some (r1, r2) := H
          have A32 := Aside0.mk A320
          clear A320
          by_cases c33 : t136 = true
          ·subst c33
           have H1 : (some (x4_1, (wrap64 (Int.tdiv (wrap64 ((wrap64 (t131 * t128)) - (wrap64 (t133 * (wrap64 ((l0.length : Int) - t128)))))) (wrap64 (t128 * (wrap64 ((l0.length : Int) - t128)))))))) = some (r1, r2) := by rw [if_pos rfl] at H; exact H
           clear H
           have H := H1
           clear H1
           simp only [Option.some.injEq, Prod.mk.injEq] at H
           obtain ⟨rfl, rfl⟩ := H
           obtain ⟨Ao34, co34, eo34⟩ := Kd.R_slice HO_4.out
           subst eo34
           go_wp2_with (first | ((with_reducible refine gate_callee (f := 57) rfl ?_); refine goesL_ (some 63) rfl rfl Try.func57 (by kernel_rfl) rfl #[.slice Ao34 x4_1.length co34] rfl (by (try simp only [List.map_toArray, List.map_cons, List.map_nil]); first | done | rfl | (simp only [List.length_drop, List.length_take]; rfl)) ?_; (with_reducible refine (spec_l19Ok.calls k1 _ _ x4_1 true _ ?side1 ?side2 A32.out).mono ?_); (case side1 => repeat (first | exact (Kd.R_reads' HO_4.out).2.2 | (with_reducible refine Kd.C_alloc ?_ _) | (with_reducible refine Kd.C_drewN ?_ _) | (with_reducible refine Kd.C_drew ?_))); (case side2 => exact (Kd.R_reads' HO_4.out).2.1); rintro e w' ⟨rfl, ⟨nd, rfl⟩⟩; refine ⟨_, rfl, ?_⟩))
           go_ret2
           exact ⟨_, by first | rfl | (simp [errW_none, errW_some] <;> rfl) | (simp [*, errW_none, errW_some] <;> rfl), by (with_reducible repeat (first | apply Kd.R_alloc | apply Kd.R_drewN | apply Kd.R_drew)); exact HO_4.out, by repeat (first | (with_reducible first | exact HB.out | apply below_alloc | apply pw_below_drewN | apply below_drew1) | exact HB.out)⟩
          ·replace c33 := Bool.eq_false_iff.mpr c33
           subst c33
           have H1 : (some ((([] : List Int)), 0)) = some (r1, r2) := by rw [if_neg (show ¬ (false = true) by decide)] at H; exact H
           clear H
           have H := H1
           clear H1
           obtain ⟨y137, hy137⟩ : ∃ y_ : List Int, y_ = (([] : List Int)) := ⟨_, rfl⟩
           replace H : (some (y137, 0)) = some (r1, r2) := by first | (rw [hy137]; with_reducible exact H) | (have H2_ := (Option.bind_some _ _).symm.trans H; rw [hy137]; with_reducible exact H2_) | (have H2_ := (Option.bind_some _ _).symm.trans H; with_reducible exact H2_) | with_reducible exact H | (rw [hy137]; exact H) | exact H
           have Ny137 := Aside0.mk hy137
           clear hy137
           simp only [Option.some.injEq, Prod.mk.injEq] at H
           obtain ⟨rfl, rfl⟩ := H
           obtain ⟨Ao35, co35, eo35⟩ := Kd.R_slice HO_4.out
           subst eo35
           go_wp2_with (first | ((with_reducible refine gate_callee (f := 57) rfl ?_); refine goesL_ (some 63) rfl rfl Try.func57 (by kernel_rfl) rfl #[.slice Ao35 x4_1.length co35] rfl (by (try simp only [List.map_toArray, List.map_cons, List.map_nil]); first | done | rfl | (simp only [List.length_drop, List.length_take]; rfl)) ?_; (with_reducible refine (spec_l19Ok.calls k1 _ _ x4_1 false _ ?side1 ?side2 A32.out).mono ?_); (case side1 => repeat (first | exact (Kd.R_reads' HO_4.out).2.2 | (with_reducible refine Kd.C_alloc ?_ _) | (with_reducible refine Kd.C_drewN ?_ _) | (with_reducible refine Kd.C_drew ?_))); (case side2 => exact (Kd.R_reads' HO_4.out).2.1); rintro e w' ⟨rfl, ⟨nd, rfl⟩⟩; refine ⟨_, rfl, ?_⟩) | ((with_reducible refine gate_dst (N := 65) rfl ?_); refine Kd.R_lit (Kd.int .i64) _ 2 ?hg (N := 65) ?hd (xs := ([] : List Int)) (inner := []) (ok := fun _ => True) (okp := fun _ => True) ?hr ?hp (fun _ hk => hk) trivial (Below.refl _ _) (Nat.le_refl _) (by simp) ?_; (case hd => rfl); (case hg => rfl); (case hr => first | (go_simp; done) | (go_simp; rfl)); (case hp => exact (Reps.none _ _)); intro v138 w36 ho37 hb hg_ hnew_; clear hg_ hnew_; (first | rw [← Ny137.out] at ho37 | (simp only [Int.reduceToNat] at ho37; rw [← Ny137.out] at ho37)); have n0_ := Aside0.mk (Kd.R_elder' (by (with_reducible repeat (first | apply Kd.R_alloc | apply Kd.R_drewN | apply Kd.R_drew)); exact HO_4.out) (Kd.R_base ho37) hb); have n1_ := Aside0.mk (Kd.R_lower (Kd.R_new' ho37 (Kd.R_lt (by (with_reducible repeat (first | apply Kd.R_alloc | apply Kd.R_drewN | apply Kd.R_drew)); exact HO_4.out))) (below_size (by repeat (first | (with_reducible first | exact HB.out | apply below_alloc | apply pw_below_drewN | apply below_drew1) | exact HB.out)))); have n2_ := Aside0.mk (below_step (by repeat (first | (with_reducible first | exact HB.out | apply below_alloc | apply pw_below_drewN | apply below_drew1) | exact HB.out)) hb); clear HO_4; clear HB; have HO_4 := n0_; have HO139 := n1_; have HB := n2_; clear n0_ n1_ n2_; clear hb ho37))
           go_ret2
           exact ⟨_, by first | rfl | (simp [errW_none, errW_some] <;> rfl) | (simp [*, errW_none, errW_some] <;> rfl), by (with_reducible repeat (first | apply Kd.R_alloc | apply Kd.R_drewN | apply Kd.R_drew)); exact Kd.R_mono HO139.out (fun _ hk => trivial), by repeat (first | (with_reducible first | exact HB.out | apply below_alloc | apply pw_below_drewN | apply below_drew1) | exact HB.out)⟩
     ·rw [if_neg c12] at H
      exact absurd H (by simp)
    ·rw [if_neg c11] at H
     exact absurd H (by simp)
  ·rw [if_neg c4] at H
   exact absurd H (by simp)
 ·replace c3 := Bool.eq_false_iff.mpr c3
  subst c3
  have H1 : (some ((([] : List Int)), 0)) = some (r1, r2) := by rw [if_neg (show ¬ (false = true) by decide)] at H; exact H
  clear H
  have H := H1
  clear H1
  obtain ⟨y119, hy119⟩ : ∃ y_ : List Int, y_ = (([] : List Int)) := ⟨_, rfl⟩
  replace H : (some (y119, 0)) = some (r1, r2) := by first | (rw [hy119]; with_reducible exact H) | (have H2_ := (Option.bind_some _ _).symm.trans H; rw [hy119]; with_reducible exact H2_) | (have H2_ := (Option.bind_some _ _).symm.trans H; with_reducible exact H2_) | with_reducible exact H | (rw [hy119]; exact H) | exact H
  have Ny119 := Aside0.mk hy119
  clear hy119
  simp only [Option.some.injEq, Prod.mk.injEq] at H
  obtain ⟨rfl, rfl⟩ := H
  go_enter Try.func29, Try.ntmps29
  go_wp2_with (first | ((with_reducible refine gate_callee (f := 57) rfl ?_); refine goesL_ (some 11) rfl rfl Try.func57 (by kernel_rfl) rfl #[.slice A0 l0.length c0] rfl (by (try simp only [List.map_toArray, List.map_cons, List.map_nil]); first | done | rfl | (simp only [List.length_drop, List.length_take]; rfl)) ?_; (with_reducible refine (spec_l19Ok.calls k _ _ l0 false _ ?side1 ?side2 A2.out).mono ?_); (case side1 => repeat (first | exact HR0.out | (with_reducible refine Kd.C_alloc ?_ _) | (with_reducible refine Kd.C_drewN ?_ _) | (with_reducible refine Kd.C_drew ?_))); (case side2 => exact HC0.out); rintro e w' ⟨rfl, ⟨nd, rfl⟩⟩; refine ⟨_, rfl, ?_⟩) | ((with_reducible refine gate_dst (N := 13) rfl ?_); refine Kd.R_lit (Kd.int .i64) _ 2 ?hg (N := 13) ?hd (xs := ([] : List Int)) (inner := []) (ok := fun _ => True) (okp := fun _ => True) ?hr ?hp (fun _ hk => hk) trivial (Below.refl _ _) (Nat.le_refl _) (by simp) ?_; (case hd => rfl); (case hg => rfl); (case hr => first | (go_simp; done) | (go_simp; rfl)); (case hp => exact (Reps.none _ _)); intro v120 w38 ho39 hb hg_ hnew_; clear hg_ hnew_; (first | rw [← Ny119.out] at ho39 | (simp only [Int.reduceToNat] at ho39; rw [← Ny119.out] at ho39)); have n0_ := Aside0.mk (Kd.R_lower ho39 (below_size (by repeat (first | (with_reducible first | exact HB.out | apply below_alloc | apply pw_below_drewN | apply below_drew1) | exact HB.out)))); have n1_ := Aside0.mk (below_step (by repeat (first | (with_reducible first | exact HB.out | apply below_alloc | apply pw_below_drewN | apply below_drew1) | exact HB.out)) hb); clear HB; have HO121 := n0_; have HB := n1_; clear n0_ n1_; clear hb ho39))
  go_ret2
  exact ⟨_, by first | rfl | (simp [errW_none, errW_some] <;> rfl) | (simp [*, errW_none, errW_some] <;> rfl), by (with_reducible repeat (first | apply Kd.R_alloc | apply Kd.R_drewN | apply Kd.R_drew)); exact HO121.out, by repeat (first | (with_reducible first | exact HB.out | apply below_alloc | apply pw_below_drewN | apply below_drew1) | exact HB.out)⟩

end Go.Proofs.Yteobnbichpadjab.Q
