/- Plain Lean functions with the same answers as the Go functions of this seat, and a proof for each that the Go code comes to just these answers; no condition. Written by a program of this session (the kit's printer, turned). -/
import Derived.Test.YteobnbichpadjabQx0
import Derived.Test.YteobnbichpadjabQx7
import Derived.Test.YteobnbichpadjabQx8
namespace Go.Proofs.Yteobnbichpadjab.Q
open Go.RowKit Go.Proofs.YteobnbichpadjabW.PrintWords Go.Proofs.YteobnbichpadjabW.PrintLast Go.Proofs.YteobnbichpadjabW.PrintMore Go.Proofs.YteobnbichpadjabW.PrintFlt
attribute [local go_sem] cmp_lss cmp_leq cmp_gtr cmp_geq cmp_eql cmp_neq flt_l flt_r fgt_l fgt_r feq_l feq_r fne_l fne_r ord_lt ord_gt ord_eq ord_ne conv_int foi_fold run_store_flt
attribute [local go_sem] max2_int min2_int max_two min_two max_three min_three max_four min_four   -- for this text's walks alone
set_option linter.unusedVariables false
set_option linter.unusedSimpArgs false

/-! ### spec_Break: function 63 -/
def spec_Break.l0 : Nat → List Int → Int → Int → Int → Int → Option (Int × Int)
 | 0, _, _, _, _, _ => none
 | k + 1, x0, x4, x5, x6, x7 => if x7 < x4 then (if 0 ≤ x7 then (if x7 ≤ (x0.length : Int) then ((spec_l19Sum.f k (x0.take (x7 : Int).toNat)).bind fun t116 => ((spec_l19Sum.f k x0).bind fun t117 => (if (mx (wrap64 ((wrap64 (x4 * t116)) - (wrap64 (x7 * t117)))) (wrap64 (-(wrap64 ((wrap64 (x4 * t116)) - (wrap64 (x7 * t117))))))) > x6 then (spec_Break.l0 k x0 x4 x7 (mx (wrap64 ((wrap64 (x4 * t116)) - (wrap64 (x7 * t117)))) (wrap64 (-(wrap64 ((wrap64 (x4 * t116)) - (wrap64 (x7 * t117))))))) (wrap64 (x7 + 1))) else (spec_Break.l0 k x0 x4 x5 x6 (wrap64 (x7 + 1)))))) else (none)) else (none)) else (some (x5, mx x6 0))
def spec_Break.f (k : Nat) (l0 : List Int) : Option (Int × Int) := (spec_l19Ok.f k l0).bind fun t114 => (if t114 = true then (spec_Break.l0 k l0 (l0.length : Int) 0 (-1) 1) else (some (0, 0)))
theorem spec_Break.mono_l : ∀ k, (∀ y0 y1 y2 y3 y4, LeO (spec_Break.l0 k y0 y1 y2 y3 y4) (spec_Break.l0 (k + 1) y0 y1 y2 y3 y4))
 | 0 => fun _ _ _ _ _ r h => by simp [spec_Break.l0] at h
 | k + 1 => by
  have ih0 := spec_Break.mono_l k
  ·intro y0 y1 y2 y3 y4
   unfold spec_Break.l0
   repeat' first
   | (with_reducible exact ih0 _ _ _ _ _)
   | (with_reducible exact spec_l19Ok.mono _ _)
   | (with_reducible exact spec_l19Sum.mono _ _)
   | (with_reducible exact LeO.refl _)
   | (with_reducible exact LeO.none _)
   | (with_reducible refine LeO.ite ?_ ?_)
   | (with_reducible refine LeO.bind ?_ (fun _ => ?_))
   | exact ih0 _ _ _ _ _
   | exact spec_l19Ok.mono _ _
   | exact spec_l19Sum.mono _ _
   | exact LeO.none _
   | refine LeO.ite ?_ ?_
   | refine LeO.bind ?_ (fun _ => ?_)
theorem spec_Break.mono : ∀ a0 k, LeO (spec_Break.f k a0) (spec_Break.f (k + 1) a0) := by
 intro a0 k
 have ih0 := spec_Break.mono_l k
 unfold spec_Break.f
 repeat' first
   | (with_reducible exact ih0 _ _ _ _ _)
   | (with_reducible exact spec_l19Ok.mono _ _)
   | (with_reducible exact spec_l19Sum.mono _ _)
   | (with_reducible exact LeO.refl _)
   | (with_reducible exact LeO.none _)
   | (with_reducible refine LeO.ite ?_ ?_)
   | (with_reducible refine LeO.bind ?_ (fun _ => ?_))
   | exact ih0 _ _ _ _ _
   | exact spec_l19Ok.mono _ _
   | exact spec_l19Sum.mono _ _
   | exact LeO.none _
   | refine LeO.ite ?_ ?_
   | refine LeO.bind ?_ (fun _ => ?_)
set_option maxHeartbeats 8000000 in
set_option maxRecDepth 100000 in
theorem spec_Break.calls (k : Nat) (A0 : Option Addr) (c0 : Nat) (l0 : List Int) (r1 : Int) (r2 : Int) (w : World) (hr0 : Kd.C (Kd.int .i64) w A0 l0.length l0) (hc0 : l0.length ≤ c0) (h : spec_Break.f k l0 = some (r1, r2)) :
  Calls Try.prog 63 #[.slice A0 l0.length c0] w fun e w' => e = .returned (.tuple #[.int .i64 r1, .int .i64 r2]) ∧ Below w.heap.size w w' := by
 have HR0 := Aside0.mk hr0
 have HC0 := Aside0.mk hc0
 clear hr0 hc0
 have HB := Aside0.mk (Below.refl w.heap.size w)
 have H : ((spec_l19Ok.f k l0).bind fun t114 => (if t114 = true then (spec_Break.l0 k l0 (l0.length : Int) 0 (-1) 1) else (some (0, 0)))) = some (r1, r2) := h
 clear h
 replace H := Option.bind_eq_some_iff.mp H
 obtain ⟨t114, A20, H⟩ := H
 replace H : (if t114 = true then (spec_Break.l0 k l0 (l0.length : Int) 0 (-1) 1) else (some (0, 0))) = some (r1, r2) := H
 have A2 := Aside0.mk A20
 clear A20
 by_cases c3 : t114 = true
 ·subst c3
  have H1 : (spec_Break.l0 k l0 (l0.length : Int) 0 (-1) 1) = some (r1, r2) := by rw [if_pos rfl] at H; exact H
  clear H
  have H := H1
  clear H1
  have H' := Aside0.mk H
  clear H
  go_enter Try.func63, Try.ntmps63
  go_wp2_with (first | ((with_reducible refine gate_callee (f := 57) rfl ?_); refine goesL_ (some 10) rfl rfl Try.func57 (by kernel_rfl) rfl #[.slice A0 l0.length c0] rfl (by (try simp only [List.map_toArray, List.map_cons, List.map_nil]); first | done | rfl | (simp only [List.length_drop, List.length_take]; rfl)) ?_; (with_reducible refine (spec_l19Ok.calls k _ _ l0 true _ ?side1 ?side2 A2.out).mono ?_); (case side1 => repeat (first | exact HR0.out | (with_reducible refine Kd.C_alloc ?_ _) | (with_reducible refine Kd.C_drewN ?_ _) | (with_reducible refine Kd.C_drew ?_))); (case side2 => exact HC0.out); rintro e w' ⟨rfl, ⟨nd, rfl⟩⟩; refine ⟨_, rfl, ?_⟩))
  go_loopg [5, 6, 7] k (fun kq v5 v6 v7 w' => ∃ (x5_1 : Int) (x6_1 : Int) (x7_1 : Int), v5 = .int .i64 x5_1 ∧ v6 = .int .i64 x6_1 ∧ v7 = .int .i64 x7_1 ∧ Aside0 (spec_Break.l0 kq l0 (l0.length : Int) x5_1 x6_1 x7_1 = some (r1, r2)) ∧ Aside0 (kq ≤ k) ∧ Aside0 (Below w.heap.size w w'))
  case atStart => exact ⟨(0), ((-1)), (1), (by first | rfl | (simp; done) | (simp [*]; done)), (by first | rfl | (simp; done) | (simp [*]; done)), (by first | rfl | (simp; done) | (simp [*]; done)), H', ⟨Nat.le_refl _⟩, ⟨by repeat (first | (with_reducible first | exact HB.out | apply below_alloc | apply pw_below_drewN | apply below_drew1) | exact HB.out)⟩⟩
  case round =>
   clear H'
   try clear p2
   try clear c3
   obtain ⟨x5_1, x6_1, x7_1, rfl, rfl, rfl, HA, HK1, HB⟩ := hrel
   cases gk with
   | zero => exact absurd HA.out (by simp [spec_Break.l0])
   | succ k1 =>
    have H := HA.out
    clear HA
    simp only [spec_Break.l0] at H
    by_cases c4 : x7_1 < (l0.length : Int)
    ·rw [if_pos c4] at H
     have c4b0 : decide (x7_1 < (l0.length : Int)) = true := decide_eq_true c4
     clear c4
     by_cases c5 : 0 ≤ x7_1
     ·rw [if_pos c5] at H
      have c5b0 := eq_true c5
      have c5b1 : decide (0 ≤ x7_1) = true := decide_eq_true c5
      clear c5
      by_cases c6 : x7_1 ≤ (l0.length : Int)
      ·rw [if_pos c6] at H
       have c6b0 := eq_true c6
       have c6b1 : decide (x7_1 ≤ (l0.length : Int)) = true := decide_eq_true c6
       clear c6
       replace H := Option.bind_eq_some_iff.mp H
       obtain ⟨t116, A70, H⟩ := H
       replace H : ((spec_l19Sum.f k1 l0).bind fun t117 => (if (mx (wrap64 ((wrap64 ((l0.length : Int) * t116)) - (wrap64 (x7_1 * t117)))) (wrap64 (-(wrap64 ((wrap64 ((l0.length : Int) * t116)) - (wrap64 (x7_1 * t117))))))) > x6_1 then (spec_Break.l0 k1 l0 (l0.length : Int) x7_1 (mx (wrap64 ((wrap64 ((l0.length : Int) * t116)) - (wrap64 (x7_1 * t117)))) (wrap64 (-(wrap64 ((wrap64 ((l0.length : Int) * t116)) - (wrap64 (x7_1 * t117))))))) (wrap64 (x7_1 + 1))) else (spec_Break.l0 k1 l0 (l0.length : Int) x5_1 x6_1 (wrap64 (x7_1 + 1))))) = some (r1, r2) := H
       have A7 := Aside0.mk A70
       clear A70
       replace H := Option.bind_eq_some_iff.mp H
       obtain ⟨t117, A80, H⟩ := H
       replace H : (if (mx (wrap64 ((wrap64 ((l0.length : Int) * t116)) - (wrap64 (x7_1 * t117)))) (wrap64 (-(wrap64 ((wrap64 ((l0.length : Int) * t116)) - (wrap64 (x7_1 * t117))))))) > x6_1 then (spec_Break.l0 k1 l0 (l0.length : Int) x7_1 (mx (wrap64 ((wrap64 ((l0.length : Int) * t116)) - (wrap64 (x7_1 * t117)))) (wrap64 (-(wrap64 ((wrap64 ((l0.length : Int) * t116)) - (wrap64 (x7_1 * t117))))))) (wrap64 (x7_1 + 1))) else (spec_Break.l0 k1 l0 (l0.length : Int) x5_1 x6_1 (wrap64 (x7_1 + 1)))) = some (r1, r2) := H
       have A8 := Aside0.mk A80
       clear A80
       obtain ⟨ji9, hji9⟩ : ∃ j_ : Int, (mx (wrap64 ((wrap64 ((l0.length : Int) * t116)) - (wrap64 (x7_1 * t117)))) (wrap64 (-(wrap64 ((wrap64 ((l0.length : Int) * t116)) - (wrap64 (x7_1 * t117))))))) = j_ := ⟨_, rfl⟩
       replace H : (if (ji9) > x6_1 then (spec_Break.l0 k1 l0 (l0.length : Int) x7_1 ji9 (wrap64 (x7_1 + 1))) else (spec_Break.l0 k1 l0 (l0.length : Int) x5_1 x6_1 (wrap64 (x7_1 + 1)))) = some (r1, r2) := by first | (rw [hji9] at H; exact H) | (simp only [hji9] at H ⊢; exact H)
       (try rw [hji9] at A7)
       (try rw [hji9] at A8)
       have hji9_ : (if (wrap64 ((wrap64 ((l0.length : Int) * t116)) - (wrap64 (x7_1 * t117)))) < (wrap64 (-(wrap64 ((wrap64 ((l0.length : Int) * t116)) - (wrap64 (x7_1 * t117)))))) then (wrap64 (-(wrap64 ((wrap64 ((l0.length : Int) * t116)) - (wrap64 (x7_1 * t117)))))) else (wrap64 ((wrap64 ((l0.length : Int) * t116)) - (wrap64 (x7_1 * t117))))) = ji9 := hji9
       by_cases c10 : (ji9) > x6_1
       ·rw [if_pos c10] at H
        have c10b0 : decide (x6_1 < (ji9)) = true := decide_eq_true c10
        clear c10
        have H' := Aside0.mk H
        clear H
        obtain ⟨i011, hi011, _, hsz11, _⟩ := info_parts info2
        obtain ⟨hcut11, hA11, hC11⟩ := print_take_of (P := Try.prog) (Value.int .i64) 0 27 2 .i64 Try.underlying27 hi011 hsz11 A0 c0 l0 x7_1 (of_decide_eq_true (by first | (with_reducible assumption) | assumption)) (of_decide_eq_true (by first | (with_reducible assumption) | assumption)) HC0.out
        have HR115 := Aside0.mk (Kd.C_of_reads (h1 := fun _ => rfl) (hA11 _ (Kd.reads_of_C HR0.out)))
        have HC115 := Aside0.mk hC11
        clear hA11 hC11 hi011 hsz11
        go_wp2_with (first | ((with_reducible refine gate_callee (f := 64) rfl ?_); refine goesL_ (some 23) rfl rfl Try.func64 (by kernel_rfl) rfl #[.slice A0 (l0.take (x7_1 : Int).toNat).length c0] rfl (by (try simp only [List.map_toArray, List.map_cons, List.map_nil]); first | done | (rw [show (l0.take (x7_1 : Int).toNat).length = x7_1.toNat from (by rw [List.length_take]; have h_ : (x7_1 : Int) ≤ (l0.length : Int) := of_decide_eq_true (by first | (with_reducible assumption) | assumption); omega)] <;> rfl) | rfl | (simp only [List.length_drop, List.length_take]; rfl)) ?_; (with_reducible refine (spec_l19Sum.calls k1 _ _ (l0.take (x7_1 : Int).toNat) t116 _ ?side1 ?side2 A7.out).mono ?_); (case side1 => repeat (first | exact (Kd.C_below HR115.out HB.out) | (with_reducible refine Kd.C_alloc ?_ _) | (with_reducible refine Kd.C_drewN ?_ _) | (with_reducible refine Kd.C_drew ?_))); (case side2 => exact HC115.out); rintro e w' ⟨rfl, ⟨nd, rfl⟩⟩; refine ⟨_, rfl, ?_⟩) | ((with_reducible refine gate_callee (f := 64) rfl ?_); refine goesL_ (some 27) rfl rfl Try.func64 (by kernel_rfl) rfl #[.slice A0 l0.length c0] rfl (by (try simp only [List.map_toArray, List.map_cons, List.map_nil]); first | done | rfl | (simp only [List.length_drop, List.length_take]; rfl)) ?_; (with_reducible refine (spec_l19Sum.calls k1 _ _ l0 t117 _ ?side1 ?side2 A8.out).mono ?_); (case side1 => repeat (first | exact (Kd.C_below HR0.out (by repeat (first | (with_reducible first | exact HB.out | apply below_alloc | apply pw_below_drewN | apply below_drew1) | exact HB.out))) | (with_reducible refine Kd.C_alloc ?_ _) | (with_reducible refine Kd.C_drewN ?_ _) | (with_reducible refine Kd.C_drew ?_))); (case side2 => exact HC0.out); rintro e w' ⟨rfl, ⟨nd, rfl⟩⟩; refine ⟨_, rfl, ?_⟩))
        go_roundg k1
        case measure => have := HK1.out; omega
        case rel => exact ⟨(x7_1), (ji9), (wrap64 (x7_1 + 1)), (by first | rfl | (simp; done) | (simp [*]; done)), (by first | rfl | (simp; done) | (simp only [← hji9] <;> (first | rfl | simp)) | (simp [*]; done)), (by first | rfl | (simp; done) | (simp [*]; done)), H', ⟨by have := HK1.out; omega⟩, ⟨by repeat (first | (with_reducible first | exact HB.out | apply below_alloc | apply pw_below_drewN | apply below_drew1) | exact HB.out)⟩⟩
       ·rw [if_neg c10] at H
        have c10b0 : decide (x6_1 < (ji9)) = false := decide_eq_false c10
        clear c10
        have H' := Aside0.mk H
        clear H
        obtain ⟨i012, hi012, _, hsz12, _⟩ := info_parts info2
        obtain ⟨hcut12, hA12, hC12⟩ := print_take_of (P := Try.prog) (Value.int .i64) 0 27 2 .i64 Try.underlying27 hi012 hsz12 A0 c0 l0 x7_1 (of_decide_eq_true (by first | (with_reducible assumption) | assumption)) (of_decide_eq_true (by first | (with_reducible assumption) | assumption)) HC0.out
        have HR115 := Aside0.mk (Kd.C_of_reads (h1 := fun _ => rfl) (hA12 _ (Kd.reads_of_C HR0.out)))
        have HC115 := Aside0.mk hC12
        clear hA12 hC12 hi012 hsz12
        go_wp2_with (first | ((with_reducible refine gate_callee (f := 64) rfl ?_); refine goesL_ (some 23) rfl rfl Try.func64 (by kernel_rfl) rfl #[.slice A0 (l0.take (x7_1 : Int).toNat).length c0] rfl (by (try simp only [List.map_toArray, List.map_cons, List.map_nil]); first | done | (rw [show (l0.take (x7_1 : Int).toNat).length = x7_1.toNat from (by rw [List.length_take]; have h_ : (x7_1 : Int) ≤ (l0.length : Int) := of_decide_eq_true (by first | (with_reducible assumption) | assumption); omega)] <;> rfl) | rfl | (simp only [List.length_drop, List.length_take]; rfl)) ?_; (with_reducible refine (spec_l19Sum.calls k1 _ _ (l0.take (x7_1 : Int).toNat) t116 _ ?side1 ?side2 A7.out).mono ?_); (case side1 => repeat (first | exact (Kd.C_below HR115.out HB.out) | (with_reducible refine Kd.C_alloc ?_ _) | (with_reducible refine Kd.C_drewN ?_ _) | (with_reducible refine Kd.C_drew ?_))); (case side2 => exact HC115.out); rintro e w' ⟨rfl, ⟨nd, rfl⟩⟩; refine ⟨_, rfl, ?_⟩) | ((with_reducible refine gate_callee (f := 64) rfl ?_); refine goesL_ (some 27) rfl rfl Try.func64 (by kernel_rfl) rfl #[.slice A0 l0.length c0] rfl (by (try simp only [List.map_toArray, List.map_cons, List.map_nil]); first | done | rfl | (simp only [List.length_drop, List.length_take]; rfl)) ?_; (with_reducible refine (spec_l19Sum.calls k1 _ _ l0 t117 _ ?side1 ?side2 A8.out).mono ?_); (case side1 => repeat (first | exact (Kd.C_below HR0.out (by repeat (first | (with_reducible first | exact HB.out | apply below_alloc | apply pw_below_drewN | apply below_drew1) | exact HB.out))) | (with_reducible refine Kd.C_alloc ?_ _) | (with_reducible refine Kd.C_drewN ?_ _) | (with_reducible refine Kd.C_drew ?_))); (case side2 => exact HC0.out); rintro e w' ⟨rfl, ⟨nd, rfl⟩⟩; refine ⟨_, rfl, ?_⟩))
        go_roundg k1
        case measure => have := HK1.out; omega
        case rel => exact ⟨(x5_1), (x6_1), (wrap64 (x7_1 + 1)), (by first | rfl | (simp; done) | (simp [*]; done)), (by first | rfl | (simp; done) | (simp [*]; done)), (by first | rfl | (simp; done) | (simp [*]; done)), H', ⟨by have := HK1.out; omega⟩, ⟨by repeat (first | (with_reducible first | exact HB.out | apply below_alloc | apply pw_below_drewN | apply below_drew1) | exact HB.out)⟩⟩
      ·rw [if_neg c6] at H
       exact absurd H (by simp)
     ·rw [if_neg c5] at H
      exact absurd H (by simp)
    ·rw [if_neg c4] at H
     have c4b0 : decide (x7_1 < (l0.length : Int)) = false := decide_eq_false c4
     clear c4
     obtain ⟨ji13, hji13⟩ : ∃ j_ : Int, (mx x6_1 0) = j_ := ⟨_, rfl⟩
     replace H : (some (x5_1, ji13)) = some (r1, r2) := by first | (rw [hji13] at H; exact H) | (simp only [hji13] at H ⊢; exact H)
     have hji13_ : (if x6_1 < 0 then 0 else x6_1) = ji13 := hji13
     simp only [Option.some.injEq, Prod.mk.injEq] at H
     obtain ⟨rfl, rfl⟩ := H
     go_wp2
     go_ret2
     exact ⟨by first | rfl | (simp [errW_none, errW_some] <;> rfl) | (simp only [← hji13]; first | rfl | (simp [errW_none, errW_some] <;> rfl)) | (simp [*, errW_none, errW_some] <;> rfl), by repeat (first | (with_reducible first | exact HB.out | apply below_alloc | apply pw_below_drewN | apply below_drew1) | exact HB.out)⟩
 ·replace c3 := Bool.eq_false_iff.mpr c3
  subst c3
  have H1 : (some (0, 0)) = some (r1, r2) := by rw [if_neg (show ¬ (false = true) by decide)] at H; exact H
  clear H
  have H := H1
  clear H1
  simp only [Option.some.injEq, Prod.mk.injEq] at H
  obtain ⟨rfl, rfl⟩ := H
  go_enter Try.func63, Try.ntmps63
  go_wp2_with (first | ((with_reducible refine gate_callee (f := 57) rfl ?_); refine goesL_ (some 10) rfl rfl Try.func57 (by kernel_rfl) rfl #[.slice A0 l0.length c0] rfl (by (try simp only [List.map_toArray, List.map_cons, List.map_nil]); first | done | rfl | (simp only [List.length_drop, List.length_take]; rfl)) ?_; (with_reducible refine (spec_l19Ok.calls k _ _ l0 false _ ?side1 ?side2 A2.out).mono ?_); (case side1 => repeat (first | exact HR0.out | (with_reducible refine Kd.C_alloc ?_ _) | (with_reducible refine Kd.C_drewN ?_ _) | (with_reducible refine Kd.C_drew ?_))); (case side2 => exact HC0.out); rintro e w' ⟨rfl, ⟨nd, rfl⟩⟩; refine ⟨_, rfl, ?_⟩))
  go_ret2
  exact ⟨by first | rfl | (simp [errW_none, errW_some] <;> rfl) | (simp [*, errW_none, errW_some] <;> rfl), by repeat (first | (with_reducible first | exact HB.out | apply below_alloc | apply pw_below_drewN | apply below_drew1) | exact HB.out)⟩

end Go.Proofs.Yteobnbichpadjab.Q
