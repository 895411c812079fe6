/- Plain Lean functions with the same answers as the Go functions of this seat, and a proof for each that the Go code comes to just these answers; no condition. Written by a program of this session (the kit's printer, turned). -/
import Derived.Test.YtcdghhihfjojaabQx0
import Derived.Test.YtcdghhihfjojaabQx11
namespace Go.Proofs.Ytcdghhihfjojaab.Q
open Go.RowKit Go.Proofs.YtcdghhihfjojaabW.PrintWords Go.Proofs.YtcdghhihfjojaabW.PrintLast Go.Proofs.YtcdghhihfjojaabW.PrintMore Go.Proofs.YtcdghhihfjojaabW.PrintFlt
attribute [local go_sem] cmp_lss cmp_leq cmp_gtr cmp_geq cmp_eql cmp_neq flt_l flt_r fgt_l fgt_r feq_l feq_r fne_l fne_r ord_lt ord_gt ord_eq ord_ne conv_int conv_flt foi_fold run_store_flt
attribute [local go_sem] max2_int min2_int max_two min_two max_three min_three max_four min_four   -- for this text's walks alone
set_option linter.unusedVariables false
set_option linter.unusedSimpArgs false

/-! ### impl_BoxOk: function 36 -/
mutual
def impl_BoxOk.j0 : Nat → Bool → Int → Int → List Int → Option (Bool)
 | 0, _, _, _, _ => none
 | k + 1, x25, x170000, x170001, x170002 => if x25 = true then (some false) else (impl_BoxOk.l0 k x170002 (x170002.length : Int) 0)
def impl_BoxOk.l0 : Nat → List Int → Int → Int → Option (Bool)
 | 0, _, _, _ => none
 | k + 1, x27, x28, x29 => if x29 < x28 then (if 0 ≤ x29 then (if x29 < (x27.length : Int) then ((impl_in.f (rd x27 x29) (-1000000000) 1000000000).bind fun t173 => (if t173 = true then (impl_BoxOk.l0 k x27 x28 (wrap64 (x29 + 1))) else (some false))) else (none)) else (none)) else (some true)
end
def impl_BoxOk.f (k : Nat) (a0_0 : Int) (a0_1 : Int) (l0_2 : List Int) : Option (Bool) := (impl_in.f a0_0 1 24).bind fun t170 => (if t170 = true then ((impl_in.f a0_1 1 24).bind fun t171 => (if t171 = true then (impl_BoxOk.j0 k ((l0_2.length : Int) != (wrap64 (a0_0 * a0_1))) a0_0 a0_1 l0_2) else (impl_BoxOk.j0 k true a0_0 a0_1 l0_2))) else (impl_BoxOk.j0 k true a0_0 a0_1 l0_2))
theorem impl_BoxOk.mono_l : ∀ k, (∀ y0 y1 y2 y3, LeO (impl_BoxOk.j0 k y0 y1 y2 y3) (impl_BoxOk.j0 (k + 1) y0 y1 y2 y3)) ∧ (∀ y0 y1 y2, LeO (impl_BoxOk.l0 k y0 y1 y2) (impl_BoxOk.l0 (k + 1) y0 y1 y2))
 | 0 => ⟨fun _ _ _ _ r h => by simp [impl_BoxOk.j0] at h, fun _ _ _ r h => by simp [impl_BoxOk.l0] at h⟩
 | k + 1 => by
  obtain ⟨ih0, ih1⟩ := impl_BoxOk.mono_l k
  refine ⟨?_, ?_⟩
  ·intro y0 y1 y2 y3
   unfold impl_BoxOk.j0
   repeat' first
   | (with_reducible exact ih0 _ _ _ _)
   | (with_reducible exact ih1 _ _ _)
   | (with_reducible exact LeO.refl _)
   | (with_reducible exact LeO.none _)
   | (with_reducible refine LeO.ite ?_ ?_)
   | (with_reducible refine LeO.bind ?_ (fun _ => ?_))
   | exact ih0 _ _ _ _
   | exact ih1 _ _ _
   | exact LeO.none _
   | refine LeO.ite ?_ ?_
   | refine LeO.bind ?_ (fun _ => ?_)
  ·intro y0 y1 y2
   unfold impl_BoxOk.l0
   repeat' first
   | (with_reducible exact ih0 _ _ _ _)
   | (with_reducible exact ih1 _ _ _)
   | (with_reducible exact LeO.refl _)
   | (with_reducible exact LeO.none _)
   | (with_reducible refine LeO.ite ?_ ?_)
   | (with_reducible refine LeO.bind ?_ (fun _ => ?_))
   | exact ih0 _ _ _ _
   | exact ih1 _ _ _
   | exact LeO.none _
   | refine LeO.ite ?_ ?_
   | refine LeO.bind ?_ (fun _ => ?_)
theorem impl_BoxOk.mono : ∀ a0 a1 a2 k, LeO (impl_BoxOk.f k a0 a1 a2) (impl_BoxOk.f (k + 1) a0 a1 a2) := by
 intro a0 a1 a2 k
 obtain ⟨ih0, ih1⟩ := impl_BoxOk.mono_l k
 unfold impl_BoxOk.f
 repeat' first
   | (with_reducible exact ih0 _ _ _ _)
   | (with_reducible exact ih1 _ _ _)
   | (with_reducible exact LeO.refl _)
   | (with_reducible exact LeO.none _)
   | (with_reducible refine LeO.ite ?_ ?_)
   | (with_reducible refine LeO.bind ?_ (fun _ => ?_))
   | exact ih0 _ _ _ _
   | exact ih1 _ _ _
   | exact LeO.none _
   | refine LeO.ite ?_ ?_
   | refine LeO.bind ?_ (fun _ => ?_)
set_option maxHeartbeats 8000000 in
set_option maxRecDepth 100000 in
theorem impl_BoxOk.calls (k : Nat) (a0_0 : Int) (a0_1 : Int) (A0_2 : Option Addr) (c0_2 : Nat) (l0_2 : List Int) (r : Bool) (w : World) (hr0_2 : Kd.C (Kd.int .i64) w A0_2 l0_2.length l0_2) (hc0_2 : l0_2.length ≤ c0_2) (h : impl_BoxOk.f k a0_0 a0_1 l0_2 = some r) :
  Calls Try.prog 36 #[.agg #[.int .i64 a0_0, .int .i64 a0_1, .slice A0_2 l0_2.length c0_2]] w fun e w' => e = .returned (.bool r) ∧ Below w.heap.size w w' := by
 have hu27 := Try.underlying27
 have HR0_2 := Aside0.mk hr0_2
 have HC0_2 := Aside0.mk hc0_2
 clear hr0_2 hc0_2
 have HB := A0 (Below.refl w.heap.size w)
 have H : ((impl_in.f a0_0 1 24).bind fun t170 => (if t170 = true then ((impl_in.f a0_1 1 24).bind fun t171 => (if t171 = true then (impl_BoxOk.j0 k ((l0_2.length : Int) != (wrap64 (a0_0 * a0_1))) a0_0 a0_1 l0_2) else (impl_BoxOk.j0 k true a0_0 a0_1 l0_2))) else (impl_BoxOk.j0 k true a0_0 a0_1 l0_2))) = some r := h
 clear h
 have HC2 := Aside0.mk H
 clear H
 go_enter Try.func36, Try.ntmps36
 go_upto_region 1 with (first | ((with_reducible refine gate_dst (N := 1) rfl ?_); (try (refine gate_guard (by rfl) ?_; dsimp only)); refine box_event ?hg (N := 1) ?hd (cs := #[.int .i64 a0_0, .int .i64 a0_1, .slice A0_2 l0_2.length c0_2]) (t := 27) ?hr ?_; (case hd => rfl); (case hg => rfl); (case hr => first | (go_simp; done) | (go_simp; rfl)); intro gb169 hg w3 hbox hb; have n0_ := A0 (below_step (by repeat (first | (with_reducible first | exact HB.out | apply wA | apply wN | apply wD) | exact HB.out)) hb); have n1_ := A0 (hbox); have n2_ := A0 ((by rw [hg]; exact (below_size (by repeat (first | (with_reducible first | exact HB.out | apply wA | apply wN | apply wD) | exact HB.out))) : w.heap.size ≤ gb169)); have n3_ := A0 ((by rw [hg]; exact (below_size (by repeat (first | (with_reducible first | exact HB.out | apply wA | apply wN | apply wD) | exact HB.out))) : w.heap.size ≤ gb169)); clear HB; have HB := n0_; have BK169 := n1_; have GW169 := n2_; have GE169 := n3_; clear n0_ n1_ n2_ n3_; clear hb hbox hg))
 (try simp only [Act.put, sqA, sqZ, sqS])
 go_cut [25] (fun v25 wc => ∃ (kq : Nat) (x25_1 : Bool), v25 = .bool x25_1 ∧ Aside0 (impl_BoxOk.j0 kq x25_1 a0_0 a0_1 l0_2 = some r) ∧ Aside0 (kq ≤ k) ∧ Aside0 (wc.heap[gb169]? = some (.cells #[.int .i64 a0_0, .int .i64 a0_1, (.slice A0_2 l0_2.length c0_2)] 27 (0, 0))) ∧ Aside0 (Below w.heap.size w wc))
 case first =>
  have H := HC2.out
  clear HC2
  replace H := Option.bind_eq_some_iff.mp H
  obtain ⟨t170, A40, H⟩ := H
  replace H : (if t170 = true then ((impl_in.f a0_1 1 24).bind fun t171 => (if t171 = true then (impl_BoxOk.j0 k ((l0_2.length : Int) != (wrap64 (a0_0 * a0_1))) a0_0 a0_1 l0_2) else (impl_BoxOk.j0 k true a0_0 a0_1 l0_2))) else (impl_BoxOk.j0 k true a0_0 a0_1 l0_2)) = some r := H
  have A4 := Aside0.mk A40
  clear A40
  by_cases c5 : t170 = true
  ·subst c5
   have H1 : ((impl_in.f a0_1 1 24).bind fun t171 => (if t171 = true then (impl_BoxOk.j0 k ((l0_2.length : Int) != (wrap64 (a0_0 * a0_1))) a0_0 a0_1 l0_2) else (impl_BoxOk.j0 k true a0_0 a0_1 l0_2))) = some r := by rw [if_pos rfl] at H; exact H
   clear H
   have H := H1
   clear H1
   replace H := Option.bind_eq_some_iff.mp H
   obtain ⟨t171, A60, H⟩ := H
   replace H : (if t171 = true then (impl_BoxOk.j0 k ((l0_2.length : Int) != (wrap64 (a0_0 * a0_1))) a0_0 a0_1 l0_2) else (impl_BoxOk.j0 k true a0_0 a0_1 l0_2)) = some r := H
   have A6 := Aside0.mk A60
   clear A60
   by_cases c7 : t171 = true
   ·subst c7
    have H1 : (impl_BoxOk.j0 k ((l0_2.length : Int) != (wrap64 (a0_0 * a0_1))) a0_0 a0_1 l0_2) = some r := by rw [if_pos rfl] at H; exact H
    clear H
    have H := H1
    clear H1
    have H' := Aside0.mk H
    clear H
    have hcz8_0 : w3.cell? ⟨gb169, 0, none⟩ = some (.int .i64 a0_0) := bC BK169.out 0 rfl
    have hcz8_1 : w3.cell? ⟨gb169, 1, none⟩ = some (.int .i64 a0_1) := bC BK169.out 1 rfl
    have hcz8_2 : w3.cell? ⟨gb169, 2, none⟩ = some (.slice A0_2 l0_2.length c0_2) := bC BK169.out 2 rfl
    have hfz8_0 := blk_frozen BK169.out 0
    have hfz8_1 := blk_frozen BK169.out 1
    have hfz8_2 := blk_frozen BK169.out 2
    go_wp2_with (first | ((with_reducible refine gate_callee (f := 43) rfl ?_); refine goesL_ (some 7) rfl rfl Try.func43 (by kernel_rfl) rfl #[.int .i64 a0_0, .int .i64 1, .int .i64 24] rfl (by (try simp only [lM, lC, lN]); first | done | rfl | (simp only [lD, lT]; rfl)) ?_; (with_reducible refine (impl_in.calls a0_0 1 24 true _ A4.out).mono ?_); rintro e w' ⟨rfl, ⟨nd, rfl⟩⟩; refine ⟨_, rfl, ?_⟩) | (go_at_call 43; (with_reducible refine (impl_in.calls a0_1 1 24 true _ A6.out).mono ?_); rintro e w' ⟨rfl, ⟨nd, rfl⟩⟩))
    go_meet
    case rel => exact ⟨_, (((l0_2.length : Int) != (wrap64 (a0_0 * a0_1)))), (by first | rfl | (simp; done) | (simp [*]; done)), H', ⟨by first | omega | exact Nat.le_refl _⟩, ⟨by (with_reducible repeat (first | refine bN ?_ _ | refine bD ?_ | refine bA ?_ _)); exact BK169.out⟩, ⟨by repeat (first | (with_reducible first | exact HB.out | apply wA | apply wN | apply wD | refine bS ?_ GE169.out) | exact HB.out)⟩⟩
   ·replace c7 := Bool.eq_false_iff.mpr c7
    subst c7
    have H1 : (impl_BoxOk.j0 k true a0_0 a0_1 l0_2) = some r := by rw [if_neg (show ¬ (false = true) by decide)] at H; exact H
    clear H
    have H := H1
    clear H1
    have H' := Aside0.mk H
    clear H
    have hcz9_0 : w3.cell? ⟨gb169, 0, none⟩ = some (.int .i64 a0_0) := bC BK169.out 0 rfl
    have hcz9_1 : w3.cell? ⟨gb169, 1, none⟩ = some (.int .i64 a0_1) := bC BK169.out 1 rfl
    have hcz9_2 : w3.cell? ⟨gb169, 2, none⟩ = some (.slice A0_2 l0_2.length c0_2) := bC BK169.out 2 rfl
    have hfz9_0 := blk_frozen BK169.out 0
    have hfz9_1 := blk_frozen BK169.out 1
    have hfz9_2 := blk_frozen BK169.out 2
    go_wp2_with (first | ((with_reducible refine gate_callee (f := 43) rfl ?_); refine goesL_ (some 7) rfl rfl Try.func43 (by kernel_rfl) rfl #[.int .i64 a0_0, .int .i64 1, .int .i64 24] rfl (by (try simp only [lM, lC, lN]); first | done | rfl | (simp only [lD, lT]; rfl)) ?_; (with_reducible refine (impl_in.calls a0_0 1 24 true _ A4.out).mono ?_); rintro e w' ⟨rfl, ⟨nd, rfl⟩⟩; refine ⟨_, rfl, ?_⟩) | (go_at_call 43; (with_reducible refine (impl_in.calls a0_1 1 24 false _ A6.out).mono ?_); rintro e w' ⟨rfl, ⟨nd, rfl⟩⟩))
    go_meet
    case rel => exact ⟨_, (true), (by first | rfl | (simp; done) | (simp [*]; done)), H', ⟨by first | omega | exact Nat.le_refl _⟩, ⟨by (with_reducible repeat (first | refine bN ?_ _ | refine bD ?_ | refine bA ?_ _)); exact BK169.out⟩, ⟨by repeat (first | (with_reducible first | exact HB.out | apply wA | apply wN | apply wD | refine bS ?_ GE169.out) | exact HB.out)⟩⟩
  ·replace c5 := Bool.eq_false_iff.mpr c5
   subst c5
   have H1 : (impl_BoxOk.j0 k true a0_0 a0_1 l0_2) = some r := by rw [if_neg (show ¬ (false = true) by decide)] at H; exact H
   clear H
   have H := H1
   clear H1
   have H' := Aside0.mk H
   clear H
   have hcz10_0 : w3.cell? ⟨gb169, 0, none⟩ = some (.int .i64 a0_0) := bC BK169.out 0 rfl
   have hcz10_1 : w3.cell? ⟨gb169, 1, none⟩ = some (.int .i64 a0_1) := bC BK169.out 1 rfl
   have hcz10_2 : w3.cell? ⟨gb169, 2, none⟩ = some (.slice A0_2 l0_2.length c0_2) := bC BK169.out 2 rfl
   have hfz10_0 := blk_frozen BK169.out 0
   have hfz10_1 := blk_frozen BK169.out 1
   have hfz10_2 := blk_frozen BK169.out 2
   go_wp2_with (first | ((with_reducible refine gate_callee (f := 43) rfl ?_); refine goesL_ (some 7) rfl rfl Try.func43 (by kernel_rfl) rfl #[.int .i64 a0_0, .int .i64 1, .int .i64 24] rfl (by (try simp only [lM, lC, lN]); first | done | rfl | (simp only [lD, lT]; rfl)) ?_; (with_reducible refine (impl_in.calls a0_0 1 24 false _ A4.out).mono ?_); rintro e w' ⟨rfl, ⟨nd, rfl⟩⟩; refine ⟨_, rfl, ?_⟩))
   go_meet
   case rel => exact ⟨_, (true), (by first | rfl | (simp; done) | (simp [*]; done)), H', ⟨by first | omega | exact Nat.le_refl _⟩, ⟨by (with_reducible repeat (first | refine bN ?_ _ | refine bD ?_ | refine bA ?_ _)); exact BK169.out⟩, ⟨by repeat (first | (with_reducible first | exact HB.out | apply wA | apply wN | apply wD | refine bS ?_ GE169.out) | exact HB.out)⟩⟩
 case rest =>
  clear HC2
  try clear p2
  try clear c3
  try clear c4
  try clear c5
  try clear p6
  try clear c7
  try clear hcz10_0
  try clear hcz10_1
  try clear hcz10_2
  try clear hcz8_0
  try clear hcz8_1
  try clear hcz8_2
  try clear hcz9_0
  try clear hcz9_1
  try clear hcz9_2
  try clear hfz10_0
  try clear hfz10_1
  try clear hfz10_2
  try clear hfz8_0
  try clear hfz8_1
  try clear hfz8_2
  try clear hfz9_0
  try clear hfz9_1
  try clear hfz9_2
  obtain ⟨kq, x25_1, rfl, HA, HJ1, BK169, HB⟩ := hcut
  cases kq with
  | zero => exact absurd HA.out (by simp [impl_BoxOk.j0])
  | succ kj1 =>
   have H := HA.out
   clear HA
   simp only [impl_BoxOk.j0] at H
   by_cases c11 : x25_1 = true
   ·subst c11
    have H1 : (some false) = some r := by rw [if_pos rfl] at H; exact H
    clear H
    have H := H1
    clear H1
    obtain rfl := Option.some.inj H
    go_wp2
    go_ret
    exact ⟨by first | rfl | (simp [errW_none, errW_some] <;> rfl) | (simp [*, errW_none, errW_some] <;> rfl), by repeat (first | (with_reducible first | exact HB.out | apply wA | apply wN | apply wD | refine bS ?_ GE169.out) | exact HB.out)⟩
   ·replace c11 := Bool.eq_false_iff.mpr c11
    subst c11
    have H1 : (impl_BoxOk.l0 kj1 l0_2 (l0_2.length : Int) 0) = some r := by rw [if_neg (show ¬ (false = true) by decide)] at H; exact H
    clear H
    have H := H1
    clear H1
    have H' := Aside0.mk H
    clear H
    have hcz12_0 : wc.cell? ⟨gb169, 0, none⟩ = some (.int .i64 a0_0) := bC BK169.out 0 rfl
    have hcz12_1 : wc.cell? ⟨gb169, 1, none⟩ = some (.int .i64 a0_1) := bC BK169.out 1 rfl
    have hcz12_2 : wc.cell? ⟨gb169, 2, none⟩ = some (.slice A0_2 l0_2.length c0_2) := bC BK169.out 2 rfl
    have hfz12_0 := blk_frozen BK169.out 0
    have hfz12_1 := blk_frozen BK169.out 1
    have hfz12_2 := blk_frozen BK169.out 2
    go_wp2
    go_loopg [29] kj1 (fun kq v29 w' => ∃ (x29_2 : Int), v29 = .int .i64 x29_2 ∧ Aside0 (impl_BoxOk.l0 kq l0_2 (l0_2.length : Int) x29_2 = some r) ∧ Aside0 (kq ≤ kj1) ∧ Aside0 (w'.heap[gb169]? = some (.cells #[.int .i64 a0_0, .int .i64 a0_1, (.slice A0_2 l0_2.length c0_2)] 27 (0, 0))) ∧ Aside0 (Below w.heap.size w w'))
    case atStart => exact ⟨(0), (by first | rfl | (simp; done) | (simp [*]; done)), H', ⟨Nat.le_refl _⟩, ⟨by (with_reducible repeat (first | refine bN ?_ _ | refine bD ?_ | refine bA ?_ _)); exact BK169.out⟩, ⟨by repeat (first | (with_reducible first | exact HB.out | apply wA | apply wN | apply wD | refine bS ?_ GE169.out) | exact HB.out)⟩⟩
    case round =>
     clear H'
     try clear c1
     try clear p2
     try clear c3
     try clear c4
     try clear c5
     try clear p6
     try clear c7
     try clear c11
     try clear hcz10_0
     try clear hcz10_1
     try clear hcz10_2
     try clear hcz12_0
     try clear hcz12_1
     try clear hcz12_2
     try clear hcz8_0
     try clear hcz8_1
     try clear hcz8_2
     try clear hcz9_0
     try clear hcz9_1
     try clear hcz9_2
     try clear hfz10_0
     try clear hfz10_1
     try clear hfz10_2
     try clear hfz12_0
     try clear hfz12_1
     try clear hfz12_2
     try clear hfz8_0
     try clear hfz8_1
     try clear hfz8_2
     try clear hfz9_0
     try clear hfz9_1
     try clear hfz9_2
     try clear p2
     try clear p6
     obtain ⟨x29_2, rfl, HA, HK2, BK169, HB⟩ := hrel
     cases gk with
     | zero => exact absurd HA.out (by simp [impl_BoxOk.l0])
     | succ k2 =>
      have H := HA.out
      clear HA
      simp only [impl_BoxOk.l0] at H
      by_cases c13 : x29_2 < (l0_2.length : Int)
      ·rw [if_pos c13] at H
       have c13b0 : decide (x29_2 < (l0_2.length : Int)) = true := decide_eq_true c13
       clear c13
       by_cases c14 : 0 ≤ x29_2
       ·rw [if_pos c14] at H
        have c14b0 : decide (0 ≤ x29_2) = true := decide_eq_true c14
        clear c14
        by_cases c15 : x29_2 < (l0_2.length : Int)
        ·rw [if_pos c15] at H
         have c15b0 : decide (x29_2 < (l0_2.length : Int)) = true := decide_eq_true c15
         clear c15
         replace H := Option.bind_eq_some_iff.mp H
         obtain ⟨t173, A160, H⟩ := H
         replace H : (if t173 = true then (impl_BoxOk.l0 k2 l0_2 (l0_2.length : Int) (wrap64 (x29_2 + 1))) else (some false)) = some r := H
         have A16 := Aside0.mk A160
         clear A160
         by_cases c17 : t173 = true
         ·subst c17
          have H1 : (impl_BoxOk.l0 k2 l0_2 (l0_2.length : Int) (wrap64 (x29_2 + 1))) = some r := by rw [if_pos rfl] at H; exact H
          clear H
          have H := H1
          clear H1
          have H' := Aside0.mk H
          clear H
          have p172 : 0 ≤ (x29_2 : Int) := of_decide_eq_true (by first | (with_reducible assumption) | assumption)
          have q172 : x29_2 < (l0_2.length : Int) := of_decide_eq_true (by first | (with_reducible assumption) | assumption)
          obtain ⟨ad172, e172, hx172_0⟩ := Kd.at_int HR0_2.out x29_2 p172 q172
          cases e172
          replace hx172_0 := (HB.out.cell (World.block_lt_of_cell? w _ hx172_0)).trans hx172_0
          replace p172 := eq_true p172
          replace q172 := eq_true q172
          go_wp2_with (first | ((with_reducible refine gate_callee (f := 43) rfl ?_); refine goesL_ (some 34) rfl rfl Try.func43 (by kernel_rfl) rfl #[.int .i64 (rd l0_2 x29_2), .int .i64 (-1000000000), .int .i64 1000000000] rfl (by (try simp only [lM, lC, lN]); first | done | rfl | (simp only [lD, lT]; rfl)) ?_; (with_reducible refine (impl_in.calls (rd l0_2 x29_2) (-1000000000) 1000000000 true _ A16.out).mono ?_); rintro e w' ⟨rfl, ⟨nd, rfl⟩⟩; refine ⟨_, rfl, ?_⟩))
          go_roundg k2
          case measure => have := HJ1.out; have := HK2.out; omega
          case rel => exact ⟨(wrap64 (x29_2 + 1)), (by first | rfl | (simp; done) | (simp [*]; done)), H', ⟨by have := HJ1.out; have := HK2.out; omega⟩, ⟨by (with_reducible repeat (first | refine bN ?_ _ | refine bD ?_ | refine bA ?_ _)); exact BK169.out⟩, ⟨by repeat (first | (with_reducible first | exact HB.out | apply wA | apply wN | apply wD | refine bS ?_ GE169.out) | exact HB.out)⟩⟩
         ·replace c17 := Bool.eq_false_iff.mpr c17
          subst c17
          have H1 : (some false) = some r := by rw [if_neg (show ¬ (false = true) by decide)] at H; exact H
          clear H
          have H := H1
          clear H1
          obtain rfl := Option.some.inj H
          have p172 : 0 ≤ (x29_2 : Int) := of_decide_eq_true (by first | (with_reducible assumption) | assumption)
          have q172 : x29_2 < (l0_2.length : Int) := of_decide_eq_true (by first | (with_reducible assumption) | assumption)
          obtain ⟨ad172, e172, hx172_0⟩ := Kd.at_int HR0_2.out x29_2 p172 q172
          cases e172
          replace hx172_0 := (HB.out.cell (World.block_lt_of_cell? w _ hx172_0)).trans hx172_0
          replace p172 := eq_true p172
          replace q172 := eq_true q172
          go_wp2_with (first | ((with_reducible refine gate_callee (f := 43) rfl ?_); refine goesL_ (some 34) rfl rfl Try.func43 (by kernel_rfl) rfl #[.int .i64 (rd l0_2 x29_2), .int .i64 (-1000000000), .int .i64 1000000000] rfl (by (try simp only [lM, lC, lN]); first | done | rfl | (simp only [lD, lT]; rfl)) ?_; (with_reducible refine (impl_in.calls (rd l0_2 x29_2) (-1000000000) 1000000000 false _ A16.out).mono ?_); rintro e w' ⟨rfl, ⟨nd, rfl⟩⟩; refine ⟨_, rfl, ?_⟩))
          go_ret
          exact ⟨by first | rfl | (simp [errW_none, errW_some] <;> rfl) | (simp [*, errW_none, errW_some] <;> rfl), by repeat (first | (with_reducible first | exact HB.out | apply wA | apply wN | apply wD | refine bS ?_ GE169.out) | exact HB.out)⟩
        ·rw [if_neg c15] at H
         exact absurd H (by simp)
       ·rw [if_neg c14] at H
        exact absurd H (by simp)
      ·rw [if_neg c13] at H
       have c13b0 : decide (x29_2 < (l0_2.length : Int)) = false := decide_eq_false c13
       clear c13
       obtain rfl := Option.some.inj H
       go_wp2
       go_ret
       exact ⟨by first | rfl | (simp [errW_none, errW_some] <;> rfl) | (simp [*, errW_none, errW_some] <;> rfl), by repeat (first | (with_reducible first | exact HB.out | apply wA | apply wN | apply wD | refine bS ?_ GE169.out) | exact HB.out)⟩

end Go.Proofs.Ytcdghhihfjojaab.Q
