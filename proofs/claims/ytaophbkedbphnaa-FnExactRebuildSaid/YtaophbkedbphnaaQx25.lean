/- Plain Lean functions with the same answers as the Go functions of this seat, and a proof for each that the Go code comes to just these answers; no condition. Written by a program of this session (the kit's printer, turned). -/
import Derived.Test.YtaophbkedbphnaaQx0
import Derived.Test.YtaophbkedbphnaaQx20
import Derived.Test.YtaophbkedbphnaaQx22
import Derived.Test.YtaophbkedbphnaaQx24
namespace Go.Proofs.Ytaophbkedbphnaa.Q
open Go.RowKit Go.Proofs.YtaophbkedbphnaaW.PrintWords Go.Proofs.YtaophbkedbphnaaW.PrintLast Go.Proofs.YtaophbkedbphnaaW.PrintMore Go.Proofs.YtaophbkedbphnaaW.PrintFlt
attribute [local go_sem] cmp_lss cmp_leq cmp_gtr cmp_geq cmp_eql cmp_neq flt_l flt_r fgt_l fgt_r feq_l feq_r fne_l fne_r ord_lt ord_gt ord_eq ord_ne conv_int foi_fold run_store_flt
attribute [local go_sem] max2_int min2_int max_two min_two max_three min_three max_four min_four   -- for this text's walks alone
set_option linter.unusedVariables false
set_option linter.unusedSimpArgs false

/-! ### impl_Rebuild: function 22 -/
def impl_Rebuild.l0 : Nat → List (S62) → Int → Int → Option (Nat)
 | 0, _, _, _ => none
 | k + 1, x0, x1, x5 => if (wrap64 (x5 + 1)) < (x0.length : Int) then (if 0 ≤ x5 then (if x5 < (x0.length : Int) then (if x1 ≤ ((rd_T62 x0 x5).f0) then (if 0 ≤ (wrap64 (x5 + 1)) then (if x1 ≥ ((rd_T62 x0 (wrap64 (x5 + 1))).f0) then ((impl_Between.f ((rd_T62 x0 x5).f0) ((rd_T62 x0 x5).f1) ((rd_T62 x0 (wrap64 (x5 + 1))).f0) ((rd_T62 x0 (wrap64 (x5 + 1))).f1) x1).bind fun t203 => (some t203)) else (impl_Rebuild.l0 k x0 x1 (wrap64 (x5 + 1)))) else (none)) else (impl_Rebuild.l0 k x0 x1 (wrap64 (x5 + 1)))) else (none)) else (none)) else ((impl_nan.f).bind fun t205 => (some t205))
def impl_Rebuild.f (k : Nat) (l0 : List (S62)) (a1 : Int) : Option (Nat) := (impl_AscentOk.f k l0).bind fun t196 => (if t196 = true then (impl_Rebuild.l0 k l0 a1 0) else ((impl_nan.f).bind fun t197 => (some t197)))
theorem impl_Rebuild.mono_l : ∀ k, (∀ y0 y1 y2, LeO (impl_Rebuild.l0 k y0 y1 y2) (impl_Rebuild.l0 (k + 1) y0 y1 y2))
 | 0 => fun _ _ _ r h => by simp [impl_Rebuild.l0] at h
 | k + 1 => by
  have ih0 := impl_Rebuild.mono_l k
  ·intro y0 y1 y2
   unfold impl_Rebuild.l0
   repeat' first
   | (with_reducible exact ih0 _ _ _)
   | (with_reducible exact impl_AscentOk.mono _ _)
   | (with_reducible exact LeO.refl _)
   | (with_reducible exact LeO.none _)
   | (with_reducible refine LeO.ite ?_ ?_)
   | (with_reducible refine LeO.bind ?_ (fun _ => ?_))
   | exact ih0 _ _ _
   | exact impl_AscentOk.mono _ _
   | exact LeO.none _
   | refine LeO.ite ?_ ?_
   | refine LeO.bind ?_ (fun _ => ?_)
theorem impl_Rebuild.mono : ∀ a0 a1 k, LeO (impl_Rebuild.f k a0 a1) (impl_Rebuild.f (k + 1) a0 a1) := by
 intro a0 a1 k
 have ih0 := impl_Rebuild.mono_l k
 unfold impl_Rebuild.f
 repeat' first
   | (with_reducible exact ih0 _ _ _)
   | (with_reducible exact impl_AscentOk.mono _ _)
   | (with_reducible exact LeO.refl _)
   | (with_reducible exact LeO.none _)
   | (with_reducible refine LeO.ite ?_ ?_)
   | (with_reducible refine LeO.bind ?_ (fun _ => ?_))
   | exact ih0 _ _ _
   | exact impl_AscentOk.mono _ _
   | exact LeO.none _
   | refine LeO.ite ?_ ?_
   | refine LeO.bind ?_ (fun _ => ?_)
def impl_Rebuild.T7 : Bool × List (List Nat × List Nat) := (true, [([], []), ([], []), ([0, 1], [0, 1]), ([2], [2]), ([], []), ([], []), ([5], [5]), ([4, 6], [4, 6]), ([7], [7]), ([], []), ([3, 8, 9], [3, 8, 9]), ([10, 10, 0, 1, 2, 3, 4, 5, 6, 7, 8, 9, 10], [10])])
def impl_Rebuild.B7 : List Nat := [0, 0, 3, 7, 0, 0, 32, 112, 240, 0, 1023, 2047]
theorem impl_Rebuild.tab7 : rtab .any (opsOf Try.f22 7) = impl_Rebuild.T7 := by kernel_rfl
theorem impl_Rebuild.bits7 : waitsOk impl_Rebuild.T7.2 impl_Rebuild.B7 = true := by kernel_rfl
set_option maxHeartbeats 8000000 in
set_option maxRecDepth 100000 in
theorem impl_Rebuild.calls (k : Nat) (A0 : Option Addr) (c0 : Nat) (l0 : List (S62)) (a1 : Int) (r : Nat) (w : World) (hr0 : Kd.C k62 w A0 l0.length l0) (hc0 : l0.length ≤ c0) (h : impl_Rebuild.f k l0 a1 = some r) :
  Calls Try.prog 22 #[.slice A0 l0.length c0, .int .i64 a1] w fun e w' => ∃ q0_ : Nat, e = .returned (.float .f64 (un q0_ r)) ∧ Below w.heap.size w w' := by
 have hu62 := Try.underlying62
 have HR0 := Aside0.mk hr0
 have HC0 := Aside0.mk hc0
 clear hr0 hc0
 have HB := Aside0.mk (Below.refl w.heap.size w)
 have H : ((impl_AscentOk.f k l0).bind fun t196 => (if t196 = true then (impl_Rebuild.l0 k l0 a1 0) else ((impl_nan.f).bind fun t197 => (some t197)))) = some r := h
 clear h
 replace H := Option.bind_eq_some_iff.mp H
 obtain ⟨t196, A30, H⟩ := H
 replace H : (if t196 = true then (impl_Rebuild.l0 k l0 a1 0) else ((impl_nan.f).bind fun t197 => (some t197))) = some r := H
 have A3 := Aside0.mk A30
 clear A30
 by_cases c4 : t196 = true
 ·subst c4
  have H1 : (impl_Rebuild.l0 k l0 a1 0) = some r := by rw [if_pos rfl] at H; exact H
  clear H
  have H := H1
  clear H1
  have H' := Aside0.mk H
  clear H
  go_enter Try.func22, Try.ntmps22
  go_wp2_with (first | ((with_reducible refine gate_callee (f := 39) rfl ?_); refine goesL_ (some 7) rfl rfl Try.func39 (by kernel_rfl) rfl #[.slice A0 l0.length c0] rfl (by (try simp only [List.map_toArray, List.map_cons, List.map_nil]); first | done | rfl | (simp only [List.length_drop, List.length_take]; rfl)) ?_; (with_reducible refine (impl_AscentOk.calls k _ _ l0 true _ ?side1 ?side2 A3.out).mono ?_); (case side1 => repeat (first | exact HR0.out | (with_reducible refine Kd.C_alloc ?_ _) | (with_reducible refine Kd.C_drewN ?_ _) | (with_reducible refine Kd.C_drew ?_))); (case side2 => exact HC0.out); rintro e w5 ⟨rfl, hb⟩; refine ⟨_, rfl, ?_⟩; have n0_ := Aside0.mk (below_step (by repeat (first | (with_reducible first | exact HB.out | apply below_alloc | apply pw_below_drewN | apply below_drew1) | exact HB.out)) hb); clear HB; have HB := n0_; clear n0_; (try clear hb); (try clear hb2); (try clear hk); (try clear hi)))
  go_loopg [5] k (fun kq v5 w' => ∃ (x5_1 : Int), v5 = .int .i64 x5_1 ∧ Aside0 (impl_Rebuild.l0 kq l0 a1 x5_1 = some r) ∧ Aside0 (kq ≤ k) ∧ Aside0 (Below w.heap.size w w'))
  case atStart => exact ⟨(0), (by first | rfl | (simp; done) | (simp [*]; done)), H', ⟨Nat.le_refl _⟩, ⟨by repeat (first | (with_reducible first | exact HB.out | apply below_alloc | apply pw_below_drewN | apply below_drew1) | exact HB.out)⟩⟩
  case round =>
   clear H'
   try clear c2
   try clear p2
   try clear c3
   try clear c4
   obtain ⟨x5_1, rfl, HA, HK1, HB⟩ := hrel
   cases gk with
   | zero => exact absurd HA.out (by simp [impl_Rebuild.l0])
   | succ k1 =>
    have H := HA.out
    clear HA
    simp only [impl_Rebuild.l0] at H
    by_cases c6 : (wrap64 (x5_1 + 1)) < (l0.length : Int)
    ·rw [if_pos c6] at H
     have c6b0 : decide ((wrap64 (x5_1 + 1)) < (l0.length : Int)) = true := decide_eq_true c6
     clear c6
     by_cases c7 : 0 ≤ x5_1
     ·rw [if_pos c7] at H
      have c7b0 : decide (0 ≤ x5_1) = true := decide_eq_true c7
      clear c7
      by_cases c8 : x5_1 < (l0.length : Int)
      ·rw [if_pos c8] at H
       have c8b0 : decide (x5_1 < (l0.length : Int)) = true := decide_eq_true c8
       clear c8
       by_cases c9 : a1 ≤ ((rd_T62 l0 x5_1).f0)
       ·rw [if_pos c9] at H
        have c9b0 : decide (a1 ≤ ((rd_T62 l0 x5_1).f0)) = true := decide_eq_true c9
        clear c9
        obtain ⟨ji10, hji10⟩ : ∃ j_ : Int, (wrap64 (x5_1 + 1)) = j_ := ⟨_, rfl⟩
        replace H : (if 0 ≤ (ji10) then (if a1 ≥ ((rd_T62 l0 (ji10)).f0) then ((impl_Between.f ((rd_T62 l0 x5_1).f0) ((rd_T62 l0 x5_1).f1) ((rd_T62 l0 (ji10)).f0) ((rd_T62 l0 (ji10)).f1) a1).bind fun t203 => (some t203)) else (impl_Rebuild.l0 k1 l0 a1 ji10)) else (none)) = some r := by first | (rw [hji10] at H; exact H) | (simp only [hji10] at H ⊢; exact H)
        (try rw [hji10] at c6b0)
        have hji10w : (IntKind.i64.wrap (x5_1 + 1)) = ji10 := (i64_w _).trans hji10
        by_cases c11 : 0 ≤ (ji10)
        ·rw [if_pos c11] at H
         have c11b0 : decide (0 ≤ (ji10)) = true := decide_eq_true c11
         clear c11
         by_cases c12 : a1 ≥ ((rd_T62 l0 (ji10)).f0)
         ·rw [if_pos c12] at H
          have c12b0 : decide (((rd_T62 l0 (ji10)).f0) ≤ a1) = true := decide_eq_true c12
          clear c12
          replace H := Option.bind_eq_some_iff.mp H
          obtain ⟨t203, A130, H⟩ := H
          replace H : (some t203) = some r := H
          have A13 := Aside0.mk A130
          clear A130
          obtain rfl := Option.some.inj H
          have p199 : 0 ≤ (x5_1 : Int) := of_decide_eq_true (by first | (with_reducible assumption) | assumption)
          have q199 : x5_1 < (l0.length : Int) := of_decide_eq_true (by first | (with_reducible assumption) | assumption)
          obtain ⟨ad199, pf199_1, e199, hx199_0, hx199_1⟩ := at_T62 HR0.out x5_1 p199 q199
          cases e199
          replace hx199_0 := (HB.out.cell (World.block_lt_of_cell? w _ hx199_0)).trans hx199_0
          replace hx199_1 := (HB.out.cell (World.block_lt_of_cell? w _ hx199_1)).trans hx199_1
          replace p199 := eq_true p199
          replace q199 := eq_true q199
          have p200 : 0 ≤ ((ji10) : Int) := of_decide_eq_true (by first | (with_reducible assumption) | assumption)
          have q200 : (ji10) < (l0.length : Int) := of_decide_eq_true (by first | (with_reducible assumption) | assumption)
          obtain ⟨ad200, pf200_1, e200, hx200_0, hx200_1⟩ := at_T62 HR0.out (ji10) p200 q200
          obtain rfl : ad199 = ad200 := (by injection e200)
          replace hx200_0 := (HB.out.cell (World.block_lt_of_cell? w _ hx200_0)).trans hx200_0
          replace hx200_1 := (HB.out.cell (World.block_lt_of_cell? w _ hx200_1)).trans hx200_1
          replace p200 := eq_true p200
          replace q200 := eq_true q200
          try go_wp2
          have n0_ := Aside0.mk (below_drew1 HB.out)
          clear HB
          have HB := n0_
          clear n0_
          have p201 : 0 ≤ (x5_1 : Int) := of_decide_eq_true (by first | (with_reducible assumption) | assumption)
          have q201 : x5_1 < (l0.length : Int) := of_decide_eq_true (by first | (with_reducible assumption) | assumption)
          obtain ⟨ad201, pf201_1, e201, hx201_0, hx201_1⟩ := at_T62 HR0.out x5_1 p201 q201
          have hw201_1 := hx201_1
          have hw201_0 := hx201_0
          obtain rfl : ad199 = ad201 := (by injection e201)
          replace hx201_0 := (HB.out.cell (World.block_lt_of_cell? w _ hx201_0)).trans hx201_0
          replace hx201_1 := (HB.out.cell (World.block_lt_of_cell? w _ hx201_1)).trans hx201_1
          replace p201 := eq_true p201
          replace q201 := eq_true q201
          have p202 : 0 ≤ ((ji10) : Int) := of_decide_eq_true (by first | (with_reducible assumption) | assumption)
          have q202 : (ji10) < (l0.length : Int) := of_decide_eq_true (by first | (with_reducible assumption) | assumption)
          obtain ⟨ad202, pf202_1, e202, hx202_0, hx202_1⟩ := at_T62 HR0.out (ji10) p202 q202
          have hw202_1 := hx202_1
          have hw202_0 := hx202_0
          obtain rfl : ad199 = ad202 := (by injection e202)
          replace hx202_0 := (HB.out.cell (World.block_lt_of_cell? w _ hx202_0)).trans hx202_0
          replace hx202_1 := (HB.out.cell (World.block_lt_of_cell? w _ hx202_1)).trans hx202_1
          replace p202 := eq_true p202
          replace q202 := eq_true q202
          refine start_ (n := 12) (S := fun w' => w'.cell? (ad199.add ((x5_1).toNat * 2)) = some (.int .i64 ((rd_T62 l0 x5_1).f0)) ∧ w'.cell? ⟨(ad199.add ((x5_1).toNat * 2)).block, (ad199.add ((x5_1).toNat * 2)).off + 1, none⟩ = some (.float .f64 (un pf201_1 ((rd_T62 l0 x5_1).f1))) ∧ w'.cell? (ad199.add (((ji10)).toNat * 2)) = some (.int .i64 ((rd_T62 l0 (ji10)).f0)) ∧ w'.cell? ⟨(ad199.add (((ji10)).toNat * 2)).block, (ad199.add (((ji10)).toNat * 2)).off + 1, none⟩ = some (.float .f64 (un pf202_1 ((rd_T62 l0 (ji10)).f1)))) (ds := []) #[false, false, false, false, false, false, false, false, false, false, false, false] (by kernel_rfl) rfl rfl ⟨((HB.out.cell (World.block_lt_of_cell? w _ hw201_0)).trans hw201_0), ((HB.out.cell (World.block_lt_of_cell? w _ hw201_1)).trans hw201_1), ((HB.out.cell (World.block_lt_of_cell? w _ hw202_0)).trans hw202_0), ((HB.out.cell (World.block_lt_of_cell? w _ hw202_1)).trans hw202_1)⟩ (fun hHeld => ?_); refine with_tabW impl_Rebuild.tab7 impl_Rebuild.bits7 (fun HT_ HW_ => ?_)
          generalize wr.drew = w14 at HB hx201_0 hx201_1 hx202_0 hx202_1 hHeld ⊢
          refine pure_ (i := 0) (N := some 34) (v := ?_) (a' := ?_) #[true, false, false, false, false, false, false, false, false, false, false, false] rfl rfl (any_of HT_.out (by kernel_rfl)) (fun _ _ _ h => h) (Or.inl ⟨by rfl, ?_⟩) ?_ ?_
          rotate_left
          ·intro w'
           go_simp
           with_reducible rfl
          rotate_left
          ·simp only [Act.put, sqA, sqZ, sqS, i64_w, i32_w]
           rfl
          refine pure_ (i := 1) (N := some 35) (v := ?_) (a' := ?_) #[true, true, false, false, false, false, false, false, false, false, false, false] rfl rfl (any_of HT_.out (by kernel_rfl)) (fun _ _ _ h => h) (Or.inl ⟨by rfl, ?_⟩) ?_ ?_
          rotate_left
          ·intro w'
           go_simp
           with_reducible rfl
          rotate_left
          ·simp only [Act.put, sqA, sqZ, sqS, i64_w, i32_w]
           rfl
          refine pure_ (i := 2) (N := some 36) (v := ?_) (a' := ?_) #[true, true, true, false, false, false, false, false, false, false, false, false] rfl rfl (any_of HT_.out (by kernel_rfl)) (fun _ _ _ h => h) (Or.inl ⟨by rfl, ?_⟩) ?_ ?_
          rotate_left
          ·intro w'
           go_simp
           with_reducible rfl
          rotate_left
          ·simp only [Act.put, sqA, sqZ, sqS, i64_w, i32_w]
           rfl
          refine pure_ (i := 4) (N := some 38) (v := ?_) (a' := ?_) #[true, true, true, false, true, false, false, false, false, false, false, false] rfl rfl (any_of HT_.out (by kernel_rfl)) (fun _ _ _ h => h) (Or.inl ⟨by rfl, ?_⟩) ?_ ?_
          rotate_left
          ·intro w'
           go_simp
           with_reducible rfl
          rotate_left
          ·simp only [Act.put, sqA, sqZ, sqS, i64_w, i32_w]
           rfl
          refine pure_ (i := 5) (N := some 39) (v := ?_) (a' := ?_) #[true, true, true, false, true, true, false, false, false, false, false, false] rfl rfl (any_of HT_.out (by kernel_rfl)) (fun _ _ _ h => h) (Or.inl ⟨by rfl, ?_⟩) ?_ ?_
          rotate_left
          ·intro w'
           go_simp
           with_reducible rfl
          rotate_left
          ·simp only [Act.put, sqA, sqZ, sqS, i64_w, i32_w]
           rfl
          refine pure_ (i := 6) (N := some 40) (v := ?_) (a' := ?_) #[true, true, true, false, true, true, true, false, false, false, false, false] rfl rfl (any_of HT_.out (by kernel_rfl)) (fun _ _ _ h => h) (Or.inl ⟨by rfl, ?_⟩) ?_ ?_
          rotate_left
          ·intro w'
           go_simp
           with_reducible rfl
          rotate_left
          ·simp only [Act.put, sqA, sqZ, sqS, i64_w, i32_w]
           rfl
          refine pure_ (i := 7) (N := some 41) (v := ?_) (a' := ?_) #[true, true, true, false, true, true, true, true, false, false, false, false] rfl rfl (any_of HT_.out (by kernel_rfl)) (fun _ _ _ h => h) (Or.inl ⟨by rfl, ?_⟩) ?_ ?_
          rotate_left
          ·intro w'
           go_simp
           with_reducible rfl
          rotate_left
          ·simp only [Act.put, sqA, sqZ, sqS, i64_w, i32_w]
           rfl
          refine pure_ (i := 9) (N := some 43) (v := ?_) (a' := ?_) #[true, true, true, false, true, true, true, true, false, true, false, false] rfl rfl (any_of HT_.out (by kernel_rfl)) (fun _ _ _ h => h) (Or.inl ⟨by rfl, ?_⟩) ?_ ?_
          rotate_left
          ·intro w'
           go_simp
           with_reducible rfl
          rotate_left
          ·simp only [Act.put, sqA, sqZ, sqS, i64_w, i32_w]
           rfl
          refine take_ (i := 3) (N := some 37) (v := ?_) (a' := ?_) #[true, true, true, true, true, true, true, true, false, true, false, false] rfl rfl (take_ofW HT_.out HW_.out (by kernel_rfl)) (fun _ _ _ h => h) (Or.inl ⟨by rfl, ?_⟩) hHeld ?_ ?_
          rotate_left
          ·rintro w' ⟨s0, s1, s2, s3⟩
           go_simp
           with_reducible rfl
          rotate_left
          ·simp only [Act.put, sqA, sqZ, sqS, i64_w, i32_w]
           rfl
          refine take_ (i := 8) (N := some 42) (v := ?_) (a' := ?_) #[true, true, true, true, true, true, true, true, true, true, false, false] rfl rfl (take_ofW HT_.out HW_.out (by kernel_rfl)) (fun _ _ _ h => h) (Or.inl ⟨by rfl, ?_⟩) hHeld ?_ ?_
          rotate_left
          ·rintro w' ⟨s0, s1, s2, s3⟩
           go_simp
           with_reducible rfl
          rotate_left
          ·simp only [Act.put, sqA, sqZ, sqS, i64_w, i32_w]
           rfl
          refine one_ (i := 10) (N := some 44) #[true, true, true, true, true, true, true, true, true, true, true, false] rfl rfl (one_of HT_.out (by kernel_rfl)) (by decide) (fun K hK => ?_)
          refine goes_ Try.func45 (by kernel_rfl) rfl #[.agg #[.int .i64 ((rd_T62 l0 x5_1).f0), .float .f64 (un pf201_1 ((rd_T62 l0 x5_1).f1))], .agg #[.int .i64 ((rd_T62 l0 (ji10)).f0), .float .f64 (un pf202_1 ((rd_T62 l0 (ji10)).f1))], .int .i64 a1] (by rfl) rfl rfl (by (try simp only [List.map_toArray, List.map_cons, List.map_nil]); first | done | (simp only [hji10]; rfl) | rfl | (simp only [List.length_drop, List.length_take]; rfl)) ?_
          with_reducible refine (impl_Between.calls ((rd_T62 l0 x5_1).f0) pf201_1 ((rd_T62 l0 x5_1).f1) ((rd_T62 l0 (ji10)).f0) pf202_1 ((rd_T62 l0 (ji10)).f1) a1 t203 _ A13.out).mono ?_
          rintro e w15 ⟨pr204, rfl, hb⟩
          refine ⟨_, rfl, ?_⟩
          have n0_ := Aside0.mk (below_step (by repeat (first | (with_reducible first | exact HB.out | apply below_alloc | apply pw_below_drewN | apply below_drew1) | exact HB.out)) hb)
          clear HB
          have HB := n0_
          clear n0_
          (try clear hb)
          (try clear hb2)
          (try clear hk)
          (try clear hi)
          refine hK.out _ _ ⟨((HB.out.cell (World.block_lt_of_cell? w _ hw201_0)).trans hw201_0), ((HB.out.cell (World.block_lt_of_cell? w _ hw201_1)).trans hw201_1), ((HB.out.cell (World.block_lt_of_cell? w _ hw202_0)).trans hw202_0), ((HB.out.cell (World.block_lt_of_cell? w _ hw202_1)).trans hw202_1)⟩ (fun hHeld => ?_)
          clear hK K
          refine norm_ (a' := ?_) ?_ ?_
          rotate_left
          ·show Act.put _ (some 44) _ = _
           simp only [Act.put, sqA, sqZ, sqS, i64_w, i32_w]
           rfl
          refine pure_ (i := 11) (N := some 4) (v := ?_) (a' := ?_) #[true, true, true, true, true, true, true, true, true, true, true, true] rfl rfl (any_of HT_.out (by kernel_rfl)) (fun _ _ _ h => h) (Or.inl ⟨by rfl, ?_⟩) ?_ ?_
          rotate_left
          ·intro w'
           go_simp
           with_reducible rfl
          rotate_left
          ·simp only [Act.put, sqA, sqZ, sqS, i64_w, i32_w]
           rfl
          refine done_ (done_of HT_.out (by kernel_rfl)) ?_
          try go_wp2
          go_ret
          first | (exact ⟨pr204, by first | rfl | (simp [errW_none, errW_some] <;> rfl) | (simp only [← hji10]; first | rfl | (simp [errW_none, errW_some] <;> rfl)) | (simp [*, errW_none, errW_some] <;> rfl), by repeat (first | (with_reducible first | exact HB.out | apply below_alloc | apply pw_below_drewN | apply below_drew1) | exact HB.out)⟩) | (exact ⟨⟨pr204, by first | rfl | (simp [errW_none, errW_some] <;> rfl) | (simp only [← hji10]; first | rfl | (simp [errW_none, errW_some] <;> rfl)) | (simp [*, errW_none, errW_some] <;> rfl)⟩, by repeat (first | (with_reducible first | exact HB.out | apply below_alloc | apply pw_below_drewN | apply below_drew1) | exact HB.out)⟩)
         ·rw [if_neg c12] at H
          have c12b0 : decide (((rd_T62 l0 (ji10)).f0) ≤ a1) = false := decide_eq_false c12
          clear c12
          have H' := Aside0.mk H
          clear H
          have p199 : 0 ≤ (x5_1 : Int) := of_decide_eq_true (by first | (with_reducible assumption) | assumption)
          have q199 : x5_1 < (l0.length : Int) := of_decide_eq_true (by first | (with_reducible assumption) | assumption)
          obtain ⟨ad199, pf199_1, e199, hx199_0, hx199_1⟩ := at_T62 HR0.out x5_1 p199 q199
          cases e199
          replace hx199_0 := (HB.out.cell (World.block_lt_of_cell? w _ hx199_0)).trans hx199_0
          replace hx199_1 := (HB.out.cell (World.block_lt_of_cell? w _ hx199_1)).trans hx199_1
          replace p199 := eq_true p199
          replace q199 := eq_true q199
          have p200 : 0 ≤ ((ji10) : Int) := of_decide_eq_true (by first | (with_reducible assumption) | assumption)
          have q200 : (ji10) < (l0.length : Int) := of_decide_eq_true (by first | (with_reducible assumption) | assumption)
          obtain ⟨ad200, pf200_1, e200, hx200_0, hx200_1⟩ := at_T62 HR0.out (ji10) p200 q200
          obtain rfl : ad199 = ad200 := (by injection e200)
          replace hx200_0 := (HB.out.cell (World.block_lt_of_cell? w _ hx200_0)).trans hx200_0
          replace hx200_1 := (HB.out.cell (World.block_lt_of_cell? w _ hx200_1)).trans hx200_1
          replace p200 := eq_true p200
          replace q200 := eq_true q200
          go_wp2
          go_roundg k1
          case measure => have := HK1.out; omega
          case rel => exact ⟨(ji10), (by first | rfl | (simp; done) | (simp only [← hji10] <;> (first | rfl | simp)) | (simp [*]; done)), H', ⟨by have := HK1.out; omega⟩, ⟨by repeat (first | (with_reducible first | exact HB.out | apply below_alloc | apply pw_below_drewN | apply below_drew1) | exact HB.out)⟩⟩
        ·rw [if_neg c11] at H
         exact absurd H (by simp)
       ·rw [if_neg c9] at H
        have c9b0 : decide (a1 ≤ ((rd_T62 l0 x5_1).f0)) = false := decide_eq_false c9
        clear c9
        have H' := Aside0.mk H
        clear H
        have p199 : 0 ≤ (x5_1 : Int) := of_decide_eq_true (by first | (with_reducible assumption) | assumption)
        have q199 : x5_1 < (l0.length : Int) := of_decide_eq_true (by first | (with_reducible assumption) | assumption)
        obtain ⟨ad199, pf199_1, e199, hx199_0, hx199_1⟩ := at_T62 HR0.out x5_1 p199 q199
        cases e199
        replace hx199_0 := (HB.out.cell (World.block_lt_of_cell? w _ hx199_0)).trans hx199_0
        replace hx199_1 := (HB.out.cell (World.block_lt_of_cell? w _ hx199_1)).trans hx199_1
        replace p199 := eq_true p199
        replace q199 := eq_true q199
        go_wp2
        go_roundg k1
        case measure => have := HK1.out; omega
        case rel => exact ⟨(wrap64 (x5_1 + 1)), (by first | rfl | (simp; done) | (simp [*]; done)), H', ⟨by have := HK1.out; omega⟩, ⟨by repeat (first | (with_reducible first | exact HB.out | apply below_alloc | apply pw_below_drewN | apply below_drew1) | exact HB.out)⟩⟩
      ·rw [if_neg c8] at H
       exact absurd H (by simp)
     ·rw [if_neg c7] at H
      exact absurd H (by simp)
    ·rw [if_neg c6] at H
     have c6b0 : decide ((wrap64 (x5_1 + 1)) < (l0.length : Int)) = false := decide_eq_false c6
     clear c6
     replace H := Option.bind_eq_some_iff.mp H
     obtain ⟨t205, A160, H⟩ := H
     replace H : (some t205) = some r := H
     have A16 := Aside0.mk A160
     clear A160
     obtain rfl := Option.some.inj H
     go_wp2_with (first | ((with_reducible refine gate_callee (f := 44) rfl ?_); refine goesL_ (some 45) rfl rfl Try.func44 (by kernel_rfl) rfl #[] rfl (by (try simp only [List.map_toArray, List.map_cons, List.map_nil]); first | done | rfl | (simp only [List.length_drop, List.length_take]; rfl)) ?_; (with_reducible refine (impl_nan.calls  t205 _ A16.out).mono ?_); rintro e w' ⟨pr206, rfl, ⟨nd, rfl⟩⟩; refine ⟨_, rfl, ?_⟩))
     go_ret
     first | (exact ⟨pr206, by first | rfl | (simp [errW_none, errW_some] <;> rfl) | (simp [*, errW_none, errW_some] <;> rfl), by repeat (first | (with_reducible first | exact HB.out | apply below_alloc | apply pw_below_drewN | apply below_drew1) | exact HB.out)⟩) | (exact ⟨⟨pr206, by first | rfl | (simp [errW_none, errW_some] <;> rfl) | (simp [*, errW_none, errW_some] <;> rfl)⟩, by repeat (first | (with_reducible first | exact HB.out | apply below_alloc | apply pw_below_drewN | apply below_drew1) | exact HB.out)⟩)
 ·replace c4 := Bool.eq_false_iff.mpr c4
  subst c4
  have H1 : ((impl_nan.f).bind fun t197 => (some t197)) = some r := by rw [if_neg (show ¬ (false = true) by decide)] at H; exact H
  clear H
  have H := H1
  clear H1
  replace H := Option.bind_eq_some_iff.mp H
  obtain ⟨t197, A170, H⟩ := H
  replace H : (some t197) = some r := H
  have A17 := Aside0.mk A170
  clear A170
  obtain rfl := Option.some.inj H
  go_enter Try.func22, Try.ntmps22
  go_wp2_with (first | ((with_reducible refine gate_callee (f := 39) rfl ?_); refine goesL_ (some 7) rfl rfl Try.func39 (by kernel_rfl) rfl #[.slice A0 l0.length c0] rfl (by (try simp only [List.map_toArray, List.map_cons, List.map_nil]); first | done | rfl | (simp only [List.length_drop, List.length_take]; rfl)) ?_; (with_reducible refine (impl_AscentOk.calls k _ _ l0 false _ ?side1 ?side2 A3.out).mono ?_); (case side1 => repeat (first | exact HR0.out | (with_reducible refine Kd.C_alloc ?_ _) | (with_reducible refine Kd.C_drewN ?_ _) | (with_reducible refine Kd.C_drew ?_))); (case side2 => exact HC0.out); rintro e w18 ⟨rfl, hb⟩; refine ⟨_, rfl, ?_⟩; have n0_ := Aside0.mk (below_step (by repeat (first | (with_reducible first | exact HB.out | apply below_alloc | apply pw_below_drewN | apply below_drew1) | exact HB.out)) hb); clear HB; have HB := n0_; clear n0_; (try clear hb); (try clear hb2); (try clear hk); (try clear hi)) | ((with_reducible refine gate_callee (f := 44) rfl ?_); refine goesL_ (some 9) rfl rfl Try.func44 (by kernel_rfl) rfl #[] rfl (by (try simp only [List.map_toArray, List.map_cons, List.map_nil]); first | done | rfl | (simp only [List.length_drop, List.length_take]; rfl)) ?_; (with_reducible refine (impl_nan.calls  t197 _ A17.out).mono ?_); rintro e w' ⟨pr198, rfl, ⟨nd, rfl⟩⟩; refine ⟨_, rfl, ?_⟩))
  go_ret
  first | (exact ⟨pr198, by first | rfl | (simp [errW_none, errW_some] <;> rfl) | (simp [*, errW_none, errW_some] <;> rfl), by repeat (first | (with_reducible first | exact HB.out | apply below_alloc | apply pw_below_drewN | apply below_drew1) | exact HB.out)⟩) | (exact ⟨⟨pr198, by first | rfl | (simp [errW_none, errW_some] <;> rfl) | (simp [*, errW_none, errW_some] <;> rfl)⟩, by repeat (first | (with_reducible first | exact HB.out | apply below_alloc | apply pw_below_drewN | apply below_drew1) | exact HB.out)⟩)

end Go.Proofs.Ytaophbkedbphnaa.Q
