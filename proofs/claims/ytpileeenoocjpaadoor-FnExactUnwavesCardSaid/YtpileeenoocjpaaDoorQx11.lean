/- Plain Lean functions with the same answers as the Go functions of this seat, and a proof for each that the Go code comes to just these answers; no condition. Written by a program of this session (the kit's printer, turned). -/
import Derived.Test.YtpileeenoocjpaaDoorQx0
import Derived.Test.YtpileeenoocjpaaDoorQx7
import Derived.Test.YtpileeenoocjpaaDoorQx10
namespace Go.Proofs.YtpileeenoocjpaaDoor.Q
open Go.RowKit Go.Proofs.YtpileeenoocjpaaDoorW.PrintWords Go.Proofs.YtpileeenoocjpaaDoorW.PrintLast Go.Proofs.YtpileeenoocjpaaDoorW.PrintMore Go.Proofs.YtpileeenoocjpaaDoorW.PrintFlt
attribute [local go_sem] cmp_lss cmp_leq cmp_gtr cmp_geq cmp_eql cmp_neq flt_l flt_r fgt_l fgt_r feq_l feq_r fne_l fne_r ord_lt ord_gt ord_eq ord_ne conv_int foi_fold run_store_flt
attribute [local go_sem] max2_int min2_int max_two min_two max_three min_three max_four min_four   -- for this text's walks alone
set_option linter.unusedVariables false
set_option linter.unusedSimpArgs false

/-! ### impl_Unwaves: function 29 -/
def impl_Unwaves.l0 : Nat → List (S42) → List (S42) → Int → Int → Option ((List (S42)))
 | 0, _, _, _, _ => none
 | k + 1, x0, x3, x12, x13 => if x13 < x12 then (if 0 ≤ x13 then (if x13 < (x3.length : Int) then (impl_Unwaves.l0 k x0 (x3.set (x13 : Int).toNat (⟨fdiv ((rd_T42 x3 x13).f0) (foi (x0.length : Int)), fdiv ((rd_T42 x3 x13).f1) (foi (x0.length : Int))⟩ : S42)) x12 (wrap64 (x13 + 1))) else (none)) else (none)) else (some x3)
def impl_Unwaves.f (k : Nat) (l0 : List (S42)) (l1 : List (Nat)) : Option ((List (S42))) := (impl_waveLength.f (l0.length : Int)).bind fun t232 => (if t232 = true then ((impl_waves.f k l0 1 l1).bind fun t233 => (impl_Unwaves.l0 k l0 t233 (t233.length : Int) 0)) else (some ([] : List (S42))))
theorem impl_Unwaves.mono_l : ∀ k, (∀ y0 y1 y2 y3, LeO (impl_Unwaves.l0 k y0 y1 y2 y3) (impl_Unwaves.l0 (k + 1) y0 y1 y2 y3))
 | 0 => fun _ _ _ _ r h => by simp [impl_Unwaves.l0] at h
 | k + 1 => by
  have ih0 := impl_Unwaves.mono_l k
  ·intro y0 y1 y2 y3
   unfold impl_Unwaves.l0
   repeat' first
   | (with_reducible exact ih0 _ _ _ _)
   | (with_reducible exact impl_waves.mono _ _ _ _)
   | (with_reducible exact LeO.refl _)
   | (with_reducible exact LeO.none _)
   | (with_reducible refine LeO.ite ?_ ?_)
   | (with_reducible refine LeO.bind ?_ (fun _ => ?_))
   | exact ih0 _ _ _ _
   | exact impl_waves.mono _ _ _ _
   | exact LeO.none _
   | refine LeO.ite ?_ ?_
   | refine LeO.bind ?_ (fun _ => ?_)
theorem impl_Unwaves.mono : ∀ a0 a1 k, LeO (impl_Unwaves.f k a0 a1) (impl_Unwaves.f (k + 1) a0 a1) := by
 intro a0 a1 k
 have ih0 := impl_Unwaves.mono_l k
 unfold impl_Unwaves.f
 repeat' first
   | (with_reducible exact ih0 _ _ _ _)
   | (with_reducible exact impl_waves.mono _ _ _ _)
   | (with_reducible exact LeO.refl _)
   | (with_reducible exact LeO.none _)
   | (with_reducible refine LeO.ite ?_ ?_)
   | (with_reducible refine LeO.bind ?_ (fun _ => ?_))
   | exact ih0 _ _ _ _
   | exact impl_waves.mono _ _ _ _
   | exact LeO.none _
   | refine LeO.ite ?_ ?_
   | refine LeO.bind ?_ (fun _ => ?_)
def impl_Unwaves.T7 : Bool × List (List Nat × List Nat) := (true, [([], []), ([], []), ([], []), ([], []), ([2, 3], [2, 3]), ([4], [4]), ([5], [5]), ([], []), ([7], [7]), ([8], [8]), ([6, 9], [6, 9]), ([], []), ([], []), ([11, 12], [11, 12]), ([13], [13]), ([14], [14]), ([], []), ([16], [16]), ([17], [17]), ([15, 18], [15, 18]), ([10, 19], [10, 19]), ([0, 1, 0, 1, 2, 3, 4, 5, 6, 7, 8, 9, 10, 11, 12, 13, 14, 15, 16, 17, 18, 19, 20], [0, 1]), ([21, 20, 0, 1, 2, 3, 4, 5, 6, 7, 8, 9, 10, 11, 12, 13, 14, 15, 16, 17, 18, 19, 20], [20, 21])])
def impl_Unwaves.B7 : List Nat := [0, 0, 0, 0, 12, 28, 60, 0, 128, 384, 1020, 0, 0, 6144, 14336, 30720, 0, 65536, 196608, 522240, 1048572, 2097151, 4194303]
theorem impl_Unwaves.tab7 : rtab .any (opsOf Tryd.f29 7) = impl_Unwaves.T7 := by kernel_rfl
theorem impl_Unwaves.bits7 : waitsOk impl_Unwaves.T7.2 impl_Unwaves.B7 = true := by kernel_rfl
set_option maxHeartbeats 8000000 in
set_option maxRecDepth 100000 in
theorem impl_Unwaves.calls (k : Nat) (A0 : Option Addr) (c0 : Nat) (l0 : List (S42)) (l1 : List (Nat)) (r : List (S42)) (w : World) (hr0 : Kd.C k42 w A0 l0.length l0) (hc0 : l0.length ≤ c0) (hr1 : Kd.C Kd.flt w (some ⟨1, 0, none⟩) l1.length l1) (hc1 : l1.length ≤ l1.length) (hn1 : l1.length = 10) (h : impl_Unwaves.f k l0 l1 = some r) :
  Calls Tryd.prog 29 #[.slice A0 l0.length c0] w fun e w' => ∃ v0_ : Value, e = .returned (v0_) ∧ Kd.R k42 42 w' w.heap.size (fun _ => True) v0_ r ∧ Below w.heap.size w w' := by
 have hu42 := Tryd.underlying42
 have HR0 := Aside0.mk hr0
 have HC0 := Aside0.mk hc0
 clear hr0 hc0
 have HR1 := Aside0.mk hr1
 have HC1 := Aside0.mk hc1
 clear hr1 hc1
 have HN1 := Aside0.mk hn1
 clear hn1
 have HB := Aside0.mk (Below.refl w.heap.size w)
 have H : ((impl_waveLength.f (l0.length : Int)).bind fun t232 => (if t232 = true then ((impl_waves.f k l0 1 l1).bind fun t233 => (impl_Unwaves.l0 k l0 t233 (t233.length : Int) 0)) else (some ([] : List (S42))))) = some r := h
 clear h
 replace H := Option.bind_eq_some_iff.mp H
 obtain ⟨t232, A30, H⟩ := H
 replace H : (if t232 = true then ((impl_waves.f k l0 1 l1).bind fun t233 => (impl_Unwaves.l0 k l0 t233 (t233.length : Int) 0)) else (some ([] : List (S42)))) = some r := H
 have A3 := Aside0.mk A30
 clear A30
 by_cases c4 : t232 = true
 ·subst c4
  have H1 : ((impl_waves.f k l0 1 l1).bind fun t233 => (impl_Unwaves.l0 k l0 t233 (t233.length : Int) 0)) = some r := by rw [if_pos rfl] at H; exact H
  clear H
  have H := H1
  clear H1
  replace H := Option.bind_eq_some_iff.mp H
  obtain ⟨t233, A50, H⟩ := H
  replace H : (impl_Unwaves.l0 k l0 t233 (t233.length : Int) 0) = some r := H
  have A5 := Aside0.mk A50
  clear A50
  have H' := Aside0.mk H
  clear H
  go_enter Tryd.func29, Tryd.ntmps29
  go_wp2_with (first | ((with_reducible refine gate_callee (f := 56) rfl ?_); refine goesL_ (some 7) rfl rfl Tryd.func56 (by kernel_rfl) rfl #[.int .i64 (l0.length : Int)] rfl (by (try simp only [List.map_toArray, List.map_cons, List.map_nil]); first | done | rfl | (simp only [List.length_drop, List.length_take]; rfl)) ?_; (with_reducible refine (impl_waveLength.calls (l0.length : Int) true _ A3.out).mono ?_); rintro e w' ⟨rfl, ⟨nd, rfl⟩⟩; refine ⟨_, rfl, ?_⟩) | ((with_reducible refine gate_callee (f := 57) rfl ?_); refine goesL_ (some 10) rfl rfl Tryd.func57 (by kernel_rfl) rfl #[.slice A0 l0.length c0, .int .i64 1] rfl (by (try simp only [List.map_toArray, List.map_cons, List.map_nil]); first | done | rfl | (simp only [List.length_drop, List.length_take]; rfl)) ?_; (with_reducible refine (impl_waves.calls k _ _ l0 1 l1 t233 _ ?side1 ?side2 ?side3 ?side4 ?side5 A5.out).mono ?_); (case side1 => repeat (first | exact HR0.out | (with_reducible refine Kd.C_alloc ?_ _) | (with_reducible refine Kd.C_drewN ?_ _) | (with_reducible refine Kd.C_drew ?_))); (case side2 => exact HC0.out); (case side3 => repeat (first | exact HR1.out | (with_reducible refine Kd.C_alloc ?_ _) | (with_reducible refine Kd.C_drewN ?_ _) | (with_reducible refine Kd.C_drew ?_))); (case side4 => exact HC1.out); (case side5 => exact HN1.out); rintro e w6 ⟨v234, rfl, ho0, hb⟩; refine ⟨_, rfl, ?_⟩; have n0_ := Aside0.mk (Kd.R_lower ho0 (below_size (by repeat (first | (with_reducible first | exact HB.out | apply below_alloc | apply pw_below_drewN | apply below_drew1) | exact HB.out)))); have n1_ := Aside0.mk (below_step (by repeat (first | (with_reducible first | exact HB.out | apply below_alloc | apply pw_below_drewN | apply below_drew1) | exact HB.out)) hb); clear HB; have HO235 := n0_; have HB := n1_; clear n0_ n1_; (try clear hb); (try clear hb2); (try clear hk); (try clear hi); (try clear ho0); obtain ⟨Ao7, co7, eo7⟩ := Kd.R_slice HO235.out; subst eo7))
  go_loopg [13] k (fun kq v13 w' => ∃ (x3_1 : List (S42)) (x13_1 : Int), v13 = .int .i64 x13_1 ∧ Aside0 (impl_Unwaves.l0 kq l0 x3_1 (t233.length : Int) x13_1 = some r) ∧ Aside0 (kq ≤ k) ∧ Aside0 (Kd.R k42 42 w' w.heap.size (fun _ => True) (.slice Ao7 t233.length co7) x3_1) ∧ Aside0 (Below w.heap.size w w'))
  case atStart => exact ⟨(t233), (0), (by first | rfl | (simp; done) | (simp [*]; done)), H', ⟨Nat.le_refl _⟩, ⟨by (with_reducible repeat (first | apply Kd.R_alloc | apply Kd.R_drewN | apply Kd.R_drew)); exact HO235.out⟩, ⟨by repeat (first | (with_reducible first | exact HB.out | apply below_alloc | apply pw_below_drewN | apply below_drew1) | exact HB.out)⟩⟩
  case round =>
   clear H'
   try clear c1
   try clear c2
   try clear p2
   try clear c4
   try clear c5
   obtain ⟨x3_1, x13_1, rfl, HA, HK1, HO_3, HB⟩ := hrel
   have hl3_1 := (Kd.R_reads' HO_3.out).1
   rw [hl3_1] at HO_3
   (try simp only [hl3_1])
   cases gk with
   | zero => exact absurd HA.out (by simp [impl_Unwaves.l0])
   | succ k1 =>
    have H := HA.out
    clear HA
    simp only [impl_Unwaves.l0] at H
    by_cases c8 : x13_1 < (t233.length : Int)
    ·rw [if_pos c8] at H
     have c8b0 : decide (x13_1 < (t233.length : Int)) = true := decide_eq_true c8
     (try simp only [hl3_1] at c8b0)
     clear c8
     by_cases c9 : 0 ≤ x13_1
     ·rw [if_pos c9] at H
      have c9b0 : decide (0 ≤ x13_1) = true := decide_eq_true c9
      clear c9
      by_cases c10 : x13_1 < (x3_1.length : Int)
      ·rw [if_pos c10] at H
       have c10b0 : decide (x13_1 < (x3_1.length : Int)) = true := decide_eq_true c10
       (try simp only [hl3_1] at c10b0)
       clear c10
       obtain ⟨y240, hy240⟩ : ∃ y_ : List (S42), y_ = (x3_1.set (x13_1 : Int).toNat (⟨fdiv ((rd_T42 x3_1 x13_1).f0) (foi (l0.length : Int)), fdiv ((rd_T42 x3_1 x13_1).f1) (foi (l0.length : Int))⟩ : S42)) := ⟨_, rfl⟩
       replace H : (impl_Unwaves.l0 k1 l0 y240 (t233.length : Int) (wrap64 (x13_1 + 1))) = some r := by first | (rw [hy240]; with_reducible exact H) | (have H2_ := (Option.bind_some _ _).symm.trans H; rw [hy240]; with_reducible exact H2_) | (have H2_ := (Option.bind_some _ _).symm.trans H; with_reducible exact H2_) | with_reducible exact H | (rw [hy240]; exact H) | exact H
       have Ny240 := Aside0.mk hy240
       clear hy240
       have H' := Aside0.mk H
       clear H
       try go_wp2
       have n0_ := Aside0.mk (Kd.R_drew HO_3.out)
       have n1_ := Aside0.mk (below_drew1 HB.out)
       clear HO_3
       clear HB
       have HO_3 := n0_
       have HB := n1_
       clear n0_ n1_
       have p236 : 0 ≤ (x13_1 : Int) := of_decide_eq_true (by first | (with_reducible assumption) | assumption)
       have q236 : x13_1 < (x3_1.length : Int) := of_decide_eq_true (by first | (with_reducible assumption) | assumption)
       obtain ⟨ad236, pf236_0, pf236_1, e236, hx236_0, hx236_1⟩ := at_T42 (Kd.R_reads' HO_3.out).2.2 x13_1 p236 q236
       cases e236
       replace p236 := eq_true p236
       replace q236 := eq_true q236
       have p238 : 0 ≤ (x13_1 : Int) := of_decide_eq_true (by first | (with_reducible assumption) | assumption)
       have q238 : x13_1 < (x3_1.length : Int) := of_decide_eq_true (by first | (with_reducible assumption) | assumption)
       obtain ⟨ad238, pf238_0, pf238_1, e238, hx238_0, hx238_1⟩ := at_T42 (Kd.R_reads' HO_3.out).2.2 x13_1 p238 q238
       obtain rfl : ad236 = ad238 := (by injection e238)
       replace p238 := eq_true p238
       replace q238 := eq_true q238
       refine start_ (n := 23) (S := fun w' => w'.cell? (ad236.add ((x13_1).toNat * 2)) = some (.float .f64 (un pf236_0 ((rd_T42 x3_1 x13_1).f0))) ∧ w'.cell? ⟨(ad236.add ((x13_1).toNat * 2)).block, (ad236.add ((x13_1).toNat * 2)).off + 1, none⟩ = some (.float .f64 (un pf236_1 ((rd_T42 x3_1 x13_1).f1))) ∧ w'.cell? (ad236.add ((x13_1).toNat * 2)) = some (.float .f64 (un pf238_0 ((rd_T42 x3_1 x13_1).f0))) ∧ w'.cell? ⟨(ad236.add ((x13_1).toNat * 2)).block, (ad236.add ((x13_1).toNat * 2)).off + 1, none⟩ = some (.float .f64 (un pf238_1 ((rd_T42 x3_1 x13_1).f1)))) (ds := [22]) #[false, false, false, false, false, false, false, false, false, false, false, false, false, false, false, false, false, false, false, false, false, false, false] (by kernel_rfl) rfl rfl ⟨hx236_0, hx236_1, hx238_0, hx238_1⟩ (fun hHeld => ?_); refine with_tabW impl_Unwaves.tab7 impl_Unwaves.bits7 (fun HT_ HW_ => ?_)
       generalize wr.drew = w12 at HO_3 HB hx236_0 hx236_1 hx238_0 hx238_1 hHeld ⊢
       refine pure_ (i := 0) (N := some 16) (v := ?_) (a' := ?_) #[true, false, false, false, false, false, false, false, false, false, false, false, false, false, false, false, false, false, false, false, false, false, false] rfl rfl (any_of HT_.out (by kernel_rfl)) (fun _ _ _ h => h) (Or.inl ⟨by rfl, ?_⟩) ?_ ?_
       rotate_left
       ·intro w'
        go_simp
        with_reducible rfl
       rotate_left
       ·simp only [Act.put, sqA, sqZ, sqS, i64_w, i32_w]
        rfl
       refine pure_ (i := 1) (N := some 17) (v := ?_) (a' := ?_) #[true, true, false, false, false, false, false, false, false, false, false, false, false, false, false, false, false, false, false, false, false, false, false] rfl rfl (any_of HT_.out (by kernel_rfl)) (fun _ _ _ h => h) (Or.inl ⟨by rfl, ?_⟩) ?_ ?_
       rotate_left
       ·intro w'
        go_simp
        with_reducible rfl
       rotate_left
       ·simp only [Act.put, sqA, sqZ, sqS, i64_w, i32_w]
        rfl
       refine pure_ (i := 2) (N := some 18) (v := ?_) (a' := ?_) #[true, true, true, false, false, false, false, false, false, false, false, false, false, false, false, false, false, false, false, false, false, false, false] rfl rfl (any_of HT_.out (by kernel_rfl)) (fun _ _ _ h => h) (Or.inl ⟨by rfl, ?_⟩) ?_ ?_
       rotate_left
       ·intro w'
        go_simp
        with_reducible rfl
       rotate_left
       ·simp only [Act.put, sqA, sqZ, sqS, i64_w, i32_w]
        rfl
       refine pure_ (i := 3) (N := some 19) (v := ?_) (a' := ?_) #[true, true, true, true, false, false, false, false, false, false, false, false, false, false, false, false, false, false, false, false, false, false, false] rfl rfl (any_of HT_.out (by kernel_rfl)) (fun _ _ _ h => h) (Or.inl ⟨by rfl, ?_⟩) ?_ ?_
       rotate_left
       ·intro w'
        go_simp
        with_reducible rfl
       rotate_left
       ·simp only [Act.put, sqA, sqZ, sqS, i64_w, i32_w]
        rfl
       refine pure_ (i := 4) (N := some 20) (v := ?_) (a' := ?_) #[true, true, true, true, true, false, false, false, false, false, false, false, false, false, false, false, false, false, false, false, false, false, false] rfl rfl (any_of HT_.out (by kernel_rfl)) (fun _ _ _ h => h) (Or.inl ⟨by rfl, ?_⟩) ?_ ?_
       rotate_left
       ·intro w'
        go_simp
        with_reducible rfl
       rotate_left
       ·simp only [Act.put, sqA, sqZ, sqS, i64_w, i32_w]
        rfl
       refine pure_ (i := 5) (N := some 21) (v := ?_) (a' := ?_) #[true, true, true, true, true, true, false, false, false, false, false, false, false, false, false, false, false, false, false, false, false, false, false] rfl rfl (any_of HT_.out (by kernel_rfl)) (fun _ _ _ h => h) (Or.inl ⟨by rfl, ?_⟩) ?_ ?_
       rotate_left
       ·intro w'
        go_simp
        with_reducible rfl
       rotate_left
       ·simp only [Act.put, sqA, sqZ, sqS, i64_w, i32_w]
        rfl
       refine pure_ (i := 7) (N := some 23) (v := ?_) (a' := ?_) #[true, true, true, true, true, true, false, true, false, false, false, false, false, false, false, false, false, false, false, false, false, false, false] rfl rfl (any_of HT_.out (by kernel_rfl)) (fun _ _ _ h => h) (Or.inl ⟨by rfl, ?_⟩) ?_ ?_
       rotate_left
       ·intro w'
        go_simp
        with_reducible rfl
       rotate_left
       ·simp only [Act.put, sqA, sqZ, sqS, i64_w, i32_w]
        rfl
       refine pure_ (i := 8) (N := some 24) (v := ?_) (a' := ?_) #[true, true, true, true, true, true, false, true, true, false, false, false, false, false, false, false, false, false, false, false, false, false, false] rfl rfl (any_of HT_.out (by kernel_rfl)) (fun _ _ _ h => h) (Or.inl ⟨by rfl, ?_⟩) ?_ ?_
       rotate_left
       ·intro w'
        go_simp
        with_reducible rfl
       rotate_left
       ·simp only [Act.put, sqA, sqZ, sqS, i64_w, i32_w]
        rfl
       refine pure_ (i := 9) (N := some 25) (v := ?_) (a' := ?_) #[true, true, true, true, true, true, false, true, true, true, false, false, false, false, false, false, false, false, false, false, false, false, false] rfl rfl (any_of HT_.out (by kernel_rfl)) (fun _ _ _ h => h) (Or.inl ⟨by rfl, ?_⟩) ?_ ?_
       rotate_left
       ·intro w'
        go_simp
        with_reducible rfl
       rotate_left
       ·simp only [Act.put, sqA, sqZ, sqS, i64_w, i32_w]
        rfl
       refine pure_ (i := 11) (N := some 27) (v := ?_) (a' := ?_) #[true, true, true, true, true, true, false, true, true, true, false, true, false, false, false, false, false, false, false, false, false, false, false] rfl rfl (any_of HT_.out (by kernel_rfl)) (fun _ _ _ h => h) (Or.inl ⟨by rfl, ?_⟩) ?_ ?_
       rotate_left
       ·intro w'
        go_simp
        with_reducible rfl
       rotate_left
       ·simp only [Act.put, sqA, sqZ, sqS, i64_w, i32_w]
        rfl
       refine pure_ (i := 12) (N := some 28) (v := ?_) (a' := ?_) #[true, true, true, true, true, true, false, true, true, true, false, true, true, false, false, false, false, false, false, false, false, false, false] rfl rfl (any_of HT_.out (by kernel_rfl)) (fun _ _ _ h => h) (Or.inl ⟨by rfl, ?_⟩) ?_ ?_
       rotate_left
       ·intro w'
        go_simp
        with_reducible rfl
       rotate_left
       ·simp only [Act.put, sqA, sqZ, sqS, i64_w, i32_w]
        rfl
       refine pure_ (i := 13) (N := some 29) (v := ?_) (a' := ?_) #[true, true, true, true, true, true, false, true, true, true, false, true, true, true, false, false, false, false, false, false, false, false, false] rfl rfl (any_of HT_.out (by kernel_rfl)) (fun _ _ _ h => h) (Or.inl ⟨by rfl, ?_⟩) ?_ ?_
       rotate_left
       ·intro w'
        go_simp
        with_reducible rfl
       rotate_left
       ·simp only [Act.put, sqA, sqZ, sqS, i64_w, i32_w]
        rfl
       refine pure_ (i := 14) (N := some 30) (v := ?_) (a' := ?_) #[true, true, true, true, true, true, false, true, true, true, false, true, true, true, true, false, false, false, false, false, false, false, false] rfl rfl (any_of HT_.out (by kernel_rfl)) (fun _ _ _ h => h) (Or.inl ⟨by rfl, ?_⟩) ?_ ?_
       rotate_left
       ·intro w'
        go_simp
        with_reducible rfl
       rotate_left
       ·simp only [Act.put, sqA, sqZ, sqS, i64_w, i32_w]
        rfl
       refine pure_ (i := 16) (N := some 32) (v := ?_) (a' := ?_) #[true, true, true, true, true, true, false, true, true, true, false, true, true, true, true, false, true, false, false, false, false, false, false] rfl rfl (any_of HT_.out (by kernel_rfl)) (fun _ _ _ h => h) (Or.inl ⟨by rfl, ?_⟩) ?_ ?_
       rotate_left
       ·intro w'
        go_simp
        with_reducible rfl
       rotate_left
       ·simp only [Act.put, sqA, sqZ, sqS, i64_w, i32_w]
        rfl
       refine pure_ (i := 17) (N := some 33) (v := ?_) (a' := ?_) #[true, true, true, true, true, true, false, true, true, true, false, true, true, true, true, false, true, true, false, false, false, false, false] rfl rfl (any_of HT_.out (by kernel_rfl)) (fun _ _ _ h => h) (Or.inl ⟨by rfl, ?_⟩) ?_ ?_
       rotate_left
       ·intro w'
        go_simp
        with_reducible rfl
       rotate_left
       ·simp only [Act.put, sqA, sqZ, sqS, i64_w, i32_w]
        rfl
       refine pure_ (i := 18) (N := some 34) (v := ?_) (a' := ?_) #[true, true, true, true, true, true, false, true, true, true, false, true, true, true, true, false, true, true, true, false, false, false, false] rfl rfl (any_of HT_.out (by kernel_rfl)) (fun _ _ _ h => h) (Or.inl ⟨by rfl, ?_⟩) ?_ ?_
       rotate_left
       ·intro w'
        go_simp
        with_reducible rfl
       rotate_left
       ·simp only [Act.put, sqA, sqZ, sqS, i64_w, i32_w]
        rfl
       refine take_ (i := 6) (N := some 22) (v := ?_) (a' := ?_) #[true, true, true, true, true, true, true, true, true, true, false, true, true, true, true, false, true, true, true, false, false, false, false] rfl rfl (take_ofW HT_.out HW_.out (by kernel_rfl)) (fun _ _ _ h => h) (Or.inl ⟨by rfl, ?_⟩) hHeld ?_ ?_
       rotate_left
       ·rintro w' ⟨s0, s1, s2, s3⟩; clear s2 s3
        go_simp
        with_reducible rfl
       rotate_left
       ·simp only [Act.put, sqA, sqZ, sqS, i64_w, i32_w]
        rfl
       refine take_ (i := 15) (N := some 31) (v := ?_) (a' := ?_) #[true, true, true, true, true, true, true, true, true, true, false, true, true, true, true, true, true, true, true, false, false, false, false] rfl rfl (take_ofW HT_.out HW_.out (by kernel_rfl)) (fun _ _ _ h => h) (Or.inl ⟨by rfl, ?_⟩) hHeld ?_ ?_
       rotate_left
       ·rintro w' ⟨s0, s1, s2, s3⟩; clear s0 s1
        go_simp
        with_reducible rfl
       rotate_left
       ·simp only [Act.put, sqA, sqZ, sqS, i64_w, i32_w]
        rfl
       refine join_ (σ := Nat × Nat) 3 #[true, true, true, true, true, true, true, true, true, true, true, true, true, true, true, true, true, true, true, true, false, false, false] (fun s_ => [(26, .float .f64 (un s_.1 (fdiv ((rd_T42 x3_1 x13_1).f0) (foi (l0.length : Int))))), (35, .float .f64 (un s_.2 (fdiv ((rd_T42 x3_1 x13_1).f1) (foi (l0.length : Int)))))]) (fun s_ w' => (w'.cell? (ad236.add ((x13_1).toNat * 2)) = some (.float .f64 (un pf236_0 ((rd_T42 x3_1 x13_1).f0))) ∧ w'.cell? ⟨(ad236.add ((x13_1).toNat * 2)).block, (ad236.add ((x13_1).toNat * 2)).off + 1, none⟩ = some (.float .f64 (un pf236_1 ((rd_T42 x3_1 x13_1).f1))) ∧ w'.cell? (ad236.add ((x13_1).toNat * 2)) = some (.float .f64 (un pf238_0 ((rd_T42 x3_1 x13_1).f0))) ∧ w'.cell? ⟨(ad236.add ((x13_1).toNat * 2)).block, (ad236.add ((x13_1).toNat * 2)).off + 1, none⟩ = some (.float .f64 (un pf238_1 ((rd_T42 x3_1 x13_1).f1)))) ∧ (Kd.R k42 42 w' w.heap.size (fun _ => True) (.slice (some ad236) x3_1.length co7) x3_1) ∧ (Below w.heap.size w w')) ?_ ?_
       rotate_left
       ·intro hCont
        refine two_ (i := 10) (j := 19) (Ni := some 26) (Nj := some 35) #[true, true, true, true, true, true, true, true, true, true, true, true, true, true, true, true, true, true, true, false, false, false, false] #[true, true, true, true, true, true, true, true, true, true, false, true, true, true, true, true, true, true, true, true, false, false, false] rfl rfl rfl rfl (two_of HT_.out (by kernel_rfl)) (by decide) (by decide) (fun K hK => ?_) (fun K hK => ?_)
        ·skip
         refine fop_stepB (by rfl) (N := 26) rfl (op := .quo) rfl rfl pf236_0 ((rd_T42 x3_1 x13_1).f0) 0 (foi (l0.length : Int)) rfl rfl ?hA ?hB fdiv rfl ?_; (case hA => first | rfl | exact (un_zero _).symm); (case hB => first | rfl | exact (un_zero _).symm)
         intro pb237 w13 hb
         have HS0_ := (hb.cell (World.block_lt_of_cell? _ _ (hHeld.1))).trans (hHeld.1)
         have HS1_ := (hb.cell (World.block_lt_of_cell? _ _ (hHeld.2.1))).trans (hHeld.2.1)
         have HS2_ := (hb.cell (World.block_lt_of_cell? _ _ (hHeld.2.2.1))).trans (hHeld.2.2.1)
         have HS3_ := (hb.cell (World.block_lt_of_cell? _ _ (hHeld.2.2.2))).trans (hHeld.2.2.2)
         have n0_ := Aside0.mk (Kd.R_below (by (with_reducible repeat (first | apply Kd.R_alloc | apply Kd.R_drewN | apply Kd.R_drew)); exact HO_3.out) hb)
         have n1_ := Aside0.mk (below_step (by repeat (first | (with_reducible first | exact HB.out | apply below_alloc | apply pw_below_drewN | apply below_drew1) | exact HB.out)) hb)
         clear HO_3
         clear HB
         have HO_3 := n0_
         have HB := n1_
         clear n0_ n1_
         (try clear hb)
         refine hK.out _ _ ⟨HS0_, HS1_, HS2_, HS3_⟩ (fun hHeld => ?_)
         clear hK K
         refine norm_ (a' := ?_) ?_ ?_
         rotate_left
         ·show Act.put _ (some 26) _ = _
          simp only [Act.put, sqA, sqZ, sqS, i64_w, i32_w]
          rfl
         refine one_ (i := 19) (N := some 35) #[true, true, true, true, true, true, true, true, true, true, true, true, true, true, true, true, true, true, true, true, false, false, false] rfl rfl (one_of HT_.out (by kernel_rfl)) (by decide) (fun K hK => ?_)
         refine fop_stepB (by rfl) (N := 35) rfl (op := .quo) rfl rfl pf238_1 ((rd_T42 x3_1 x13_1).f1) 0 (foi (l0.length : Int)) rfl rfl ?hA ?hB fdiv rfl ?_; (case hA => first | rfl | exact (un_zero _).symm); (case hB => first | rfl | exact (un_zero _).symm)
         intro pb239 w14 hb
         have HS0_ := (hb.cell (World.block_lt_of_cell? _ _ (hHeld.1))).trans (hHeld.1)
         have HS1_ := (hb.cell (World.block_lt_of_cell? _ _ (hHeld.2.1))).trans (hHeld.2.1)
         have HS2_ := (hb.cell (World.block_lt_of_cell? _ _ (hHeld.2.2.1))).trans (hHeld.2.2.1)
         have HS3_ := (hb.cell (World.block_lt_of_cell? _ _ (hHeld.2.2.2))).trans (hHeld.2.2.2)
         have n0_ := Aside0.mk (Kd.R_below (by (with_reducible repeat (first | apply Kd.R_alloc | apply Kd.R_drewN | apply Kd.R_drew)); exact HO_3.out) hb)
         have n1_ := Aside0.mk (below_step (by repeat (first | (with_reducible first | exact HB.out | apply below_alloc | apply pw_below_drewN | apply below_drew1) | exact HB.out)) hb)
         clear HO_3
         clear HB
         have HO_3 := n0_
         have HB := n1_
         clear n0_ n1_
         (try clear hb)
         refine hK.out _ _ ⟨HS0_, HS1_, HS2_, HS3_⟩ (fun hHeld => ?_)
         clear hK K
         refine norm_ (a' := ?_) ?_ ?_
         rotate_left
         ·show Act.put _ (some 35) _ = _
          simp only [Act.put, sqA, sqZ, sqS, i64_w, i32_w]
          rfl
         exact norm_ (by simp only [putAll, Act.put, sqA, sqZ, sqS]) (hCont (pb237, pb239) _ ⟨hHeld, (by (with_reducible repeat (first | apply Kd.R_alloc | apply Kd.R_drewN | apply Kd.R_drew)); exact HO_3.out), (by repeat (first | (with_reducible first | exact HB.out | apply below_alloc | apply pw_below_drewN | apply below_drew1) | exact HB.out))⟩)
        ·skip
         refine fop_stepB (by rfl) (N := 35) rfl (op := .quo) rfl rfl pf238_1 ((rd_T42 x3_1 x13_1).f1) 0 (foi (l0.length : Int)) rfl rfl ?hA ?hB fdiv rfl ?_; (case hA => first | rfl | exact (un_zero _).symm); (case hB => first | rfl | exact (un_zero _).symm)
         intro pb239 w13 hb
         have HS0_ := (hb.cell (World.block_lt_of_cell? _ _ (hHeld.1))).trans (hHeld.1)
         have HS1_ := (hb.cell (World.block_lt_of_cell? _ _ (hHeld.2.1))).trans (hHeld.2.1)
         have HS2_ := (hb.cell (World.block_lt_of_cell? _ _ (hHeld.2.2.1))).trans (hHeld.2.2.1)
         have HS3_ := (hb.cell (World.block_lt_of_cell? _ _ (hHeld.2.2.2))).trans (hHeld.2.2.2)
         have n0_ := Aside0.mk (Kd.R_below (by (with_reducible repeat (first | apply Kd.R_alloc | apply Kd.R_drewN | apply Kd.R_drew)); exact HO_3.out) hb)
         have n1_ := Aside0.mk (below_step (by repeat (first | (with_reducible first | exact HB.out | apply below_alloc | apply pw_below_drewN | apply below_drew1) | exact HB.out)) hb)
         clear HO_3
         clear HB
         have HO_3 := n0_
         have HB := n1_
         clear n0_ n1_
         (try clear hb)
         refine hK.out _ _ ⟨HS0_, HS1_, HS2_, HS3_⟩ (fun hHeld => ?_)
         clear hK K
         refine norm_ (a' := ?_) ?_ ?_
         rotate_left
         ·show Act.put _ (some 35) _ = _
          simp only [Act.put, sqA, sqZ, sqS, i64_w, i32_w]
          rfl
         refine one_ (i := 10) (N := some 26) #[true, true, true, true, true, true, true, true, true, true, true, true, true, true, true, true, true, true, true, true, false, false, false] rfl rfl (one_of HT_.out (by kernel_rfl)) (by decide) (fun K hK => ?_)
         refine fop_stepB (by rfl) (N := 26) rfl (op := .quo) rfl rfl pf236_0 ((rd_T42 x3_1 x13_1).f0) 0 (foi (l0.length : Int)) rfl rfl ?hA ?hB fdiv rfl ?_; (case hA => first | rfl | exact (un_zero _).symm); (case hB => first | rfl | exact (un_zero _).symm)
         intro pb237 w14 hb
         have HS0_ := (hb.cell (World.block_lt_of_cell? _ _ (hHeld.1))).trans (hHeld.1)
         have HS1_ := (hb.cell (World.block_lt_of_cell? _ _ (hHeld.2.1))).trans (hHeld.2.1)
         have HS2_ := (hb.cell (World.block_lt_of_cell? _ _ (hHeld.2.2.1))).trans (hHeld.2.2.1)
         have HS3_ := (hb.cell (World.block_lt_of_cell? _ _ (hHeld.2.2.2))).trans (hHeld.2.2.2)
         have n0_ := Aside0.mk (Kd.R_below (by (with_reducible repeat (first | apply Kd.R_alloc | apply Kd.R_drewN | apply Kd.R_drew)); exact HO_3.out) hb)
         have n1_ := Aside0.mk (below_step (by repeat (first | (with_reducible first | exact HB.out | apply below_alloc | apply pw_below_drewN | apply below_drew1) | exact HB.out)) hb)
         clear HO_3
         clear HB
         have HO_3 := n0_
         have HB := n1_
         clear n0_ n1_
         (try clear hb)
         refine hK.out _ _ ⟨HS0_, HS1_, HS2_, HS3_⟩ (fun hHeld => ?_)
         clear hK K
         refine norm_ (a' := ?_) ?_ ?_
         rotate_left
         ·show Act.put _ (some 26) _ = _
          simp only [Act.put, sqA, sqZ, sqS, i64_w, i32_w]
          rfl
         exact norm_ (by simp only [putAll, Act.put, sqA, sqZ, sqS]) (hCont (pb237, pb239) _ ⟨hHeld, (by (with_reducible repeat (first | apply Kd.R_alloc | apply Kd.R_drewN | apply Kd.R_drew)); exact HO_3.out), (by repeat (first | (with_reducible first | exact HB.out | apply below_alloc | apply pw_below_drewN | apply below_drew1) | exact HB.out))⟩)
       rintro ⟨pb237, pb239⟩ w15 ⟨hS_, h0_, h1_⟩
       have n0_ : Aside0 (Kd.R k42 42 w15 w.heap.size (fun _ => True) (.slice (some ad236) x3_1.length co7) x3_1) := ⟨h0_⟩
       have n1_ : Aside0 (Below w.heap.size w w15) := ⟨h1_⟩
       clear HO_3
       clear HB
       clear h0_ h1_
       have HO_3 := n0_
       have HB := n1_
       clear n0_ n1_
       have hHeld : w15.cell? (ad236.add ((x13_1).toNat * 2)) = some (.float .f64 (un pf236_0 ((rd_T42 x3_1 x13_1).f0))) ∧ w15.cell? ⟨(ad236.add ((x13_1).toNat * 2)).block, (ad236.add ((x13_1).toNat * 2)).off + 1, none⟩ = some (.float .f64 (un pf236_1 ((rd_T42 x3_1 x13_1).f1))) ∧ w15.cell? (ad236.add ((x13_1).toNat * 2)) = some (.float .f64 (un pf238_0 ((rd_T42 x3_1 x13_1).f0))) ∧ w15.cell? ⟨(ad236.add ((x13_1).toNat * 2)).block, (ad236.add ((x13_1).toNat * 2)).off + 1, none⟩ = some (.float .f64 (un pf238_1 ((rd_T42 x3_1 x13_1).f1))) := hS_
       have p11 : 0 ≤ (x13_1 : Int) := of_decide_eq_true (by first | (with_reducible assumption) | assumption)
       have q11 : (x13_1 : Int) < ((x3_1.length : Int) : Int) := of_decide_eq_true (by first | (with_reducible assumption) | assumption)
       obtain ⟨go11, co11, eo11, gb11, gl11, cl11, HG11⟩ := Kd.R_form HO_3.out (by omega)
       (first | cases eo11 | (injection eo11 with ea_ en_ ec_; (first | subst ea_ | (injection ea_ with ea_; subst ea_)); subst ec_; clear en_))
       have GB11 := Aside0.mk gb11
       have GG11 := Aside0.mk HG11
       clear gb11 gl11 HG11
       (first | simp only [add_plain] at hx236_0 | skip)
       (first | simp only [add_plain] at hx236_1 | skip)
       (first | simp only [add_plain] at hx238_0 | skip)
       (first | simp only [add_plain] at hx238_1 | skip)
       obtain ⟨ce11, hcl11, hM11, hcc11, hfr11⟩ := Kd.R_elem HO_3.out z42 (x13_1 : Int) p11 q11
       obtain ⟨pf11_0, pf11_1, rfl⟩ := k42_openM hM11
       have hx11_0 : World.cell? _ ⟨go11, (x13_1 : Int).toNat * 2, none⟩ = some (.float .f64 (un pf11_0 ((rd_T42 x3_1 x13_1).f0))) := hcc11 0 _ rfl
       have hx11_1 : World.cell? _ ⟨go11, (x13_1 : Int).toNat * 2 + 1, none⟩ = some (.float .f64 (un pf11_1 ((rd_T42 x3_1 x13_1).f1))) := hcc11 1 _ rfl
       have hf11_0 : World.frozen? _ ⟨go11, (x13_1 : Int).toNat * 2, none⟩ = false := hfr11 0
       have hf11_1 : World.frozen? _ ⟨go11, (x13_1 : Int).toNat * 2 + 1, none⟩ = false := hfr11 1
       clear hcl11 hcc11 hfr11 hM11
       replace p11 := eq_true p11
       replace q11 := eq_true q11
       obtain ⟨ce16, hcl16, hM16, hcc16, hfr16⟩ := Kd.R_elem HO_3.out z42 (x13_1 : Int) (of_decide_eq_true (by first | (with_reducible assumption) | assumption)) (by have h_ : (x13_1 : Int) < ((x3_1.length : Int) : Int) := of_decide_eq_true (by first | (with_reducible assumption) | assumption); first | exact h_ | (have e_ := (Kd.R_reads' HO_3.out).1; omega) | simpa using h_)
       obtain ⟨pf16_0, pf16_1, rfl⟩ := k42_openM hM16
       have HP16 := (Kd.R_seg HO_3.out (x13_1 : Int) (of_decide_eq_true (by first | (with_reducible assumption) | assumption)) (by have h_ : (x13_1 : Int) < ((x3_1.length : Int) : Int) := of_decide_eq_true (by first | (with_reducible assumption) | assumption); first | exact h_ | (have e_ := (Kd.R_reads' HO_3.out).1; omega) | simpa using h_) (seg := [.float .f64 (un pb237 (fdiv ((rd_T42 x3_1 x13_1).f0) (foi (l0.length : Int)))), .float .f64 (un pb239 (fdiv ((rd_T42 x3_1 x13_1).f1) (foi (l0.length : Int))))]) (j := 0) hcl16 hcc16 (show 2 ≤ 2 from by decide) (x' := (⟨fdiv ((rd_T42 x3_1 x13_1).f0) (foi (l0.length : Int)), fdiv ((rd_T42 x3_1 x13_1).f1) (foi (l0.length : Int))⟩ : S42)) (k42_mkM _ _ _ (⟨fdiv ((rd_T42 x3_1 x13_1).f0) (foi (l0.length : Int)), fdiv ((rd_T42 x3_1 x13_1).f1) (foi (l0.length : Int))⟩ : S42) ) (fun _ hk => hk)).1
       rw [← Ny240.out] at HP16
       have HQ16 := Aside0.mk HP16
       clear hcl16 hcc16 hfr16 hM16 HP16
       refine norm_ (a' := ?_) ?_ ?_
       rotate_left
       ·simp only [putAll, Act.put, sqA, sqZ, sqS]
        rfl
       refine pure_ (i := 20) (N := some 36) (v := ?_) (a' := ?_) #[true, true, true, true, true, true, true, true, true, true, true, true, true, true, true, true, true, true, true, true, true, false, false] rfl rfl (any_of HT_.out (by kernel_rfl)) (fun _ _ _ h => h) (Or.inl ⟨by rfl, ?_⟩) ?_ ?_
       rotate_left
       ·intro w'
        go_simp
        with_reducible rfl
       rotate_left
       ·simp only [Act.put, sqA, sqZ, sqS, i64_w, i32_w]
        rfl
       refine pure_ (i := 21) (N := some 37) (v := ?_) (a' := ?_) #[true, true, true, true, true, true, true, true, true, true, true, true, true, true, true, true, true, true, true, true, true, true, false] rfl rfl (any_of HT_.out (by kernel_rfl)) (fun _ _ _ h => h) (Or.inl ⟨by rfl, ?_⟩) ?_ ?_
       rotate_left
       ·intro w'
        go_simp
        with_reducible rfl
       rotate_left
       ·simp only [Act.put, sqA, sqZ, sqS, i64_w, i32_w]
        rfl
       refine last_ (i := 22) (N := none) #[true, true, true, true, true, true, true, true, true, true, true, true, true, true, true, true, true, true, true, true, true, true, true] rfl rfl (one_of HT_.out (by kernel_rfl)) (by decide) (fun K hK => ?_)
       refine skip_ (w1 := ?_) (by rfl) rfl ?_ ?_
       rotate_left
       ·go_simp
        rfl
       refine hK.out _ _ ?_
       clear hK K
       refine done_ (done_of HT_.out (by kernel_rfl)) ?_
       try go_wp2
       (try simp only [← hl3_1])
       go_roundg k1
       case measure => have := HK1.out; omega
       case rel => exact ⟨(y240), (wrap64 (x13_1 + 1)), (by first | rfl | (simp; done) | (simp [*]; done)), H', ⟨by have := HK1.out; omega⟩, ⟨by (try simp only [hl3_1]); (with_reducible repeat (first | apply Kd.R_alloc | apply Kd.R_drewN | apply Kd.R_drew)); exact HQ16.out⟩, ⟨by repeat (first | (with_reducible first | exact HB.out | apply below_alloc | apply pw_below_drewN | apply below_drew1 | refine below_set ?_ GB11.out | refine below_set ?_ GB11.out) | exact HB.out)⟩⟩
      ·rw [if_neg c10] at H
       exact absurd H (by simp)
     ·rw [if_neg c9] at H
      exact absurd H (by simp)
    ·rw [if_neg c8] at H
     have c8b0 : decide (x13_1 < (t233.length : Int)) = false := decide_eq_false c8
     (try simp only [hl3_1] at c8b0)
     clear c8
     obtain rfl := Option.some.inj H
     go_wp2
     go_ret
     exact ⟨_, by first | rfl | (simp [errW_none, errW_some] <;> rfl) | (simp [*, errW_none, errW_some] <;> rfl), by (with_reducible repeat (first | apply Kd.R_alloc | apply Kd.R_drewN | apply Kd.R_drew)); exact HO_3.out, by repeat (first | (with_reducible first | exact HB.out | apply below_alloc | apply pw_below_drewN | apply below_drew1) | exact HB.out)⟩
 ·replace c4 := Bool.eq_false_iff.mpr c4
  subst c4
  have H1 : (some ([] : List (S42))) = some r := by rw [if_neg (show ¬ (false = true) by decide)] at H; exact H
  clear H
  have H := H1
  clear H1
  obtain rfl := Option.some.inj H
  go_enter Tryd.func29, Tryd.ntmps29
  go_wp2_with (first | ((with_reducible refine gate_callee (f := 56) rfl ?_); refine goesL_ (some 7) rfl rfl Tryd.func56 (by kernel_rfl) rfl #[.int .i64 (l0.length : Int)] rfl (by (try simp only [List.map_toArray, List.map_cons, List.map_nil]); first | done | rfl | (simp only [List.length_drop, List.length_take]; rfl)) ?_; (with_reducible refine (impl_waveLength.calls (l0.length : Int) false _ A3.out).mono ?_); rintro e w' ⟨rfl, ⟨nd, rfl⟩⟩; refine ⟨_, rfl, ?_⟩))
  go_ret
  exact ⟨_, by first | rfl | (simp [errW_none, errW_some] <;> rfl) | (simp [*, errW_none, errW_some] <;> rfl), by first | exact Kd.R_nil _ _ _ _ _ | exact Kd.N_nil _ _ _ _ _ | exact Kd.V_nil _ _ _ _ _ | exact Kd.Q_nil _ _ _ _ _ | exact Kd.S_nil _ _ _ _ _, by repeat (first | (with_reducible first | exact HB.out | apply below_alloc | apply pw_below_drewN | apply below_drew1) | exact HB.out)⟩

end Go.Proofs.YtpileeenoocjpaaDoor.Q
