/- Plain Lean functions with the same answers as the Go functions of this seat, and a proof for each that the Go code comes to just these answers; no condition. Written by a program of this session (the kit's printer, turned). -/
import Derived.Test.YtcdghhihfjojaaaDoorQx0
import Derived.Test.YtcdghhihfjojaaaDoorQx1
namespace Go.Proofs.YtcdghhihfjojaaaDoor.Q
open Go.RowKit Go.Proofs.YtcdghhihfjojaaaDoorW.PrintWords Go.Proofs.YtcdghhihfjojaaaDoorW.PrintLast Go.Proofs.YtcdghhihfjojaaaDoorW.PrintMore Go.Proofs.YtcdghhihfjojaaaDoorW.PrintFlt
attribute [local go_sem] cmp_lss cmp_leq cmp_gtr cmp_geq cmp_eql cmp_neq flt_l flt_r fgt_l fgt_r feq_l feq_r fne_l fne_r ord_lt ord_gt ord_eq ord_ne conv_int conv_flt foi_fold run_store_flt
attribute [local go_sem] max2_int min2_int max_two min_two max_three min_three max_four min_four   -- for this text's walks alone
set_option linter.unusedVariables false
set_option linter.unusedSimpArgs false

/-! ### spec_Clean: function 5 -/
def spec_Clean.l0 : Nat → ByteArray → List Int → Int → Option (ByteArray)
 | 0, _, _, _ => none
 | k + 1, x3, x4, x5 => if x5 < (x3.size : Int) then ((spec_l4Rune.f k x3 x5).bind fun bt104 => (if bt104.1 < 0 then (if x4.length < 140737488355328 then (spec_Clean.l0 k x3 (x4 ++ [63]) (wrap64 (x5 + bt104.2))) else (none)) else (if bt104.1 = 13 then (spec_Clean.l0 k x3 x4 (wrap64 (x5 + bt104.2))) else (if bt104.1 = 10 then (if bt104.1 ≥ 127 then (if bt104.1 < 160 then (if x4.length < 140737488355328 then (spec_Clean.l0 k x3 (x4 ++ [32]) (wrap64 (x5 + bt104.2))) else (none)) else (if 0 ≤ x5 then (if x5 ≤ (wrap64 (x5 + bt104.2)) then (if (wrap64 (x5 + bt104.2)) ≤ (x3.size : Int) then (if x4.length + (x3.extract (x5 : Int).toNat ((wrap64 (x5 + bt104.2)) : Int).toNat).size < 140737488355328 then (spec_Clean.l0 k x3 (x4 ++ bytesOf (x3.extract (x5 : Int).toNat ((wrap64 (x5 + bt104.2)) : Int).toNat)) (wrap64 (x5 + bt104.2))) else (none)) else (none)) else (none)) else (none))) else (if 0 ≤ x5 then (if x5 ≤ (wrap64 (x5 + bt104.2)) then (if (wrap64 (x5 + bt104.2)) ≤ (x3.size : Int) then (if x4.length + (x3.extract (x5 : Int).toNat ((wrap64 (x5 + bt104.2)) : Int).toNat).size < 140737488355328 then (spec_Clean.l0 k x3 (x4 ++ bytesOf (x3.extract (x5 : Int).toNat ((wrap64 (x5 + bt104.2)) : Int).toNat)) (wrap64 (x5 + bt104.2))) else (none)) else (none)) else (none)) else (none))) else (if bt104.1 < 32 then (if x4.length < 140737488355328 then (spec_Clean.l0 k x3 (x4 ++ [32]) (wrap64 (x5 + bt104.2))) else (none)) else (if bt104.1 ≥ 127 then (if bt104.1 < 160 then (if x4.length < 140737488355328 then (spec_Clean.l0 k x3 (x4 ++ [32]) (wrap64 (x5 + bt104.2))) else (none)) else (if 0 ≤ x5 then (if x5 ≤ (wrap64 (x5 + bt104.2)) then (if (wrap64 (x5 + bt104.2)) ≤ (x3.size : Int) then (if x4.length + (x3.extract (x5 : Int).toNat ((wrap64 (x5 + bt104.2)) : Int).toNat).size < 140737488355328 then (spec_Clean.l0 k x3 (x4 ++ bytesOf (x3.extract (x5 : Int).toNat ((wrap64 (x5 + bt104.2)) : Int).toNat)) (wrap64 (x5 + bt104.2))) else (none)) else (none)) else (none)) else (none))) else (if 0 ≤ x5 then (if x5 ≤ (wrap64 (x5 + bt104.2)) then (if (wrap64 (x5 + bt104.2)) ≤ (x3.size : Int) then (if x4.length + (x3.extract (x5 : Int).toNat ((wrap64 (x5 + bt104.2)) : Int).toNat).size < 140737488355328 then (spec_Clean.l0 k x3 (x4 ++ bytesOf (x3.extract (x5 : Int).toNat ((wrap64 (x5 + bt104.2)) : Int).toNat)) (wrap64 (x5 + bt104.2))) else (none)) else (none)) else (none)) else (none)))))))) else (some (strOfNums x4))
def spec_Clean.f (k : Nat) (l0 : List Int) : Option (ByteArray) := if (l0.length : Int) > 20000 then (some (⟨#[]⟩ : ByteArray)) else (spec_Clean.l0 k (strOfNums l0) (([] : List Int)) 0)
theorem spec_Clean.mono_l : ∀ k, (∀ y0 y1 y2, LeO (spec_Clean.l0 k y0 y1 y2) (spec_Clean.l0 (k + 1) y0 y1 y2))
 | 0 => fun _ _ _ r h => by simp [spec_Clean.l0] at h
 | k + 1 => by
  have ih0 := spec_Clean.mono_l k
  ·intro y0 y1 y2
   unfold spec_Clean.l0
   repeat' first
   | (with_reducible exact ih0 _ _ _)
   | (with_reducible exact spec_l4Rune.mono _ _ _)
   | (with_reducible exact LeO.refl _)
   | (with_reducible exact LeO.none _)
   | (with_reducible refine LeO.ite ?_ ?_)
   | (with_reducible refine LeO.bind ?_ (fun _ => ?_))
   | exact ih0 _ _ _
   | exact spec_l4Rune.mono _ _ _
   | exact LeO.none _
   | refine LeO.ite ?_ ?_
   | refine LeO.bind ?_ (fun _ => ?_)
theorem spec_Clean.mono : ∀ a0 k, LeO (spec_Clean.f k a0) (spec_Clean.f (k + 1) a0) := by
 intro a0 k
 have ih0 := spec_Clean.mono_l k
 unfold spec_Clean.f
 repeat' first
   | (with_reducible exact ih0 _ _ _)
   | (with_reducible exact spec_l4Rune.mono _ _ _)
   | (with_reducible exact LeO.refl _)
   | (with_reducible exact LeO.none _)
   | (with_reducible refine LeO.ite ?_ ?_)
   | (with_reducible refine LeO.bind ?_ (fun _ => ?_))
   | exact ih0 _ _ _
   | exact spec_l4Rune.mono _ _ _
   | exact LeO.none _
   | refine LeO.ite ?_ ?_
   | refine LeO.bind ?_ (fun _ => ?_)
set_option maxHeartbeats 8000000 in
set_option maxRecDepth 100000 in
theorem spec_Clean.calls (k : Nat) (A0 : Option Addr) (c0 : Nat) (l0 : List Int) (r : ByteArray) (w : World) (hr0 : Kd.C (Kd.int .u8) w A0 l0.length l0) (hc0 : l0.length ≤ c0) (h : spec_Clean.f k l0 = some r) :
  Calls Tryd.prog 5 #[.slice A0 l0.length c0] w fun e w' => e = .returned (.string r) ∧ Below w.heap.size w w' := by
 have HR0 := Aside0.mk hr0
 have HC0 := Aside0.mk hc0
 clear hr0 hc0
 have HB := Aside0.mk (Below.refl w.heap.size w)
 have H : (if (l0.length : Int) > 20000 then (some (⟨#[]⟩ : ByteArray)) else (spec_Clean.l0 k (strOfNums l0) (([] : List Int)) 0)) = some r := h
 clear h
 by_cases c2 : (l0.length : Int) > 20000
 ·rw [if_pos c2] at H
  have c2b0 : decide (20000 < (l0.length : Int)) = true := decide_eq_true c2
  have c2b1 : decide (20000 < l0.length) = true := decide_eq_true (by omega)
  clear c2
  obtain rfl := Option.some.inj H
  go_enter Tryd.func5, Tryd.ntmps5
  go_wp2
  go_ret
  exact ⟨by first | rfl | (simp [errW_none, errW_some] <;> rfl) | (simp [*, errW_none, errW_some] <;> rfl), by repeat (first | (with_reducible first | exact HB.out | apply below_alloc | apply pw_below_drewN | apply below_drew1) | exact HB.out)⟩
 ·rw [if_neg c2] at H
  have c2b0 : decide (20000 < (l0.length : Int)) = false := decide_eq_false c2
  have c2b1 : decide (20000 < l0.length) = false := decide_eq_false (by omega)
  clear c2
  obtain ⟨y101, hy101⟩ : ∃ y_ : List Int, y_ = (([] : List Int)) := ⟨_, rfl⟩
  replace H : (spec_Clean.l0 k (strOfNums l0) y101 0) = some r := by first | (rw [hy101]; with_reducible exact H) | (have H2_ := (Option.bind_some _ _).symm.trans H; rw [hy101]; with_reducible exact H2_) | (have H2_ := (Option.bind_some _ _).symm.trans H; with_reducible exact H2_) | with_reducible exact H | (rw [hy101]; exact H) | exact H
  have Ny101 := Aside0.mk hy101
  clear hy101
  have H' := Aside0.mk H
  clear H
  have hcv3 := Kd.C_string (P := Tryd.prog) (A := A0) (c := c0) Tryd.underlying22 Tryd.underlying5 Tryd.underlying9 HR0.out
  go_enter Tryd.func5, Tryd.ntmps5
  go_wp2_with (first | ((with_reducible refine gate_dst (N := 13) rfl ?_); refine Kd.R_lit (Kd.int .u8) _ 5 ?hg (N := 13) ?hd (xs := ([] : List Int)) (inner := []) (ok := fun _ => True) (okp := fun _ => True) ?hr ?hp (fun _ hk => hk) trivial (Below.refl _ _) (Nat.le_refl _) (by simp) ?_; (case hd => rfl); (case hg => rfl); (case hr => first | (go_simp; done) | (go_simp; rfl)); (case hp => exact (Reps.none _ _)); intro v102 w4 ho5 hb hg_ hnew_; clear hg_ hnew_; (first | rw [← Ny101.out] at ho5 | (simp only [Int.reduceToNat] at ho5; rw [← Ny101.out] at ho5)); have n0_ := Aside0.mk (Kd.R_lower ho5 (below_size (by repeat (first | (with_reducible first | exact HB.out | apply below_alloc | apply pw_below_drewN | apply below_drew1) | exact HB.out)))); have n1_ := Aside0.mk (below_step (by repeat (first | (with_reducible first | exact HB.out | apply below_alloc | apply pw_below_drewN | apply below_drew1) | exact HB.out)) hb); clear HB; have HO103 := n0_; have HB := n1_; clear n0_ n1_; clear hb ho5))
  go_loopg [4, 5] k (fun kq v4 v5 w' => ∃ (x4_1 : List Int) (x5_1 : Int), v5 = .int .i64 x5_1 ∧ Aside0 (spec_Clean.l0 kq (strOfNums l0) x4_1 x5_1 = some r) ∧ Aside0 (kq ≤ k) ∧ Aside0 (Kd.R (Kd.int .u8) 5 w' w.heap.size (fun _ => True) v4 x4_1) ∧ Aside0 (Below w.heap.size w w'))
  case atStart => exact ⟨(y101), (0), (by first | rfl | (simp; done) | (simp [*]; done)), H', ⟨Nat.le_refl _⟩, ⟨by (with_reducible repeat (first | apply Kd.R_alloc | apply Kd.R_drewN | apply Kd.R_drew)); exact HO103.out⟩, ⟨by repeat (first | (with_reducible first | exact HB.out | apply below_alloc | apply pw_below_drewN | apply below_drew1) | exact HB.out)⟩⟩
  case round =>
   clear H'
   try clear c2
   try clear c2b0
   try clear c2b1
   try clear p2
   try clear hcv3
   try clear c5
   obtain ⟨x4_1, x5_1, rfl, HA, HK1, HO_4, HB⟩ := hrel
   cases gk with
   | zero => exact absurd HA.out (by simp [spec_Clean.l0])
   | succ k1 =>
    have H := HA.out
    clear HA
    simp only [spec_Clean.l0] at H
    by_cases c6 : x5_1 < ((strOfNums l0).size : Int)
    ·rw [if_pos c6] at H
     have c6b0 : decide (x5_1 < ((strOfNums l0).size : Int)) = true := decide_eq_true c6
     clear c6
     replace H := Option.bind_eq_some_iff.mp H
     obtain ⟨⟨t104, t105⟩, A70, H⟩ := H
     replace H : (if t104 < 0 then (if x4_1.length < 140737488355328 then (spec_Clean.l0 k1 (strOfNums l0) (x4_1 ++ [63]) (wrap64 (x5_1 + t105))) else (none)) else (if t104 = 13 then (spec_Clean.l0 k1 (strOfNums l0) x4_1 (wrap64 (x5_1 + t105))) else (if t104 = 10 then (if t104 ≥ 127 then (if t104 < 160 then (if x4_1.length < 140737488355328 then (spec_Clean.l0 k1 (strOfNums l0) (x4_1 ++ [32]) (wrap64 (x5_1 + t105))) else (none)) else (if 0 ≤ x5_1 then (if x5_1 ≤ (wrap64 (x5_1 + t105)) then (if (wrap64 (x5_1 + t105)) ≤ ((strOfNums l0).size : Int) then (if x4_1.length + ((strOfNums l0).extract (x5_1 : Int).toNat ((wrap64 (x5_1 + t105)) : Int).toNat).size < 140737488355328 then (spec_Clean.l0 k1 (strOfNums l0) (x4_1 ++ bytesOf ((strOfNums l0).extract (x5_1 : Int).toNat ((wrap64 (x5_1 + t105)) : Int).toNat)) (wrap64 (x5_1 + t105))) else (none)) else (none)) else (none)) else (none))) else (if 0 ≤ x5_1 then (if x5_1 ≤ (wrap64 (x5_1 + t105)) then (if (wrap64 (x5_1 + t105)) ≤ ((strOfNums l0).size : Int) then (if x4_1.length + ((strOfNums l0).extract (x5_1 : Int).toNat ((wrap64 (x5_1 + t105)) : Int).toNat).size < 140737488355328 then (spec_Clean.l0 k1 (strOfNums l0) (x4_1 ++ bytesOf ((strOfNums l0).extract (x5_1 : Int).toNat ((wrap64 (x5_1 + t105)) : Int).toNat)) (wrap64 (x5_1 + t105))) else (none)) else (none)) else (none)) else (none))) else (if t104 < 32 then (if x4_1.length < 140737488355328 then (spec_Clean.l0 k1 (strOfNums l0) (x4_1 ++ [32]) (wrap64 (x5_1 + t105))) else (none)) else (if t104 ≥ 127 then (if t104 < 160 then (if x4_1.length < 140737488355328 then (spec_Clean.l0 k1 (strOfNums l0) (x4_1 ++ [32]) (wrap64 (x5_1 + t105))) else (none)) else (if 0 ≤ x5_1 then (if x5_1 ≤ (wrap64 (x5_1 + t105)) then (if (wrap64 (x5_1 + t105)) ≤ ((strOfNums l0).size : Int) then (if x4_1.length + ((strOfNums l0).extract (x5_1 : Int).toNat ((wrap64 (x5_1 + t105)) : Int).toNat).size < 140737488355328 then (spec_Clean.l0 k1 (strOfNums l0) (x4_1 ++ bytesOf ((strOfNums l0).extract (x5_1 : Int).toNat ((wrap64 (x5_1 + t105)) : Int).toNat)) (wrap64 (x5_1 + t105))) else (none)) else (none)) else (none)) else (none))) else (if 0 ≤ x5_1 then (if x5_1 ≤ (wrap64 (x5_1 + t105)) then (if (wrap64 (x5_1 + t105)) ≤ ((strOfNums l0).size : Int) then (if x4_1.length + ((strOfNums l0).extract (x5_1 : Int).toNat ((wrap64 (x5_1 + t105)) : Int).toNat).size < 140737488355328 then (spec_Clean.l0 k1 (strOfNums l0) (x4_1 ++ bytesOf ((strOfNums l0).extract (x5_1 : Int).toNat ((wrap64 (x5_1 + t105)) : Int).toNat)) (wrap64 (x5_1 + t105))) else (none)) else (none)) else (none)) else (none))))))) = some r := H
     have A7 := Aside0.mk A70
     clear A70
     by_cases c8 : t104 < 0
     ·rw [if_pos c8] at H
      have c8b0 : decide (t104 < 0) = true := decide_eq_true c8
      clear c8
      by_cases c9 : x4_1.length < 140737488355328
      ·rw [if_pos c9] at H
       have LMc9 := Aside0.mk c9
       clear c9
       obtain ⟨y106, hy106⟩ : ∃ y_ : List Int, y_ = (x4_1 ++ [63]) := ⟨_, rfl⟩
       replace H : (spec_Clean.l0 k1 (strOfNums l0) y106 (wrap64 (x5_1 + t105))) = some r := by first | (rw [hy106]; with_reducible exact H) | (have H2_ := (Option.bind_some _ _).symm.trans H; rw [hy106]; with_reducible exact H2_) | (have H2_ := (Option.bind_some _ _).symm.trans H; with_reducible exact H2_) | with_reducible exact H | (rw [hy106]; exact H) | exact H
       have Ny106 := Aside0.mk hy106
       clear hy106
       have H' := Aside0.mk H
       clear H
       go_wp2_with (first | ((with_reducible refine gate_callee (f := 11) rfl ?_); refine goesL_ (some 21) rfl rfl Tryd.func11 (by kernel_rfl) rfl #[.string (strOfNums l0), .int .i64 x5_1] rfl (by (try simp only [List.map_toArray, List.map_cons, List.map_nil]); first | done | rfl | (simp only [List.length_drop, List.length_take]; rfl)) ?_; (with_reducible refine (spec_l4Rune.calls k1 (strOfNums l0) x5_1 t104 t105 _ A7.out).mono ?_); rintro e w' ⟨rfl, ⟨nd, rfl⟩⟩; refine ⟨_, rfl, ?_⟩) | ((with_reducible refine gate_builtin (b := .append) (xs := #[.tmp 35, .tmp 36]) rfl ?_); at_builtin; refine Kd.R_append (Kd.int .u8) (w0 := w) w.heap.size rfl (.tmp 35) (.tmp 36) 22 5 (.int .u8 0) 1 rfl Tryd.underlying22 info5 rfl (by decide) (by omega) u4 x4_1 63 [.int .u8 63] (fun _ => True) (fun _ => False) rfl rfl ?aP (fun _ hk => hk.elim) ?aF ?aO ?aB ?aS ?aL ?_; (case aP => exact rfl); (case aB => exact (by repeat (first | (with_reducible first | exact HB.out | apply below_alloc | apply pw_below_drewN | apply below_drew1) | exact HB.out))); (case aF => exact (fun _ _ => trivial)); (case aO => exact (by (with_reducible repeat (first | apply Kd.R_alloc | apply Kd.R_drewN | apply Kd.R_drew)); exact HO_4.out)); (case aS => exact (below_size (by repeat (first | (with_reducible first | exact HB.out | apply below_alloc | apply pw_below_drewN | apply below_drew1) | exact HB.out)))); (case aL => have := LMc9.out; omega); intro v107 w10 ho hb hg hat; rw [← Ny106.out] at ho; have n0_ := Aside0.mk (hb); have n1_ := Aside0.mk (ho); clear HB; clear HO_4; have HB := n0_; have HO108 := n1_; clear n0_ n1_; clear ho hb hg hat))
       go_roundg k1
       case measure => have := HK1.out; omega
       case rel => exact ⟨(y106), (wrap64 (x5_1 + t105)), (by first | rfl | (simp; done) | (simp [*]; done)), H', ⟨by have := HK1.out; omega⟩, ⟨by (with_reducible repeat (first | apply Kd.R_alloc | apply Kd.R_drewN | apply Kd.R_drew)); exact HO108.out⟩, ⟨by repeat (first | (with_reducible first | exact HB.out | apply below_alloc | apply pw_below_drewN | apply below_drew1) | exact HB.out)⟩⟩
      ·rw [if_neg c9] at H
       exact absurd H (by simp)
     ·rw [if_neg c8] at H
      have c8b0 : decide (t104 < 0) = false := decide_eq_false c8
      clear c8
      by_cases c11 : t104 = 13
      ·rw [if_pos c11] at H
       have c11b0 : (t104 == 13) = true := beq_iff_eq.mpr c11
       have c11b1 : (t104 != 13) = false := bne_eq_false_iff_eq.mpr c11
       clear c11
       have H' := Aside0.mk H
       clear H
       go_wp2_with (first | ((with_reducible refine gate_callee (f := 11) rfl ?_); refine goesL_ (some 21) rfl rfl Tryd.func11 (by kernel_rfl) rfl #[.string (strOfNums l0), .int .i64 x5_1] rfl (by (try simp only [List.map_toArray, List.map_cons, List.map_nil]); first | done | rfl | (simp only [List.length_drop, List.length_take]; rfl)) ?_; (with_reducible refine (spec_l4Rune.calls k1 (strOfNums l0) x5_1 t104 t105 _ A7.out).mono ?_); rintro e w' ⟨rfl, ⟨nd, rfl⟩⟩; refine ⟨_, rfl, ?_⟩))
       go_roundg k1
       case measure => have := HK1.out; omega
       case rel => exact ⟨(x4_1), (wrap64 (x5_1 + t105)), (by first | rfl | (simp; done) | (simp [*]; done)), H', ⟨by have := HK1.out; omega⟩, ⟨by (with_reducible repeat (first | apply Kd.R_alloc | apply Kd.R_drewN | apply Kd.R_drew)); exact HO_4.out⟩, ⟨by repeat (first | (with_reducible first | exact HB.out | apply below_alloc | apply pw_below_drewN | apply below_drew1) | exact HB.out)⟩⟩
      ·rw [if_neg c11] at H
       have c11b0 : (t104 == 13) = false := beq_eq_false_iff_ne.mpr c11
       have c11b1 : (t104 != 13) = true := bne_iff_ne.mpr c11
       by_cases c12 : t104 = 10
       ·rw [if_pos c12] at H
        have c12b0 : (t104 == 10) = true := beq_iff_eq.mpr c12
        have c12b1 : (t104 != 10) = false := bne_eq_false_iff_eq.mpr c12
        clear c12
        by_cases c13 : t104 ≥ 127
        ·rw [if_pos c13] at H
         have c13b0 : decide (127 ≤ t104) = true := decide_eq_true c13
         clear c13
         by_cases c14 : t104 < 160
         ·rw [if_pos c14] at H
          have c14b0 : decide (t104 < 160) = true := decide_eq_true c14
          clear c14
          by_cases c15 : x4_1.length < 140737488355328
          ·rw [if_pos c15] at H
           have LMc15 := Aside0.mk c15
           clear c15
           obtain ⟨y109, hy109⟩ : ∃ y_ : List Int, y_ = (x4_1 ++ [32]) := ⟨_, rfl⟩
           replace H : (spec_Clean.l0 k1 (strOfNums l0) y109 (wrap64 (x5_1 + t105))) = some r := by first | (rw [hy109]; with_reducible exact H) | (have H2_ := (Option.bind_some _ _).symm.trans H; rw [hy109]; with_reducible exact H2_) | (have H2_ := (Option.bind_some _ _).symm.trans H; with_reducible exact H2_) | with_reducible exact H | (rw [hy109]; exact H) | exact H
           have Ny109 := Aside0.mk hy109
           clear hy109
           have H' := Aside0.mk H
           clear H
           go_wp2_with (first | ((with_reducible refine gate_callee (f := 11) rfl ?_); refine goesL_ (some 21) rfl rfl Tryd.func11 (by kernel_rfl) rfl #[.string (strOfNums l0), .int .i64 x5_1] rfl (by (try simp only [List.map_toArray, List.map_cons, List.map_nil]); first | done | rfl | (simp only [List.length_drop, List.length_take]; rfl)) ?_; (with_reducible refine (spec_l4Rune.calls k1 (strOfNums l0) x5_1 t104 t105 _ A7.out).mono ?_); rintro e w' ⟨rfl, ⟨nd, rfl⟩⟩; refine ⟨_, rfl, ?_⟩) | ((with_reducible refine gate_builtin (b := .append) (xs := #[.tmp 56, .tmp 57]) rfl ?_); at_builtin; refine Kd.R_append (Kd.int .u8) (w0 := w) w.heap.size rfl (.tmp 56) (.tmp 57) 22 5 (.int .u8 0) 1 rfl Tryd.underlying22 info5 rfl (by decide) (by omega) u4 x4_1 32 [.int .u8 32] (fun _ => True) (fun _ => False) rfl rfl ?aP (fun _ hk => hk.elim) ?aF ?aO ?aB ?aS ?aL ?_; (case aP => exact rfl); (case aB => exact (by repeat (first | (with_reducible first | exact HB.out | apply below_alloc | apply pw_below_drewN | apply below_drew1) | exact HB.out))); (case aF => exact (fun _ _ => trivial)); (case aO => exact (by (with_reducible repeat (first | apply Kd.R_alloc | apply Kd.R_drewN | apply Kd.R_drew)); exact HO_4.out)); (case aS => exact (below_size (by repeat (first | (with_reducible first | exact HB.out | apply below_alloc | apply pw_below_drewN | apply below_drew1) | exact HB.out)))); (case aL => have := LMc15.out; omega); intro v110 w16 ho hb hg hat; rw [← Ny109.out] at ho; have n0_ := Aside0.mk (hb); have n1_ := Aside0.mk (ho); clear HB; clear HO_4; have HB := n0_; have HO111 := n1_; clear n0_ n1_; clear ho hb hg hat))
           go_roundg k1
           case measure => have := HK1.out; omega
           case rel => exact ⟨(y109), (wrap64 (x5_1 + t105)), (by first | rfl | (simp; done) | (simp [*]; done)), H', ⟨by have := HK1.out; omega⟩, ⟨by (with_reducible repeat (first | apply Kd.R_alloc | apply Kd.R_drewN | apply Kd.R_drew)); exact HO111.out⟩, ⟨by repeat (first | (with_reducible first | exact HB.out | apply below_alloc | apply pw_below_drewN | apply below_drew1) | exact HB.out)⟩⟩
          ·rw [if_neg c15] at H
           exact absurd H (by simp)
         ·rw [if_neg c14] at H
          have c14b0 : decide (t104 < 160) = false := decide_eq_false c14
          clear c14
          by_cases c17 : 0 ≤ x5_1
          ·rw [if_pos c17] at H
           have c17b0 := eq_true c17
           have c17b1 : decide (0 ≤ x5_1) = true := decide_eq_true c17
           clear c17
           by_cases c18 : x5_1 ≤ (wrap64 (x5_1 + t105))
           ·rw [if_pos c18] at H
            have c18b0 := eq_true c18
            have c18b1 : decide (x5_1 ≤ (wrap64 (x5_1 + t105))) = true := decide_eq_true c18
            by_cases c19 : (wrap64 (x5_1 + t105)) ≤ ((strOfNums l0).size : Int)
            ·rw [if_pos c19] at H
             have c19b0 := eq_true c19
             have c19b1 : decide ((wrap64 (x5_1 + t105)) ≤ ((strOfNums l0).size : Int)) = true := decide_eq_true c19
             by_cases c20 : x4_1.length + ((strOfNums l0).extract (x5_1 : Int).toNat ((wrap64 (x5_1 + t105)) : Int).toNat).size < 140737488355328
             ·rw [if_pos c20] at H
              have LMc20 := Aside0.mk c20
              clear c20
              obtain ⟨y112, hy112⟩ : ∃ y_ : List Int, y_ = (x4_1 ++ bytesOf ((strOfNums l0).extract (x5_1 : Int).toNat ((wrap64 (x5_1 + t105)) : Int).toNat)) := ⟨_, rfl⟩
              replace H : (spec_Clean.l0 k1 (strOfNums l0) y112 (wrap64 (x5_1 + t105))) = some r := by first | (rw [hy112]; with_reducible exact H) | (have H2_ := (Option.bind_some _ _).symm.trans H; rw [hy112]; with_reducible exact H2_) | (have H2_ := (Option.bind_some _ _).symm.trans H; with_reducible exact H2_) | with_reducible exact H | (rw [hy112]; exact H) | exact H
              have Ny112 := Aside0.mk hy112
              clear hy112
              have H' := Aside0.mk H
              clear H
              go_wp2_with (first | ((with_reducible refine gate_callee (f := 11) rfl ?_); refine goesL_ (some 21) rfl rfl Tryd.func11 (by kernel_rfl) rfl #[.string (strOfNums l0), .int .i64 x5_1] rfl (by (try simp only [List.map_toArray, List.map_cons, List.map_nil]); first | done | rfl | (simp only [List.length_drop, List.length_take]; rfl)) ?_; (with_reducible refine (spec_l4Rune.calls k1 (strOfNums l0) x5_1 t104 t105 _ A7.out).mono ?_); rintro e w' ⟨rfl, ⟨nd, rfl⟩⟩; refine ⟨_, rfl, ?_⟩) | (at_builtin; refine print_append_str (w0 := w) w.heap.size rfl (.tmp 24) _ 22 9 5 rfl Tryd.underlying22 Tryd.underlying9 info5 u4 x4_1 ((strOfNums l0).extract (x5_1 : Int).toNat ((wrap64 (x5_1 + t105)) : Int).toNat) rfl rfl ?aO ?aB ?aS ?aL ?_; (case aB => exact (by repeat (first | (with_reducible first | exact HB.out | apply below_alloc | apply pw_below_drewN | apply below_drew1) | exact HB.out))); (case aO => exact (Kd.own_of_R (by (with_reducible repeat (first | apply Kd.R_alloc | apply Kd.R_drewN | apply Kd.R_drew)); exact HO_4.out))); (case aS => exact (below_size (by repeat (first | (with_reducible first | exact HB.out | apply below_alloc | apply pw_below_drewN | apply below_drew1) | exact HB.out)))); (case aL => have := LMc20.out; omega); intro v113 w21 ho0 hb hg; have ho := Kd.R_of_own (h1 := fun _ => rfl) (ok := fun _ => True) ho0 (fun _ _ => trivial); clear ho0; have hat := True.intro; rw [← Ny112.out] at ho; change Kd.R (Kd.int .u8) 5 w21 w.heap.size (fun _ => True) v113 y112 at ho; have n0_ := Aside0.mk (hb); have n1_ := Aside0.mk (ho); clear HB; clear HO_4; have HB := n0_; have HO114 := n1_; clear n0_ n1_; clear ho hb hg hat))
              go_roundg k1
              case measure => have := HK1.out; omega
              case rel => exact ⟨(y112), (wrap64 (x5_1 + t105)), (by first | rfl | (simp; done) | (simp [*]; done)), H', ⟨by have := HK1.out; omega⟩, ⟨by (with_reducible repeat (first | apply Kd.R_alloc | apply Kd.R_drewN | apply Kd.R_drew)); exact HO114.out⟩, ⟨by repeat (first | (with_reducible first | exact HB.out | apply below_alloc | apply pw_below_drewN | apply below_drew1) | exact HB.out)⟩⟩
             ·rw [if_neg c20] at H
              exact absurd H (by simp)
            ·rw [if_neg c19] at H
             exact absurd H (by simp)
           ·rw [if_neg c18] at H
            exact absurd H (by simp)
          ·rw [if_neg c17] at H
           exact absurd H (by simp)
        ·rw [if_neg c13] at H
         have c13b0 : decide (127 ≤ t104) = false := decide_eq_false c13
         clear c13
         by_cases c22 : 0 ≤ x5_1
         ·rw [if_pos c22] at H
          have c22b0 := eq_true c22
          have c22b1 : decide (0 ≤ x5_1) = true := decide_eq_true c22
          clear c22
          by_cases c23 : x5_1 ≤ (wrap64 (x5_1 + t105))
          ·rw [if_pos c23] at H
           have c23b0 := eq_true c23
           have c23b1 : decide (x5_1 ≤ (wrap64 (x5_1 + t105))) = true := decide_eq_true c23
           by_cases c24 : (wrap64 (x5_1 + t105)) ≤ ((strOfNums l0).size : Int)
           ·rw [if_pos c24] at H
            have c24b0 := eq_true c24
            have c24b1 : decide ((wrap64 (x5_1 + t105)) ≤ ((strOfNums l0).size : Int)) = true := decide_eq_true c24
            by_cases c25 : x4_1.length + ((strOfNums l0).extract (x5_1 : Int).toNat ((wrap64 (x5_1 + t105)) : Int).toNat).size < 140737488355328
            ·rw [if_pos c25] at H
             have LMc25 := Aside0.mk c25
             clear c25
             obtain ⟨y115, hy115⟩ : ∃ y_ : List Int, y_ = (x4_1 ++ bytesOf ((strOfNums l0).extract (x5_1 : Int).toNat ((wrap64 (x5_1 + t105)) : Int).toNat)) := ⟨_, rfl⟩
             replace H : (spec_Clean.l0 k1 (strOfNums l0) y115 (wrap64 (x5_1 + t105))) = some r := by first | (rw [hy115]; with_reducible exact H) | (have H2_ := (Option.bind_some _ _).symm.trans H; rw [hy115]; with_reducible exact H2_) | (have H2_ := (Option.bind_some _ _).symm.trans H; with_reducible exact H2_) | with_reducible exact H | (rw [hy115]; exact H) | exact H
             have Ny115 := Aside0.mk hy115
             clear hy115
             have H' := Aside0.mk H
             clear H
             go_wp2_with (first | ((with_reducible refine gate_callee (f := 11) rfl ?_); refine goesL_ (some 21) rfl rfl Tryd.func11 (by kernel_rfl) rfl #[.string (strOfNums l0), .int .i64 x5_1] rfl (by (try simp only [List.map_toArray, List.map_cons, List.map_nil]); first | done | rfl | (simp only [List.length_drop, List.length_take]; rfl)) ?_; (with_reducible refine (spec_l4Rune.calls k1 (strOfNums l0) x5_1 t104 t105 _ A7.out).mono ?_); rintro e w' ⟨rfl, ⟨nd, rfl⟩⟩; refine ⟨_, rfl, ?_⟩) | (at_builtin; refine print_append_str (w0 := w) w.heap.size rfl (.tmp 24) _ 22 9 5 rfl Tryd.underlying22 Tryd.underlying9 info5 u4 x4_1 ((strOfNums l0).extract (x5_1 : Int).toNat ((wrap64 (x5_1 + t105)) : Int).toNat) rfl rfl ?aO ?aB ?aS ?aL ?_; (case aB => exact (by repeat (first | (with_reducible first | exact HB.out | apply below_alloc | apply pw_below_drewN | apply below_drew1) | exact HB.out))); (case aO => exact (Kd.own_of_R (by (with_reducible repeat (first | apply Kd.R_alloc | apply Kd.R_drewN | apply Kd.R_drew)); exact HO_4.out))); (case aS => exact (below_size (by repeat (first | (with_reducible first | exact HB.out | apply below_alloc | apply pw_below_drewN | apply below_drew1) | exact HB.out)))); (case aL => have := LMc25.out; omega); intro v116 w26 ho0 hb hg; have ho := Kd.R_of_own (h1 := fun _ => rfl) (ok := fun _ => True) ho0 (fun _ _ => trivial); clear ho0; have hat := True.intro; rw [← Ny115.out] at ho; change Kd.R (Kd.int .u8) 5 w26 w.heap.size (fun _ => True) v116 y115 at ho; have n0_ := Aside0.mk (hb); have n1_ := Aside0.mk (ho); clear HB; clear HO_4; have HB := n0_; have HO117 := n1_; clear n0_ n1_; clear ho hb hg hat))
             go_roundg k1
             case measure => have := HK1.out; omega
             case rel => exact ⟨(y115), (wrap64 (x5_1 + t105)), (by first | rfl | (simp; done) | (simp [*]; done)), H', ⟨by have := HK1.out; omega⟩, ⟨by (with_reducible repeat (first | apply Kd.R_alloc | apply Kd.R_drewN | apply Kd.R_drew)); exact HO117.out⟩, ⟨by repeat (first | (with_reducible first | exact HB.out | apply below_alloc | apply pw_below_drewN | apply below_drew1) | exact HB.out)⟩⟩
            ·rw [if_neg c25] at H
             exact absurd H (by simp)
           ·rw [if_neg c24] at H
            exact absurd H (by simp)
          ·rw [if_neg c23] at H
           exact absurd H (by simp)
         ·rw [if_neg c22] at H
          exact absurd H (by simp)
       ·rw [if_neg c12] at H
        have c12b0 : (t104 == 10) = false := beq_eq_false_iff_ne.mpr c12
        have c12b1 : (t104 != 10) = true := bne_iff_ne.mpr c12
        by_cases c27 : t104 < 32
        ·rw [if_pos c27] at H
         have c27b0 : decide (t104 < 32) = true := decide_eq_true c27
         clear c27
         by_cases c28 : x4_1.length < 140737488355328
         ·rw [if_pos c28] at H
          have LMc28 := Aside0.mk c28
          clear c28
          obtain ⟨y118, hy118⟩ : ∃ y_ : List Int, y_ = (x4_1 ++ [32]) := ⟨_, rfl⟩
          replace H : (spec_Clean.l0 k1 (strOfNums l0) y118 (wrap64 (x5_1 + t105))) = some r := by first | (rw [hy118]; with_reducible exact H) | (have H2_ := (Option.bind_some _ _).symm.trans H; rw [hy118]; with_reducible exact H2_) | (have H2_ := (Option.bind_some _ _).symm.trans H; with_reducible exact H2_) | with_reducible exact H | (rw [hy118]; exact H) | exact H
          have Ny118 := Aside0.mk hy118
          clear hy118
          have H' := Aside0.mk H
          clear H
          go_wp2_with (first | ((with_reducible refine gate_callee (f := 11) rfl ?_); refine goesL_ (some 21) rfl rfl Tryd.func11 (by kernel_rfl) rfl #[.string (strOfNums l0), .int .i64 x5_1] rfl (by (try simp only [List.map_toArray, List.map_cons, List.map_nil]); first | done | rfl | (simp only [List.length_drop, List.length_take]; rfl)) ?_; (with_reducible refine (spec_l4Rune.calls k1 (strOfNums l0) x5_1 t104 t105 _ A7.out).mono ?_); rintro e w' ⟨rfl, ⟨nd, rfl⟩⟩; refine ⟨_, rfl, ?_⟩) | ((with_reducible refine gate_builtin (b := .append) (xs := #[.tmp 56, .tmp 57]) rfl ?_); at_builtin; refine Kd.R_append (Kd.int .u8) (w0 := w) w.heap.size rfl (.tmp 56) (.tmp 57) 22 5 (.int .u8 0) 1 rfl Tryd.underlying22 info5 rfl (by decide) (by omega) u4 x4_1 32 [.int .u8 32] (fun _ => True) (fun _ => False) rfl rfl ?aP (fun _ hk => hk.elim) ?aF ?aO ?aB ?aS ?aL ?_; (case aP => exact rfl); (case aB => exact (by repeat (first | (with_reducible first | exact HB.out | apply below_alloc | apply pw_below_drewN | apply below_drew1) | exact HB.out))); (case aF => exact (fun _ _ => trivial)); (case aO => exact (by (with_reducible repeat (first | apply Kd.R_alloc | apply Kd.R_drewN | apply Kd.R_drew)); exact HO_4.out)); (case aS => exact (below_size (by repeat (first | (with_reducible first | exact HB.out | apply below_alloc | apply pw_below_drewN | apply below_drew1) | exact HB.out)))); (case aL => have := LMc28.out; omega); intro v119 w29 ho hb hg hat; rw [← Ny118.out] at ho; have n0_ := Aside0.mk (hb); have n1_ := Aside0.mk (ho); clear HB; clear HO_4; have HB := n0_; have HO120 := n1_; clear n0_ n1_; clear ho hb hg hat))
          go_roundg k1
          case measure => have := HK1.out; omega
          case rel => exact ⟨(y118), (wrap64 (x5_1 + t105)), (by first | rfl | (simp; done) | (simp [*]; done)), H', ⟨by have := HK1.out; omega⟩, ⟨by (with_reducible repeat (first | apply Kd.R_alloc | apply Kd.R_drewN | apply Kd.R_drew)); exact HO120.out⟩, ⟨by repeat (first | (with_reducible first | exact HB.out | apply below_alloc | apply pw_below_drewN | apply below_drew1) | exact HB.out)⟩⟩
         ·rw [if_neg c28] at H
          exact absurd H (by simp)
        ·rw [if_neg c27] at H
         have c27b0 : decide (t104 < 32) = false := decide_eq_false c27
         clear c27
         by_cases c30 : t104 ≥ 127
         ·rw [if_pos c30] at H
          have c30b0 : decide (127 ≤ t104) = true := decide_eq_true c30
          clear c30
          by_cases c31 : t104 < 160
          ·rw [if_pos c31] at H
           have c31b0 : decide (t104 < 160) = true := decide_eq_true c31
           clear c31
           by_cases c32 : x4_1.length < 140737488355328
           ·rw [if_pos c32] at H
            have LMc32 := Aside0.mk c32
            clear c32
            obtain ⟨y121, hy121⟩ : ∃ y_ : List Int, y_ = (x4_1 ++ [32]) := ⟨_, rfl⟩
            replace H : (spec_Clean.l0 k1 (strOfNums l0) y121 (wrap64 (x5_1 + t105))) = some r := by first | (rw [hy121]; with_reducible exact H) | (have H2_ := (Option.bind_some _ _).symm.trans H; rw [hy121]; with_reducible exact H2_) | (have H2_ := (Option.bind_some _ _).symm.trans H; with_reducible exact H2_) | with_reducible exact H | (rw [hy121]; exact H) | exact H
            have Ny121 := Aside0.mk hy121
            clear hy121
            have H' := Aside0.mk H
            clear H
            go_wp2_with (first | ((with_reducible refine gate_callee (f := 11) rfl ?_); refine goesL_ (some 21) rfl rfl Tryd.func11 (by kernel_rfl) rfl #[.string (strOfNums l0), .int .i64 x5_1] rfl (by (try simp only [List.map_toArray, List.map_cons, List.map_nil]); first | done | rfl | (simp only [List.length_drop, List.length_take]; rfl)) ?_; (with_reducible refine (spec_l4Rune.calls k1 (strOfNums l0) x5_1 t104 t105 _ A7.out).mono ?_); rintro e w' ⟨rfl, ⟨nd, rfl⟩⟩; refine ⟨_, rfl, ?_⟩) | ((with_reducible refine gate_builtin (b := .append) (xs := #[.tmp 56, .tmp 57]) rfl ?_); at_builtin; refine Kd.R_append (Kd.int .u8) (w0 := w) w.heap.size rfl (.tmp 56) (.tmp 57) 22 5 (.int .u8 0) 1 rfl Tryd.underlying22 info5 rfl (by decide) (by omega) u4 x4_1 32 [.int .u8 32] (fun _ => True) (fun _ => False) rfl rfl ?aP (fun _ hk => hk.elim) ?aF ?aO ?aB ?aS ?aL ?_; (case aP => exact rfl); (case aB => exact (by repeat (first | (with_reducible first | exact HB.out | apply below_alloc | apply pw_below_drewN | apply below_drew1) | exact HB.out))); (case aF => exact (fun _ _ => trivial)); (case aO => exact (by (with_reducible repeat (first | apply Kd.R_alloc | apply Kd.R_drewN | apply Kd.R_drew)); exact HO_4.out)); (case aS => exact (below_size (by repeat (first | (with_reducible first | exact HB.out | apply below_alloc | apply pw_below_drewN | apply below_drew1) | exact HB.out)))); (case aL => have := LMc32.out; omega); intro v122 w33 ho hb hg hat; rw [← Ny121.out] at ho; have n0_ := Aside0.mk (hb); have n1_ := Aside0.mk (ho); clear HB; clear HO_4; have HB := n0_; have HO123 := n1_; clear n0_ n1_; clear ho hb hg hat))
            go_roundg k1
            case measure => have := HK1.out; omega
            case rel => exact ⟨(y121), (wrap64 (x5_1 + t105)), (by first | rfl | (simp; done) | (simp [*]; done)), H', ⟨by have := HK1.out; omega⟩, ⟨by (with_reducible repeat (first | apply Kd.R_alloc | apply Kd.R_drewN | apply Kd.R_drew)); exact HO123.out⟩, ⟨by repeat (first | (with_reducible first | exact HB.out | apply below_alloc | apply pw_below_drewN | apply below_drew1) | exact HB.out)⟩⟩
           ·rw [if_neg c32] at H
            exact absurd H (by simp)
          ·rw [if_neg c31] at H
           have c31b0 : decide (t104 < 160) = false := decide_eq_false c31
           clear c31
           by_cases c34 : 0 ≤ x5_1
           ·rw [if_pos c34] at H
            have c34b0 := eq_true c34
            have c34b1 : decide (0 ≤ x5_1) = true := decide_eq_true c34
            clear c34
            by_cases c35 : x5_1 ≤ (wrap64 (x5_1 + t105))
            ·rw [if_pos c35] at H
             have c35b0 := eq_true c35
             have c35b1 : decide (x5_1 ≤ (wrap64 (x5_1 + t105))) = true := decide_eq_true c35
             by_cases c36 : (wrap64 (x5_1 + t105)) ≤ ((strOfNums l0).size : Int)
             ·rw [if_pos c36] at H
              have c36b0 := eq_true c36
              have c36b1 : decide ((wrap64 (x5_1 + t105)) ≤ ((strOfNums l0).size : Int)) = true := decide_eq_true c36
              by_cases c37 : x4_1.length + ((strOfNums l0).extract (x5_1 : Int).toNat ((wrap64 (x5_1 + t105)) : Int).toNat).size < 140737488355328
              ·rw [if_pos c37] at H
               have LMc37 := Aside0.mk c37
               clear c37
               obtain ⟨y124, hy124⟩ : ∃ y_ : List Int, y_ = (x4_1 ++ bytesOf ((strOfNums l0).extract (x5_1 : Int).toNat ((wrap64 (x5_1 + t105)) : Int).toNat)) := ⟨_, rfl⟩
               replace H : (spec_Clean.l0 k1 (strOfNums l0) y124 (wrap64 (x5_1 + t105))) = some r := by first | (rw [hy124]; with_reducible exact H) | (have H2_ := (Option.bind_some _ _).symm.trans H; rw [hy124]; with_reducible exact H2_) | (have H2_ := (Option.bind_some _ _).symm.trans H; with_reducible exact H2_) | with_reducible exact H | (rw [hy124]; exact H) | exact H
               have Ny124 := Aside0.mk hy124
               clear hy124
               have H' := Aside0.mk H
               clear H
               go_wp2_with (first | ((with_reducible refine gate_callee (f := 11) rfl ?_); refine goesL_ (some 21) rfl rfl Tryd.func11 (by kernel_rfl) rfl #[.string (strOfNums l0), .int .i64 x5_1] rfl (by (try simp only [List.map_toArray, List.map_cons, List.map_nil]); first | done | rfl | (simp only [List.length_drop, List.length_take]; rfl)) ?_; (with_reducible refine (spec_l4Rune.calls k1 (strOfNums l0) x5_1 t104 t105 _ A7.out).mono ?_); rintro e w' ⟨rfl, ⟨nd, rfl⟩⟩; refine ⟨_, rfl, ?_⟩) | (at_builtin; refine print_append_str (w0 := w) w.heap.size rfl (.tmp 24) _ 22 9 5 rfl Tryd.underlying22 Tryd.underlying9 info5 u4 x4_1 ((strOfNums l0).extract (x5_1 : Int).toNat ((wrap64 (x5_1 + t105)) : Int).toNat) rfl rfl ?aO ?aB ?aS ?aL ?_; (case aB => exact (by repeat (first | (with_reducible first | exact HB.out | apply below_alloc | apply pw_below_drewN | apply below_drew1) | exact HB.out))); (case aO => exact (Kd.own_of_R (by (with_reducible repeat (first | apply Kd.R_alloc | apply Kd.R_drewN | apply Kd.R_drew)); exact HO_4.out))); (case aS => exact (below_size (by repeat (first | (with_reducible first | exact HB.out | apply below_alloc | apply pw_below_drewN | apply below_drew1) | exact HB.out)))); (case aL => have := LMc37.out; omega); intro v125 w38 ho0 hb hg; have ho := Kd.R_of_own (h1 := fun _ => rfl) (ok := fun _ => True) ho0 (fun _ _ => trivial); clear ho0; have hat := True.intro; rw [← Ny124.out] at ho; change Kd.R (Kd.int .u8) 5 w38 w.heap.size (fun _ => True) v125 y124 at ho; have n0_ := Aside0.mk (hb); have n1_ := Aside0.mk (ho); clear HB; clear HO_4; have HB := n0_; have HO126 := n1_; clear n0_ n1_; clear ho hb hg hat))
               go_roundg k1
               case measure => have := HK1.out; omega
               case rel => exact ⟨(y124), (wrap64 (x5_1 + t105)), (by first | rfl | (simp; done) | (simp [*]; done)), H', ⟨by have := HK1.out; omega⟩, ⟨by (with_reducible repeat (first | apply Kd.R_alloc | apply Kd.R_drewN | apply Kd.R_drew)); exact HO126.out⟩, ⟨by repeat (first | (with_reducible first | exact HB.out | apply below_alloc | apply pw_below_drewN | apply below_drew1) | exact HB.out)⟩⟩
              ·rw [if_neg c37] at H
               exact absurd H (by simp)
             ·rw [if_neg c36] at H
              exact absurd H (by simp)
            ·rw [if_neg c35] at H
             exact absurd H (by simp)
           ·rw [if_neg c34] at H
            exact absurd H (by simp)
         ·rw [if_neg c30] at H
          have c30b0 : decide (127 ≤ t104) = false := decide_eq_false c30
          clear c30
          by_cases c39 : 0 ≤ x5_1
          ·rw [if_pos c39] at H
           have c39b0 := eq_true c39
           have c39b1 : decide (0 ≤ x5_1) = true := decide_eq_true c39
           clear c39
           by_cases c40 : x5_1 ≤ (wrap64 (x5_1 + t105))
           ·rw [if_pos c40] at H
            have c40b0 := eq_true c40
            have c40b1 : decide (x5_1 ≤ (wrap64 (x5_1 + t105))) = true := decide_eq_true c40
            by_cases c41 : (wrap64 (x5_1 + t105)) ≤ ((strOfNums l0).size : Int)
            ·rw [if_pos c41] at H
             have c41b0 := eq_true c41
             have c41b1 : decide ((wrap64 (x5_1 + t105)) ≤ ((strOfNums l0).size : Int)) = true := decide_eq_true c41
             by_cases c42 : x4_1.length + ((strOfNums l0).extract (x5_1 : Int).toNat ((wrap64 (x5_1 + t105)) : Int).toNat).size < 140737488355328
             ·rw [if_pos c42] at H
              have LMc42 := Aside0.mk c42
              clear c42
              obtain ⟨y127, hy127⟩ : ∃ y_ : List Int, y_ = (x4_1 ++ bytesOf ((strOfNums l0).extract (x5_1 : Int).toNat ((wrap64 (x5_1 + t105)) : Int).toNat)) := ⟨_, rfl⟩
              replace H : (spec_Clean.l0 k1 (strOfNums l0) y127 (wrap64 (x5_1 + t105))) = some r := by first | (rw [hy127]; with_reducible exact H) | (have H2_ := (Option.bind_some _ _).symm.trans H; rw [hy127]; with_reducible exact H2_) | (have H2_ := (Option.bind_some _ _).symm.trans H; with_reducible exact H2_) | with_reducible exact H | (rw [hy127]; exact H) | exact H
              have Ny127 := Aside0.mk hy127
              clear hy127
              have H' := Aside0.mk H
              clear H
              go_wp2_with (first | ((with_reducible refine gate_callee (f := 11) rfl ?_); refine goesL_ (some 21) rfl rfl Tryd.func11 (by kernel_rfl) rfl #[.string (strOfNums l0), .int .i64 x5_1] rfl (by (try simp only [List.map_toArray, List.map_cons, List.map_nil]); first | done | rfl | (simp only [List.length_drop, List.length_take]; rfl)) ?_; (with_reducible refine (spec_l4Rune.calls k1 (strOfNums l0) x5_1 t104 t105 _ A7.out).mono ?_); rintro e w' ⟨rfl, ⟨nd, rfl⟩⟩; refine ⟨_, rfl, ?_⟩) | (at_builtin; refine print_append_str (w0 := w) w.heap.size rfl (.tmp 24) _ 22 9 5 rfl Tryd.underlying22 Tryd.underlying9 info5 u4 x4_1 ((strOfNums l0).extract (x5_1 : Int).toNat ((wrap64 (x5_1 + t105)) : Int).toNat) rfl rfl ?aO ?aB ?aS ?aL ?_; (case aB => exact (by repeat (first | (with_reducible first | exact HB.out | apply below_alloc | apply pw_below_drewN | apply below_drew1) | exact HB.out))); (case aO => exact (Kd.own_of_R (by (with_reducible repeat (first | apply Kd.R_alloc | apply Kd.R_drewN | apply Kd.R_drew)); exact HO_4.out))); (case aS => exact (below_size (by repeat (first | (with_reducible first | exact HB.out | apply below_alloc | apply pw_below_drewN | apply below_drew1) | exact HB.out)))); (case aL => have := LMc42.out; omega); intro v128 w43 ho0 hb hg; have ho := Kd.R_of_own (h1 := fun _ => rfl) (ok := fun _ => True) ho0 (fun _ _ => trivial); clear ho0; have hat := True.intro; rw [← Ny127.out] at ho; change Kd.R (Kd.int .u8) 5 w43 w.heap.size (fun _ => True) v128 y127 at ho; have n0_ := Aside0.mk (hb); have n1_ := Aside0.mk (ho); clear HB; clear HO_4; have HB := n0_; have HO129 := n1_; clear n0_ n1_; clear ho hb hg hat))
              go_roundg k1
              case measure => have := HK1.out; omega
              case rel => exact ⟨(y127), (wrap64 (x5_1 + t105)), (by first | rfl | (simp; done) | (simp [*]; done)), H', ⟨by have := HK1.out; omega⟩, ⟨by (with_reducible repeat (first | apply Kd.R_alloc | apply Kd.R_drewN | apply Kd.R_drew)); exact HO129.out⟩, ⟨by repeat (first | (with_reducible first | exact HB.out | apply below_alloc | apply pw_below_drewN | apply below_drew1) | exact HB.out)⟩⟩
             ·rw [if_neg c42] at H
              exact absurd H (by simp)
            ·rw [if_neg c41] at H
             exact absurd H (by simp)
           ·rw [if_neg c40] at H
            exact absurd H (by simp)
          ·rw [if_neg c39] at H
           exact absurd H (by simp)
    ·rw [if_neg c6] at H
     have c6b0 : decide (x5_1 < ((strOfNums l0).size : Int)) = false := decide_eq_false c6
     clear c6
     obtain rfl := Option.some.inj H
     have hcv44 := own_string (P := Tryd.prog) Tryd.underlying22 Tryd.underlying5 Tryd.underlying9 (Kd.own_of_R HO_4.out)
     go_wp2
     go_ret
     exact ⟨by first | rfl | (simp [errW_none, errW_some] <;> rfl) | (simp [*, errW_none, errW_some] <;> rfl), by repeat (first | (with_reducible first | exact HB.out | apply below_alloc | apply pw_below_drewN | apply below_drew1) | exact HB.out)⟩

end Go.Proofs.YtcdghhihfjojaaaDoor.Q
