/- Plain Lean functions with the same answers as the Go functions of this seat, and a proof for each that the Go code comes to just these answers; no condition. Written by a program of this session (the kit's printer, turned). -/
import Derived.Test.YtcdghhihfjojaaaDoorQx0
import Derived.Test.YtcdghhihfjojaaaDoorQx5
namespace Go.Proofs.YtcdghhihfjojaaaDoor.Q
open Go.RowKit Go.Proofs.YtcdghhihfjojaaaDoorW.PrintWords Go.Proofs.YtcdghhihfjojaaaDoorW.PrintLast Go.Proofs.YtcdghhihfjojaaaDoorW.PrintMore Go.Proofs.YtcdghhihfjojaaaDoorW.PrintFlt
attribute [local go_sem] cmp_lss cmp_leq cmp_gtr cmp_geq cmp_eql cmp_neq flt_l flt_r fgt_l fgt_r feq_l feq_r fne_l fne_r ord_lt ord_gt ord_eq ord_ne conv_int conv_flt foi_fold run_store_flt
attribute [local go_sem] max2_int min2_int max_two min_two max_three min_three max_four min_four   -- for this text's walks alone
set_option linter.unusedVariables false
set_option linter.unusedSimpArgs false

/-! ### utf8_DecodeRuneInString: function 18 -/
def utf8_DecodeRuneInString.f (k : Nat) (a0 : ByteArray) (l1 : List Int) (l2 : List (S55)) : Option (Int × Int) := if a0.toList = ([] : List UInt8) then ((utf8_decodeRuneInStringSlow.f k a0 l1 l2).bind fun bt126 => (some (bt126.1, bt126.2))) else (if 0 < (a0.size : Int) then (if (bt a0 0) < 128 then (some (wrap32 (bt a0 0), 1)) else ((utf8_decodeRuneInStringSlow.f k a0 l1 l2).bind fun bt128 => (some (bt128.1, bt128.2)))) else (none))
theorem utf8_DecodeRuneInString.mono : ∀ a0 a1 a2 k, LeO (utf8_DecodeRuneInString.f k a0 a1 a2) (utf8_DecodeRuneInString.f (k + 1) a0 a1 a2) := by
 intro a0 a1 a2 k
 unfold utf8_DecodeRuneInString.f
 repeat' first
   | (with_reducible exact utf8_decodeRuneInStringSlow.mono _ _ _ _)
   | (with_reducible exact LeO.refl _)
   | (with_reducible exact LeO.none _)
   | (with_reducible refine LeO.ite ?_ ?_)
   | (with_reducible refine LeO.bind ?_ (fun _ => ?_))
   | exact utf8_decodeRuneInStringSlow.mono _ _ _ _
   | exact LeO.none _
   | refine LeO.ite ?_ ?_
   | refine LeO.bind ?_ (fun _ => ?_)
set_option maxHeartbeats 8000000 in
set_option maxRecDepth 100000 in
theorem utf8_DecodeRuneInString.calls (k : Nat) (a0 : ByteArray) (l1 : List Int) (l2 : List (S55)) (r1 : Int) (r2 : Int) (w : World) (hr1 : Kd.C (Kd.int .u8) w (some ⟨1, 0, none⟩) l1.length l1) (hc1 : l1.length ≤ l1.length) (hr2 : Kd.C k55 w (some ⟨2, 0, none⟩) l2.length l2) (hc2 : l2.length ≤ l2.length) (hn1 : l1.length = 256) (hn2 : l2.length = 16) (h : utf8_DecodeRuneInString.f k a0 l1 l2 = some (r1, r2)) :
  Calls Tryd.prog 18 #[.string a0] w fun e w' => e = .returned (.tuple #[.int .i32 r1, .int .i64 r2]) ∧ Below w.heap.size w w' := by
 have HR1 := Aside0.mk hr1
 have HC1 := Aside0.mk hc1
 clear hr1 hc1
 have HN1 := Aside0.mk hn1
 clear hn1
 have HR2 := Aside0.mk hr2
 have HC2 := Aside0.mk hc2
 clear hr2 hc2
 have HN2 := Aside0.mk hn2
 clear hn2
 have HB := Aside0.mk (Below.refl w.heap.size w)
 have H : (if a0.toList = ([] : List UInt8) then ((utf8_decodeRuneInStringSlow.f k a0 l1 l2).bind fun bt126 => (some (bt126.1, bt126.2))) else (if 0 < (a0.size : Int) then (if (bt a0 0) < 128 then (some (wrap32 (bt a0 0), 1)) else ((utf8_decodeRuneInStringSlow.f k a0 l1 l2).bind fun bt128 => (some (bt128.1, bt128.2)))) else (none))) = some (r1, r2) := h
 clear h
 by_cases c4 : a0.toList = ([] : List UInt8)
 ·rw [if_pos c4] at H
  have c4b0 : a0.toList.isEmpty = true := by rw [c4]; rfl
  have c4b1 : (!a0.toList.isEmpty) = false := by rw [c4]; rfl
  have c4b2 : (a0.toList == ([] : List UInt8)) = true := beq_iff_eq.mpr c4
  clear c4
  replace H := Option.bind_eq_some_iff.mp H
  obtain ⟨⟨t126, t127⟩, A50, H⟩ := H
  replace H : (some (t126, t127)) = some (r1, r2) := H
  have A5 := Aside0.mk A50
  clear A50
  simp only [Option.some.injEq, Prod.mk.injEq] at H
  obtain ⟨rfl, rfl⟩ := H
  go_enter Tryd.func18, Tryd.ntmps18
  go_wp2_with (first | ((with_reducible refine gate_callee (f := 20) rfl ?_); refine goesL_ (some 16) rfl rfl Tryd.func20 (by kernel_rfl) rfl #[.string a0] rfl (by (try simp only [List.map_toArray, List.map_cons, List.map_nil]); first | done | rfl | (simp only [List.length_drop, List.length_take]; rfl)) ?_; (with_reducible refine (utf8_decodeRuneInStringSlow.calls k a0 l1 l2 t126 t127 _ ?side1 ?side2 ?side3 ?side4 ?side5 ?side6 A5.out).mono ?_); (case side1 => repeat (first | exact HR1.out | (with_reducible refine Kd.C_alloc ?_ _) | (with_reducible refine Kd.C_drewN ?_ _) | (with_reducible refine Kd.C_drew ?_))); (case side2 => exact HC1.out); (case side3 => repeat (first | exact HR2.out | (with_reducible refine Kd.C_alloc ?_ _) | (with_reducible refine Kd.C_drewN ?_ _) | (with_reducible refine Kd.C_drew ?_))); (case side4 => exact HC2.out); (case side5 => exact HN1.out); (case side6 => exact HN2.out); rintro e w6 ⟨rfl, hb⟩; refine ⟨_, rfl, ?_⟩; have n0_ := Aside0.mk (below_step (by repeat (first | (with_reducible first | exact HB.out | apply below_alloc | apply pw_below_drewN | apply below_drew1) | exact HB.out)) hb); clear HB; have HB := n0_; clear n0_; (try clear hb); (try clear hb2); (try clear hk); (try clear hi)))
  go_ret2
  exact ⟨by first | rfl | (simp [errW_none, errW_some] <;> rfl) | (simp [*, errW_none, errW_some] <;> rfl), by repeat (first | (with_reducible first | exact HB.out | apply below_alloc | apply pw_below_drewN | apply below_drew1) | exact HB.out)⟩
 ·rw [if_neg c4] at H
  have c4b0 : a0.toList.isEmpty = false := by simpa using c4
  have c4b1 : (!a0.toList.isEmpty) = true := by simpa using c4
  have c4b2 : (a0.toList == ([] : List UInt8)) = false := beq_eq_false_iff_ne.mpr c4
  by_cases c7 : 0 < (a0.size : Int)
  ·rw [if_pos c7] at H
   have c7b0 : decide (0 < (a0.size : Int)) = true := decide_eq_true c7
   have c7b1 : decide (0 < a0.size) = true := decide_eq_true (by omega)
   clear c7
   by_cases c9 : (bt a0 0) < 128
   ·rw [if_pos c9] at H
    have c9b0 : decide ((bt a0 0) < 128) = true := decide_eq_true c9
    clear c9
    simp only [Option.some.injEq, Prod.mk.injEq] at H
    obtain ⟨rfl, rfl⟩ := H
    have p8 : 0 ≤ (0 : Int) := (by omega)
    have q8 : 0 < a0.size := (by have : (0 : Int) < (a0.size : Int) := of_decide_eq_true (by first | (with_reducible assumption) | assumption); omega)
    have hx8 : ∀ h : 0 < a0.size, ((a0[0]'h).toNat : Int) = bt a0 0 := bt_at a0 0
    clear p8
    have qi8 : (0 < (a0.size : Int)) = True := eq_true (of_decide_eq_true (by first | (with_reducible assumption) | assumption))
    replace q8 := eq_true q8
    have p10 : 0 ≤ (0 : Int) := (by omega)
    have q10 : 0 < a0.size := (by have : (0 : Int) < (a0.size : Int) := of_decide_eq_true (by first | (with_reducible assumption) | assumption); omega)
    have hx10 : ∀ h : 0 < a0.size, ((a0[0]'h).toNat : Int) = bt a0 0 := bt_at a0 0
    clear p10
    have qi10 : (0 < (a0.size : Int)) = True := eq_true (of_decide_eq_true (by first | (with_reducible assumption) | assumption))
    replace q10 := eq_true q10
    go_enter Tryd.func18, Tryd.ntmps18
    go_wp2
    go_ret2
    exact ⟨by first | rfl | (simp [errW_none, errW_some] <;> rfl) | (simp [*, errW_none, errW_some] <;> rfl), by repeat (first | (with_reducible first | exact HB.out | apply below_alloc | apply pw_below_drewN | apply below_drew1) | exact HB.out)⟩
   ·rw [if_neg c9] at H
    have c9b0 : decide ((bt a0 0) < 128) = false := decide_eq_false c9
    clear c9
    replace H := Option.bind_eq_some_iff.mp H
    obtain ⟨⟨t128, t129⟩, A110, H⟩ := H
    replace H : (some (t128, t129)) = some (r1, r2) := H
    have A11 := Aside0.mk A110
    clear A110
    simp only [Option.some.injEq, Prod.mk.injEq] at H
    obtain ⟨rfl, rfl⟩ := H
    have p8 : 0 ≤ (0 : Int) := (by omega)
    have q8 : 0 < a0.size := (by have : (0 : Int) < (a0.size : Int) := of_decide_eq_true (by first | (with_reducible assumption) | assumption); omega)
    have hx8 : ∀ h : 0 < a0.size, ((a0[0]'h).toNat : Int) = bt a0 0 := bt_at a0 0
    clear p8
    have qi8 : (0 < (a0.size : Int)) = True := eq_true (of_decide_eq_true (by first | (with_reducible assumption) | assumption))
    replace q8 := eq_true q8
    go_enter Tryd.func18, Tryd.ntmps18
    go_wp2_with (first | ((with_reducible refine gate_callee (f := 20) rfl ?_); refine goesL_ (some 16) rfl rfl Tryd.func20 (by kernel_rfl) rfl #[.string a0] rfl (by (try simp only [List.map_toArray, List.map_cons, List.map_nil]); first | done | rfl | (simp only [List.length_drop, List.length_take]; rfl)) ?_; (with_reducible refine (utf8_decodeRuneInStringSlow.calls k a0 l1 l2 t128 t129 _ ?side1 ?side2 ?side3 ?side4 ?side5 ?side6 A11.out).mono ?_); (case side1 => repeat (first | exact HR1.out | (with_reducible refine Kd.C_alloc ?_ _) | (with_reducible refine Kd.C_drewN ?_ _) | (with_reducible refine Kd.C_drew ?_))); (case side2 => exact HC1.out); (case side3 => repeat (first | exact HR2.out | (with_reducible refine Kd.C_alloc ?_ _) | (with_reducible refine Kd.C_drewN ?_ _) | (with_reducible refine Kd.C_drew ?_))); (case side4 => exact HC2.out); (case side5 => exact HN1.out); (case side6 => exact HN2.out); rintro e w12 ⟨rfl, hb⟩; refine ⟨_, rfl, ?_⟩; have n0_ := Aside0.mk (below_step (by repeat (first | (with_reducible first | exact HB.out | apply below_alloc | apply pw_below_drewN | apply below_drew1) | exact HB.out)) hb); clear HB; have HB := n0_; clear n0_; (try clear hb); (try clear hb2); (try clear hk); (try clear hi)))
    go_ret2
    exact ⟨by first | rfl | (simp [errW_none, errW_some] <;> rfl) | (simp [*, errW_none, errW_some] <;> rfl), by repeat (first | (with_reducible first | exact HB.out | apply below_alloc | apply pw_below_drewN | apply below_drew1) | exact HB.out)⟩
  ·rw [if_neg c7] at H
   exact absurd H (by simp)

end Go.Proofs.YtcdghhihfjojaaaDoor.Q
