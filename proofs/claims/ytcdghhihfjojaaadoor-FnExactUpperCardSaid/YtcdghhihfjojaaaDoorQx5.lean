/- Plain Lean functions with the same answers as the Go functions of this seat, and a proof for each that the Go code comes to just these answers; no condition. Written by a program of this session (the kit's printer, turned). -/
import Derived.Test.YtcdghhihfjojaaaDoorQx0
namespace Go.Proofs.YtcdghhihfjojaaaDoor.Q
open Go.RowKit Go.Proofs.YtcdghhihfjojaaaDoorW.PrintWords Go.Proofs.YtcdghhihfjojaaaDoorW.PrintLast Go.Proofs.YtcdghhihfjojaaaDoorW.PrintMore Go.Proofs.YtcdghhihfjojaaaDoorW.PrintFlt
attribute [local go_sem] cmp_lss cmp_leq cmp_gtr cmp_geq cmp_eql cmp_neq flt_l flt_r fgt_l fgt_r feq_l feq_r fne_l fne_r ord_lt ord_gt ord_eq ord_ne conv_int conv_flt foi_fold run_store_flt
attribute [local go_sem] max2_int min2_int max_two min_two max_three min_three max_four min_four   -- for this text's walks alone
set_option linter.unusedVariables false
set_option linter.unusedSimpArgs false

/-! ### utf8_decodeRuneInStringSlow: function 20 -/
mutual
def utf8_decodeRuneInStringSlow.j0 : Nat → ByteArray → Int → Int → Int → Bool → Option (Int × Int)
 | 0, _, _, _, _, _ => none
 | k + 1, x0, x5, x8, x10, x57 => if x57 = true then (some (65533, 1)) else (if x8 ≤ 2 then (some (Go.bits .or .i32 (wrap32 ((wrap32 (Go.bits .and .u8 x5 31)) * 64)) (wrap32 (Go.bits .and .u8 x10 63)), 2)) else (if 2 < (x0.size : Int) then (if (bt x0 2) < 128 then (utf8_decodeRuneInStringSlow.j1 k x0 x5 x8 x10 (bt x0 2) true) else (utf8_decodeRuneInStringSlow.j1 k x0 x5 x8 x10 (bt x0 2) (decide (191 < (bt x0 2))))) else (none)))
def utf8_decodeRuneInStringSlow.j1 : Nat → ByteArray → Int → Int → Int → Int → Bool → Option (Int × Int)
 | 0, _, _, _, _, _, _ => none
 | k + 1, x0, x5, x8, x10, x11, x75 => if x75 = true then (some (65533, 1)) else (if x8 ≤ 3 then (some (Go.bits .or .i32 (Go.bits .or .i32 (wrap32 ((wrap32 (Go.bits .and .u8 x5 15)) * 4096)) (wrap32 ((wrap32 (Go.bits .and .u8 x10 63)) * 64))) (wrap32 (Go.bits .and .u8 x11 63)), 3)) else (if 3 < (x0.size : Int) then (if (bt x0 3) < 128 then (some (65533, 1)) else (if 191 < (bt x0 3) then (some (65533, 1)) else (some (Go.bits .or .i32 (Go.bits .or .i32 (Go.bits .or .i32 (wrap32 ((wrap32 (Go.bits .and .u8 x5 7)) * 262144)) (wrap32 ((wrap32 (Go.bits .and .u8 x10 63)) * 4096))) (wrap32 ((wrap32 (Go.bits .and .u8 x11 63)) * 64))) (wrap32 (Go.bits .and .u8 (bt x0 3) 63)), 4)))) else (none)))
end
def utf8_decodeRuneInStringSlow.f (k : Nat) (a0 : ByteArray) (l1 : List Int) (l2 : List (S55)) : Option (Int × Int) := if (a0.size : Int) < 1 then (some (65533, 0)) else (if 0 < (a0.size : Int) then (if 0 ≤ (bt a0 0) then (if (bt a0 0) < 256 then (if (rd l1 (bt a0 0)) ≥ 240 then (some (Go.bits .or .i32 (Go.bits .andNot .i32 (wrap32 (bt a0 0)) ((wrap32 ((wrap32 (rd l1 (bt a0 0))) * 2147483648)) / 2147483648)) (Go.bits .and .i32 65533 ((wrap32 ((wrap32 (rd l1 (bt a0 0))) * 2147483648)) / 2147483648)), 1)) else (if 0 ≤ ((rd l1 (bt a0 0)) / 16) then (if ((rd l1 (bt a0 0)) / 16) < 16 then (if (a0.size : Int) < (wrap64 (Go.bits .and .u8 (rd l1 (bt a0 0)) 7)) then (some (65533, 1)) else (if 1 < (a0.size : Int) then (if (bt a0 1) < ((rd_T55 l2 ((rd l1 (bt a0 0)) / 16)).f0) then (utf8_decodeRuneInStringSlow.j0 k a0 (bt a0 0) (wrap64 (Go.bits .and .u8 (rd l1 (bt a0 0)) 7)) (bt a0 1) true) else (utf8_decodeRuneInStringSlow.j0 k a0 (bt a0 0) (wrap64 (Go.bits .and .u8 (rd l1 (bt a0 0)) 7)) (bt a0 1) (decide (((rd_T55 l2 ((rd l1 (bt a0 0)) / 16)).f1) < (bt a0 1))))) else (none))) else (none)) else (none))) else (none)) else (none)) else (none))
theorem utf8_decodeRuneInStringSlow.mono_l : ∀ k, (∀ y0 y1 y2 y3 y4, LeO (utf8_decodeRuneInStringSlow.j0 k y0 y1 y2 y3 y4) (utf8_decodeRuneInStringSlow.j0 (k + 1) y0 y1 y2 y3 y4)) ∧ (∀ y0 y1 y2 y3 y4 y5, LeO (utf8_decodeRuneInStringSlow.j1 k y0 y1 y2 y3 y4 y5) (utf8_decodeRuneInStringSlow.j1 (k + 1) y0 y1 y2 y3 y4 y5))
 | 0 => ⟨fun _ _ _ _ _ r h => by simp [utf8_decodeRuneInStringSlow.j0] at h, fun _ _ _ _ _ _ r h => by simp [utf8_decodeRuneInStringSlow.j1] at h⟩
 | k + 1 => by
  obtain ⟨ih0, ih1⟩ := utf8_decodeRuneInStringSlow.mono_l k
  refine ⟨?_, ?_⟩
  ·intro y0 y1 y2 y3 y4
   unfold utf8_decodeRuneInStringSlow.j0
   repeat' first
   | (with_reducible exact ih0 _ _ _ _ _)
   | (with_reducible exact ih1 _ _ _ _ _ _)
   | (with_reducible exact LeO.refl _)
   | (with_reducible exact LeO.none _)
   | (with_reducible refine LeO.ite ?_ ?_)
   | (with_reducible refine LeO.bind ?_ (fun _ => ?_))
   | exact ih0 _ _ _ _ _
   | exact ih1 _ _ _ _ _ _
   | exact LeO.none _
   | refine LeO.ite ?_ ?_
   | refine LeO.bind ?_ (fun _ => ?_)
  ·intro y0 y1 y2 y3 y4 y5
   unfold utf8_decodeRuneInStringSlow.j1
   repeat' first
   | (with_reducible exact ih0 _ _ _ _ _)
   | (with_reducible exact ih1 _ _ _ _ _ _)
   | (with_reducible exact LeO.refl _)
   | (with_reducible exact LeO.none _)
   | (with_reducible refine LeO.ite ?_ ?_)
   | (with_reducible refine LeO.bind ?_ (fun _ => ?_))
   | exact ih0 _ _ _ _ _
   | exact ih1 _ _ _ _ _ _
   | exact LeO.none _
   | refine LeO.ite ?_ ?_
   | refine LeO.bind ?_ (fun _ => ?_)
theorem utf8_decodeRuneInStringSlow.mono : ∀ a0 a1 a2 k, LeO (utf8_decodeRuneInStringSlow.f k a0 a1 a2) (utf8_decodeRuneInStringSlow.f (k + 1) a0 a1 a2) := by
 intro a0 a1 a2 k
 obtain ⟨ih0, ih1⟩ := utf8_decodeRuneInStringSlow.mono_l k
 unfold utf8_decodeRuneInStringSlow.f
 repeat' first
   | (with_reducible exact ih0 _ _ _ _ _)
   | (with_reducible exact ih1 _ _ _ _ _ _)
   | (with_reducible exact LeO.refl _)
   | (with_reducible exact LeO.none _)
   | (with_reducible refine LeO.ite ?_ ?_)
   | (with_reducible refine LeO.bind ?_ (fun _ => ?_))
   | exact ih0 _ _ _ _ _
   | exact ih1 _ _ _ _ _ _
   | exact LeO.none _
   | refine LeO.ite ?_ ?_
   | refine LeO.bind ?_ (fun _ => ?_)
set_option maxHeartbeats 8000000 in
set_option maxRecDepth 100000 in
theorem utf8_decodeRuneInStringSlow.calls (k : Nat) (a0 : ByteArray) (l1 : List Int) (l2 : List (S55)) (r1 : Int) (r2 : Int) (w : World) (hr1 : Kd.C (Kd.int .u8) w (some ⟨1, 0, none⟩) l1.length l1) (hc1 : l1.length ≤ l1.length) (hr2 : Kd.C k55 w (some ⟨2, 0, none⟩) l2.length l2) (hc2 : l2.length ≤ l2.length) (hn1 : l1.length = 256) (hn2 : l2.length = 16) (h : utf8_decodeRuneInStringSlow.f k a0 l1 l2 = some (r1, r2)) :
  Calls Tryd.prog 20 #[.string a0] w fun e w' => e = .returned (.tuple #[.int .i32 r1, .int .i64 r2]) ∧ Below w.heap.size w w' := by
 have hu55 := Tryd.underlying55
 have HR1 := Aside0.mk hr1
 have HC1 := Aside0.mk hc1
 clear hr1 hc1
 have HN1 := Aside0.mk hn1
 clear hn1
 have HR2 := Aside0.mk hr2
 have HC2 := Aside0.mk hc2
 clear hr2 hc2
 have HN2 := Aside0.mk hn2
 clear hn2
 have HB := Aside0.mk (Below.refl w.heap.size w)
 have H : (if (a0.size : Int) < 1 then (some (65533, 0)) else (if 0 < (a0.size : Int) then (if 0 ≤ (bt a0 0) then (if (bt a0 0) < 256 then (if (rd l1 (bt a0 0)) ≥ 240 then (some (Go.bits .or .i32 (Go.bits .andNot .i32 (wrap32 (bt a0 0)) ((wrap32 ((wrap32 (rd l1 (bt a0 0))) * 2147483648)) / 2147483648)) (Go.bits .and .i32 65533 ((wrap32 ((wrap32 (rd l1 (bt a0 0))) * 2147483648)) / 2147483648)), 1)) else (if 0 ≤ ((rd l1 (bt a0 0)) / 16) then (if ((rd l1 (bt a0 0)) / 16) < 16 then (if (a0.size : Int) < (wrap64 (Go.bits .and .u8 (rd l1 (bt a0 0)) 7)) then (some (65533, 1)) else (if 1 < (a0.size : Int) then (if (bt a0 1) < ((rd_T55 l2 ((rd l1 (bt a0 0)) / 16)).f0) then (utf8_decodeRuneInStringSlow.j0 k a0 (bt a0 0) (wrap64 (Go.bits .and .u8 (rd l1 (bt a0 0)) 7)) (bt a0 1) true) else (utf8_decodeRuneInStringSlow.j0 k a0 (bt a0 0) (wrap64 (Go.bits .and .u8 (rd l1 (bt a0 0)) 7)) (bt a0 1) (decide (((rd_T55 l2 ((rd l1 (bt a0 0)) / 16)).f1) < (bt a0 1))))) else (none))) else (none)) else (none))) else (none)) else (none)) else (none))) = some (r1, r2) := h
 clear h
 by_cases c4 : (a0.size : Int) < 1
 ·rw [if_pos c4] at H
  have c4b0 : decide ((a0.size : Int) < 1) = true := decide_eq_true c4
  have c4b1 : decide (a0.size < 1) = true := decide_eq_true (by omega)
  clear c4
  simp only [Option.some.injEq, Prod.mk.injEq] at H
  obtain ⟨rfl, rfl⟩ := H
  go_enter Tryd.func20, Tryd.ntmps20
  go_wp2
  go_ret2
  exact ⟨by first | rfl | (simp [errW_none, errW_some] <;> rfl) | (simp [*, errW_none, errW_some] <;> rfl), by repeat (first | (with_reducible first | exact HB.out | apply below_alloc | apply pw_below_drewN | apply below_drew1) | exact HB.out)⟩
 ·rw [if_neg c4] at H
  have c4b0 : decide ((a0.size : Int) < 1) = false := decide_eq_false c4
  have c4b1 : decide (a0.size < 1) = false := decide_eq_false (by omega)
  clear c4
  by_cases c5 : 0 < (a0.size : Int)
  ·rw [if_pos c5] at H
   have c5b0 : decide (0 < (a0.size : Int)) = true := decide_eq_true c5
   have c5b1 : decide (0 < a0.size) = true := decide_eq_true (by omega)
   clear c5
   by_cases c7 : 0 ≤ (bt a0 0)
   ·rw [if_pos c7] at H
    have c7b0 : decide (0 ≤ (bt a0 0)) = true := decide_eq_true c7
    clear c7
    by_cases c8 : (bt a0 0) < 256
    ·rw [if_pos c8] at H
     have c8b0 : decide ((bt a0 0) < 256) = true := decide_eq_true c8
     clear c8
     by_cases c9 : (rd l1 (bt a0 0)) ≥ 240
     ·rw [if_pos c9] at H
      have c9b0 : decide (240 ≤ (rd l1 (bt a0 0))) = true := decide_eq_true c9
      clear c9
      simp only [Option.some.injEq, Prod.mk.injEq] at H
      obtain ⟨rfl, rfl⟩ := H
      have p6 : 0 ≤ (0 : Int) := (by omega)
      have q6 : 0 < a0.size := (by have : (0 : Int) < (a0.size : Int) := of_decide_eq_true (by first | (with_reducible assumption) | assumption); omega)
      have hx6 : ∀ h : 0 < a0.size, ((a0[0]'h).toNat : Int) = bt a0 0 := bt_at a0 0
      clear p6
      have qi6 : (0 < (a0.size : Int)) = True := eq_true (of_decide_eq_true (by first | (with_reducible assumption) | assumption))
      replace q6 := eq_true q6
      have p123 : 0 ≤ ((bt a0 0) : Int) := of_decide_eq_true (by first | (with_reducible assumption) | assumption)
      have q123 : (bt a0 0) < (l1.length : Int) := (by have h_ : ((bt a0 0) : Int) < (256 : Int) := of_decide_eq_true (by first | (with_reducible assumption) | assumption); have e_ := HN1.out; omega)
      have ql123 : (((bt a0 0) : Int) < (256 : Int)) = True := eq_true (of_decide_eq_true (by first | (with_reducible assumption) | assumption))
      obtain ⟨ad123, e123, hx123_0⟩ := Kd.at_int HR1.out (bt a0 0) p123 q123
      obtain rfl : (⟨1, 0, none⟩ : Addr) = ad123 := (by injection e123)
      (first | simp only [add_plain] at hx123_0 | simp only [add_at] at hx123_0 | simp only [Addr.add, Nat.zero_add] at hx123_0 | skip)
      replace p123 := eq_true p123
      replace q123 := eq_true q123
      have p10 : 0 ≤ (0 : Int) := (by omega)
      have q10 : 0 < a0.size := (by have : (0 : Int) < (a0.size : Int) := of_decide_eq_true (by first | (with_reducible assumption) | assumption); omega)
      have hx10 : ∀ h : 0 < a0.size, ((a0[0]'h).toNat : Int) = bt a0 0 := bt_at a0 0
      clear p10
      have qi10 : (0 < (a0.size : Int)) = True := eq_true (of_decide_eq_true (by first | (with_reducible assumption) | assumption))
      replace q10 := eq_true q10
      go_enter Tryd.func20, Tryd.ntmps20
      go_wp2
      go_ret2
      exact ⟨by first | rfl | (simp [errW_none, errW_some] <;> rfl) | (simp [*, errW_none, errW_some] <;> rfl), by repeat (first | (with_reducible first | exact HB.out | apply below_alloc | apply pw_below_drewN | apply below_drew1) | exact HB.out)⟩
     ·rw [if_neg c9] at H
      have c9b0 : decide (240 ≤ (rd l1 (bt a0 0))) = false := decide_eq_false c9
      clear c9
      obtain ⟨ji11, hji11⟩ : ∃ j_ : Int, ((rd l1 (bt a0 0)) / 16) = j_ := ⟨_, rfl⟩
      replace H : (if 0 ≤ (ji11) then (if (ji11) < 16 then (if (a0.size : Int) < (wrap64 (Go.bits .and .u8 (rd l1 (bt a0 0)) 7)) then (some (65533, 1)) else (if 1 < (a0.size : Int) then (if (bt a0 1) < ((rd_T55 l2 (ji11)).f0) then (utf8_decodeRuneInStringSlow.j0 k a0 (bt a0 0) (wrap64 (Go.bits .and .u8 (rd l1 (bt a0 0)) 7)) (bt a0 1) true) else (utf8_decodeRuneInStringSlow.j0 k a0 (bt a0 0) (wrap64 (Go.bits .and .u8 (rd l1 (bt a0 0)) 7)) (bt a0 1) (decide (((rd_T55 l2 (ji11)).f1) < (bt a0 1))))) else (none))) else (none)) else (none)) = some (r1, r2) := by first | (rw [hji11] at H; exact H) | (simp only [hji11] at H ⊢; exact H)
      by_cases c12 : 0 ≤ (ji11)
      ·rw [if_pos c12] at H
       have c12b0 : decide (0 ≤ (ji11)) = true := decide_eq_true c12
       clear c12
       by_cases c13 : (ji11) < 16
       ·rw [if_pos c13] at H
        have c13b0 : decide ((ji11) < 16) = true := decide_eq_true c13
        clear c13
        by_cases c14 : (a0.size : Int) < (wrap64 (Go.bits .and .u8 (rd l1 (bt a0 0)) 7))
        ·rw [if_pos c14] at H
         have c14b0 : decide ((a0.size : Int) < (wrap64 (Go.bits .and .u8 (rd l1 (bt a0 0)) 7))) = true := decide_eq_true c14
         clear c14
         simp only [Option.some.injEq, Prod.mk.injEq] at H
         obtain ⟨rfl, rfl⟩ := H
         have p6 : 0 ≤ (0 : Int) := (by omega)
         have q6 : 0 < a0.size := (by have : (0 : Int) < (a0.size : Int) := of_decide_eq_true (by first | (with_reducible assumption) | assumption); omega)
         have hx6 : ∀ h : 0 < a0.size, ((a0[0]'h).toNat : Int) = bt a0 0 := bt_at a0 0
         clear p6
         have qi6 : (0 < (a0.size : Int)) = True := eq_true (of_decide_eq_true (by first | (with_reducible assumption) | assumption))
         replace q6 := eq_true q6
         have p123 : 0 ≤ ((bt a0 0) : Int) := of_decide_eq_true (by first | (with_reducible assumption) | assumption)
         have q123 : (bt a0 0) < (l1.length : Int) := (by have h_ : ((bt a0 0) : Int) < (256 : Int) := of_decide_eq_true (by first | (with_reducible assumption) | assumption); have e_ := HN1.out; omega)
         have ql123 : (((bt a0 0) : Int) < (256 : Int)) = True := eq_true (of_decide_eq_true (by first | (with_reducible assumption) | assumption))
         obtain ⟨ad123, e123, hx123_0⟩ := Kd.at_int HR1.out (bt a0 0) p123 q123
         obtain rfl : (⟨1, 0, none⟩ : Addr) = ad123 := (by injection e123)
         (first | simp only [add_plain] at hx123_0 | simp only [add_at] at hx123_0 | simp only [Addr.add, Nat.zero_add] at hx123_0 | skip)
         replace p123 := eq_true p123
         replace q123 := eq_true q123
         have p124 : 0 ≤ ((ji11) : Int) := of_decide_eq_true (by first | (with_reducible assumption) | assumption)
         have q124 : (ji11) < (l2.length : Int) := (by have h_ : ((ji11) : Int) < (16 : Int) := of_decide_eq_true (by first | (with_reducible assumption) | assumption); have e_ := HN2.out; omega)
         have ql124 : (((ji11) : Int) < (16 : Int)) = True := eq_true (of_decide_eq_true (by first | (with_reducible assumption) | assumption))
         obtain ⟨ad124, e124, hx124_0, hx124_1⟩ := at_T55 HR2.out (ji11) p124 q124
         obtain rfl : (⟨2, 0, none⟩ : Addr) = ad124 := (by injection e124)
         (first | simp only [add_plain] at hx124_0 | simp only [add_at] at hx124_0 | simp only [Addr.add, Nat.zero_add] at hx124_0 | skip)
         (first | simp only [add_plain] at hx124_1 | simp only [add_at] at hx124_1 | simp only [Addr.add, Nat.zero_add] at hx124_1 | skip)
         replace p124 := eq_true p124
         replace q124 := eq_true q124
         go_enter Tryd.func20, Tryd.ntmps20
         go_wp2_with (first | ((with_reducible refine gate_dst (N := 9) rfl ?_); refine box_event ?hg (N := 9) ?hd (cs := #[.int .u8 0, .int .u8 0]) (t := 55) ?hr ?_; (case hd => rfl); (case hg => rfl); (case hr => first | (go_simp; done) | (go_simp; rfl)); intro gb125 hg w15 hbox hb; have n0_ := Aside0.mk (below_step (by repeat (first | (with_reducible first | exact HB.out | apply below_alloc | apply pw_below_drewN | apply below_drew1) | exact HB.out)) hb); have n1_ := Aside0.mk (hbox); have n2_ := Aside0.mk ((by rw [hg]; exact (below_size (by repeat (first | (with_reducible first | exact HB.out | apply below_alloc | apply pw_below_drewN | apply below_drew1) | exact HB.out))) : w.heap.size ≤ gb125)); have n3_ := Aside0.mk ((by rw [hg]; exact (below_size (by repeat (first | (with_reducible first | exact HB.out | apply below_alloc | apply pw_below_drewN | apply below_drew1) | exact HB.out))) : w.heap.size ≤ gb125)); clear HB; have HB := n0_; have BK125 := n1_; have GW125 := n2_; have GE125 := n3_; clear n0_ n1_ n2_ n3_; clear hb hbox hg; have hcz16_0 : w15.cell? ⟨gb125, 0, none⟩ = some (.int .u8 0) := (blk_cell BK125.out 0).trans rfl; have hcz16_1 : w15.cell? ⟨gb125, 1, none⟩ = some (.int .u8 0) := (blk_cell BK125.out 1).trans rfl; have hfz16_0 := blk_frozen BK125.out 0; have hfz16_1 := blk_frozen BK125.out 1))
         go_ret2
         exact ⟨by first | rfl | (simp [errW_none, errW_some] <;> rfl) | (simp only [← hji11]; first | rfl | (simp [errW_none, errW_some] <;> rfl)) | (simp [*, errW_none, errW_some] <;> rfl), by repeat (first | (with_reducible first | exact HB.out | apply below_alloc | apply pw_below_drewN | apply below_drew1 | refine below_set ?_ GE125.out) | exact HB.out)⟩
        ·rw [if_neg c14] at H
         have c14b0 : decide ((a0.size : Int) < (wrap64 (Go.bits .and .u8 (rd l1 (bt a0 0)) 7))) = false := decide_eq_false c14
         clear c14
         by_cases c17 : 1 < (a0.size : Int)
         ·rw [if_pos c17] at H
          have c17b0 : decide (1 < (a0.size : Int)) = true := decide_eq_true c17
          have c17b1 : decide (1 < a0.size) = true := decide_eq_true (by omega)
          clear c17
          have HC19 := Aside0.mk H
          clear H
          have p6 : 0 ≤ (0 : Int) := (by omega)
          have q6 : 0 < a0.size := (by have : (0 : Int) < (a0.size : Int) := of_decide_eq_true (by first | (with_reducible assumption) | assumption); omega)
          have hx6 : ∀ h : 0 < a0.size, ((a0[0]'h).toNat : Int) = bt a0 0 := bt_at a0 0
          clear p6
          have qi6 : (0 < (a0.size : Int)) = True := eq_true (of_decide_eq_true (by first | (with_reducible assumption) | assumption))
          replace q6 := eq_true q6
          have p123 : 0 ≤ ((bt a0 0) : Int) := of_decide_eq_true (by first | (with_reducible assumption) | assumption)
          have q123 : (bt a0 0) < (l1.length : Int) := (by have h_ : ((bt a0 0) : Int) < (256 : Int) := of_decide_eq_true (by first | (with_reducible assumption) | assumption); have e_ := HN1.out; omega)
          have ql123 : (((bt a0 0) : Int) < (256 : Int)) = True := eq_true (of_decide_eq_true (by first | (with_reducible assumption) | assumption))
          obtain ⟨ad123, e123, hx123_0⟩ := Kd.at_int HR1.out (bt a0 0) p123 q123
          obtain rfl : (⟨1, 0, none⟩ : Addr) = ad123 := (by injection e123)
          (first | simp only [add_plain] at hx123_0 | simp only [add_at] at hx123_0 | simp only [Addr.add, Nat.zero_add] at hx123_0 | skip)
          replace p123 := eq_true p123
          replace q123 := eq_true q123
          have p124 : 0 ≤ ((ji11) : Int) := of_decide_eq_true (by first | (with_reducible assumption) | assumption)
          have q124 : (ji11) < (l2.length : Int) := (by have h_ : ((ji11) : Int) < (16 : Int) := of_decide_eq_true (by first | (with_reducible assumption) | assumption); have e_ := HN2.out; omega)
          have ql124 : (((ji11) : Int) < (16 : Int)) = True := eq_true (of_decide_eq_true (by first | (with_reducible assumption) | assumption))
          obtain ⟨ad124, e124, hx124_0, hx124_1⟩ := at_T55 HR2.out (ji11) p124 q124
          obtain rfl : (⟨2, 0, none⟩ : Addr) = ad124 := (by injection e124)
          (first | simp only [add_plain] at hx124_0 | simp only [add_at] at hx124_0 | simp only [Addr.add, Nat.zero_add] at hx124_0 | skip)
          (first | simp only [add_plain] at hx124_1 | simp only [add_at] at hx124_1 | simp only [Addr.add, Nat.zero_add] at hx124_1 | skip)
          replace p124 := eq_true p124
          replace q124 := eq_true q124
          go_enter Tryd.func20, Tryd.ntmps20
          go_upto_region 14 with (first | ((with_reducible refine gate_dst (N := 9) rfl ?_); refine box_event ?hg (N := 9) ?hd (cs := #[.int .u8 0, .int .u8 0]) (t := 55) ?hr ?_; (case hd => rfl); (case hg => rfl); (case hr => first | (go_simp; done) | (go_simp; rfl)); intro gb125 hg w20 hbox hb; have n0_ := Aside0.mk (below_step (by repeat (first | (with_reducible first | exact HB.out | apply below_alloc | apply pw_below_drewN | apply below_drew1) | exact HB.out)) hb); have n1_ := Aside0.mk (hbox); have n2_ := Aside0.mk ((by rw [hg]; exact (below_size (by repeat (first | (with_reducible first | exact HB.out | apply below_alloc | apply pw_below_drewN | apply below_drew1) | exact HB.out))) : w.heap.size ≤ gb125)); have n3_ := Aside0.mk ((by rw [hg]; exact (below_size (by repeat (first | (with_reducible first | exact HB.out | apply below_alloc | apply pw_below_drewN | apply below_drew1) | exact HB.out))) : w.heap.size ≤ gb125)); clear HB; have HB := n0_; have BK125 := n1_; have GW125 := n2_; have GE125 := n3_; clear n0_ n1_ n2_ n3_; clear hb hbox hg; have hcz21_0 : w20.cell? ⟨gb125, 0, none⟩ = some (.int .u8 0) := (blk_cell BK125.out 0).trans rfl; have hcz21_1 : w20.cell? ⟨gb125, 1, none⟩ = some (.int .u8 0) := (blk_cell BK125.out 1).trans rfl; have hfz21_0 := blk_frozen BK125.out 0; have hfz21_1 := blk_frozen BK125.out 1; have p18 : 0 ≤ (1 : Int) := (by omega); have q18 : 1 < a0.size := (by have : (1 : Int) < (a0.size : Int) := of_decide_eq_true (by first | (with_reducible assumption) | assumption); omega); have hx18 : ∀ h : 1 < a0.size, ((a0[1]'h).toNat : Int) = bt a0 1 := bt_at a0 1; clear p18; have qi18 : (1 < (a0.size : Int)) = True := eq_true (of_decide_eq_true (by first | (with_reducible assumption) | assumption)); replace q18 := eq_true q18))
          (try simp only [Act.put, sqA, sqZ, sqS])
          go_cut [57] (fun v57 wc => ∃ (kq : Nat) (x57_18 : Bool), v57 = .bool x57_18 ∧ Aside0 (utf8_decodeRuneInStringSlow.j0 kq a0 (bt a0 0) (wrap64 (Go.bits .and .u8 (rd l1 (bt a0 0)) 7)) (bt a0 1) x57_18 = some (r1, r2)) ∧ Aside0 (kq ≤ k) ∧ Aside0 (wc.heap[gb125]? = some (.cells #[.int .u8 ((rd_T55 l2 (ji11)).f0), .int .u8 ((rd_T55 l2 (ji11)).f1)] 55 (0, 0))) ∧ Aside0 (Below w.heap.size w wc))
          case first =>
           have H := HC19.out
           clear HC19
           by_cases c22 : (bt a0 1) < ((rd_T55 l2 (ji11)).f0)
           ·rw [if_pos c22] at H
            have c22b0 : decide ((bt a0 1) < ((rd_T55 l2 (ji11)).f0)) = true := decide_eq_true c22
            clear c22
            (first | rw [c22b0] | (simp only [i64_w, i32_w]; rw [c22b0]) | skip)
            have H' := Aside0.mk H
            clear H
            have hcz23_0 : w20.cell? ⟨gb125, 0, none⟩ = some (.int .u8 0) := (blk_cell BK125.out 0).trans rfl
            have hcz23_1 : w20.cell? ⟨gb125, 1, none⟩ = some (.int .u8 0) := (blk_cell BK125.out 1).trans rfl
            have hfz23_0 := blk_frozen BK125.out 0
            have hfz23_1 := blk_frozen BK125.out 1
            go_wp2
            go_meet
            case rel => exact ⟨_, (true), (by first | rfl | (simp; done) | (simp [*]; done)), H', ⟨by first | omega | exact Nat.le_refl _⟩, ⟨by (with_reducible repeat (first | refine blk_drewN ?_ _ | refine blk_drew ?_ | refine blk_alloc ?_ _)); refine blk_put (cs := #[.int .u8 ((rd_T55 l2 (ji11)).f0), .int .u8 0]) ?_ 1 _ rfl; (with_reducible repeat (first | refine blk_drewN ?_ _ | refine blk_drew ?_ | refine blk_alloc ?_ _)); refine blk_put (cs := #[.int .u8 0, .int .u8 0]) ?_ 0 _ rfl; (with_reducible repeat (first | refine blk_drewN ?_ _ | refine blk_drew ?_ | refine blk_alloc ?_ _)); exact BK125.out⟩, ⟨by repeat (first | (with_reducible first | exact HB.out | apply below_alloc | apply pw_below_drewN | apply below_drew1 | refine below_set ?_ GE125.out) | exact HB.out)⟩⟩
           ·rw [if_neg c22] at H
            have c22b0 : decide ((bt a0 1) < ((rd_T55 l2 (ji11)).f0)) = false := decide_eq_false c22
            clear c22
            (first | rw [c22b0] | (simp only [i64_w, i32_w]; rw [c22b0]) | skip)
            have H' := Aside0.mk H
            clear H
            have hcz24_0 : w20.cell? ⟨gb125, 0, none⟩ = some (.int .u8 0) := (blk_cell BK125.out 0).trans rfl
            have hcz24_1 : w20.cell? ⟨gb125, 1, none⟩ = some (.int .u8 0) := (blk_cell BK125.out 1).trans rfl
            have hfz24_0 := blk_frozen BK125.out 0
            have hfz24_1 := blk_frozen BK125.out 1
            go_wp2
            go_meet
            case rel => exact ⟨_, (decide (((rd_T55 l2 (ji11)).f1) < (bt a0 1))), (by first | rfl | (simp; done) | (simp only [← hji11] <;> (first | rfl | simp)) | (simp [*]; done)), H', ⟨by first | omega | exact Nat.le_refl _⟩, ⟨by (with_reducible repeat (first | refine blk_drewN ?_ _ | refine blk_drew ?_ | refine blk_alloc ?_ _)); refine blk_put (cs := #[.int .u8 ((rd_T55 l2 (ji11)).f0), .int .u8 0]) ?_ 1 _ rfl; (with_reducible repeat (first | refine blk_drewN ?_ _ | refine blk_drew ?_ | refine blk_alloc ?_ _)); refine blk_put (cs := #[.int .u8 0, .int .u8 0]) ?_ 0 _ rfl; (with_reducible repeat (first | refine blk_drewN ?_ _ | refine blk_drew ?_ | refine blk_alloc ?_ _)); exact BK125.out⟩, ⟨by repeat (first | (with_reducible first | exact HB.out | apply below_alloc | apply pw_below_drewN | apply below_drew1 | refine below_set ?_ GE125.out) | exact HB.out)⟩⟩
          case rest =>
           clear HC19
           try clear c1
           try clear p1
           try clear q1
           try clear hx1
           try clear qi1
           try clear c2
           try clear p2
           try clear p3
           try clear c4
           try clear c4b0
           try clear c4b1
           try clear c5
           try clear c5b0
           try clear c5b1
           try clear p6
           try clear q6
           try clear hx6
           try clear qi6
           try clear c7
           try clear c7b0
           try clear c8
           try clear c8b0
           try clear c9
           try clear c9b0
           try clear p10
           try clear q10
           try clear hx10
           try clear qi10
           try clear c12
           try clear c12b0
           try clear p12
           try clear q12
           try clear hx12
           try clear c13
           try clear c13b0
           try clear c14
           try clear c14b0
           try clear c17
           try clear c17b0
           try clear c17b1
           try clear p18
           try clear q18
           try clear hx18
           try clear qi18
           try clear c20
           try clear c22
           try clear c22b0
           try clear hcz16_0
           try clear hcz16_1
           try clear hcz21_0
           try clear hcz21_1
           try clear hcz23_0
           try clear hcz23_1
           try clear hcz24_0
           try clear hcz24_1
           try clear hfz16_0
           try clear hfz16_1
           try clear hfz21_0
           try clear hfz21_1
           try clear hfz23_0
           try clear hfz23_1
           try clear hfz24_0
           try clear hfz24_1
           try clear hx123_0
           try clear hx124_0
           try clear hx124_1
           try clear p10
           try clear p123
           try clear p124
           try clear p18
           try clear p6
           try clear q10
           try clear q123
           try clear q124
           try clear q18
           try clear q6
           obtain ⟨kq, x57_18, rfl, HA, HJ18, BK125, HB⟩ := hcut
           cases kq with
           | zero => exact absurd HA.out (by simp [utf8_decodeRuneInStringSlow.j0])
           | succ kj18 =>
            have H := HA.out
            clear HA
            simp only [utf8_decodeRuneInStringSlow.j0] at H
            by_cases c25 : x57_18 = true
            ·subst c25
             have H1 : (some (65533, 1)) = some (r1, r2) := by rw [if_pos rfl] at H; exact H
             clear H
             have H := H1
             clear H1
             simp only [Option.some.injEq, Prod.mk.injEq] at H
             obtain ⟨rfl, rfl⟩ := H
             go_wp2
             go_ret2
             exact ⟨by first | rfl | (simp [errW_none, errW_some] <;> rfl) | (simp only [← hji11]; first | rfl | (simp [errW_none, errW_some] <;> rfl)) | (simp [*, errW_none, errW_some] <;> rfl), by repeat (first | (with_reducible first | exact HB.out | apply below_alloc | apply pw_below_drewN | apply below_drew1 | refine below_set ?_ GE125.out) | exact HB.out)⟩
            ·replace c25 := Bool.eq_false_iff.mpr c25
             subst c25
             have H1 : (if (wrap64 (Go.bits .and .u8 (rd l1 (bt a0 0)) 7)) ≤ 2 then (some (Go.bits .or .i32 (wrap32 ((wrap32 (Go.bits .and .u8 (bt a0 0) 31)) * 64)) (wrap32 (Go.bits .and .u8 (bt a0 1) 63)), 2)) else (if 2 < (a0.size : Int) then (if (bt a0 2) < 128 then (utf8_decodeRuneInStringSlow.j1 kj18 a0 (bt a0 0) (wrap64 (Go.bits .and .u8 (rd l1 (bt a0 0)) 7)) (bt a0 1) (bt a0 2) true) else (utf8_decodeRuneInStringSlow.j1 kj18 a0 (bt a0 0) (wrap64 (Go.bits .and .u8 (rd l1 (bt a0 0)) 7)) (bt a0 1) (bt a0 2) (decide (191 < (bt a0 2))))) else (none))) = some (r1, r2) := by rw [if_neg (show ¬ (false = true) by decide)] at H; exact H
             clear H
             have H := H1
             clear H1
             by_cases c26 : (wrap64 (Go.bits .and .u8 (rd l1 (bt a0 0)) 7)) ≤ 2
             ·rw [if_pos c26] at H
              have c26b0 : decide ((wrap64 (Go.bits .and .u8 (rd l1 (bt a0 0)) 7)) ≤ 2) = true := decide_eq_true c26
              clear c26
              simp only [Option.some.injEq, Prod.mk.injEq] at H
              obtain ⟨rfl, rfl⟩ := H
              go_wp2
              go_ret2
              exact ⟨by first | rfl | (simp [errW_none, errW_some] <;> rfl) | (simp only [← hji11]; first | rfl | (simp [errW_none, errW_some] <;> rfl)) | (simp [*, errW_none, errW_some] <;> rfl), by repeat (first | (with_reducible first | exact HB.out | apply below_alloc | apply pw_below_drewN | apply below_drew1 | refine below_set ?_ GE125.out) | exact HB.out)⟩
             ·rw [if_neg c26] at H
              have c26b0 : decide ((wrap64 (Go.bits .and .u8 (rd l1 (bt a0 0)) 7)) ≤ 2) = false := decide_eq_false c26
              clear c26
              by_cases c27 : 2 < (a0.size : Int)
              ·rw [if_pos c27] at H
               have c27b0 : decide (2 < (a0.size : Int)) = true := decide_eq_true c27
               have c27b1 : decide (2 < a0.size) = true := decide_eq_true (by omega)
               clear c27
               have HC29 := Aside0.mk H
               clear H
               have p28 : 0 ≤ (2 : Int) := (by omega)
               have q28 : 2 < a0.size := (by have : (2 : Int) < (a0.size : Int) := of_decide_eq_true (by first | (with_reducible assumption) | assumption); omega)
               have hx28 : ∀ h : 2 < a0.size, ((a0[2]'h).toNat : Int) = bt a0 2 := bt_at a0 2
               clear p28
               have qi28 : (2 < (a0.size : Int)) = True := eq_true (of_decide_eq_true (by first | (with_reducible assumption) | assumption))
               replace q28 := eq_true q28
               go_upto_region 19 with (fail)
               go_cut [75] (fun v75 wc => ∃ (kq : Nat) (x75_28 : Bool), v75 = .bool x75_28 ∧ Aside0 (utf8_decodeRuneInStringSlow.j1 kq a0 (bt a0 0) (wrap64 (Go.bits .and .u8 (rd l1 (bt a0 0)) 7)) (bt a0 1) (bt a0 2) x75_28 = some (r1, r2)) ∧ Aside0 (kq ≤ kj18) ∧ Aside0 (wc.heap[gb125]? = some (.cells #[.int .u8 ((rd_T55 l2 (ji11)).f0), .int .u8 ((rd_T55 l2 (ji11)).f1)] 55 (0, 0))) ∧ Aside0 (Below w.heap.size w wc))
               case first =>
                have H := HC29.out
                clear HC29
                by_cases c30 : (bt a0 2) < 128
                ·rw [if_pos c30] at H
                 have c30b0 : decide ((bt a0 2) < 128) = true := decide_eq_true c30
                 clear c30
                 (first | rw [c30b0] | (simp only [i64_w, i32_w]; rw [c30b0]) | skip)
                 have H' := Aside0.mk H
                 clear H
                 go_wp2
                 go_meet
                 case rel => exact ⟨_, (true), (by first | rfl | (simp; done) | (simp [*]; done)), H', ⟨by have := HJ18.out; first | omega | exact Nat.le_refl _⟩, ⟨by (with_reducible repeat (first | refine blk_drewN ?_ _ | refine blk_drew ?_ | refine blk_alloc ?_ _)); exact BK125.out⟩, ⟨by repeat (first | (with_reducible first | exact HB.out | apply below_alloc | apply pw_below_drewN | apply below_drew1 | refine below_set ?_ GE125.out) | exact HB.out)⟩⟩
                ·rw [if_neg c30] at H
                 have c30b0 : decide ((bt a0 2) < 128) = false := decide_eq_false c30
                 clear c30
                 (first | rw [c30b0] | (simp only [i64_w, i32_w]; rw [c30b0]) | skip)
                 have H' := Aside0.mk H
                 clear H
                 go_wp2
                 go_meet
                 case rel => exact ⟨_, (decide (191 < (bt a0 2))), (by first | rfl | (simp; done) | (simp [*]; done)), H', ⟨by have := HJ18.out; first | omega | exact Nat.le_refl _⟩, ⟨by (with_reducible repeat (first | refine blk_drewN ?_ _ | refine blk_drew ?_ | refine blk_alloc ?_ _)); exact BK125.out⟩, ⟨by repeat (first | (with_reducible first | exact HB.out | apply below_alloc | apply pw_below_drewN | apply below_drew1 | refine below_set ?_ GE125.out) | exact HB.out)⟩⟩
               case rest =>
                clear HC29
                try clear c1
                try clear p1
                try clear q1
                try clear hx1
                try clear qi1
                try clear c2
                try clear p2
                try clear q2
                try clear hx2
                try clear qi2
                try clear c3
                try clear p3
                try clear c4
                try clear c4b0
                try clear c4b1
                try clear c5
                try clear c5b0
                try clear c5b1
                try clear p6
                try clear q6
                try clear hx6
                try clear qi6
                try clear c7
                try clear c7b0
                try clear c8
                try clear c8b0
                try clear c9
                try clear c9b0
                try clear p10
                try clear q10
                try clear hx10
                try clear qi10
                try clear c12
                try clear c12b0
                try clear p12
                try clear q12
                try clear hx12
                try clear c13
                try clear c13b0
                try clear c14
                try clear c14b0
                try clear c17
                try clear c17b0
                try clear c17b1
                try clear p18
                try clear q18
                try clear hx18
                try clear qi18
                try clear c20
                try clear c22
                try clear c22b0
                try clear c25
                try clear c26
                try clear c26b0
                try clear c27
                try clear c27b0
                try clear c27b1
                try clear p28
                try clear q28
                try clear hx28
                try clear qi28
                try clear c30
                try clear c30b0
                try clear hcz16_0
                try clear hcz16_1
                try clear hcz21_0
                try clear hcz21_1
                try clear hcz23_0
                try clear hcz23_1
                try clear hcz24_0
                try clear hcz24_1
                try clear hfz16_0
                try clear hfz16_1
                try clear hfz21_0
                try clear hfz21_1
                try clear hfz23_0
                try clear hfz23_1
                try clear hfz24_0
                try clear hfz24_1
                try clear hx123_0
                try clear hx124_0
                try clear hx124_1
                try clear p1
                try clear p10
                try clear p12
                try clear p123
                try clear p124
                try clear p18
                try clear p2
                try clear p28
                try clear p3
                try clear p6
                try clear q1
                try clear q10
                try clear q12
                try clear q123
                try clear q124
                try clear q18
                try clear q28
                try clear q6
                obtain ⟨kq, x75_28, rfl, HA, HJ28, BK125, HB⟩ := hcut
                cases kq with
                | zero => exact absurd HA.out (by simp [utf8_decodeRuneInStringSlow.j1])
                | succ kj28 =>
                 have H := HA.out
                 clear HA
                 simp only [utf8_decodeRuneInStringSlow.j1] at H
                 by_cases c31 : x75_28 = true
                 ·subst c31
                  have H1 : (some (65533, 1)) = some (r1, r2) := by rw [if_pos rfl] at H; exact H
                  clear H
                  have H := H1
                  clear H1
                  simp only [Option.some.injEq, Prod.mk.injEq] at H
                  obtain ⟨rfl, rfl⟩ := H
                  go_wp2
                  go_ret2
                  exact ⟨by first | rfl | (simp [errW_none, errW_some] <;> rfl) | (simp only [← hji11]; first | rfl | (simp [errW_none, errW_some] <;> rfl)) | (simp [*, errW_none, errW_some] <;> rfl), by repeat (first | (with_reducible first | exact HB.out | apply below_alloc | apply pw_below_drewN | apply below_drew1 | refine below_set ?_ GE125.out) | exact HB.out)⟩
                 ·replace c31 := Bool.eq_false_iff.mpr c31
                  subst c31
                  have H1 : (if (wrap64 (Go.bits .and .u8 (rd l1 (bt a0 0)) 7)) ≤ 3 then (some (Go.bits .or .i32 (Go.bits .or .i32 (wrap32 ((wrap32 (Go.bits .and .u8 (bt a0 0) 15)) * 4096)) (wrap32 ((wrap32 (Go.bits .and .u8 (bt a0 1) 63)) * 64))) (wrap32 (Go.bits .and .u8 (bt a0 2) 63)), 3)) else (if 3 < (a0.size : Int) then (if (bt a0 3) < 128 then (some (65533, 1)) else (if 191 < (bt a0 3) then (some (65533, 1)) else (some (Go.bits .or .i32 (Go.bits .or .i32 (Go.bits .or .i32 (wrap32 ((wrap32 (Go.bits .and .u8 (bt a0 0) 7)) * 262144)) (wrap32 ((wrap32 (Go.bits .and .u8 (bt a0 1) 63)) * 4096))) (wrap32 ((wrap32 (Go.bits .and .u8 (bt a0 2) 63)) * 64))) (wrap32 (Go.bits .and .u8 (bt a0 3) 63)), 4)))) else (none))) = some (r1, r2) := by rw [if_neg (show ¬ (false = true) by decide)] at H; exact H
                  clear H
                  have H := H1
                  clear H1
                  by_cases c32 : (wrap64 (Go.bits .and .u8 (rd l1 (bt a0 0)) 7)) ≤ 3
                  ·rw [if_pos c32] at H
                   have c32b0 : decide ((wrap64 (Go.bits .and .u8 (rd l1 (bt a0 0)) 7)) ≤ 3) = true := decide_eq_true c32
                   clear c32
                   simp only [Option.some.injEq, Prod.mk.injEq] at H
                   obtain ⟨rfl, rfl⟩ := H
                   go_wp2
                   go_ret2
                   exact ⟨by first | rfl | (simp [errW_none, errW_some] <;> rfl) | (simp only [← hji11]; first | rfl | (simp [errW_none, errW_some] <;> rfl)) | (simp [*, errW_none, errW_some] <;> rfl), by repeat (first | (with_reducible first | exact HB.out | apply below_alloc | apply pw_below_drewN | apply below_drew1 | refine below_set ?_ GE125.out) | exact HB.out)⟩
                  ·rw [if_neg c32] at H
                   have c32b0 : decide ((wrap64 (Go.bits .and .u8 (rd l1 (bt a0 0)) 7)) ≤ 3) = false := decide_eq_false c32
                   clear c32
                   by_cases c33 : 3 < (a0.size : Int)
                   ·rw [if_pos c33] at H
                    have c33b0 : decide (3 < (a0.size : Int)) = true := decide_eq_true c33
                    have c33b1 : decide (3 < a0.size) = true := decide_eq_true (by omega)
                    clear c33
                    by_cases c35 : (bt a0 3) < 128
                    ·rw [if_pos c35] at H
                     have c35b0 : decide ((bt a0 3) < 128) = true := decide_eq_true c35
                     clear c35
                     simp only [Option.some.injEq, Prod.mk.injEq] at H
                     obtain ⟨rfl, rfl⟩ := H
                     have p34 : 0 ≤ (3 : Int) := (by omega)
                     have q34 : 3 < a0.size := (by have : (3 : Int) < (a0.size : Int) := of_decide_eq_true (by first | (with_reducible assumption) | assumption); omega)
                     have hx34 : ∀ h : 3 < a0.size, ((a0[3]'h).toNat : Int) = bt a0 3 := bt_at a0 3
                     clear p34
                     have qi34 : (3 < (a0.size : Int)) = True := eq_true (of_decide_eq_true (by first | (with_reducible assumption) | assumption))
                     replace q34 := eq_true q34
                     go_wp2
                     go_ret2
                     exact ⟨by first | rfl | (simp [errW_none, errW_some] <;> rfl) | (simp only [← hji11]; first | rfl | (simp [errW_none, errW_some] <;> rfl)) | (simp [*, errW_none, errW_some] <;> rfl), by repeat (first | (with_reducible first | exact HB.out | apply below_alloc | apply pw_below_drewN | apply below_drew1 | refine below_set ?_ GE125.out) | exact HB.out)⟩
                    ·rw [if_neg c35] at H
                     have c35b0 : decide ((bt a0 3) < 128) = false := decide_eq_false c35
                     clear c35
                     by_cases c36 : 191 < (bt a0 3)
                     ·rw [if_pos c36] at H
                      have c36b0 : decide (191 < (bt a0 3)) = true := decide_eq_true c36
                      clear c36
                      simp only [Option.some.injEq, Prod.mk.injEq] at H
                      obtain ⟨rfl, rfl⟩ := H
                      have p34 : 0 ≤ (3 : Int) := (by omega)
                      have q34 : 3 < a0.size := (by have : (3 : Int) < (a0.size : Int) := of_decide_eq_true (by first | (with_reducible assumption) | assumption); omega)
                      have hx34 : ∀ h : 3 < a0.size, ((a0[3]'h).toNat : Int) = bt a0 3 := bt_at a0 3
                      clear p34
                      have qi34 : (3 < (a0.size : Int)) = True := eq_true (of_decide_eq_true (by first | (with_reducible assumption) | assumption))
                      replace q34 := eq_true q34
                      go_wp2
                      go_ret2
                      exact ⟨by first | rfl | (simp [errW_none, errW_some] <;> rfl) | (simp only [← hji11]; first | rfl | (simp [errW_none, errW_some] <;> rfl)) | (simp [*, errW_none, errW_some] <;> rfl), by repeat (first | (with_reducible first | exact HB.out | apply below_alloc | apply pw_below_drewN | apply below_drew1 | refine below_set ?_ GE125.out) | exact HB.out)⟩
                     ·rw [if_neg c36] at H
                      have c36b0 : decide (191 < (bt a0 3)) = false := decide_eq_false c36
                      clear c36
                      simp only [Option.some.injEq, Prod.mk.injEq] at H
                      obtain ⟨rfl, rfl⟩ := H
                      have p34 : 0 ≤ (3 : Int) := (by omega)
                      have q34 : 3 < a0.size := (by have : (3 : Int) < (a0.size : Int) := of_decide_eq_true (by first | (with_reducible assumption) | assumption); omega)
                      have hx34 : ∀ h : 3 < a0.size, ((a0[3]'h).toNat : Int) = bt a0 3 := bt_at a0 3
                      clear p34
                      have qi34 : (3 < (a0.size : Int)) = True := eq_true (of_decide_eq_true (by first | (with_reducible assumption) | assumption))
                      replace q34 := eq_true q34
                      go_wp2
                      go_ret2
                      exact ⟨by first | rfl | (simp [errW_none, errW_some] <;> rfl) | (simp only [← hji11]; first | rfl | (simp [errW_none, errW_some] <;> rfl)) | (simp [*, errW_none, errW_some] <;> rfl), by repeat (first | (with_reducible first | exact HB.out | apply below_alloc | apply pw_below_drewN | apply below_drew1 | refine below_set ?_ GE125.out) | exact HB.out)⟩
                   ·rw [if_neg c33] at H
                    exact absurd H (by simp)
              ·rw [if_neg c27] at H
               exact absurd H (by simp)
         ·rw [if_neg c17] at H
          exact absurd H (by simp)
       ·rw [if_neg c13] at H
        exact absurd H (by simp)
      ·rw [if_neg c12] at H
       exact absurd H (by simp)
    ·rw [if_neg c8] at H
     exact absurd H (by simp)
   ·rw [if_neg c7] at H
    exact absurd H (by simp)
  ·rw [if_neg c5] at H
   exact absurd H (by simp)

end Go.Proofs.YtcdghhihfjojaaaDoor.Q
