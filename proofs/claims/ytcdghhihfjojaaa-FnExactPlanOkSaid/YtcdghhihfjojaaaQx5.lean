/- Plain Lean functions with the same answers as the Go functions of this seat, and a proof for each that the Go code comes to just these answers; no condition. Written by a program of this session (the kit's printer, turned). -/
import Derived.Test.YtcdghhihfjojaaaQx0
import Derived.Test.YtcdghhihfjojaaaQx4
namespace Go.Proofs.Ytcdghhihfjojaaa.Q
open Go.RowKit Go.Proofs.YtcdghhihfjojaaaW.PrintWords Go.Proofs.YtcdghhihfjojaaaW.PrintLast Go.Proofs.YtcdghhihfjojaaaW.PrintMore Go.Proofs.YtcdghhihfjojaaaW.PrintFlt
attribute [local go_sem] cmp_lss cmp_leq cmp_gtr cmp_geq cmp_eql cmp_neq flt_l flt_r fgt_l fgt_r feq_l feq_r fne_l fne_r ord_lt ord_gt ord_eq ord_ne conv_int conv_flt foi_fold run_store_flt
attribute [local go_sem] max2_int min2_int max_two min_two max_three min_three max_four min_four   -- for this text's walks alone
set_option linter.unusedVariables false
set_option linter.unusedSimpArgs false

/-! ### spec_l7Fits: function 31 -/
mutual
def spec_l7Fits.l0 : Nat → List (S61) → List Int → Int → Option (Bool)
 | 0, _, _, _ => none
 | k + 1, x0, x1, x5 => if x5 < (x1.length : Int) then (if 0 ≤ x5 then (if (rd x1 x5) ≥ 1 then (spec_l7Fits.j1 k x0 x1 x5 (rd x1 x5) (decide ((rd x1 x5) < 100000))) else (spec_l7Fits.j1 k x0 x1 x5 (rd x1 x5) false)) else (none)) else (some true)
def spec_l7Fits.j1 : Nat → List (S61) → List Int → Int → Int → Bool → Option (Bool)
 | 0, _, _, _, _, _ => none
 | k + 1, x0, x1, x5, x6, x20 => if x20 = true then ((spec_l7Elem.f k x0 x6).bind fun bt115 => (if bt115.2.2.2.2 = true then (spec_l7Fits.l0 k x0 x1 (wrap64 (x5 + 1))) else (some false))) else (if x6 ≥ 101000 then (spec_l7Fits.j2 k x0 x1 x5 x6 (decide (x6 < 200000))) else (spec_l7Fits.j2 k x0 x1 x5 x6 false))
def spec_l7Fits.j2 : Nat → List (S61) → List Int → Int → Int → Bool → Option (Bool)
 | 0, _, _, _, _, _ => none
 | k + 1, x0, x1, x5, x6, x35 => if x35 = true then (if (Int.tmod x6 1000) > 255 then (some false) else (if (wrap64 (x5 + (wrap64 (Int.tdiv (wrap64 (x6 - 100000)) 1000)))) ≥ (x1.length : Int) then (some false) else (if 0 ≤ (wrap64 (x5 + 1)) then (if (wrap64 (x5 + 1)) ≤ (wrap64 ((wrap64 (x5 + 1)) + (wrap64 (Int.tdiv (wrap64 (x6 - 100000)) 1000)))) then (if (wrap64 ((wrap64 (x5 + 1)) + (wrap64 (Int.tdiv (wrap64 (x6 - 100000)) 1000)))) ≤ (x1.length : Int) then ((spec_l7Fits.f k x0 ((x1.take ((wrap64 ((wrap64 (x5 + 1)) + (wrap64 (Int.tdiv (wrap64 (x6 - 100000)) 1000)))) : Int).toNat).drop ((wrap64 (x5 + 1)) : Int).toNat)).bind fun t122 => (if t122 = true then (spec_l7Fits.l0 k x0 x1 (wrap64 ((wrap64 (x5 + (wrap64 (Int.tdiv (wrap64 (x6 - 100000)) 1000)))) + 1))) else (some false))) else (none)) else (none)) else (none)))) else (if x6 ≥ 201000 then (spec_l7Fits.j3 k x0 x1 x5 x6 (decide (x6 < 203000))) else (spec_l7Fits.j3 k x0 x1 x5 x6 false))
def spec_l7Fits.j3 : Nat → List (S61) → List Int → Int → Int → Bool → Option (Bool)
 | 0, _, _, _, _, _ => none
 | k + 1, x0, x1, x5, x6, x72 => if x72 = true then (if (Int.tmod x6 1000) > 255 then (some false) else (spec_l7Fits.l0 k x0 x1 (wrap64 (x5 + 1)))) else (some false)
def spec_l7Fits.f : Nat → List (S61) → List Int → Option (Bool)
 | 0, _, _ => none
 | k + 1, l0, l1 => spec_l7Fits.l0 k l0 l1 0
end
theorem spec_l7Fits.mono_l : ∀ k, (∀ y0 y1, LeO (spec_l7Fits.f k y0 y1) (spec_l7Fits.f (k + 1) y0 y1)) ∧ (∀ y0 y1 y2, LeO (spec_l7Fits.l0 k y0 y1 y2) (spec_l7Fits.l0 (k + 1) y0 y1 y2)) ∧ (∀ y0 y1 y2 y3 y4, LeO (spec_l7Fits.j1 k y0 y1 y2 y3 y4) (spec_l7Fits.j1 (k + 1) y0 y1 y2 y3 y4)) ∧ (∀ y0 y1 y2 y3 y4, LeO (spec_l7Fits.j2 k y0 y1 y2 y3 y4) (spec_l7Fits.j2 (k + 1) y0 y1 y2 y3 y4)) ∧ (∀ y0 y1 y2 y3 y4, LeO (spec_l7Fits.j3 k y0 y1 y2 y3 y4) (spec_l7Fits.j3 (k + 1) y0 y1 y2 y3 y4))
 | 0 => ⟨fun _ _ r h => by simp [spec_l7Fits.f] at h, fun _ _ _ r h => by simp [spec_l7Fits.l0] at h, fun _ _ _ _ _ r h => by simp [spec_l7Fits.j1] at h, fun _ _ _ _ _ r h => by simp [spec_l7Fits.j2] at h, fun _ _ _ _ _ r h => by simp [spec_l7Fits.j3] at h⟩
 | k + 1 => by
  obtain ⟨ih0, ih1, ih2, ih3, ih4⟩ := spec_l7Fits.mono_l k
  refine ⟨?_, ?_, ?_, ?_, ?_⟩
  ·intro y0 y1
   unfold spec_l7Fits.f
   repeat' first
   | (with_reducible exact ih0 _ _)
   | (with_reducible exact ih1 _ _ _)
   | (with_reducible exact ih2 _ _ _ _ _)
   | (with_reducible exact ih3 _ _ _ _ _)
   | (with_reducible exact ih4 _ _ _ _ _)
   | (with_reducible exact spec_l7Elem.mono _ _ _)
   | (with_reducible exact LeO.refl _)
   | (with_reducible exact LeO.none _)
   | (with_reducible refine LeO.ite ?_ ?_)
   | (with_reducible refine LeO.bind ?_ (fun _ => ?_))
   | exact ih0 _ _
   | exact ih1 _ _ _
   | exact ih2 _ _ _ _ _
   | exact ih3 _ _ _ _ _
   | exact ih4 _ _ _ _ _
   | exact spec_l7Elem.mono _ _ _
   | exact LeO.none _
   | refine LeO.ite ?_ ?_
   | refine LeO.bind ?_ (fun _ => ?_)
  ·intro y0 y1 y2
   unfold spec_l7Fits.l0
   repeat' first
   | (with_reducible exact ih0 _ _)
   | (with_reducible exact ih1 _ _ _)
   | (with_reducible exact ih2 _ _ _ _ _)
   | (with_reducible exact ih3 _ _ _ _ _)
   | (with_reducible exact ih4 _ _ _ _ _)
   | (with_reducible exact spec_l7Elem.mono _ _ _)
   | (with_reducible exact LeO.refl _)
   | (with_reducible exact LeO.none _)
   | (with_reducible refine LeO.ite ?_ ?_)
   | (with_reducible refine LeO.bind ?_ (fun _ => ?_))
   | exact ih0 _ _
   | exact ih1 _ _ _
   | exact ih2 _ _ _ _ _
   | exact ih3 _ _ _ _ _
   | exact ih4 _ _ _ _ _
   | exact spec_l7Elem.mono _ _ _
   | exact LeO.none _
   | refine LeO.ite ?_ ?_
   | refine LeO.bind ?_ (fun _ => ?_)
  ·intro y0 y1 y2 y3 y4
   unfold spec_l7Fits.j1
   repeat' first
   | (with_reducible exact ih0 _ _)
   | (with_reducible exact ih1 _ _ _)
   | (with_reducible exact ih2 _ _ _ _ _)
   | (with_reducible exact ih3 _ _ _ _ _)
   | (with_reducible exact ih4 _ _ _ _ _)
   | (with_reducible exact spec_l7Elem.mono _ _ _)
   | (with_reducible exact LeO.refl _)
   | (with_reducible exact LeO.none _)
   | (with_reducible refine LeO.ite ?_ ?_)
   | (with_reducible refine LeO.bind ?_ (fun _ => ?_))
   | exact ih0 _ _
   | exact ih1 _ _ _
   | exact ih2 _ _ _ _ _
   | exact ih3 _ _ _ _ _
   | exact ih4 _ _ _ _ _
   | exact spec_l7Elem.mono _ _ _
   | exact LeO.none _
   | refine LeO.ite ?_ ?_
   | refine LeO.bind ?_ (fun _ => ?_)
  ·intro y0 y1 y2 y3 y4
   unfold spec_l7Fits.j2
   repeat' first
   | (with_reducible exact ih0 _ _)
   | (with_reducible exact ih1 _ _ _)
   | (with_reducible exact ih2 _ _ _ _ _)
   | (with_reducible exact ih3 _ _ _ _ _)
   | (with_reducible exact ih4 _ _ _ _ _)
   | (with_reducible exact spec_l7Elem.mono _ _ _)
   | (with_reducible exact LeO.refl _)
   | (with_reducible exact LeO.none _)
   | (with_reducible refine LeO.ite ?_ ?_)
   | (with_reducible refine LeO.bind ?_ (fun _ => ?_))
   | exact ih0 _ _
   | exact ih1 _ _ _
   | exact ih2 _ _ _ _ _
   | exact ih3 _ _ _ _ _
   | exact ih4 _ _ _ _ _
   | exact spec_l7Elem.mono _ _ _
   | exact LeO.none _
   | refine LeO.ite ?_ ?_
   | refine LeO.bind ?_ (fun _ => ?_)
  ·intro y0 y1 y2 y3 y4
   unfold spec_l7Fits.j3
   repeat' first
   | (with_reducible exact ih0 _ _)
   | (with_reducible exact ih1 _ _ _)
   | (with_reducible exact ih2 _ _ _ _ _)
   | (with_reducible exact ih3 _ _ _ _ _)
   | (with_reducible exact ih4 _ _ _ _ _)
   | (with_reducible exact spec_l7Elem.mono _ _ _)
   | (with_reducible exact LeO.refl _)
   | (with_reducible exact LeO.none _)
   | (with_reducible refine LeO.ite ?_ ?_)
   | (with_reducible refine LeO.bind ?_ (fun _ => ?_))
   | exact ih0 _ _
   | exact ih1 _ _ _
   | exact ih2 _ _ _ _ _
   | exact ih3 _ _ _ _ _
   | exact ih4 _ _ _ _ _
   | exact spec_l7Elem.mono _ _ _
   | exact LeO.none _
   | refine LeO.ite ?_ ?_
   | refine LeO.bind ?_ (fun _ => ?_)
theorem spec_l7Fits.mono : ∀ a0 a1 k, LeO (spec_l7Fits.f k a0 a1) (spec_l7Fits.f (k + 1) a0 a1) := by
 intro a0 a1 k
 obtain ⟨ih0, ih1, ih2, ih3, ih4⟩ := spec_l7Fits.mono_l k
 exact ih0 a0 a1
set_option maxHeartbeats 8000000 in
set_option maxRecDepth 100000 in
theorem spec_l7Fits.calls (k : Nat) : ∀ (A0 : Option Addr) (c0 : Nat) (l0 : List (S61)) (A1 : Option Addr) (c1 : Nat) (l1 : List Int) (r : Bool) (w : World) (hr0 : Kd.C k61 w A0 l0.length l0) (hc0 : l0.length ≤ c0) (hr1 : Kd.C (Kd.int .i64) w A1 l1.length l1) (hc1 : l1.length ≤ c1) (h : spec_l7Fits.f k l0 l1 = some r),
  Calls Try.prog 31 #[.slice A0 l0.length c0, .slice A1 l1.length c1] w fun e w' => e = .returned (.bool r) ∧ Below w.heap.size w w' := by
 induction k using Nat.strongRecOn with
 | _ k ih =>
 intro A0 c0 l0 A1 c1 l1 r w hr0 hc0 hr1 hc1 h
 cases k with
 | zero => exact absurd h (by simp [spec_l7Fits.f])
 | succ k =>
 simp only [spec_l7Fits.f] at h
 have hu61 := Try.underlying61
 have HR0 := Aside0.mk hr0
 have HC0 := Aside0.mk hc0
 clear hr0 hc0
 have HR1 := Aside0.mk hr1
 have HC1 := Aside0.mk hc1
 clear hr1 hc1
 have HB := Aside0.mk (Below.refl w.heap.size w)
 have H : (spec_l7Fits.l0 k l0 l1 0) = some r := h
 clear h
 have H' := Aside0.mk H
 clear H
 go_enter Try.func31, Try.ntmps31
 go_wp2
 go_loopg [5] k (fun kq v5 w' => ∃ (x5_1 : Int), v5 = .int .i64 x5_1 ∧ Aside0 (spec_l7Fits.l0 kq l0 l1 x5_1 = some r) ∧ Aside0 (kq ≤ k) ∧ Aside0 (Below w.heap.size w w'))
 case atStart => exact ⟨(0), (by first | rfl | (simp; done) | (simp [*]; done)), H', ⟨Nat.le_refl _⟩, ⟨by repeat (first | (with_reducible first | exact HB.out | apply below_alloc | apply pw_below_drewN | apply below_drew1) | exact HB.out)⟩⟩
 case round =>
  clear H'
  try clear c1
  try clear p2
  obtain ⟨x5_1, rfl, HA, HK1, HB⟩ := hrel
  cases gk with
  | zero => exact absurd HA.out (by simp [spec_l7Fits.l0])
  | succ k1 =>
   have H := HA.out
   clear HA
   simp only [spec_l7Fits.l0] at H
   by_cases c3 : x5_1 < (l1.length : Int)
   ·rw [if_pos c3] at H
    have c3b0 : decide (x5_1 < (l1.length : Int)) = true := decide_eq_true c3
    clear c3
    by_cases c4 : 0 ≤ x5_1
    ·rw [if_pos c4] at H
     have c4b0 : decide (0 ≤ x5_1) = true := decide_eq_true c4
     clear c4
     have HC5 := Aside0.mk H
     clear H
     have p114 : 0 ≤ (x5_1 : Int) := of_decide_eq_true (by first | (with_reducible assumption) | assumption)
     have q114 : x5_1 < (l1.length : Int) := of_decide_eq_true (by first | (with_reducible assumption) | assumption)
     obtain ⟨ad114, e114, hx114_0⟩ := Kd.at_int HR1.out x5_1 p114 q114
     cases e114
     replace hx114_0 := (HB.out.cell (World.block_lt_of_cell? w _ hx114_0)).trans hx114_0
     replace p114 := eq_true p114
     replace q114 := eq_true q114
     go_upto_region 6 with (fail)
     go_cut [20] (fun v20 wc => ∃ (kq : Nat) (x20_4 : Bool), v20 = .bool x20_4 ∧ Aside0 (spec_l7Fits.j1 kq l0 l1 x5_1 (rd l1 x5_1) x20_4 = some r) ∧ Aside0 (kq ≤ k1) ∧ Aside0 (Below w.heap.size w wc))
     case first =>
      have H := HC5.out
      clear HC5
      by_cases c6 : (rd l1 x5_1) ≥ 1
      ·rw [if_pos c6] at H
       have c6b0 : decide (1 ≤ (rd l1 x5_1)) = true := decide_eq_true c6
       clear c6
       (first | rw [c6b0] | (simp only [i64_w, i32_w]; rw [c6b0]) | skip)
       have H' := Aside0.mk H
       clear H
       go_wp2
       go_meet
       case rel => exact ⟨_, (decide ((rd l1 x5_1) < 100000)), (by first | rfl | (simp; done) | (simp [*]; done)), H', ⟨by have := HK1.out; first | omega | exact Nat.le_refl _⟩, ⟨by repeat (first | (with_reducible first | exact HB.out | apply below_alloc | apply pw_below_drewN | apply below_drew1) | exact HB.out)⟩⟩
      ·rw [if_neg c6] at H
       have c6b0 : decide (1 ≤ (rd l1 x5_1)) = false := decide_eq_false c6
       clear c6
       (first | rw [c6b0] | (simp only [i64_w, i32_w]; rw [c6b0]) | skip)
       have H' := Aside0.mk H
       clear H
       go_wp2
       go_meet
       case rel => exact ⟨_, (false), (by first | rfl | (simp; done) | (simp [*]; done)), H', ⟨by have := HK1.out; first | omega | exact Nat.le_refl _⟩, ⟨by repeat (first | (with_reducible first | exact HB.out | apply below_alloc | apply pw_below_drewN | apply below_drew1) | exact HB.out)⟩⟩
     case rest =>
      clear HC5
      try clear c1
      try clear p1
      try clear q1
      try clear hx1
      try clear p2
      try clear c3
      try clear c3b0
      try clear c4
      try clear c4b0
      try clear c6
      try clear c6b0
      try clear hx114_0
      try clear p114
      try clear p2
      try clear q114
      obtain ⟨kq, x20_4, rfl, HA, HJ4, HB⟩ := hcut
      cases kq with
      | zero => exact absurd HA.out (by simp [spec_l7Fits.j1])
      | succ kj4 =>
       have H := HA.out
       clear HA
       simp only [spec_l7Fits.j1] at H
       by_cases c7 : x20_4 = true
       ·subst c7
        have H1 : ((spec_l7Elem.f kj4 l0 (rd l1 x5_1)).bind fun bt115 => (if bt115.2.2.2.2 = true then (spec_l7Fits.l0 kj4 l0 l1 (wrap64 (x5_1 + 1))) else (some false))) = some r := by rw [if_pos rfl] at H; exact H
        clear H
        have H := H1
        clear H1
        replace H := Option.bind_eq_some_iff.mp H
        obtain ⟨⟨t115, t116, t117, t118, t119⟩, A80, H⟩ := H
        replace H : (if t119 = true then (spec_l7Fits.l0 kj4 l0 l1 (wrap64 (x5_1 + 1))) else (some false)) = some r := H
        have A8 := Aside0.mk A80
        clear A80
        by_cases c9 : t119 = true
        ·subst c9
         have H1 : (spec_l7Fits.l0 kj4 l0 l1 (wrap64 (x5_1 + 1))) = some r := by rw [if_pos rfl] at H; exact H
         clear H
         have H := H1
         clear H1
         have H' := Aside0.mk H
         clear H
         go_wp2_with (first | ((with_reducible refine gate_callee (f := 53) rfl ?_); refine goesL_ (some 30) rfl rfl Try.func53 (by kernel_rfl) rfl #[.slice A0 l0.length c0, .int .i64 (rd l1 x5_1)] rfl (by (try simp only [List.map_toArray, List.map_cons, List.map_nil]); first | done | rfl | (simp only [List.length_drop, List.length_take]; rfl)) ?_; (with_reducible refine (spec_l7Elem.calls kj4 _ _ l0 (rd l1 x5_1) t115 t116 t117 t118 true _ ?side1 ?side2 A8.out).mono ?_); (case side1 => repeat (first | exact (Kd.C_below HR0.out HB.out) | (with_reducible refine Kd.C_alloc ?_ _) | (with_reducible refine Kd.C_drewN ?_ _) | (with_reducible refine Kd.C_drew ?_))); (case side2 => exact HC0.out); rintro e w10 ⟨rfl, hb⟩; refine ⟨_, rfl, ?_⟩; have n0_ := Aside0.mk (below_step (by repeat (first | (with_reducible first | exact HB.out | apply below_alloc | apply pw_below_drewN | apply below_drew1) | exact HB.out)) hb); clear HB; have HB := n0_; clear n0_; (try clear hb); (try clear hb2); (try clear hk); (try clear hi)) | ((with_reducible refine gate_dst (N := 7) rfl ?_); (try (refine gate_guard (by rfl) ?_; dsimp only)); refine box_event ?hg (N := 7) ?hd (cs := #[.int .i64 0, .int .i64 0, .int .i64 0, .int .i64 0]) (t := 61) ?hr ?_; (case hd => rfl); (case hg => rfl); (case hr => first | (go_simp; done) | (go_simp; rfl)); intro gb120 hg w11 hbox hb; have n0_ := Aside0.mk (below_step (by repeat (first | (with_reducible first | exact HB.out | apply below_alloc | apply pw_below_drewN | apply below_drew1) | exact HB.out)) hb); have n1_ := Aside0.mk (hbox); have n2_ := Aside0.mk ((by rw [hg]; exact (below_size (by repeat (first | (with_reducible first | exact HB.out | apply below_alloc | apply pw_below_drewN | apply below_drew1) | exact HB.out))) : w.heap.size ≤ gb120)); have n3_ := Aside0.mk ((by rw [hg]; exact (below_size (by repeat (first | (with_reducible first | exact HB.out | apply below_alloc | apply pw_below_drewN | apply below_drew1) | exact HB.out))) : w.heap.size ≤ gb120)); clear HB; have HB := n0_; have BK120 := n1_; have GW120 := n2_; have GE120 := n3_; clear n0_ n1_ n2_ n3_; clear hb hbox hg; have hcz12_0 : w11.cell? ⟨gb120, 0, none⟩ = some (.int .i64 0) := (blk_cell BK120.out 0).trans rfl; have hcz12_1 : w11.cell? ⟨gb120, 1, none⟩ = some (.int .i64 0) := (blk_cell BK120.out 1).trans rfl; have hcz12_2 : w11.cell? ⟨gb120, 2, none⟩ = some (.int .i64 0) := (blk_cell BK120.out 2).trans rfl; have hcz12_3 : w11.cell? ⟨gb120, 3, none⟩ = some (.int .i64 0) := (blk_cell BK120.out 3).trans rfl; have hfz12_0 := blk_frozen BK120.out 0; have hfz12_1 := blk_frozen BK120.out 1; have hfz12_2 := blk_frozen BK120.out 2; have hfz12_3 := blk_frozen BK120.out 3))
         go_roundg kj4
         case measure => have := HK1.out; have := HJ4.out; omega
         case rel => exact ⟨(wrap64 (x5_1 + 1)), (by first | rfl | (simp; done) | (simp [*]; done)), H', ⟨by have := HK1.out; have := HJ4.out; omega⟩, ⟨by repeat (first | (with_reducible first | exact HB.out | apply below_alloc | apply pw_below_drewN | apply below_drew1 | refine below_set ?_ GE120.out) | exact HB.out)⟩⟩
        ·replace c9 := Bool.eq_false_iff.mpr c9
         subst c9
         have H1 : (some false) = some r := by rw [if_neg (show ¬ (false = true) by decide)] at H; exact H
         clear H
         have H := H1
         clear H1
         obtain rfl := Option.some.inj H
         go_wp2_with (first | ((with_reducible refine gate_callee (f := 53) rfl ?_); refine goesL_ (some 30) rfl rfl Try.func53 (by kernel_rfl) rfl #[.slice A0 l0.length c0, .int .i64 (rd l1 x5_1)] rfl (by (try simp only [List.map_toArray, List.map_cons, List.map_nil]); first | done | rfl | (simp only [List.length_drop, List.length_take]; rfl)) ?_; (with_reducible refine (spec_l7Elem.calls kj4 _ _ l0 (rd l1 x5_1) t115 t116 t117 t118 false _ ?side1 ?side2 A8.out).mono ?_); (case side1 => repeat (first | exact (Kd.C_below HR0.out HB.out) | (with_reducible refine Kd.C_alloc ?_ _) | (with_reducible refine Kd.C_drewN ?_ _) | (with_reducible refine Kd.C_drew ?_))); (case side2 => exact HC0.out); rintro e w13 ⟨rfl, hb⟩; refine ⟨_, rfl, ?_⟩; have n0_ := Aside0.mk (below_step (by repeat (first | (with_reducible first | exact HB.out | apply below_alloc | apply pw_below_drewN | apply below_drew1) | exact HB.out)) hb); clear HB; have HB := n0_; clear n0_; (try clear hb); (try clear hb2); (try clear hk); (try clear hi)) | ((with_reducible refine gate_dst (N := 7) rfl ?_); (try (refine gate_guard (by rfl) ?_; dsimp only)); refine box_event ?hg (N := 7) ?hd (cs := #[.int .i64 0, .int .i64 0, .int .i64 0, .int .i64 0]) (t := 61) ?hr ?_; (case hd => rfl); (case hg => rfl); (case hr => first | (go_simp; done) | (go_simp; rfl)); intro gb120 hg w14 hbox hb; have n0_ := Aside0.mk (below_step (by repeat (first | (with_reducible first | exact HB.out | apply below_alloc | apply pw_below_drewN | apply below_drew1) | exact HB.out)) hb); have n1_ := Aside0.mk (hbox); have n2_ := Aside0.mk ((by rw [hg]; exact (below_size (by repeat (first | (with_reducible first | exact HB.out | apply below_alloc | apply pw_below_drewN | apply below_drew1) | exact HB.out))) : w.heap.size ≤ gb120)); have n3_ := Aside0.mk ((by rw [hg]; exact (below_size (by repeat (first | (with_reducible first | exact HB.out | apply below_alloc | apply pw_below_drewN | apply below_drew1) | exact HB.out))) : w.heap.size ≤ gb120)); clear HB; have HB := n0_; have BK120 := n1_; have GW120 := n2_; have GE120 := n3_; clear n0_ n1_ n2_ n3_; clear hb hbox hg; have hcz15_0 : w14.cell? ⟨gb120, 0, none⟩ = some (.int .i64 0) := (blk_cell BK120.out 0).trans rfl; have hcz15_1 : w14.cell? ⟨gb120, 1, none⟩ = some (.int .i64 0) := (blk_cell BK120.out 1).trans rfl; have hcz15_2 : w14.cell? ⟨gb120, 2, none⟩ = some (.int .i64 0) := (blk_cell BK120.out 2).trans rfl; have hcz15_3 : w14.cell? ⟨gb120, 3, none⟩ = some (.int .i64 0) := (blk_cell BK120.out 3).trans rfl; have hfz15_0 := blk_frozen BK120.out 0; have hfz15_1 := blk_frozen BK120.out 1; have hfz15_2 := blk_frozen BK120.out 2; have hfz15_3 := blk_frozen BK120.out 3))
         go_ret
         exact ⟨by first | rfl | (simp [errW_none, errW_some] <;> rfl) | (simp [*, errW_none, errW_some] <;> rfl), by repeat (first | (with_reducible first | exact HB.out | apply below_alloc | apply pw_below_drewN | apply below_drew1 | refine below_set ?_ GE120.out) | exact HB.out)⟩
       ·replace c7 := Bool.eq_false_iff.mpr c7
        subst c7
        have H1 : (if (rd l1 x5_1) ≥ 101000 then (spec_l7Fits.j2 kj4 l0 l1 x5_1 (rd l1 x5_1) (decide ((rd l1 x5_1) < 200000))) else (spec_l7Fits.j2 kj4 l0 l1 x5_1 (rd l1 x5_1) false)) = some r := by rw [if_neg (show ¬ (false = true) by decide)] at H; exact H
        clear H
        have H := H1
        clear H1
        have HC16 := Aside0.mk H
        clear H
        go_upto_region 10 with (fail)
        go_cut [35] (fun v35 wc => ∃ (kq : Nat) (x35_15 : Bool), v35 = .bool x35_15 ∧ Aside0 (spec_l7Fits.j2 kq l0 l1 x5_1 (rd l1 x5_1) x35_15 = some r) ∧ Aside0 (kq ≤ kj4) ∧ Aside0 (Below w.heap.size w wc))
        case first =>
         have H := HC16.out
         clear HC16
         by_cases c17 : (rd l1 x5_1) ≥ 101000
         ·rw [if_pos c17] at H
          have c17b0 : decide (101000 ≤ (rd l1 x5_1)) = true := decide_eq_true c17
          clear c17
          (first | rw [c17b0] | (simp only [i64_w, i32_w]; rw [c17b0]) | skip)
          have H' := Aside0.mk H
          clear H
          go_wp2
          go_meet
          case rel => exact ⟨_, (decide ((rd l1 x5_1) < 200000)), (by first | rfl | (simp; done) | (simp [*]; done)), H', ⟨by have := HK1.out; have := HJ4.out; first | omega | exact Nat.le_refl _⟩, ⟨by repeat (first | (with_reducible first | exact HB.out | apply below_alloc | apply pw_below_drewN | apply below_drew1) | exact HB.out)⟩⟩
         ·rw [if_neg c17] at H
          have c17b0 : decide (101000 ≤ (rd l1 x5_1)) = false := decide_eq_false c17
          clear c17
          (first | rw [c17b0] | (simp only [i64_w, i32_w]; rw [c17b0]) | skip)
          have H' := Aside0.mk H
          clear H
          go_wp2
          go_meet
          case rel => exact ⟨_, (false), (by first | rfl | (simp; done) | (simp [*]; done)), H', ⟨by have := HK1.out; have := HJ4.out; first | omega | exact Nat.le_refl _⟩, ⟨by repeat (first | (with_reducible first | exact HB.out | apply below_alloc | apply pw_below_drewN | apply below_drew1) | exact HB.out)⟩⟩
        case rest =>
         clear HC16
         try clear c1
         try clear p1
         try clear q1
         try clear hx1
         try clear p2
         try clear c3
         try clear c3b0
         try clear c4
         try clear c4b0
         try clear c5
         try clear c6
         try clear c6b0
         try clear p6
         try clear c7
         try clear c9
         try clear p11
         try clear q11
         try clear hx11
         try clear c17
         try clear c17b0
         try clear hcz12_0
         try clear hcz12_1
         try clear hcz12_2
         try clear hcz12_3
         try clear hcz15_0
         try clear hcz15_1
         try clear hcz15_2
         try clear hcz15_3
         try clear hfz12_0
         try clear hfz12_1
         try clear hfz12_2
         try clear hfz12_3
         try clear hfz15_0
         try clear hfz15_1
         try clear hfz15_2
         try clear hfz15_3
         try clear hx114_0
         try clear p1
         try clear p114
         try clear p2
         try clear q1
         try clear q114
         obtain ⟨kq, x35_15, rfl, HA, HJ15, HB⟩ := hcut
         cases kq with
         | zero => exact absurd HA.out (by simp [spec_l7Fits.j2])
         | succ kj15 =>
          have H := HA.out
          clear HA
          simp only [spec_l7Fits.j2] at H
          by_cases c18 : x35_15 = true
          ·subst c18
           have H1 : (if (Int.tmod (rd l1 x5_1) 1000) > 255 then (some false) else (if (wrap64 (x5_1 + (wrap64 (Int.tdiv (wrap64 ((rd l1 x5_1) - 100000)) 1000)))) ≥ (l1.length : Int) then (some false) else (if 0 ≤ (wrap64 (x5_1 + 1)) then (if (wrap64 (x5_1 + 1)) ≤ (wrap64 ((wrap64 (x5_1 + 1)) + (wrap64 (Int.tdiv (wrap64 ((rd l1 x5_1) - 100000)) 1000)))) then (if (wrap64 ((wrap64 (x5_1 + 1)) + (wrap64 (Int.tdiv (wrap64 ((rd l1 x5_1) - 100000)) 1000)))) ≤ (l1.length : Int) then ((spec_l7Fits.f kj15 l0 ((l1.take ((wrap64 ((wrap64 (x5_1 + 1)) + (wrap64 (Int.tdiv (wrap64 ((rd l1 x5_1) - 100000)) 1000)))) : Int).toNat).drop ((wrap64 (x5_1 + 1)) : Int).toNat)).bind fun t122 => (if t122 = true then (spec_l7Fits.l0 kj15 l0 l1 (wrap64 ((wrap64 (x5_1 + (wrap64 (Int.tdiv (wrap64 ((rd l1 x5_1) - 100000)) 1000)))) + 1))) else (some false))) else (none)) else (none)) else (none)))) = some r := by rw [if_pos rfl] at H; exact H
           clear H
           have H := H1
           clear H1
           by_cases c19 : (Int.tmod (rd l1 x5_1) 1000) > 255
           ·rw [if_pos c19] at H
            have c19b0 : decide (255 < (Int.tmod (rd l1 x5_1) 1000)) = true := decide_eq_true c19
            clear c19
            obtain rfl := Option.some.inj H
            go_wp2
            go_ret
            exact ⟨by first | rfl | (simp [errW_none, errW_some] <;> rfl) | (simp [*, errW_none, errW_some] <;> rfl), by repeat (first | (with_reducible first | exact HB.out | apply below_alloc | apply pw_below_drewN | apply below_drew1) | exact HB.out)⟩
           ·rw [if_neg c19] at H
            have c19b0 : decide (255 < (Int.tmod (rd l1 x5_1) 1000)) = false := decide_eq_false c19
            clear c19
            by_cases c20 : (wrap64 (x5_1 + (wrap64 (Int.tdiv (wrap64 ((rd l1 x5_1) - 100000)) 1000)))) ≥ (l1.length : Int)
            ·rw [if_pos c20] at H
             have c20b0 : decide ((l1.length : Int) ≤ (wrap64 (x5_1 + (wrap64 (Int.tdiv (wrap64 ((rd l1 x5_1) - 100000)) 1000))))) = true := decide_eq_true c20
             clear c20
             obtain rfl := Option.some.inj H
             go_wp2
             go_ret
             exact ⟨by first | rfl | (simp [errW_none, errW_some] <;> rfl) | (simp [*, errW_none, errW_some] <;> rfl), by repeat (first | (with_reducible first | exact HB.out | apply below_alloc | apply pw_below_drewN | apply below_drew1) | exact HB.out)⟩
            ·rw [if_neg c20] at H
             have c20b0 : decide ((l1.length : Int) ≤ (wrap64 (x5_1 + (wrap64 (Int.tdiv (wrap64 ((rd l1 x5_1) - 100000)) 1000))))) = false := decide_eq_false c20
             clear c20
             obtain ⟨ji21, hji21⟩ : ∃ j_ : Int, (wrap64 (x5_1 + 1)) = j_ := ⟨_, rfl⟩
             replace H : (if 0 ≤ (ji21) then (if (ji21) ≤ (wrap64 ((ji21) + (wrap64 (Int.tdiv (wrap64 ((rd l1 x5_1) - 100000)) 1000)))) then (if (wrap64 ((ji21) + (wrap64 (Int.tdiv (wrap64 ((rd l1 x5_1) - 100000)) 1000)))) ≤ (l1.length : Int) then ((spec_l7Fits.f kj15 l0 ((l1.take ((wrap64 ((ji21) + (wrap64 (Int.tdiv (wrap64 ((rd l1 x5_1) - 100000)) 1000)))) : Int).toNat).drop ((ji21) : Int).toNat)).bind fun t122 => (if t122 = true then (spec_l7Fits.l0 kj15 l0 l1 (wrap64 ((wrap64 (x5_1 + (wrap64 (Int.tdiv (wrap64 ((rd l1 x5_1) - 100000)) 1000)))) + 1))) else (some false))) else (none)) else (none)) else (none)) = some r := by first | (rw [hji21] at H; exact H) | (simp only [hji21] at H ⊢; exact H)
             have hji21w : (IntKind.i64.wrap (x5_1 + 1)) = ji21 := (i64_w _).trans hji21
             by_cases c22 : 0 ≤ (ji21)
             ·rw [if_pos c22] at H
              have c22b0 := eq_true c22
              have c22b1 : decide (0 ≤ (ji21)) = true := decide_eq_true c22
              clear c22
              by_cases c23 : (ji21) ≤ (wrap64 ((ji21) + (wrap64 (Int.tdiv (wrap64 ((rd l1 x5_1) - 100000)) 1000))))
              ·rw [if_pos c23] at H
               have c23b0 := eq_true c23
               have c23b1 : decide ((ji21) ≤ (wrap64 ((ji21) + (wrap64 (Int.tdiv (wrap64 ((rd l1 x5_1) - 100000)) 1000))))) = true := decide_eq_true c23
               by_cases c24 : (wrap64 ((ji21) + (wrap64 (Int.tdiv (wrap64 ((rd l1 x5_1) - 100000)) 1000)))) ≤ (l1.length : Int)
               ·rw [if_pos c24] at H
                have c24b0 := eq_true c24
                have c24b1 : decide ((wrap64 ((ji21) + (wrap64 (Int.tdiv (wrap64 ((rd l1 x5_1) - 100000)) 1000)))) ≤ (l1.length : Int)) = true := decide_eq_true c24
                replace H := Option.bind_eq_some_iff.mp H
                obtain ⟨t122, A250, H⟩ := H
                replace H : (if t122 = true then (spec_l7Fits.l0 kj15 l0 l1 (wrap64 ((wrap64 (x5_1 + (wrap64 (Int.tdiv (wrap64 ((rd l1 x5_1) - 100000)) 1000)))) + 1))) else (some false)) = some r := H
                have A25 := Aside0.mk A250
                clear A250
                by_cases c26 : t122 = true
                ·subst c26
                 have H1 : (spec_l7Fits.l0 kj15 l0 l1 (wrap64 ((wrap64 (x5_1 + (wrap64 (Int.tdiv (wrap64 ((rd l1 x5_1) - 100000)) 1000)))) + 1))) = some r := by rw [if_pos rfl] at H; exact H
                 clear H
                 have H := H1
                 clear H1
                 have H' := Aside0.mk H
                 clear H
                 obtain ⟨i027, hi027, _, hsz27, _⟩ := info_parts info2
                 obtain ⟨A27, hcut27, hA27, hC27⟩ := print_mid_of (P := Try.prog) (Value.int .i64) 0 23 2 .i64 .i64 Try.underlying23 hi027 hsz27 (some ad114) c1 l1 (ji21) (wrap64 ((ji21) + (wrap64 (Int.tdiv (wrap64 ((rd l1 x5_1) - 100000)) 1000)))) (of_decide_eq_true (by first | (with_reducible assumption) | assumption)) (by first | omega | exact of_decide_eq_true (by first | (with_reducible assumption) | assumption)) (of_decide_eq_true (by first | (with_reducible assumption) | assumption)) HC1.out
                 have HR121 := Aside0.mk (Kd.C_of_reads (h1 := fun _ => rfl) (hA27 _ (Kd.reads_of_C HR1.out)))
                 have HC121 := Aside0.mk hC27
                 clear hA27 hC27 hi027 hsz27
                 go_wp2_with (first | (go_at_call 31; (have hE_ : ((wrap64 ((ji21) + (wrap64 (Int.tdiv (wrap64 ((rd l1 x5_1) - 100000)) 1000)))) : Int) ≤ (l1.length : Int) := of_decide_eq_true (by first | (with_reducible assumption) | assumption)); (rw [show (((wrap64 ((ji21) + (wrap64 (Int.tdiv (wrap64 ((rd l1 x5_1) - 100000)) 1000)))) : Int)).toNat - (((ji21) : Int)).toNat = (((l1.take ((wrap64 ((ji21) + (wrap64 (Int.tdiv (wrap64 ((rd l1 x5_1) - 100000)) 1000)))) : Int).toNat).drop ((ji21) : Int).toNat)).length from by rw [List.length_drop, List.length_take]; congr 1; omega]); (with_reducible refine (ih kj15 (by have := HK1.out; have := HJ4.out; have := HJ15.out; omega) _ _ l0 _ _ ((l1.take ((wrap64 ((ji21) + (wrap64 (Int.tdiv (wrap64 ((rd l1 x5_1) - 100000)) 1000)))) : Int).toNat).drop ((ji21) : Int).toNat) true _ ?side1 ?side2 ?side3 ?side4 A25.out).mono ?_); (case side1 => repeat (first | exact (Kd.C_below HR0.out HB.out) | (with_reducible refine Kd.C_alloc ?_ _) | (with_reducible refine Kd.C_drewN ?_ _) | (with_reducible refine Kd.C_drew ?_))); (case side2 => exact HC0.out); (case side3 => repeat (first | exact (Kd.C_below HR121.out HB.out) | (with_reducible refine Kd.C_alloc ?_ _) | (with_reducible refine Kd.C_drewN ?_ _) | (with_reducible refine Kd.C_drew ?_))); (case side4 => exact HC121.out); rintro e w28 ⟨rfl, hb⟩; have n0_ := Aside0.mk (below_step (by repeat (first | (with_reducible first | exact HB.out | apply below_alloc | apply pw_below_drewN | apply below_drew1) | exact HB.out)) hb); clear HB; have HB := n0_; clear n0_; (try clear hb); (try clear hb2); (try clear hk); (try clear hi)))
                 go_roundg kj15
                 case measure => have := HK1.out; have := HJ4.out; have := HJ15.out; omega
                 case rel => exact ⟨(wrap64 ((wrap64 (x5_1 + (wrap64 (Int.tdiv (wrap64 ((rd l1 x5_1) - 100000)) 1000)))) + 1)), (by first | rfl | (simp; done) | (simp [*]; done)), H', ⟨by have := HK1.out; have := HJ4.out; have := HJ15.out; omega⟩, ⟨by repeat (first | (with_reducible first | exact HB.out | apply below_alloc | apply pw_below_drewN | apply below_drew1) | exact HB.out)⟩⟩
                ·replace c26 := Bool.eq_false_iff.mpr c26
                 subst c26
                 have H1 : (some false) = some r := by rw [if_neg (show ¬ (false = true) by decide)] at H; exact H
                 clear H
                 have H := H1
                 clear H1
                 obtain rfl := Option.some.inj H
                 obtain ⟨i029, hi029, _, hsz29, _⟩ := info_parts info2
                 obtain ⟨A29, hcut29, hA29, hC29⟩ := print_mid_of (P := Try.prog) (Value.int .i64) 0 23 2 .i64 .i64 Try.underlying23 hi029 hsz29 (some ad114) c1 l1 (ji21) (wrap64 ((ji21) + (wrap64 (Int.tdiv (wrap64 ((rd l1 x5_1) - 100000)) 1000)))) (of_decide_eq_true (by first | (with_reducible assumption) | assumption)) (by first | omega | exact of_decide_eq_true (by first | (with_reducible assumption) | assumption)) (of_decide_eq_true (by first | (with_reducible assumption) | assumption)) HC1.out
                 have HR121 := Aside0.mk (Kd.C_of_reads (h1 := fun _ => rfl) (hA29 _ (Kd.reads_of_C HR1.out)))
                 have HC121 := Aside0.mk hC29
                 clear hA29 hC29 hi029 hsz29
                 go_wp2_with (first | (go_at_call 31; (have hE_ : ((wrap64 ((ji21) + (wrap64 (Int.tdiv (wrap64 ((rd l1 x5_1) - 100000)) 1000)))) : Int) ≤ (l1.length : Int) := of_decide_eq_true (by first | (with_reducible assumption) | assumption)); (rw [show (((wrap64 ((ji21) + (wrap64 (Int.tdiv (wrap64 ((rd l1 x5_1) - 100000)) 1000)))) : Int)).toNat - (((ji21) : Int)).toNat = (((l1.take ((wrap64 ((ji21) + (wrap64 (Int.tdiv (wrap64 ((rd l1 x5_1) - 100000)) 1000)))) : Int).toNat).drop ((ji21) : Int).toNat)).length from by rw [List.length_drop, List.length_take]; congr 1; omega]); (with_reducible refine (ih kj15 (by have := HK1.out; have := HJ4.out; have := HJ15.out; omega) _ _ l0 _ _ ((l1.take ((wrap64 ((ji21) + (wrap64 (Int.tdiv (wrap64 ((rd l1 x5_1) - 100000)) 1000)))) : Int).toNat).drop ((ji21) : Int).toNat) false _ ?side1 ?side2 ?side3 ?side4 A25.out).mono ?_); (case side1 => repeat (first | exact (Kd.C_below HR0.out HB.out) | (with_reducible refine Kd.C_alloc ?_ _) | (with_reducible refine Kd.C_drewN ?_ _) | (with_reducible refine Kd.C_drew ?_))); (case side2 => exact HC0.out); (case side3 => repeat (first | exact (Kd.C_below HR121.out HB.out) | (with_reducible refine Kd.C_alloc ?_ _) | (with_reducible refine Kd.C_drewN ?_ _) | (with_reducible refine Kd.C_drew ?_))); (case side4 => exact HC121.out); rintro e w30 ⟨rfl, hb⟩; have n0_ := Aside0.mk (below_step (by repeat (first | (with_reducible first | exact HB.out | apply below_alloc | apply pw_below_drewN | apply below_drew1) | exact HB.out)) hb); clear HB; have HB := n0_; clear n0_; (try clear hb); (try clear hb2); (try clear hk); (try clear hi)))
                 go_ret
                 exact ⟨by first | rfl | (simp [errW_none, errW_some] <;> rfl) | (simp only [← hji21]; first | rfl | (simp [errW_none, errW_some] <;> rfl)) | (simp [*, errW_none, errW_some] <;> rfl), by repeat (first | (with_reducible first | exact HB.out | apply below_alloc | apply pw_below_drewN | apply below_drew1) | exact HB.out)⟩
               ·rw [if_neg c24] at H
                exact absurd H (by simp)
              ·rw [if_neg c23] at H
               exact absurd H (by simp)
             ·rw [if_neg c22] at H
              exact absurd H (by simp)
          ·replace c18 := Bool.eq_false_iff.mpr c18
           subst c18
           have H1 : (if (rd l1 x5_1) ≥ 201000 then (spec_l7Fits.j3 kj15 l0 l1 x5_1 (rd l1 x5_1) (decide ((rd l1 x5_1) < 203000))) else (spec_l7Fits.j3 kj15 l0 l1 x5_1 (rd l1 x5_1) false)) = some r := by rw [if_neg (show ¬ (false = true) by decide)] at H; exact H
           clear H
           have H := H1
           clear H1
           have HC31 := Aside0.mk H
           clear H
           go_upto_region 15 with (fail)
           go_cut [72] (fun v72 wc => ∃ (kq : Nat) (x72_30 : Bool), v72 = .bool x72_30 ∧ Aside0 (spec_l7Fits.j3 kq l0 l1 x5_1 (rd l1 x5_1) x72_30 = some r) ∧ Aside0 (kq ≤ kj15) ∧ Aside0 (Below w.heap.size w wc))
           case first =>
            have H := HC31.out
            clear HC31
            by_cases c32 : (rd l1 x5_1) ≥ 201000
            ·rw [if_pos c32] at H
             have c32b0 : decide (201000 ≤ (rd l1 x5_1)) = true := decide_eq_true c32
             clear c32
             (first | rw [c32b0] | (simp only [i64_w, i32_w]; rw [c32b0]) | skip)
             have H' := Aside0.mk H
             clear H
             go_wp2
             go_meet
             case rel => exact ⟨_, (decide ((rd l1 x5_1) < 203000)), (by first | rfl | (simp; done) | (simp [*]; done)), H', ⟨by have := HK1.out; have := HJ4.out; have := HJ15.out; first | omega | exact Nat.le_refl _⟩, ⟨by repeat (first | (with_reducible first | exact HB.out | apply below_alloc | apply pw_below_drewN | apply below_drew1) | exact HB.out)⟩⟩
            ·rw [if_neg c32] at H
             have c32b0 : decide (201000 ≤ (rd l1 x5_1)) = false := decide_eq_false c32
             clear c32
             (first | rw [c32b0] | (simp only [i64_w, i32_w]; rw [c32b0]) | skip)
             have H' := Aside0.mk H
             clear H
             go_wp2
             go_meet
             case rel => exact ⟨_, (false), (by first | rfl | (simp; done) | (simp [*]; done)), H', ⟨by have := HK1.out; have := HJ4.out; have := HJ15.out; first | omega | exact Nat.le_refl _⟩, ⟨by repeat (first | (with_reducible first | exact HB.out | apply below_alloc | apply pw_below_drewN | apply below_drew1) | exact HB.out)⟩⟩
           case rest =>
            clear HC31
            try clear c1
            try clear p1
            try clear q1
            try clear hx1
            try clear c2
            try clear p2
            try clear c3
            try clear c3b0
            try clear c4
            try clear c4b0
            try clear c5
            try clear c6
            try clear c6b0
            try clear p6
            try clear c7
            try clear c9
            try clear p11
            try clear q11
            try clear hx11
            try clear c17
            try clear c17b0
            try clear c18
            try clear c19
            try clear c19b0
            try clear c20
            try clear c20b0
            try clear c22
            try clear c22b0
            try clear c22b1
            try clear c23
            try clear c23b0
            try clear c23b1
            try clear c24
            try clear c24b0
            try clear c24b1
            try clear c26
            try clear c31
            try clear c32
            try clear c32b0
            try clear hcz12_0
            try clear hcz12_1
            try clear hcz12_2
            try clear hcz12_3
            try clear hcz15_0
            try clear hcz15_1
            try clear hcz15_2
            try clear hcz15_3
            try clear hfz12_0
            try clear hfz12_1
            try clear hfz12_2
            try clear hfz12_3
            try clear hfz15_0
            try clear hfz15_1
            try clear hfz15_2
            try clear hfz15_3
            try clear hx114_0
            try clear p1
            try clear p11
            try clear p114
            try clear p2
            try clear p6
            try clear q1
            try clear q11
            try clear q114
            obtain ⟨kq, x72_30, rfl, HA, HJ30, HB⟩ := hcut
            cases kq with
            | zero => exact absurd HA.out (by simp [spec_l7Fits.j3])
            | succ kj30 =>
             have H := HA.out
             clear HA
             simp only [spec_l7Fits.j3] at H
             by_cases c33 : x72_30 = true
             ·subst c33
              have H1 : (if (Int.tmod (rd l1 x5_1) 1000) > 255 then (some false) else (spec_l7Fits.l0 kj30 l0 l1 (wrap64 (x5_1 + 1)))) = some r := by rw [if_pos rfl] at H; exact H
              clear H
              have H := H1
              clear H1
              by_cases c34 : (Int.tmod (rd l1 x5_1) 1000) > 255
              ·rw [if_pos c34] at H
               have c34b0 : decide (255 < (Int.tmod (rd l1 x5_1) 1000)) = true := decide_eq_true c34
               clear c34
               obtain rfl := Option.some.inj H
               go_wp2
               go_ret
               exact ⟨by first | rfl | (simp [errW_none, errW_some] <;> rfl) | (simp [*, errW_none, errW_some] <;> rfl), by repeat (first | (with_reducible first | exact HB.out | apply below_alloc | apply pw_below_drewN | apply below_drew1) | exact HB.out)⟩
              ·rw [if_neg c34] at H
               have c34b0 : decide (255 < (Int.tmod (rd l1 x5_1) 1000)) = false := decide_eq_false c34
               clear c34
               have H' := Aside0.mk H
               clear H
               go_wp2
               go_roundg kj30
               case measure => have := HK1.out; have := HJ4.out; have := HJ15.out; have := HJ30.out; omega
               case rel => exact ⟨(wrap64 (x5_1 + 1)), (by first | rfl | (simp; done) | (simp [*]; done)), H', ⟨by have := HK1.out; have := HJ4.out; have := HJ15.out; have := HJ30.out; omega⟩, ⟨by repeat (first | (with_reducible first | exact HB.out | apply below_alloc | apply pw_below_drewN | apply below_drew1) | exact HB.out)⟩⟩
             ·replace c33 := Bool.eq_false_iff.mpr c33
              subst c33
              have H1 : (some false) = some r := by rw [if_neg (show ¬ (false = true) by decide)] at H; exact H
              clear H
              have H := H1
              clear H1
              obtain rfl := Option.some.inj H
              go_wp2
              go_ret
              exact ⟨by first | rfl | (simp [errW_none, errW_some] <;> rfl) | (simp [*, errW_none, errW_some] <;> rfl), by repeat (first | (with_reducible first | exact HB.out | apply below_alloc | apply pw_below_drewN | apply below_drew1) | exact HB.out)⟩
    ·rw [if_neg c4] at H
     exact absurd H (by simp)
   ·rw [if_neg c3] at H
    have c3b0 : decide (x5_1 < (l1.length : Int)) = false := decide_eq_false c3
    clear c3
    obtain rfl := Option.some.inj H
    go_wp2
    go_ret
    exact ⟨by first | rfl | (simp [errW_none, errW_some] <;> rfl) | (simp [*, errW_none, errW_some] <;> rfl), by repeat (first | (with_reducible first | exact HB.out | apply below_alloc | apply pw_below_drewN | apply below_drew1) | exact HB.out)⟩

end Go.Proofs.Ytcdghhihfjojaaa.Q
