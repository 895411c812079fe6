/- Plain Lean functions with the same answers as the Go functions of this seat, and a proof for each that the Go code comes to just these answers; no condition. Written by a program of this session (the kit's printer, turned). -/
import Derived.Test.YtcdghhihfjojaaaDoorQx0
import Derived.Test.YtcdghhihfjojaaaDoorQx6
namespace Go.Proofs.YtcdghhihfjojaaaDoor.Q
open Go.RowKit Go.Proofs.YtcdghhihfjojaaaDoorW.PrintWords Go.Proofs.YtcdghhihfjojaaaDoorW.PrintLast Go.Proofs.YtcdghhihfjojaaaDoorW.PrintMore Go.Proofs.YtcdghhihfjojaaaDoorW.PrintFlt
attribute [local go_sem] cmp_lss cmp_leq cmp_gtr cmp_geq cmp_eql cmp_neq flt_l flt_r fgt_l fgt_r feq_l feq_r fne_l fne_r ord_lt ord_gt ord_eq ord_ne conv_int conv_flt foi_fold run_store_flt
attribute [local go_sem] max2_int min2_int max_two min_two max_three min_three max_four min_four   -- for this text's walks alone
set_option linter.unusedVariables false
set_option linter.unusedSimpArgs false

/-! ### impl_Clean: function 7 -/
def impl_Clean.odd (r : Int) : Bool := (r != 10 && decide (r < 32)) || (decide (127 ≤ r) && decide (r ≤ 159))
def impl_Clean.l0 : Nat → List Int → List ByteArray → List UInt8 → Int → Option ByteArray
 | 0, _, _, _, _ => none
 | k + 1, rs, ps, acc, i => if i < (rs.length : Int) then (if 0 ≤ i then (if rd rs i = -1 then (if acc.length < 140737488355328 then impl_Clean.l0 k rs ps (acc ++ [63]) (wrap64 (i + 1)) else none) else (if rd rs i = 13 then impl_Clean.l0 k rs ps acc (wrap64 (i + 1)) else (if impl_Clean.odd (rd rs i) = true then (if acc.length < 140737488355328 then impl_Clean.l0 k rs ps (acc ++ [32]) (wrap64 (i + 1)) else none) else (if i < (ps.length : Int) then (if acc.length + (rdOf ByteArray.empty ps i).size ≤ 140737488355328 then impl_Clean.l0 k rs ps (acc ++ (rdOf ByteArray.empty ps i).data.toList) (wrap64 (i + 1)) else none) else none)))) else none) else some ⟨acc.toArray⟩
def impl_Clean.f (k : Nat) (l0 : List Int) (l1 : List Int) (l2 : List (S55)) : Option ByteArray := if (l0.length : Int) > 20000 then some ⟨#[]⟩ else (impl_runes.f k (strOfNums l0) l1 l2).bind fun t => impl_Clean.l0 k t.1 t.2 [] 0
theorem impl_Clean.mono_l : ∀ k, ∀ y0 y1 y2 y3, LeO (impl_Clean.l0 k y0 y1 y2 y3) (impl_Clean.l0 (k + 1) y0 y1 y2 y3)
 | 0 => fun _ _ _ _ r h => by simp [impl_Clean.l0] at h
 | k + 1 => by
  have ih0 := impl_Clean.mono_l k
  intro y0 y1 y2 y3
  unfold impl_Clean.l0
  repeat first
   | exact LeO.refl _
   | exact ih0 _ _ _ _
   | exact LeO.none _
   | refine LeO.ite ?_ ?_
   | refine LeO.bind ?_ (fun _ => ?_)
theorem impl_Clean.mono : ∀ a0 a1 a2 k, LeO (impl_Clean.f k a0 a1 a2) (impl_Clean.f (k + 1) a0 a1 a2) := by
 intro a0 a1 a2 k
 unfold impl_Clean.f
 refine LeO.ite (LeO.refl _) (LeO.bind (impl_runes.mono _ _ _ _) (fun _ => impl_Clean.mono_l _ _ _ _ _))
theorem impl_Clean.odd_cases (r : Int) : ((r == 10) = true ∧ (r != 10) = false ∧ decide (r < 32) = true ∧ decide (127 ≤ r) = false ∧ impl_Clean.odd r = false) ∨ ((r == 10) = false ∧ (r != 10) = true ∧ decide (r < 32) = true ∧ impl_Clean.odd r = true) ∨ ((r == 10) = false ∧ (r != 10) = true ∧ decide (r < 32) = false ∧ decide (127 ≤ r) = false ∧ impl_Clean.odd r = false) ∨ ((r == 10) = false ∧ (r != 10) = true ∧ decide (r < 32) = false ∧ decide (127 ≤ r) = true ∧ decide (r ≤ 159) = true ∧ impl_Clean.odd r = true) ∨ ((r == 10) = false ∧ (r != 10) = true ∧ decide (r < 32) = false ∧ decide (127 ≤ r) = true ∧ decide (r ≤ 159) = false ∧ impl_Clean.odd r = false) := by
 unfold impl_Clean.odd
 by_cases a : r = 10
 ·subst a; exact .inl (by decide)
 ·have a0 : (r == 10) = false := beq_eq_false_iff_ne.mpr a
  have a1 : (r != 10) = true := bne_iff_ne.mpr a
  cases b : decide (r < 32) <;> cases c : decide (127 ≤ r) <;> cases d : decide (r ≤ 159) <;> simp_all <;> omega
set_option maxHeartbeats 8000000 in
set_option maxRecDepth 100000 in
theorem impl_Clean.calls (k : Nat) (A0 : Option Addr) (c0 : Nat) (l0 : List Int) (l1 : List Int) (l2 : List (S55)) (r : ByteArray) (w : World) (hr0 : Kd.C (Kd.int .u8) w A0 l0.length l0) (hc0 : l0.length ≤ c0) (hr1 : Kd.C (Kd.int .u8) w (some ⟨1, 0, none⟩) l1.length l1) (hc1 : l1.length ≤ l1.length) (hr2 : Kd.C k55 w (some ⟨2, 0, none⟩) l2.length l2) (hc2 : l2.length ≤ l2.length) (hn1 : l1.length = 256) (hn2 : l2.length = 16) (h : impl_Clean.f k l0 l1 l2 = some r) :
  Calls Tryd.prog 7 #[.slice A0 l0.length c0] w fun e w' => e = .returned (.string r) ∧ Below w.heap.size w w' := by
 have H0 := Aside0.mk hr0
 have R1 := fun (w' : World) (hb : Below w.heap.size w w') => Aside0.mk (And.intro (Kd.C_below hr1 hb) (Kd.C_below hr2 hb))
 have HN := Aside0.mk (And.intro hn1 hn2)
 have HB := Aside0.mk (Below.refl w.heap.size w)
 clear hr0 hr1 hr2 hn1 hn2
 unfold impl_Clean.f at h
 by_cases c2 : (l0.length : Int) > 20000
 ·rw [if_pos c2] at h
  have c2b0 : decide (20000 < (l0.length : Int)) = true := decide_eq_true c2
  have c2b1 : decide (20000 < l0.length) = true := decide_eq_true (by omega)
  clear c2
  obtain rfl := Option.some.inj h
  go_enter Tryd.func7, Tryd.ntmps7
  go_wp2
  go_ret
  exact ⟨rfl, by repeat (first | (with_reducible first | exact HB.out | apply below_alloc | apply pw_below_drewN | apply below_drew1) | exact HB.out)⟩
 ·rw [if_neg c2] at h
  have c2b0 : decide (20000 < (l0.length : Int)) = false := decide_eq_false c2
  have c2b1 : decide (20000 < l0.length) = false := decide_eq_false (by omega)
  clear c2
  obtain ⟨⟨rs, ps⟩, hq, h⟩ := Option.bind_eq_some_iff.mp h
  have A1 := Aside0.mk hq
  have H' := Aside0.mk (show impl_Clean.l0 k rs ps [] 0 = some r from h)
  clear hq h
  have hcv3 := Kd.C_string (P := Tryd.prog) (A := A0) (c := c0) Tryd.underlying22 Tryd.underlying5 Tryd.underlying9 H0.out
  go_enter Tryd.func7, Tryd.ntmps7
  go_wp2_with (first | ((with_reducible refine gate_callee (f := 12) rfl ?_); refine goesL_ (some 14) rfl rfl Tryd.func12 (by kernel_rfl) rfl #[.string (strOfNums l0)] rfl (by (try simp only [List.map_toArray, List.map_cons, List.map_nil]); first | done | rfl) ?_; (with_reducible refine (impl_runes.calls k (strOfNums l0) l1 l2 rs ps _ ?s1 (Nat.le_refl _) ?s2 (Nat.le_refl _) HN.out.1 HN.out.2 A1.out).mono ?_); (case s1 => exact (R1 _ (by repeat (first | (with_reducible first | exact HB.out | apply below_alloc | apply pw_below_drewN | apply below_drew1) | exact HB.out))).out.1); (case s2 => exact (R1 _ (by repeat (first | (with_reducible first | exact HB.out | apply below_alloc | apply pw_below_drewN | apply below_drew1) | exact HB.out))).out.2); rintro e w1 ⟨v0, v1, rfl, ho0, ho1, hb1⟩; have HB1 := Aside0.mk (below_step (by repeat (first | (with_reducible first | exact HB.out | apply below_alloc | apply pw_below_drewN | apply below_drew1) | exact HB.out)) hb1); have HR := Aside0.mk (Kd.R_lower ho0 (below_size (by repeat (first | (with_reducible first | exact HB.out | apply below_alloc | apply pw_below_drewN | apply below_drew1) | exact HB.out)))); have HP := Aside0.mk (Kd.R_lower ho1 (below_size (by repeat (first | (with_reducible first | exact HB.out | apply below_alloc | apply pw_below_drewN | apply below_drew1) | exact HB.out)))); clear hb1 ho0 ho1; refine ⟨_, rfl, ?_⟩; obtain ⟨Ar, cr, er⟩ := Kd.R_slice HR.out; subst er; obtain ⟨Ap, cp, ep⟩ := Kd.R_slice HP.out; subst ep))
  obtain ⟨g, hg⟩ : ∃ g, g = w1.heap.size := ⟨_, rfl⟩
  obtain ⟨wb, hwb⟩ : ∃ W, W = w1.alloc (.cells #[.pointer none, .slice none 0 0] 37) := ⟨_, rfl⟩
  have hnew : wb.heap[g]? = some (.cells #[.pointer none, .slice none 0 0] 37 (0, 0)) := by rw [hwb, hg]; exact blk_new _ _
  have HG := Aside0.mk (show w.heap.size ≤ g from by rw [hg]; exact below_size HB1.out)
  have FB := Aside0.mk (show Bd wb w.heap.size g (([] : List UInt8).map fun x => (x.toNat : Int)) from .inl ⟨_, hnew, Kd.R_nil _ _ _ _ _⟩)
  have FR := Aside0.mk (show (Kd.int .i32).R 21 wb w.heap.size (fun _ => True) (.slice Ar rs.length cr) rs from by rw [hwb]; exact Kd.R_alloc HR.out _)
  have FP := Aside0.mk (show Kd.string.R 9 wb w.heap.size (fun _ => True) (.slice Ap ps.length cp) ps from by rw [hwb]; exact Kd.R_alloc HP.out _)
  have FW := Aside0.mk (show Below w.heap.size w wb from by rw [hwb]; exact below_alloc HB1.out _)
  rw [← hg, ← hwb]
  clear hnew hg hwb HR HP HB1 HB
  go_loopg [19] k (fun kq v19 w' => ∃ (i : Int) (acc : List UInt8), v19 = .int .i64 i ∧ Aside0 (impl_Clean.l0 kq rs ps acc i = some r) ∧ Aside0 (kq ≤ k) ∧ Aside0 (Bd w' w.heap.size g (acc.map fun x => (x.toNat : Int))) ∧ Aside0 ((Kd.int .i32).R 21 w' w.heap.size (fun _ => True) (.slice Ar rs.length cr) rs) ∧ Aside0 (Kd.string.R 9 w' w.heap.size (fun _ => True) (.slice Ap ps.length cp) ps) ∧ Aside0 (Below w.heap.size w w'))
  case atStart => exact ⟨0, [], rfl, H', ⟨Nat.le_refl _⟩, FB, FR, FP, FW⟩
  case round =>
   clear H' FB FR FP FW
   obtain ⟨i, acc, rfl, HA, HK1, HD, HR, HP, HB⟩ := hrel
   cases gk with
   | zero => exact absurd HA.out (by simp [impl_Clean.l0])
   | succ k1 =>
    have H := HA.out
    clear HA
    simp only [impl_Clean.l0] at H
    by_cases c6 : i < (rs.length : Int)
    ·rw [if_pos c6] at H
     by_cases c7 : 0 ≤ i
     ·rw [if_pos c7] at H
      have c6b0 : decide (i < (rs.length : Int)) = true := decide_eq_true c6
      obtain ⟨ad, eA, hx⟩ := Kd.at_int (Kd.R_reads' HR.out).2.2 i c7 c6
      subst eA
      replace c6 := eq_true c6
      replace c7 := eq_true c7
      by_cases c8 : rd rs i = -1
      ·rw [if_pos c8] at H
       by_cases c9 : acc.length < 140737488355328
       ·rw [if_pos c9] at H
        have c8b0 : (rd rs i == -1) = true := beq_iff_eq.mpr c8
        have HL := Aside0.mk (show (acc.map fun x => (x.toNat : Int)).length < 140737488355328 from by simpa using c9)
        have H' := Aside0.mk H
        clear H c9
        go_wp2_with (first | (go_at_call 13; refine (writeByte_calls w _ g _ 63 HD.out HB.out HG.out HL.out).mono ?_; rintro e w2 ⟨rfl, hb, hB2, hK⟩; have HD2 := Aside0.mk (show Bd w2 w.heap.size g ((acc ++ [(63 : UInt8)]).map fun x => (x.toNat : Int)) from .inr (by rw [List.map_append]; exact hb)); have HR2 := Aside0.mk (hK.R HR.out (by decide)); have HP2 := Aside0.mk (hK.R HP.out (by decide)); have HB2 := Aside0.mk hB2; clear hb hB2 hK HD HR HP HB))
        go_roundg k1
        case measure => have := HK1.out; omega
        case rel => exact ⟨wrap64 (i + 1), acc ++ [63], rfl, H', ⟨by have := HK1.out; omega⟩, HD2, HR2, HP2, HB2⟩
       ·rw [if_neg c9] at H
        exact absurd H (by simp)
      ·rw [if_neg c8] at H
       have c8b0 : (rd rs i == -1) = false := beq_eq_false_iff_ne.mpr c8
       clear c8
       by_cases c10 : rd rs i = 13
       ·rw [if_pos c10] at H
        have c10b0 : (rd rs i == 13) = true := beq_iff_eq.mpr c10
        have H' := Aside0.mk H
        clear H
        go_wp2
        go_roundg k1
        case measure => have := HK1.out; omega
        case rel => exact ⟨wrap64 (i + 1), acc, rfl, H', ⟨by have := HK1.out; omega⟩, HD, HR, HP, HB⟩
       ·rw [if_neg c10] at H
        have c10b0 : (rd rs i == 13) = false := beq_eq_false_iff_ne.mpr c10
        clear c10
        by_cases c11 : impl_Clean.odd (rd rs i) = true
        ·rw [if_pos c11] at H
         by_cases c9 : acc.length < 140737488355328
         ·rw [if_pos c9] at H
          have HL := Aside0.mk (show (acc.map fun x => (x.toNat : Int)).length < 140737488355328 from by simpa using c9)
          have H' := Aside0.mk H
          clear H c9
          rcases impl_Clean.odd_cases (rd rs i) with ⟨e1, e2, e3, e4, d⟩ | ⟨e1, e2, e3, d⟩ | ⟨e1, e2, e3, e4, d⟩ | ⟨e1, e2, e3, e4, e5, d⟩ | ⟨e1, e2, e3, e4, e5, d⟩
          ·exact absurd (c11.symm.trans d) (by decide)
          ·clear c11 d
           go_wp2_with (first | (go_at_call 13; refine (writeByte_calls w _ g _ 32 HD.out HB.out HG.out HL.out).mono ?_; rintro e w2 ⟨rfl, hb, hB2, hK⟩; have HD2 := Aside0.mk (show Bd w2 w.heap.size g ((acc ++ [(32 : UInt8)]).map fun x => (x.toNat : Int)) from .inr (by rw [List.map_append]; exact hb)); have HR2 := Aside0.mk (hK.R HR.out (by decide)); have HP2 := Aside0.mk (hK.R HP.out (by decide)); have HB2 := Aside0.mk hB2; clear hb hB2 hK HD HR HP HB))
           go_roundg k1
           case measure => have := HK1.out; omega
           case rel => exact ⟨wrap64 (i + 1), acc ++ [32], rfl, H', ⟨by have := HK1.out; omega⟩, HD2, HR2, HP2, HB2⟩
          ·exact absurd (c11.symm.trans d) (by decide)
          ·clear c11 d
           go_wp2_with (first | (go_at_call 13; refine (writeByte_calls w _ g _ 32 HD.out HB.out HG.out HL.out).mono ?_; rintro e w2 ⟨rfl, hb, hB2, hK⟩; have HD2 := Aside0.mk (show Bd w2 w.heap.size g ((acc ++ [(32 : UInt8)]).map fun x => (x.toNat : Int)) from .inr (by rw [List.map_append]; exact hb)); have HR2 := Aside0.mk (hK.R HR.out (by decide)); have HP2 := Aside0.mk (hK.R HP.out (by decide)); have HB2 := Aside0.mk hB2; clear hb hB2 hK HD HR HP HB))
           go_roundg k1
           case measure => have := HK1.out; omega
           case rel => exact ⟨wrap64 (i + 1), acc ++ [32], rfl, H', ⟨by have := HK1.out; omega⟩, HD2, HR2, HP2, HB2⟩
          ·exact absurd (c11.symm.trans d) (by decide)
         ·rw [if_neg c9] at H
          exact absurd H (by simp)
        ·rw [if_neg c11] at H
         by_cases c12 : i < (ps.length : Int)
         ·rw [if_pos c12] at H
          by_cases c9 : acc.length + (rdOf ByteArray.empty ps i).size ≤ 140737488355328
          ·rw [if_pos c9] at H
           have HL := Aside0.mk (show (acc.map fun x => (x.toNat : Int)).length + (rdOf ByteArray.empty ps i).size ≤ 140737488355328 from by simpa using c9)
           have H' := Aside0.mk H
           clear H c9
           obtain ⟨ad2, eA2, hx2⟩ := Kd.at_string (Kd.R_reads' HP.out).2.2 i (of_eq_true c7) c12
           subst eA2
           replace c12 := eq_true c12
           rcases impl_Clean.odd_cases (rd rs i) with ⟨e1, e2, e3, e4, d⟩ | ⟨e1, e2, e3, d⟩ | ⟨e1, e2, e3, e4, d⟩ | ⟨e1, e2, e3, e4, e5, d⟩ | ⟨e1, e2, e3, e4, e5, d⟩
           ·clear c11 d
            go_wp2_with (first | (go_at_call 14; refine (writeString_calls w _ g _ (rdOf ByteArray.empty ps i) HD.out HB.out HG.out HL.out).mono ?_; rintro e w2 ⟨rfl, hb, hB2, hK⟩; have HD2 := Aside0.mk (show Bd w2 w.heap.size g ((acc ++ (rdOf ByteArray.empty ps i).data.toList).map fun (x : UInt8) => (x.toNat : Int)) from .inr (by rw [List.map_append]; exact hb)); have HR2 := Aside0.mk (hK.R HR.out (by decide)); have HP2 := Aside0.mk (hK.R HP.out (by decide)); have HB2 := Aside0.mk hB2; clear hb hB2 hK HD HR HP HB))
            go_roundg k1
            case measure => have := HK1.out; omega
            case rel => exact ⟨wrap64 (i + 1), acc ++ (rdOf ByteArray.empty ps i).data.toList, rfl, H', ⟨by have := HK1.out; omega⟩, HD2, HR2, HP2, HB2⟩
           ·exact absurd d c11
           ·clear c11 d
            go_wp2_with (first | (go_at_call 14; refine (writeString_calls w _ g _ (rdOf ByteArray.empty ps i) HD.out HB.out HG.out HL.out).mono ?_; rintro e w2 ⟨rfl, hb, hB2, hK⟩; have HD2 := Aside0.mk (show Bd w2 w.heap.size g ((acc ++ (rdOf ByteArray.empty ps i).data.toList).map fun (x : UInt8) => (x.toNat : Int)) from .inr (by rw [List.map_append]; exact hb)); have HR2 := Aside0.mk (hK.R HR.out (by decide)); have HP2 := Aside0.mk (hK.R HP.out (by decide)); have HB2 := Aside0.mk hB2; clear hb hB2 hK HD HR HP HB))
            go_roundg k1
            case measure => have := HK1.out; omega
            case rel => exact ⟨wrap64 (i + 1), acc ++ (rdOf ByteArray.empty ps i).data.toList, rfl, H', ⟨by have := HK1.out; omega⟩, HD2, HR2, HP2, HB2⟩
           ·exact absurd d c11
           ·clear c11 d
            go_wp2_with (first | (go_at_call 14; refine (writeString_calls w _ g _ (rdOf ByteArray.empty ps i) HD.out HB.out HG.out HL.out).mono ?_; rintro e w2 ⟨rfl, hb, hB2, hK⟩; have HD2 := Aside0.mk (show Bd w2 w.heap.size g ((acc ++ (rdOf ByteArray.empty ps i).data.toList).map fun (x : UInt8) => (x.toNat : Int)) from .inr (by rw [List.map_append]; exact hb)); have HR2 := Aside0.mk (hK.R HR.out (by decide)); have HP2 := Aside0.mk (hK.R HP.out (by decide)); have HB2 := Aside0.mk hB2; clear hb hB2 hK HD HR HP HB))
            go_roundg k1
            case measure => have := HK1.out; omega
            case rel => exact ⟨wrap64 (i + 1), acc ++ (rdOf ByteArray.empty ps i).data.toList, rfl, H', ⟨by have := HK1.out; omega⟩, HD2, HR2, HP2, HB2⟩
          ·rw [if_neg c9] at H
           exact absurd H (by simp)
         ·rw [if_neg c12] at H
          exact absurd H (by simp)
     ·rw [if_neg c7] at H
      exact absurd H (by simp)
    ·rw [if_neg c6] at H
     have c6b0 : decide (i < (rs.length : Int)) = false := decide_eq_false c6
     obtain rfl := Option.some.inj H
     clear c6 H
     go_wp2_with (first | (go_at_call 15; refine (string_calls w _ g acc HD.out HB.out HG.out).mono ?_; rintro e w2 ⟨rfl, hB2⟩; have HB2 := Aside0.mk hB2; clear hB2))
     go_ret
     exact ⟨rfl, HB2.out⟩

end Go.Proofs.YtcdghhihfjojaaaDoor.Q
