/- The contracts of impl.Upper and of its law, by hand; no condition. -/
import Derived.Test.YtcdghhihfjojaaaDoorGen
import Derived.Test.YtcdghhihfjojaaaDoorTabsR
import Derived.Test.YtcdghhihfjojaaaDoorBd
import Derived.Test.YtcdghhihfjojaaaDoorQx4
import Derived.Test.YtcdghhihfjojaaaDoorQx7
namespace Go.Proofs.YtcdghhihfjojaaaDoor.Q
open Go.RowKit Go.Proofs.YtcdghhihfjojaaaDoorW.PrintWords Go.Proofs.YtcdghhihfjojaaaDoorW.PrintLast Go.Proofs.YtcdghhihfjojaaaDoorW.PrintMore Go.Proofs.YtcdghhihfjojaaaDoorW.PrintFlt
attribute [local go_sem] cmp_lss cmp_leq cmp_gtr cmp_geq cmp_eql cmp_neq flt_l flt_r fgt_l fgt_r feq_l feq_r fne_l fne_r ord_lt ord_gt ord_eq ord_ne conv_int conv_flt foi_fold run_store_flt
set_option linter.unusedVariables false
set_option linter.unusedSimpArgs false

/-! ### impl_Upper: function 10 -/
def upTab : List (Int × List UInt8) := [(192, [65]), (193, [65]), (194, [65]), (196, [65, 69]), (197, [65, 65]), (200, [69]), (201, [69]), (202, [69]), (209, [78]), (214, [79, 69]), (216, [79, 69]), (220, [85, 69]), (223, [83, 83]), (224, [65]), (225, [65]), (226, [65]), (228, [65, 69]), (229, [65, 65]), (232, [69]), (233, [69]), (234, [69]), (241, [78]), (246, [79, 69]), (248, [79, 69]), (252, [85, 69])]
def upOf (r : Int) : Option (List UInt8) := (upTab.find? fun p => p.1 == r).map (·.2)
def upHas (r : Int) : Bool := (upOf r).isSome
def upS (r : Int) : ByteArray := ⟨((upOf r).getD []).toArray⟩
/-- The map, as a place of the heap that nothing in reach changes. -/
def UpM (bm : Nat) (w : World) : Prop := ∀ w', Below w.heap.size w w' → w'.cell? ⟨0, 0, none⟩ = some (.map (some bm)) ∧ ∀ r : Int, -2147483648 ≤ r → r ≤ 2147483647 → (Instr.lookup 46 (.map (some bm)) (.int .i32 r) true).run Tryd.prog w' = .ok (.tuple #[.string (upS r), .bool (upHas r)]) w'
theorem UpM.below {bm : Nat} {w w1 : World} (h : UpM bm w) (hb : Below w.heap.size w w1) : UpM bm w1 := fun w' hb' => h w' (below_step hb hb')
def upB (r : Int) : List UInt8 := if 97 ≤ r ∧ r ≤ 122 then [UInt8.ofNat (r - 32).toNat] else if 0 ≤ r ∧ r < 128 then [UInt8.ofNat r.toNat] else if upHas r = true then (upS r).data.toList else [63]
theorem upS_size (r : Int) : (upS r).size ≤ 2 := by
  unfold upS upOf
  cases h : upTab.find? fun p => p.1 == r with
  | none => decide
  | some p =>
    have hm := List.mem_of_find?_eq_some h
    have : ∀ q ∈ upTab, (⟨(((some q).map (·.2)).getD []).toArray⟩ : ByteArray).size ≤ 2 := by decide
    exact this p hm
theorem upB_len (r : Int) : (upB r).length ≤ 2 := by
  unfold upB
  have := upS_size r
  split
  · show 1 ≤ 2
    decide
  split
  · show 1 ≤ 2
    decide
  split
  · exact this
  · show 1 ≤ 2
    decide
theorem up_low (r : Int) (h : 97 ≤ r) (h' : r ≤ 122) : upB r = [UInt8.ofNat (r - 32).toNat] ∧ (wrap32 (wrap32 (r - 97) + 65)) % 256 = ((UInt8.ofNat (r - 32).toNat).toNat : Int) := by
  refine ⟨by unfold upB; rw [if_pos ⟨h, h'⟩], ?_⟩
  have : (UInt8.ofNat (r - 32).toNat).toNat = (r - 32).toNat := by rw [UInt8.toNat_ofNat']; omega
  rw [this]
  unfold wrap32
  omega
theorem up_asc (r : Int) (h : ¬ (97 ≤ r ∧ r ≤ 122)) (h0 : 0 ≤ r) (h1 : r < 128) : upB r = [UInt8.ofNat r.toNat] ∧ r % 256 = ((UInt8.ofNat r.toNat).toNat : Int) := by
  refine ⟨by unfold upB; rw [if_neg h, if_pos ⟨h0, h1⟩], ?_⟩
  have : (UInt8.ofNat r.toNat).toNat = r.toNat := by rw [UInt8.toNat_ofNat']; omega
  rw [this]
  omega
def impl_Upper.l0 : Nat → List Int → List UInt8 → Int → Option ByteArray
  | 0, _, _, _ => none
  | k + 1, rs, acc, i => if i < (rs.length : Int) then (if 0 ≤ i then (if -2147483648 ≤ rd rs i ∧ rd rs i ≤ 2147483647 then (if acc.length < 140737488355000 then impl_Upper.l0 k rs (acc ++ upB (rd rs i)) (wrap64 (i + 1)) else none) else none) else none) else some ⟨acc.toArray⟩
def impl_Upper.f (k : Nat) (s : ByteArray) (l1 : List Int) (l2 : List (S55)) : Option ByteArray := if (s.size : Int) > 20000 then some ⟨#[]⟩ else (impl_runes.f k s l1 l2).bind fun t => impl_Upper.l0 k t.1 [] 0
theorem impl_Upper.mono_l : ∀ k, ∀ y0 y1 y2, LeO (impl_Upper.l0 k y0 y1 y2) (impl_Upper.l0 (k + 1) y0 y1 y2)
  | 0 => fun _ _ _ r h => by simp [impl_Upper.l0] at h
  | k + 1 => by
    have ih0 := impl_Upper.mono_l k
    intro y0 y1 y2
    unfold impl_Upper.l0
    repeat first
      | exact LeO.refl _
      | exact ih0 _ _ _
      | exact LeO.none _
      | refine LeO.ite ?_ ?_
theorem impl_Upper.mono : ∀ a0 a1 a2 k, LeO (impl_Upper.f k a0 a1 a2) (impl_Upper.f (k + 1) a0 a1 a2) := by
  intro a0 a1 a2 k
  unfold impl_Upper.f
  refine LeO.ite (LeO.refl _) (LeO.bind (impl_runes.mono _ _ _ _) (fun _ => impl_Upper.mono_l _ _ _ _))
theorem up_cases (r : Int) : (decide (97 ≤ r) = true ∧ decide (r ≤ 122) = true ∧ 97 ≤ r ∧ r ≤ 122) ∨ (decide (97 ≤ r) = true ∧ decide (r ≤ 122) = false ∧ decide (0 ≤ r) = true ∧ decide (r < 128) = true ∧ 122 < r ∧ r < 128) ∨ (decide (97 ≤ r) = true ∧ decide (r ≤ 122) = false ∧ decide (0 ≤ r) = true ∧ decide (r < 128) = false ∧ upHas r = true ∧ upB r = (upS r).data.toList) ∨ (decide (97 ≤ r) = true ∧ decide (r ≤ 122) = false ∧ decide (0 ≤ r) = true ∧ decide (r < 128) = false ∧ upHas r = false ∧ upB r = [63]) ∨ (decide (97 ≤ r) = false ∧ decide (0 ≤ r) = true ∧ decide (r < 128) = true ∧ 0 ≤ r ∧ r < 97) ∨ (decide (97 ≤ r) = false ∧ decide (0 ≤ r) = false ∧ upHas r = true ∧ upB r = (upS r).data.toList) ∨ (decide (97 ≤ r) = false ∧ decide (0 ≤ r) = false ∧ upHas r = false ∧ upB r = [63]) := by
  by_cases a : 97 ≤ r
  · by_cases b : r ≤ 122
    · exact .inl ⟨decide_eq_true a, decide_eq_true b, a, b⟩
    · by_cases c : r < 128
      · exact .inr (.inl ⟨decide_eq_true a, decide_eq_false b, decide_eq_true (by omega), decide_eq_true c, by omega, c⟩)
      · cases d : upHas r
        · exact .inr (.inr (.inr (.inl ⟨decide_eq_true a, decide_eq_false b, decide_eq_true (by omega), decide_eq_false c, rfl, by unfold upB; rw [if_neg (by omega), if_neg (by omega), d]; rfl⟩)))
        · exact .inr (.inr (.inl ⟨decide_eq_true a, decide_eq_false b, decide_eq_true (by omega), decide_eq_false c, rfl, by unfold upB; rw [if_neg (by omega), if_neg (by omega), d]; rfl⟩))
  · by_cases b : 0 ≤ r
    · exact .inr (.inr (.inr (.inr (.inl ⟨decide_eq_false a, decide_eq_true b, decide_eq_true (by omega), b, by omega⟩))))
    · cases d : upHas r
      · exact .inr (.inr (.inr (.inr (.inr (.inr ⟨decide_eq_false a, decide_eq_false b, rfl, by unfold upB; rw [if_neg (by omega), if_neg (by omega), d]; rfl⟩)))))
      · exact .inr (.inr (.inr (.inr (.inr (.inl ⟨decide_eq_false a, decide_eq_false b, rfl, by unfold upB; rw [if_neg (by omega), if_neg (by omega), d]; rfl⟩)))))
set_option maxHeartbeats 8000000 in
set_option maxRecDepth 100000 in
theorem impl_Upper.calls (k bm : Nat) (s : ByteArray) (l1 : List Int) (l2 : List (S55)) (r : ByteArray) (w : World) (hM : UpM bm w) (hr1 : Kd.C (Kd.int .u8) w (some ⟨1, 0, none⟩) l1.length l1) (hr2 : Kd.C k55 w (some ⟨2, 0, none⟩) l2.length l2) (hn1 : l1.length = 256) (hn2 : l2.length = 16) (h : impl_Upper.f k s l1 l2 = some r) :
    Calls Tryd.prog 10 #[.string s] w fun e w' => e = .returned (.string r) ∧ Below w.heap.size w w' := by
  have HM := Aside0.mk hM
  have R1 := fun (w' : World) (hb : Below w.heap.size w w') => Aside0.mk (And.intro (Kd.C_below hr1 hb) (Kd.C_below hr2 hb))
  have HN := Aside0.mk (And.intro hn1 hn2)
  have HB := Aside0.mk (Below.refl w.heap.size w)
  clear hr1 hr2 hn1 hn2 hM
  unfold impl_Upper.f at h
  by_cases c2 : (s.size : Int) > 20000
  · rw [if_pos c2] at h
    have c2b0 : decide (20000 < (s.size : Int)) = true := decide_eq_true c2
    have c2b1 : decide (20000 < s.size) = true := decide_eq_true (by omega)
    clear c2
    obtain rfl := Option.some.inj h
    go_enter Tryd.func10, Tryd.ntmps10
    go_wp2
    go_ret
    exact ⟨rfl, by repeat (first | (with_reducible first | exact HB.out | apply below_alloc | apply pw_below_drewN | apply below_drew1) | exact HB.out)⟩
  · rw [if_neg c2] at h
    have c2b0 : decide (20000 < (s.size : Int)) = false := decide_eq_false c2
    have c2b1 : decide (20000 < s.size) = false := decide_eq_false (by omega)
    clear c2
    obtain ⟨⟨rs, ps⟩, hq, h⟩ := Option.bind_eq_some_iff.mp h
    have A1 := Aside0.mk hq
    have H' := Aside0.mk (show impl_Upper.l0 k rs [] 0 = some r from h)
    clear hq h
    go_enter Tryd.func10, Tryd.ntmps10
    go_wp2_with (first | ((with_reducible refine gate_callee (f := 12) rfl ?_); refine goesL_ (some 15) rfl rfl Tryd.func12 (by kernel_rfl) rfl #[.string s] rfl (by (try simp only [List.map_toArray, List.map_cons, List.map_nil]); first | done | rfl) ?_; (with_reducible refine (impl_runes.calls k s l1 l2 rs ps _ ?s1 (Nat.le_refl _) ?s2 (Nat.le_refl _) HN.out.1 HN.out.2 A1.out).mono ?_); (case s1 => exact (R1 _ (by repeat (first | (with_reducible first | exact HB.out | apply below_alloc | apply pw_below_drewN | apply below_drew1) | exact HB.out))).out.1); (case s2 => exact (R1 _ (by repeat (first | (with_reducible first | exact HB.out | apply below_alloc | apply pw_below_drewN | apply below_drew1) | exact HB.out))).out.2); rintro e w1 ⟨v0, v1, rfl, ho0, ho1, hb1⟩; have HB1 := Aside0.mk (below_step (by repeat (first | (with_reducible first | exact HB.out | apply below_alloc | apply pw_below_drewN | apply below_drew1) | exact HB.out)) hb1); have HR := Aside0.mk (Kd.R_lower ho0 (below_size (by repeat (first | (with_reducible first | exact HB.out | apply below_alloc | apply pw_below_drewN | apply below_drew1) | exact HB.out)))); clear hb1; refine ⟨_, rfl, ?_⟩; obtain ⟨Ar, cr, er⟩ := Kd.R_slice HR.out; subst er; obtain ⟨Ap, cp, ep⟩ := Kd.R_slice ho1; subst ep; clear ho0 ho1))
    obtain ⟨g, hg⟩ : ∃ g, g = w1.heap.size := ⟨_, rfl⟩
    obtain ⟨wb, hwb⟩ : ∃ W, W = w1.alloc (.cells #[.pointer none, .slice none 0 0] 37) := ⟨_, rfl⟩
    have hnew : wb.heap[g]? = some (.cells #[.pointer none, .slice none 0 0] 37 (0, 0)) := by rw [hwb, hg]; exact blk_new _ _
    have HG := Aside0.mk (show w.heap.size ≤ g from by rw [hg]; exact below_size HB1.out)
    have FB := Aside0.mk (show Bd wb w.heap.size g (([] : List UInt8).map fun x => (x.toNat : Int)) from .inl ⟨_, hnew, Kd.R_nil _ _ _ _ _⟩)
    have FR := Aside0.mk (show (Kd.int .i32).R 21 wb w.heap.size (fun _ => True) (.slice Ar rs.length cr) rs from by rw [hwb]; exact Kd.R_alloc HR.out _)
    have FW := Aside0.mk (show Below w.heap.size w wb from by rw [hwb]; exact below_alloc HB1.out _)
    rw [← hg, ← hwb]
    clear hnew hg hwb HR HB1 HB
    go_loopg [20] k (fun kq v20 w' => ∃ (i : Int) (acc : List UInt8), v20 = .int .i64 i ∧ Aside0 (impl_Upper.l0 kq rs acc i = some r) ∧ Aside0 (kq ≤ k) ∧ Aside0 (Bd w' w.heap.size g (acc.map fun x => (x.toNat : Int))) ∧ Aside0 ((Kd.int .i32).R 21 w' w.heap.size (fun _ => True) (.slice Ar rs.length cr) rs) ∧ Aside0 (Below w.heap.size w w'))
    case atStart => exact ⟨0, [], rfl, H', ⟨Nat.le_refl _⟩, FB, FR, FW⟩
    case round =>
      clear H' FB FR FW
      obtain ⟨i, acc, rfl, HA, HK1, HD, HR, HB⟩ := hrel
      cases gk with
      | zero => exact absurd HA.out (by simp [impl_Upper.l0])
      | succ k1 =>
        have H := HA.out
        clear HA
        simp only [impl_Upper.l0] at H
        by_cases c6 : i < (rs.length : Int)
        · rw [if_pos c6] at H
          by_cases c7 : 0 ≤ i
          · rw [if_pos c7] at H
            have c6b0 : decide (i < (rs.length : Int)) = true := decide_eq_true c6
            obtain ⟨ad, eA, hx⟩ := Kd.at_int (Kd.R_reads' HR.out).2.2 i c7 c6
            subst eA
            replace c6 := eq_true c6
            replace c7 := eq_true c7
            by_cases c8 : -2147483648 ≤ rd rs i ∧ rd rs i ≤ 2147483647
            · rw [if_pos c8] at H
              by_cases c9 : acc.length < 140737488355000
              · rw [if_pos c9] at H
                have HL := Aside0.mk (show (acc.map fun x => (x.toNat : Int)).length < 140737488355000 from by simpa using c9)
                have H' := Aside0.mk H
                clear H c9
                obtain ⟨hcell, hlk⟩ := HM.out _ HB.out
                have hrun := hlk _ c8.1 c8.2
                clear hlk c8
                rcases up_cases (rd rs i) with ⟨e1, e2, d1, d2⟩ | ⟨e1, e2, e3, e4, d1, d2⟩ | ⟨e1, e2, e3, e4, e5, d1⟩ | ⟨e1, e2, e3, e4, e5, d1⟩ | ⟨e1, e3, e4, d1, d2⟩ | ⟨e1, e3, e5, d1⟩ | ⟨e1, e3, e5, d1⟩
                · have U := Aside0.mk (up_low _ d1 d2)
                  clear d1 d2
                  go_wp2_with (first | (go_at_call 13; refine (writeByte_calls w _ g _ _ HD.out HB.out HG.out (by have := HL.out; omega)).mono ?_; rintro e w2 ⟨rfl, hb, hB2, hK⟩; have HD2 := Aside0.mk (show Bd w2 w.heap.size g ((acc ++ upB (rd rs i)).map fun x => (x.toNat : Int)) from .inr (by rw [List.map_append, U.out.1]; rw [U.out.2] at hb; exact hb)); have HR2 := Aside0.mk (hK.R HR.out (by decide)); have HB2 := Aside0.mk hB2; clear hb hB2 hK HD HR HB))
                  go_roundg k1
                  case measure => have := HK1.out; omega
                  case rel => exact ⟨wrap64 (i + 1), acc ++ upB (rd rs i), rfl, H', ⟨by have := HK1.out; omega⟩, HD2, HR2, HB2⟩
                · have U := Aside0.mk (up_asc _ (by omega) (by omega) d2)
                  clear d1 d2
                  go_wp2_with (first | (go_at_call 13; refine (writeByte_calls w _ g _ _ HD.out HB.out HG.out (by have := HL.out; omega)).mono ?_; rintro e w2 ⟨rfl, hb, hB2, hK⟩; have HD2 := Aside0.mk (show Bd w2 w.heap.size g ((acc ++ upB (rd rs i)).map fun x => (x.toNat : Int)) from .inr (by rw [List.map_append, U.out.1]; rw [U.out.2] at hb; exact hb)); have HR2 := Aside0.mk (hK.R HR.out (by decide)); have HB2 := Aside0.mk hB2; clear hb hB2 hK HD HR HB))
                  go_roundg k1
                  case measure => have := HK1.out; omega
                  case rel => exact ⟨wrap64 (i + 1), acc ++ upB (rd rs i), rfl, H', ⟨by have := HK1.out; omega⟩, HD2, HR2, HB2⟩
                · have D := Aside0.mk d1
                  clear d1
                  rw [e5] at hrun
                  go_wp2_with (first | (go_at_call 14; refine (writeString_calls w _ g _ (upS (rd rs i)) HD.out HB.out HG.out (by have := HL.out; have := upS_size (rd rs i); omega)).mono ?_; rintro e w2 ⟨rfl, hb, hB2, hK⟩; have HD2 := Aside0.mk (show Bd w2 w.heap.size g ((acc ++ upB (rd rs i)).map fun x => (x.toNat : Int)) from .inr (by rw [List.map_append, D.out]; exact hb)); have HR2 := Aside0.mk (hK.R HR.out (by decide)); have HB2 := Aside0.mk hB2; clear hb hB2 hK HD HR HB))
                  go_roundg k1
                  case measure => have := HK1.out; omega
                  case rel => exact ⟨wrap64 (i + 1), acc ++ upB (rd rs i), rfl, H', ⟨by have := HK1.out; omega⟩, HD2, HR2, HB2⟩
                · have D := Aside0.mk d1
                  clear d1
                  rw [e5] at hrun
                  go_wp2_with (first | (go_at_call 13; refine (writeByte_calls w _ g _ _ HD.out HB.out HG.out (by have := HL.out; omega)).mono ?_; rintro e w2 ⟨rfl, hb, hB2, hK⟩; have HD2 := Aside0.mk (show Bd w2 w.heap.size g ((acc ++ upB (rd rs i)).map fun x => (x.toNat : Int)) from .inr (by rw [List.map_append, D.out]; exact hb)); have HR2 := Aside0.mk (hK.R HR.out (by decide)); have HB2 := Aside0.mk hB2; clear hb hB2 hK HD HR HB))
                  go_roundg k1
                  case measure => have := HK1.out; omega
                  case rel => exact ⟨wrap64 (i + 1), acc ++ upB (rd rs i), rfl, H', ⟨by have := HK1.out; omega⟩, HD2, HR2, HB2⟩
                · have U := Aside0.mk (up_asc _ (by omega) d1 (by omega))
                  clear d1 d2
                  go_wp2_with (first | (go_at_call 13; refine (writeByte_calls w _ g _ _ HD.out HB.out HG.out (by have := HL.out; omega)).mono ?_; rintro e w2 ⟨rfl, hb, hB2, hK⟩; have HD2 := Aside0.mk (show Bd w2 w.heap.size g ((acc ++ upB (rd rs i)).map fun x => (x.toNat : Int)) from .inr (by rw [List.map_append, U.out.1]; rw [U.out.2] at hb; exact hb)); have HR2 := Aside0.mk (hK.R HR.out (by decide)); have HB2 := Aside0.mk hB2; clear hb hB2 hK HD HR HB))
                  go_roundg k1
                  case measure => have := HK1.out; omega
                  case rel => exact ⟨wrap64 (i + 1), acc ++ upB (rd rs i), rfl, H', ⟨by have := HK1.out; omega⟩, HD2, HR2, HB2⟩
                · have D := Aside0.mk d1
                  clear d1
                  rw [e5] at hrun
                  go_wp2_with (first | (go_at_call 14; refine (writeString_calls w _ g _ (upS (rd rs i)) HD.out HB.out HG.out (by have := HL.out; have := upS_size (rd rs i); omega)).mono ?_; rintro e w2 ⟨rfl, hb, hB2, hK⟩; have HD2 := Aside0.mk (show Bd w2 w.heap.size g ((acc ++ upB (rd rs i)).map fun x => (x.toNat : Int)) from .inr (by rw [List.map_append, D.out]; exact hb)); have HR2 := Aside0.mk (hK.R HR.out (by decide)); have HB2 := Aside0.mk hB2; clear hb hB2 hK HD HR HB))
                  go_roundg k1
                  case measure => have := HK1.out; omega
                  case rel => exact ⟨wrap64 (i + 1), acc ++ upB (rd rs i), rfl, H', ⟨by have := HK1.out; omega⟩, HD2, HR2, HB2⟩
                · have D := Aside0.mk d1
                  clear d1
                  rw [e5] at hrun
                  go_wp2_with (first | (go_at_call 13; refine (writeByte_calls w _ g _ _ HD.out HB.out HG.out (by have := HL.out; omega)).mono ?_; rintro e w2 ⟨rfl, hb, hB2, hK⟩; have HD2 := Aside0.mk (show Bd w2 w.heap.size g ((acc ++ upB (rd rs i)).map fun x => (x.toNat : Int)) from .inr (by rw [List.map_append, D.out]; exact hb)); have HR2 := Aside0.mk (hK.R HR.out (by decide)); have HB2 := Aside0.mk hB2; clear hb hB2 hK HD HR HB))
                  go_roundg k1
                  case measure => have := HK1.out; omega
                  case rel => exact ⟨wrap64 (i + 1), acc ++ upB (rd rs i), rfl, H', ⟨by have := HK1.out; omega⟩, HD2, HR2, HB2⟩
              · rw [if_neg c9] at H
                exact absurd H (by simp)
            · rw [if_neg c8] at H
              exact absurd H (by simp)
          · rw [if_neg c7] at H
            exact absurd H (by simp)
        · rw [if_neg c6] at H
          have c6b0 : decide (i < (rs.length : Int)) = false := decide_eq_false c6
          obtain rfl := Option.some.inj H
          clear c6 H
          go_wp2_with (first | (go_at_call 15; refine (string_calls w _ g acc HD.out HB.out HG.out).mono ?_; rintro e w2 ⟨rfl, hB2⟩; have HB2 := Aside0.mk hB2; clear hB2))
          go_ret
          exact ⟨rfl, HB2.out⟩
/-! ### laws_FnExactUpper -/
def laws_FnExactUpper.f (k : Nat) (s : ByteArray) (l1 : List Int) (l2 : List (S55)) : Option Bool := if (s.size : Int) > 1048576 then some true else ((spec_Upper.f k s).bind fun t5 => ((impl_Upper.f k s l1 l2).bind fun t6 => (if t6.toList = t5.toList then some true else some false)))
set_option maxHeartbeats 8000000 in
set_option maxRecDepth 100000 in
theorem laws_FnExactUpper.calls (k bm : Nat) (s : ByteArray) (l1 : List Int) (l2 : List (S55)) (r : Bool) (w : World) (hM : UpM bm w) (hr1 : Kd.C (Kd.int .u8) w (some ⟨1, 0, none⟩) l1.length l1) (hr2 : Kd.C k55 w (some ⟨2, 0, none⟩) l2.length l2) (hn1 : l1.length = 256) (hn2 : l2.length = 16) (h : laws_FnExactUpper.f k s l1 l2 = some r) :
    Calls Tryd.prog 4 #[.string s] w fun e w' => e = .returned (.bool r) ∧ Below w.heap.size w w' := by
  have HM := fun (w' : World) (hb : Below w.heap.size w w') => Aside0.mk (hM.below hb)
  have R1 := fun (w' : World) (hb : Below w.heap.size w w') => Aside0.mk (And.intro (Kd.C_below hr1 hb) (Kd.C_below hr2 hb))
  have HN := Aside0.mk (And.intro hn1 hn2)
  have HB := Aside0.mk (Below.refl w.heap.size w)
  clear hr1 hr2 hn1 hn2 hM
  unfold laws_FnExactUpper.f at h
  by_cases c2 : (s.size : Int) > 1048576
  · rw [if_pos c2] at h
    have c2b0 : decide (1048576 < (s.size : Int)) = true := decide_eq_true c2
    have c2b1 : decide (1048576 < s.size) = true := decide_eq_true (by omega)
    clear c2
    obtain rfl := Option.some.inj h
    go_enter Tryd.func4, Tryd.ntmps4
    go_wp2
    go_ret
    exact ⟨rfl, by repeat (first | (with_reducible first | exact HB.out | apply below_alloc | apply pw_below_drewN | apply below_drew1) | exact HB.out)⟩
  · rw [if_neg c2] at h
    have c2b0 : decide (1048576 < (s.size : Int)) = false := decide_eq_false c2
    have c2b1 : decide (1048576 < s.size) = false := decide_eq_false (by omega)
    clear c2
    obtain ⟨t5, A50, h⟩ := Option.bind_eq_some_iff.mp h
    obtain ⟨t6, A60, h⟩ := Option.bind_eq_some_iff.mp h
    have A5 := Aside0.mk A50
    have A6 := Aside0.mk A60
    clear A50 A60
    replace h : (if t6.toList = t5.toList then some true else some false) = some r := h
    have walk : ∀ b : Bool, (t6.toList == t5.toList) = b → (t6.toList != t5.toList) = !b → r = b → Calls Tryd.prog 4 #[.string s] w fun e w' => e = .returned (.bool r) ∧ Below w.heap.size w w' := by
      rintro b e1 e2 rfl
      cases r
      all_goals
        replace e2 := (show (t6.toList != t5.toList) = _ from e2)
        simp only [Bool.not_true, Bool.not_false] at e2
        go_enter Tryd.func4, Tryd.ntmps4
        go_wp2_with (first | ((with_reducible refine gate_callee (f := 9) rfl ?_); refine goesL_ (some 9) rfl rfl Tryd.func9 (by kernel_rfl) rfl #[.string s] rfl (by (try simp only [List.map_toArray, List.map_cons, List.map_nil]); first | done | rfl) ?_; (with_reducible refine (spec_Upper.calls k s t5 _ A5.out).mono ?_); rintro e w1 ⟨rfl, hb1⟩; have HB1 := Aside0.mk (below_step (by repeat (first | (with_reducible first | exact HB.out | apply below_alloc | apply pw_below_drewN | apply below_drew1) | exact HB.out)) hb1); clear hb1 HB; have HB := HB1; clear HB1; refine ⟨_, rfl, ?_⟩) | ((with_reducible refine gate_callee (f := 10) rfl ?_); refine goesL_ (some 11) rfl rfl Tryd.func10 (by kernel_rfl) rfl #[.string s] rfl (by (try simp only [List.map_toArray, List.map_cons, List.map_nil]); first | done | rfl) ?_; (with_reducible refine (impl_Upper.calls k bm s l1 l2 t6 _ ?s0 ?s1 ?s2 HN.out.1 HN.out.2 A6.out).mono ?_); (case s0 => exact (HM _ (by repeat (first | (with_reducible first | exact HB.out | apply below_alloc | apply pw_below_drewN | apply below_drew1) | exact HB.out))).out); (case s1 => exact (R1 _ (by repeat (first | (with_reducible first | exact HB.out | apply below_alloc | apply pw_below_drewN | apply below_drew1) | exact HB.out))).out.1); (case s2 => exact (R1 _ (by repeat (first | (with_reducible first | exact HB.out | apply below_alloc | apply pw_below_drewN | apply below_drew1) | exact HB.out))).out.2); rintro e w1 ⟨rfl, hb1⟩; have HB1 := Aside0.mk (below_step (by repeat (first | (with_reducible first | exact HB.out | apply below_alloc | apply pw_below_drewN | apply below_drew1) | exact HB.out)) hb1); clear hb1 HB; have HB := HB1; clear HB1; refine ⟨_, rfl, ?_⟩))
        go_ret
        exact ⟨rfl, by repeat (first | (with_reducible first | exact HB.out | apply below_alloc | apply pw_below_drewN | apply below_drew1) | exact HB.out)⟩
    by_cases c : t6.toList = t5.toList
    · rw [if_pos c] at h
      exact walk true (beq_iff_eq.mpr c) (bne_eq_false_iff_eq.mpr c) (Option.some.inj h).symm
    · rw [if_neg c] at h
      exact walk false (beq_eq_false_iff_ne.mpr c) (bne_iff_ne.mpr c) (Option.some.inj h).symm
end Go.Proofs.YtcdghhihfjojaaaDoor.Q
