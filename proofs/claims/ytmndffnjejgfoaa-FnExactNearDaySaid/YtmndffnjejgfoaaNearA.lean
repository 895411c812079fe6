/- The plain statement of the law FnExactNearDay: program and reference find the same time, for all arguments; no condition. -/
import Derived.Test.YtmndffnjejgfoaaGen
import Derived.Test.YtmndffnjejgfoaaQx16
import Derived.Test.YtmndffnjejgfoaaQx20
set_option linter.unusedVariables false
set_option linter.unusedSimpArgs false
namespace Go.Proofs.Ytmndffnjejgfoaa.NearDay
open Go.RowKit Go.Proofs.Ytmndffnjejgfoaa.Q Go.Proofs.Ytmndffnjejgfoaa.Gen Go.Proofs.YtmndffnjejgfoaaW.PrintWords Go.Proofs.YtmndffnjejgfoaaW.PrintMore

/-! days -/
def md (y m : Int) : Int := if m = 2 then (if y % 4 = 0 then 29 else 28) else if m = 4 ∨ m = 6 ∨ m = 9 ∨ m = 11 then 30 else 31
theorem md_range (y m : Int) : 28 ≤ md y m ∧ md y m ≤ 31 := by unfold md; (repeat' split) <;> omega
theorem monthDays_eq (y m : Int) (h : 0 ≤ y) : impl_monthDays.f y m = some (md y m) := by
  unfold impl_monthDays.f impl_leap.f md
  rw [Int.tmod_eq_emod_of_nonneg h]
  by_cases h2 : m = 2
  · by_cases h4 : y % 4 = 0 <;> simp [h2, h4]
  · by_cases a : m = 4 <;> by_cases b : m = 6 <;> by_cases c : m = 9 <;> by_cases d : m = 11 <;> simp [h2, a, b, c, d]
theorem l2Days_eq (y m : Int) (h : 0 ≤ y) (hy : y ≠ 2100 ∨ m ≠ 2) : spec_l2Days.f y m = some (md y m) := by
  unfold spec_l2Days.f md
  rw [Int.tmod_eq_emod_of_nonneg h]
  by_cases h2 : m = 2
  · have : y ≠ 2100 := by omega
    by_cases h4 : y % 4 = 0 <;> simp [h2, h4, this]
  · by_cases a : m = 4 <;> by_cases b : m = 6 <;> by_cases c : m = 9 <;> by_cases d : m = 11 <;> simp [h2, a, b, c, d]

def cum (y : Int) : Nat → Int
  | 0 => 0
  | j + 1 => cum y j + md y ((j : Int) + 1)
theorem cum_range (y : Int) : ∀ j : Nat, 28 * (j : Int) ≤ cum y j ∧ cum y j ≤ 31 * (j : Int)
  | 0 => by simp [cum]
  | j + 1 => by have := cum_range y j; have := md_range y ((j : Int) + 1); simp only [cum]; omega
theorem cum_mono (y : Int) (i j : Nat) (h : i ≤ j) : cum y i ≤ cum y j := by
  induction j with
  | zero => obtain rfl : i = 0 := by omega
            exact Int.le_refl _
  | succ j ih =>
    by_cases e : i = j + 1
    · subst e; exact Int.le_refl _
    · have := ih (by omega); have := md_range y ((j : Int) + 1); simp only [cum]; omega
def D1 (y : Int) : Int := (y - 2000) * 365 + (y - 2000 + 3) / 4
theorem cum12 (y : Int) : cum y 12 = 365 + if y % 4 = 0 then 1 else 0 := by simp [cum, md]; split <;> omega
theorem cum6 (y : Int) : 181 ≤ cum y 6 ∧ cum y 6 ≤ 182 := by simp [cum, md]; split <;> omega
theorem D1_succ (y : Int) : D1 (y + 1) = D1 y + cum y 12 := by rw [cum12]; unfold D1; split <;> omega
theorem D1_step (y : Int) : D1 y + 365 ≤ D1 (y + 1) ∧ D1 (y + 1) ≤ D1 y + 366 := by rw [D1_succ, cum12]; split <;> omega
theorem D1_mono (y z : Int) (h : y ≤ z) : D1 y ≤ D1 z := by unfold D1; omega
theorem D1_range (y : Int) (h : 2000 ≤ y) (h' : y ≤ 2102) : 0 ≤ D1 y ∧ D1 y ≤ 40000 := by unfold D1; omega

theorem daysTo_ev (y d : Int) (j : Nat) (hy : 2000 ≤ y) (hy' : y ≤ 2100) (hj : j < 12) (hd : 1 ≤ d) (hd' : d ≤ 31) :
    Ev (fun k => impl_daysTo.f k y ((j : Int) + 1) d) (D1 y + cum y j + d - 1) := by
  have hD := D1_range y hy (by omega)
  simp only [impl_daysTo.f]
  have e0 : wrap64 ((wrap64 ((wrap64 (y - 2000)) * 365)) + (wrap64 (Int.tdiv (wrap64 ((wrap64 (y - 2000)) + 3)) 4))) = D1 y := by
    rw [w64 (x := y - 2000) (by omega) (by omega), w64 (x := y - 2000 + 3) (by omega) (by omega), Int.tdiv_eq_ediv_of_nonneg (by omega), w64 (x := (y - 2000) * 365) (by omega) (by omega), w64 (x := (y - 2000 + 3) / 4) (by omega) (by omega), w64 (by omega) (by omega)]
    rfl
  rw [e0]
  have := count (fun k i (s : Int) => impl_daysTo.l0 k y ((j : Int) + 1) d s (i + 1)) j (fun i => D1 y + cum y i) (D1 y + cum y j + d - 1) ?_ ?_ 0 (by omega)
  · simpa [cum] using this
  · intro i hi
    refine ⟨0, fun k _ => ?_⟩
    have hc := cum_range y i
    have hm := md_range y ((i : Int) + 1)
    simp only [impl_daysTo.l0]
    rw [if_pos (by omega), monthDays_eq y _ (by omega)]
    simp only [Option.bind_some]
    rw [w64 (by omega) (by omega), w64 (by omega) (by omega)]
    congr 1
    simp only [cum]
    omega
  · refine Ev_succ fun k => ?_
    have hc := cum_range y j
    simp only [impl_daysTo.l0]
    rw [if_neg (by omega), w64 (x := D1 y + cum y j + d) (by omega) (by omega), w64 (by omega) (by omega)]

/-! candidates -/
section
variable (d h mi : Int)
def T (y : Int) (j : Nat) : Int := (D1 y + cum y j + d - 1) * 1440 + h * 60 + mi
def cand (y : Int) (j : Nat) : Option Int := if 2000 ≤ y ∧ y ≤ 2100 ∧ d ≤ md y ((j : Int) + 1) ∧ 0 ≤ T d h mi y j ∧ T d h mi y j ≤ 52596000 then some (T d h mi y j) else none
end

def dist (r t : Int) : Int := mx (t - r) (r - t)
theorem dist_abs (r t : Int) : (t ≤ r → dist r t = r - t) ∧ (r ≤ t → dist r t = t - r) := by unfold dist mx; constructor <;> intro h <;> split <;> omega
def pickT (r : Int) (o : Option Int) (t : Int) : Option Int :=
  match o with
  | none => some t
  | some b => if dist r t < dist r b then some t else some b
def fold (r : Int) (o : Option Int) (l : List Int) : Option Int := l.foldl (pickT r) o
theorem fold_append (r : Int) (o : Option Int) (l m : List Int) : fold r o (l ++ m) = fold r (fold r o l) m := by simp [fold]
theorem fold_nil (r : Int) (o : Option Int) : fold r o [] = o := rfl
theorem fold_cons (r : Int) (o : Option Int) (t : Int) (l : List Int) : fold r o (t :: l) = fold r (pickT r o t) l := rfl
theorem fold_mem (r : Int) (l : List Int) : ∀ (o : Option Int) (b : Int), fold r o l = some b → o = some b ∨ b ∈ l := by
  induction l with
  | nil => intro o b h; exact .inl h
  | cons t l ih =>
    intro o b h
    rw [fold_cons] at h
    rcases ih _ _ h with h | h
    · cases o with
      | none => simp only [pickT, Option.some.injEq] at h; exact .inr (by simp [h])
      | some c =>
        simp only [pickT] at h
        split at h
        · simp only [Option.some.injEq] at h; exact .inr (by simp [h])
        · exact .inl h
    · exact .inr (List.mem_cons_of_mem _ h)
theorem fold_some (r : Int) (l : List Int) : ∀ (b : Int), ∃ c, fold r (some b) l = some c ∧ dist r c ≤ dist r b ∧ ∀ t ∈ l, dist r c ≤ dist r t := by
  induction l with
  | nil => intro b; exact ⟨b, rfl, Int.le_refl _, by simp⟩
  | cons t l ih =>
    intro b
    rw [fold_cons]
    simp only [pickT]
    split
    · obtain ⟨c, h1, h2, h3⟩ := ih t
      refine ⟨c, h1, by omega, fun u hu => ?_⟩
      rcases List.mem_cons.1 hu with rfl | hu
      · exact h2
      · exact h3 u hu
    · obtain ⟨c, h1, h2, h3⟩ := ih b
      refine ⟨c, h1, h2, fun u hu => ?_⟩
      rcases List.mem_cons.1 hu with rfl | hu
      · omega
      · exact h3 u hu
theorem fold_none (r : Int) (l : List Int) (hl : l ≠ []) : ∃ c, fold r none l = some c ∧ ∀ t ∈ l, dist r c ≤ dist r t := by
  cases l with
  | nil => exact absurd rfl hl
  | cons t l =>
    obtain ⟨c, h1, h2, h3⟩ := fold_some r l t
    refine ⟨c, h1, fun u hu => ?_⟩
    rcases List.mem_cons.1 hu with rfl | hu
    · exact h2
    · exact h3 u hu
theorem fold_skip (r : Int) (l : List Int) : ∀ (b : Int), (∃ c ∈ l, dist r c < dist r b) → fold r (some b) l = fold r none l := by
  induction l with
  | nil => intro b ⟨c, hc, _⟩; exact absurd hc (by simp)
  | cons t l ih =>
    intro b ⟨c, hc, hlt⟩
    rw [fold_cons, fold_cons]
    show fold r (if dist r t < dist r b then some t else some b) l = fold r (some t) l
    split
    · rfl
    · rcases List.mem_cons.1 hc with rfl | hc
      · omega
      · rw [ih b ⟨c, hc, hlt⟩, ih t ⟨c, hc, by omega⟩]
theorem fold_stay (r : Int) (l : List Int) : ∀ (b : Int), (∀ t ∈ l, dist r b ≤ dist r t) → fold r (some b) l = some b := by
  induction l with
  | nil => intro b _; rfl
  | cons t l ih =>
    intro b h
    rw [fold_cons]
    show fold r (if dist r t < dist r b then some t else some b) l = some b
    rw [if_neg (by have := h t (by simp); omega)]
    exact ih b fun u hu => h u (List.mem_cons_of_mem _ hu)

/-- Three stretches: the middle one has what is nearest. -/
theorem fold_mid (r : Int) (l1 l2 l3 : List Int) (c : Int) (hc : c ∈ l2) (h1 : ∀ b ∈ l1, dist r c < dist r b) (h3 : ∀ b ∈ l3, dist r c ≤ dist r b) : fold r none (l1 ++ l2 ++ l3) = fold r none l2 := by
  rw [fold_append, fold_append]
  have e : fold r (fold r none l1) l2 = fold r none l2 := by
    cases hf : fold r none l1 with
    | none => rfl
    | some b =>
      rcases fold_mem r l1 none b hf with h | h
      · cases h
      · exact fold_skip r l2 b ⟨c, hc, h1 b h⟩
  rw [e]
  obtain ⟨m, hm, hle⟩ := fold_none r l2 (by intro e; rw [e] at hc; simp at hc)
  rw [hm]
  exact fold_stay r l3 m fun t ht => Int.le_trans (hle c hc) (h3 t ht)

section
variable (d h mi : Int)
def LY (y : Int) (n : Nat) : List Int := (List.range n).filterMap fun j => cand d h mi y j
theorem LY_succ (y : Int) (n : Nat) : LY d h mi y (n + 1) = LY d h mi y n ++ (cand d h mi y n).toList := by
  simp only [LY, List.range_succ, List.filterMap_append]
  cases hc : cand d h mi y n <;> simp [hc]
def LL (a : Int) (n : Nat) : List Int := (List.range n).flatMap fun (i : Nat) => LY d h mi (a + (i : Int)) 12
theorem LL_succ (a : Int) (n : Nat) : LL d h mi a (n + 1) = LL d h mi a n ++ LY d h mi (a + (n : Int)) 12 := by simp [LL, List.range_succ]
theorem LL_add (a : Int) (n m : Nat) : LL d h mi a (n + m) = LL d h mi a n ++ LL d h mi (a + (n : Int)) m := by
  induction m with
  | zero => simp [LL]
  | succ m ih => rw [← Nat.add_assoc, LL_succ, ih, LL_succ, List.append_assoc]; congr 3; omega
theorem LL_mem {a : Int} {n : Nat} {t : Int} (ht : t ∈ LL d h mi a n) : ∃ (i j : Nat), i < n ∧ j < 12 ∧ cand d h mi (a + (i : Int)) j = some t := by
  simp only [LL, LY, List.mem_flatMap, List.mem_range, List.mem_filterMap] at ht
  obtain ⟨i, hi, j, hj, hc⟩ := ht
  exact ⟨i, j, hi, hj, hc⟩
theorem mem_LL {a : Int} {n i j : Nat} {t : Int} (hi : i < n) (hj : j < 12) (hc : cand d h mi (a + (i : Int)) j = some t) : t ∈ LL d h mi a n := by
  simp only [LL, LY, List.mem_flatMap, List.mem_range, List.mem_filterMap]
  exact ⟨i, hi, j, hj, hc⟩
theorem cand_some {y : Int} {j : Nat} {t : Int} (hc : cand d h mi y j = some t) : 2000 ≤ y ∧ y ≤ 2100 ∧ d ≤ md y ((j : Int) + 1) ∧ t = T d h mi y j ∧ 0 ≤ t ∧ t ≤ 52596000 := by
  unfold cand at hc
  split at hc
  · rename_i hh; simp only [Option.some.injEq] at hc; subst hc; exact ⟨hh.1, hh.2.1, hh.2.2.1, rfl, hh.2.2.2.1, hh.2.2.2.2⟩
  · cases hc
theorem LY_range {y : Int} {n : Nat} {t : Int} (ht : t ∈ LY d h mi y n) : 0 ≤ t ∧ t ≤ 52596000 := by
  simp only [LY, List.mem_filterMap] at ht
  obtain ⟨j, _, hc⟩ := ht
  exact (cand_some d h mi hc).2.2.2.2
theorem LL_range {a : Int} {n : Nat} {t : Int} (ht : t ∈ LL d h mi a n) : 0 ≤ t ∧ t ≤ 52596000 := by
  obtain ⟨i, j, _, _, hc⟩ := LL_mem d h mi ht
  exact (cand_some d h mi hc).2.2.2.2
theorem LL_none (a : Int) (n : Nat) (hn : ∀ i : Nat, i < n → a + (i : Int) < 2000 ∨ 2100 < a + (i : Int)) : LL d h mi a n = [] := by
  cases e : LL d h mi a n with
  | nil => rfl
  | cons t l =>
    obtain ⟨i, j, hi, _, hc⟩ := LL_mem d h mi (show t ∈ LL d h mi a n by rw [e]; simp)
    have := cand_some d h mi hc
    have := hn i hi
    omega

/-- The nearest lies within a year. -/
theorem near_three (r Y : Int) (hd : 1 ≤ d) (hd' : d ≤ 31) (hh : 0 ≤ h) (hh' : h ≤ 24) (hm : 0 ≤ mi) (hm' : mi ≤ 59) (h24 : h = 24 → mi = 0) (hr : 0 ≤ r) (hr' : r ≤ 52596000)
    (hY : 2000 ≤ Y) (hY' : Y ≤ 2100) (hlo : D1 Y * 1440 ≤ r) (hhi : r < D1 (Y + 1) * 1440) : fold r none (LL d h mi 2000 101) = fold r none (LL d h mi (Y - 1) 3) := by
  have hT : ∀ (y : Int) (j : Nat), j < 12 → d ≤ md y ((j : Int) + 1) → D1 y * 1440 ≤ T d h mi y j ∧ T d h mi y j ≤ D1 (y + 1) * 1440 := by
    intro y j hj hle
    have h1 := cum_range y j
    have h2 := cum_mono y (j + 1) 12 (by omega)
    have h3 : cum y (j + 1) = cum y j + md y ((j : Int) + 1) := rfl
    rw [D1_succ]
    unfold T
    by_cases e : h = 24
    · have := h24 e; omega
    · omega
  have e1 : LL d h mi 2000 101 = LL d h mi 1999 (Y - 2000).toNat ++ LL d h mi (Y - 1) 3 ++ LL d h mi (Y + 2) (2100 - Y).toNat := by
    have a1 : LL d h mi 1999 103 = LL d h mi 2000 101 := by
      have := LL_add d h mi 1999 1 102
      rw [show 1 + 102 = 103 from rfl, LL_none d h mi 1999 1 (by intro i hi; omega)] at this
      rw [this]
      have := LL_add d h mi (1999 + ((1 : Nat) : Int)) 101 1
      rw [show 101 + 1 = 102 from rfl] at this
      rw [this, LL_none d h mi _ 1 (by intro i hi; omega)]
      simp
    rw [← a1]
    have := LL_add d h mi 1999 ((Y - 2000).toNat + 3) (2100 - Y).toNat
    rw [LL_add d h mi 1999 (Y - 2000).toNat 3] at this
    rw [show (1999 : Int) + (((Y - 2000).toNat : Nat) : Int) = Y - 1 by omega, show (1999 : Int) + (((Y - 2000).toNat + 3 : Nat) : Int) = Y + 2 by omega, show (Y - 2000).toNat + 3 + (2100 - Y).toNat = 103 by omega] at this
    exact this
  rw [e1]
  have s0 := D1_step (Y - 1)
  have s1 := D1_step (Y + 1)
  have s2 := D1_step Y
  rw [show Y - 1 + 1 = Y by omega] at s0
  have hmd7 : ∀ y : Int, md y (((6 : Nat) : Int) + 1) = 31 := by intro y; simp [md]
  have hc6 := cum6 Y
  have hc6' := cum6 (Y - 1)
  by_cases hlast : Y = 2100
  · subst hlast
    have hD : D1 2100 = 36525 := by decide
    have hD' : D1 2099 = 36160 := by decide
    have hr2 : r = 52596000 := by omega
    have hcc := cum6 2099
    have hTd : T d h mi 2099 6 = (36160 + cum 2099 6 + d - 1) * 1440 + h * 60 + mi := by unfold T; rw [hD']
    refine fold_mid r _ _ _ (T d h mi 2099 6) ?_ ?_ ?_
    · refine mem_LL d h mi (i := 0) (j := 6) (by omega) (by omega) ?_
      simp only [cand]
      rw [if_pos]
      · rfl
      · refine ⟨by omega, by omega, by rw [hmd7]; exact hd', ?_, ?_⟩ <;> (show _ ≤ _; have hcc := cum6 2099; simp only [show (2100 : Int) - 1 + ((0 : Nat) : Int) = 2099 by omega, hTd]; omega)
    · intro b hb
      obtain ⟨i, j, hi, hj, hcb⟩ := LL_mem d h mi hb
      obtain ⟨c1, c2, c3, c4, c5, c6⟩ := cand_some d h mi hcb
      have := hT _ j hj c3
      have hm := D1_mono (1999 + (i : Int) + 1) 2099 (by omega)
      rw [(dist_abs r _).1 (by omega), (dist_abs r b).1 (by omega)]
      omega
    · intro b hb
      obtain ⟨i, j, hi, hj, hcb⟩ := LL_mem d h mi hb
      omega
  · have hDr := D1_range (Y + 1) (by omega) (by omega)
    have hle : D1 (Y + 1) * 1440 ≤ 52596000 := by have := D1_mono (Y + 1) 2100 (by omega); have hD : D1 2100 = 36525 := by decide
                                                  omega
    have hTd : T d h mi Y 6 = (D1 Y + cum Y 6 + d - 1) * 1440 + h * 60 + mi := rfl
    have hnn := D1_range Y hY (by omega)
    have hdc : dist r (T d h mi Y 6) < 365 * 1440 := by
      by_cases hs : T d h mi Y 6 ≤ r
      · rw [(dist_abs r _).1 hs]; omega
      · rw [(dist_abs r _).2 (by omega)]; omega
    refine fold_mid r _ _ _ (T d h mi Y 6) ?_ ?_ ?_
    · refine mem_LL d h mi (i := 1) (j := 6) (by omega) (by omega) ?_
      simp only [cand]
      have hTY := hT Y 6 (by omega) (by rw [hmd7]; exact hd')
      rw [show Y - 1 + ((1 : Nat) : Int) = Y by omega, if_pos]
      exact ⟨by omega, by omega, by rw [hmd7]; exact hd', by omega, by omega⟩
    · intro b hb
      obtain ⟨i, j, hi, hj, hcb⟩ := LL_mem d h mi hb
      obtain ⟨c1, c2, c3, c4, c5, c6⟩ := cand_some d h mi hcb
      have := hT _ j hj c3
      have hm := D1_mono (1999 + (i : Int) + 1) (Y - 1) (by omega)
      rw [(dist_abs r b).1 (by omega)]
      omega
    · intro b hb
      obtain ⟨i, j, hi, hj, hcb⟩ := LL_mem d h mi hb
      obtain ⟨c1, c2, c3, c4, c5, c6⟩ := cand_some d h mi hcb
      have := hT _ j hj c3
      have hm := D1_mono (Y + 2) (Y + 2 + (i : Int)) (by omega)
      rw [show Y + 1 + 1 = Y + 2 by omega] at s1
      rw [(dist_abs r b).2 (by omega)]
      omega
end

end Go.Proofs.Ytmndffnjejgfoaa.NearDay
