/- Plain facts on floats: what a nought, a one, and a number up to one make of a number; sums of what is opposite. -/
import Derived.Test.YtaophbkedbphnabSigns
set_option exponentiation.threshold 3000
set_option linter.unusedVariables false
set_option linter.unusedSimpArgs false
namespace Go.Proofs.Ytaophbkedbphnab.Gen
open Go.RowKit Go.Proofs.YtaophbkedbphnabW.PrintWords Go.Proofs.YtaophbkedbphnabW.PrintFlt
open Ieee (Datum)

/-- A nought of either sign. -/
def Zer (z : Nat) : Prop := ∃ t, Ieee.double.read z = .number t 0 (-1074)
theorem zer_word (t : Bool) : Zer (Ieee.double.word t 0) := ⟨t, by rw [read_word _ _ (by omega)]; rfl⟩
theorem zer_mul {x z : Nat} {s : Bool} {m : Nat} {e : Int} (hx : Ieee.double.read x = .number s m e) (hz : Zer z) : Zer (fmul x z) := by
  obtain ⟨t, hz⟩ := hz
  unfold fmul Ieee.Format.mul ov
  rw [hx, hz]
  simp only [Datum.product, Option.map_some, Option.getD_some, Ieee.Format.write, Nat.mul_zero]
  have : ∀ (s : Bool) (p : Int), Ieee.double.nearest s 0 p = Ieee.double.word s 0 := fun s p => by unfold Ieee.Format.nearest; rw [if_pos rfl]
  rw [this]
  exact zer_word _
theorem zer_div {z y : Nat} {s : Bool} {n : Nat} {e : Int} (hz : Zer z) (hy : Ieee.double.read y = .number s n e) (hn : n ≠ 0) : Zer (fdiv z y) := by
  obtain ⟨t, hz⟩ := hz
  unfold fdiv Ieee.Format.div ov
  rw [hz, hy]
  simp only [Datum.quotient]
  rw [if_neg hn]
  simp only [Option.map_some, Option.getD_some, Ieee.Format.write, Nat.zero_shiftLeft, Nat.zero_div, Nat.zero_mod]
  have : ∀ (s : Bool) (p : Int), Ieee.double.nearest s (2 * 0 + ((0 : Nat) != 0).toNat) p = Ieee.double.word s 0 := fun s p => by rw [show 2 * 0 + ((0 : Nat) != 0).toNat = 0 from rfl]; unfold Ieee.Format.nearest; rw [if_pos rfl]
  rw [this]
  exact zer_word _
theorem signed_abs (s : Bool) (m u : Nat) : (Ieee.signed s m u).natAbs = m <<< u := by
  have hc : ∀ (x : Nat), (-(x : Int)).natAbs = x ∧ ((x : Int)).natAbs = x := fun x => ⟨by omega, by omega⟩
  unfold Ieee.signed
  cases s
  · simp only [Bool.false_eq_true, if_false]; exact (hc _).2
  · simp only [if_true]; exact (hc _).1
theorem sam_refl {x : Nat} {s : Bool} {m : Nat} {e : Int} (hx : Ieee.double.read x = .number s m e) : Sam (Ieee.double.read x) (Ieee.double.read x) := by
  rw [hx]; exact ⟨rfl, rfl, .inr rfl⟩
theorem sam_trans {a b c : Datum} (h1 : Sam a b) (h2 : Sam b c) : Sam a c := by
  cases a <;> cases b <;> cases c <;> simp only [Sam] at *
  · obtain ⟨rfl, rfl, h1⟩ := h1
    obtain ⟨rfl, rfl, h2⟩ := h2
    refine ⟨rfl, rfl, ?_⟩
    rcases h1 with h | h
    · exact .inl h
    · rcases h2 with h' | h'
      · exact .inl h'
      · exact .inr (h'.trans h)
  · rw [h2, h1]
theorem sam_add {x z : Nat} {s : Bool} {m : Nat} {e : Int} (hx : Ieee.double.read x = .number s m e) (hz : Zer z) : Sam (Ieee.double.read x) (Ieee.double.read (fadd x z)) := by
  obtain ⟨t, hz⟩ := hz
  obtain ⟨R, hR, hd⟩ := dat_of_read hx
  have hb := read_bound hx
  unfold fadd Ieee.Format.add ov
  rw [hz, hx]
  simp only [Datum.sum, Option.map_some, Option.getD_some, Ieee.Format.write]
  rw [show min e (-1074 : Int) = -1074 by omega, show e - -1074 = e + 1074 by omega]
  have h0 : Ieee.signed t 0 ((-1074 : Int) - -1074).toNat = 0 := by cases t <;> rfl
  rw [h0, Int.add_zero, signed_abs, nearest_exact R hR s _ m e (hd s), read_word _ _ (by omega), ← hd s]
  refine sam_dat _ _ _ ?_
  by_cases hm : m = 0
  · left
    have := hd s
    unfold dat at this
    split at this
    · injection this with _ h1 _; omega
    · injection this with _ h1 _; omega
  · right
    have hn : 0 < m <<< (e + 1074).toNat := by
      rw [Nat.shiftLeft_eq]
      exact Nat.mul_pos (by omega) (Nat.two_pow_pos _)
    have hc : ∀ (x : Nat), 0 < x → (if (-(x : Int)) = 0 then (s && t) else decide ((-(x : Int)) < 0)) = true ∧ (if (x : Int) = 0 then (s && t) else decide ((x : Int) < 0)) = false := by
      intro x hx
      constructor
      · rw [if_neg (by omega)]
        exact decide_eq_true (by omega)
      · rw [if_neg (by omega)]
        exact decide_eq_false (by omega)
    revert hc
    unfold Ieee.signed
    cases s
    · simp only [Bool.false_eq_true, if_false]
      exact fun hc => (hc _ hn).2
    · simp only [if_true]
      exact fun hc => (hc _ hn).1


/-! rounding -/
theorem near_up (R : Nat) (hR : R < 9218868437227405312) (t sg : Bool) (m : Nat) (e : Int) (h : dat t R = .number t m e) (g : Nat) : Ieee.double.nearest sg (m * 2 ^ g) (e - (g : Int)) = Ieee.double.word sg R := by
  have cut_ex : ∀ (g' : Nat), m ≠ 0 → g' ≤ (m * 2 ^ g).log2 + 2 → g' = g → Ieee.Toward.even.cut sg (m * 2 ^ g) g' = m := by
    intro g' hm hg he
    subst he
    have hp : 0 < 2 ^ g' := Nat.two_pow_pos _
    unfold Ieee.Toward.cut
    have hg' : 1 <<< min g' ((m * 2 ^ g').log2 + 2) = 2 ^ g' := by rw [Nat.min_eq_left hg, Nat.shiftLeft_eq, Nat.one_mul]
    simp only [hg']
    rw [Nat.mul_div_cancel _ hp, Nat.mul_mod_left]
    have h1 : (decide (2 ^ g' < 2 * 0)) = false := by simp
    have h2 : (2 ^ g' == 2 * 0) = false := by simp
    rw [h1, h2]
    rfl
  have hf : Ieee.double.fractionBits = 52 := rfl
  by_cases h0 : m = 0
  · subst h0
    have hR0 : R = 0 := by
      unfold dat at h
      split at h
      · injection h
      · injection h with _ hm _
        omega
    subst hR0
    rw [Nat.zero_mul]
    unfold Ieee.Format.nearest
    rw [if_pos rfl]
  have hl : (m * 2 ^ g).log2 = m.log2 + g := by
    have hn0 : m * 2 ^ g ≠ 0 := Nat.ne_of_gt (Nat.mul_pos (by omega) (Nat.two_pow_pos _))
    rw [Nat.log2_eq_iff hn0]
    constructor
    · rw [Nat.pow_add]; exact Nat.mul_le_mul_right _ (Nat.log2_self_le h0)
    · rw [show m.log2 + g + 1 = (m.log2 + 1) + g by omega, Nat.pow_add]; exact Nat.mul_lt_mul_of_pos_right Nat.lt_log2_self (Nat.two_pow_pos _)
  have hmn : m * 2 ^ g ≠ 0 := Nat.ne_of_gt (Nat.mul_pos (by omega) (Nat.two_pow_pos _))
  unfold Ieee.Format.nearest
  rw [if_neg hmn]
  simp only [hl, lwd, bwd, iwd, hf]
  unfold dat at h
  split at h
  · injection h with _ hm he
    subst hm he
    have hlR : R.log2 ≤ 51 := by
      have := (Nat.log2_lt (n := R) (k := 52) h0).2 (by omega)
      omega
    rw [show max ((-1074 : Int) - (g : Int) + ((R.log2 + g : Nat) : Int) - ((52 : Nat) : Int)) (-1074) = -1074 by omega, show ((-1074 : Int) - (g : Int) - -1074).toNat = 0 by omega, Nat.shiftLeft_zero, show ((-1074 : Int) - (-1074 - (g : Int))).toNat = g by omega, cut_ex g h0 (by rw [hl]; omega) rfl, show ((-1074 : Int) - -1074).toNat = 0 from rfl, Nat.zero_mul, Nat.zero_add, Nat.min_eq_left (by omega)]
  · rename_i hb
    injection h with _ hm he
    have hlm : m.log2 = 52 := by
      rw [Nat.log2_eq_iff h0]
      omega
    rw [hlm, show max (e - (g : Int) + ((52 + g : Nat) : Int) - ((52 : Nat) : Int)) (-1074) = e by omega, show (e - (g : Int) - e).toNat = 0 by omega, Nat.shiftLeft_zero, show (e - (e - (g : Int))).toNat = g by omega, cut_ex g h0 (by rw [hl]; omega) rfl]
    rw [show min ((e - -1074).toNat * 4503599627370496 + m) 9218868437227405312 = R by omega]
theorem kept_le (sg : Bool) (q : Nat) (b last : Int) (hL : max (b + (q.log2 : Int) - ((52 : Nat) : Int)) (-1074) = last) : Ieee.Toward.even.cut sg (q <<< (b - last).toNat) (last - b).toNat ≤ 9007199254740992 := by
  have hl2 : q < 2 ^ (q.log2 + 1) := Nat.lt_log2_self
  have k1 : Ieee.Toward.even.cut sg (q <<< (b - last).toNat) (last - b).toNat ≤ 9007199254740992 := by
    have low : ∀ g : Nat, q <<< (b - last).toNat < 2 ^ (g + 53) → (q <<< (b - last).toNat) / 2 ^ g < 9007199254740992 := fun g hg => by
      rw [Nat.div_lt_iff_lt_mul (Nat.two_pow_pos g)]
      rw [Nat.pow_add, Nat.mul_comm] at hg
      exact hg
    have hg : q <<< (b - last).toNat < 2 ^ (min (last - b).toNat ((q <<< (b - last).toNat).log2 + 2) + 53) := by
      by_cases c : b ≤ last
      · rw [show (b - last).toNat = 0 by omega, Nat.shiftLeft_zero]
        refine Nat.lt_of_lt_of_le hl2 (Nat.pow_le_pow_right (by omega) ?_)
        have : min (last - b).toNat (q.log2 + 2) + 52 ≥ q.log2 := by
          rcases Nat.le_total (last - b).toNat (q.log2 + 2) with g | g
          · rw [Nat.min_eq_left g]; omega
          · rw [Nat.min_eq_right g]; omega
        omega
      · rw [show (last - b).toNat = 0 by omega, Nat.zero_min, Nat.zero_add, Nat.shiftLeft_eq]
        refine Nat.lt_of_lt_of_le (Nat.mul_lt_mul_of_pos_right hl2 (Nat.two_pow_pos _)) ?_
        rw [← Nat.pow_add]
        exact Nat.pow_le_pow_right (by omega) (by omega)
    have := low _ hg
    unfold Ieee.Toward.cut
    simp only [Nat.shiftLeft_eq 1, Nat.one_mul]
    have bt : ∀ x : Bool, x.toNat ≤ 1 := fun x => by cases x <;> decide
    exact Nat.le_trans (Nat.add_le_add_left (bt _) _) (by omega)
  exact k1
/-- A product with a number below one stays a number. -/
theorem near_fin (sg : Bool) (m n : Nat) (e j : Int) (hm : m ≤ 9007199254740991) (hn : n ≤ 9007199254740991) (he : e ≤ 971) (hj : j ≤ -53) : ∃ R, R < 9218868437227405312 ∧ Ieee.double.nearest sg (m * n) (e + j) = Ieee.double.word sg R := by
  have hq : m * n ≤ 9007199254740991 * 9007199254740991 := Nat.mul_le_mul hm hn
  generalize m * n = q at hq
  generalize hb : e + j = b
  by_cases h0 : q = 0
  · subst h0
    exact ⟨0, by omega, by unfold Ieee.Format.nearest; rw [if_pos rfl]⟩
  have hl3 : q.log2 < 106 := (Nat.log2_lt h0).2 (Nat.lt_of_le_of_lt hq (by decide))
  have hf : Ieee.double.fractionBits = 52 := rfl
  unfold Ieee.Format.nearest
  rw [if_neg h0]
  simp only [lwd, bwd, iwd, hf]
  generalize hL : max (b + (q.log2 : Int) - ((52 : Nat) : Int)) (-1074) = last
  have k1 := kept_le sg q b last hL
  have k2 : last = 971 → Ieee.Toward.even.cut sg (q <<< (b - last).toNat) (last - b).toNat ≤ 9007199254740991 := by
    intro h
    have hlq : q.log2 = 105 := by omega
    have hb2 : b = 918 := by omega
    rw [h, hb2, show ((918 : Int) - 971).toNat = 0 from rfl, show ((971 : Int) - 918).toNat = 53 from rfl, Nat.shiftLeft_zero]
    unfold Ieee.Toward.cut
    rw [hlq]
    have hlow : q / 2 ^ 53 ≤ 9007199254740990 := by
      have : q / 2 ^ 53 ≤ (9007199254740991 * 9007199254740991) / 2 ^ 53 := Nat.div_le_div_right hq
      exact Nat.le_trans this (by decide)
    simp only [show (1 : Nat) <<< min 53 (105 + 2) = 2 ^ 53 from rfl]
    have bt : ∀ x : Bool, x.toNat ≤ 1 := fun x => by cases x <;> decide
    exact Nat.le_trans (Nat.add_le_add hlow (bt _)) (by omega)
  generalize Ieee.Toward.even.cut sg (q <<< (b - last).toNat) (last - b).toNat = kept at k1 k2 ⊢
  refine ⟨min ((last - -1074).toNat * 4503599627370496 + kept) 9218868437227405312, Nat.lt_of_le_of_lt (Nat.min_le_left _ _) ?_, rfl⟩
  have hlast : last ≤ 971 := by omega
  have h74 : -1074 ≤ last := by omega
  clear hq hl3 hL hm hn hf h0 hb hj he
  generalize hA : (last - -1074).toNat = a
  have ha : a ≤ 2045 ∧ (a = 2045 → last = 971) := by omega
  clear hA hlast h74
  by_cases c : a = 2045
  · have := k2 (ha.2 c)
    subst c
    exact Nat.lt_of_le_of_lt (Nat.add_le_add_left this _) (by decide)
  · have h3 : a * 4503599627370496 ≤ 2044 * 4503599627370496 := Nat.mul_le_mul_right _ (by omega)
    exact Nat.lt_of_le_of_lt (Nat.add_le_add h3 k1) (by decide)

/-! numbers of at most one -/
def small (y : Nat) : Bool := match Ieee.double.read y with
  | .number _ n j => (decide (n ≤ 9007199254740991) && decide (j ≤ -53)) || (decide (n = 4503599627370496) && decide (j = -52))
  | _ => false
theorem fin_num {x : Nat} {s : Bool} {R : Nat} (h : Ieee.double.read x = dat s R) (hR : R < 9218868437227405312) : fin x = true := by
  have e : ∃ m e, dat s R = .number s m e := by
    unfold dat
    by_cases c : R < 4503599627370496
    · exact ⟨_, _, if_pos c⟩
    · exact ⟨_, _, by rw [if_neg c, if_pos hR]⟩
  obtain ⟨m, e, hd⟩ := e
  exact fin_of (h.trans hd)
theorem mul_small {x y : Nat} (hx : fin x = true) (hy : small y = true) : fin (fmul x y) = true := by
  obtain ⟨s, m, e, ex⟩ := fin_read hx
  obtain ⟨R, hR, hd⟩ := dat_of_read ex
  have hb := read_bound ex
  unfold small at hy
  split at hy
  rotate_left
  · cases hy
  rename_i t n j ey
  rw [Bool.or_eq_true, Bool.and_eq_true, Bool.and_eq_true, decide_eq_true_eq, decide_eq_true_eq, decide_eq_true_eq, decide_eq_true_eq] at hy
  unfold fmul Ieee.Format.mul ov
  rw [ex, ey]
  simp only [Datum.product, Option.map_some, Option.getD_some, Ieee.Format.write]
  rcases hy with ⟨h1, h2⟩ | ⟨h1, h2⟩
  · obtain ⟨R', hR', e'⟩ := near_fin (s ^^ t) m n e j hb.1 h1 hb.2.2 h2
    rw [e']
    exact fin_num (read_word _ _ (by omega)) hR'
  · subst h1 h2
    have := near_up R hR s (s ^^ t) m e (hd s) 52
    rw [show (4503599627370496 : Nat) = 2 ^ 52 by decide, show e + -52 = e - ((52 : Nat) : Int) by omega, this]
    exact fin_num (read_word _ _ (by omega)) hR
theorem sam_symm {a b : Datum} (h : Sam a b) : Sam b a := by
  cases a <;> cases b
  all_goals first | exact h.elim | skip
  · obtain ⟨rfl, rfl, h⟩ := h
    exact ⟨rfl, rfl, h.imp id Eq.symm⟩
  · exact Eq.symm h
/-- A number divided by one. -/
theorem div_one {x : Nat} (hx : fin x = true) : Sam (Ieee.double.read x) (Ieee.double.read (fdiv x 4607182418800017408)) := by
  obtain ⟨s, m, e, ex⟩ := fin_read hx
  obtain ⟨R, hR, hd⟩ := dat_of_read ex
  have hb := read_bound ex
  have e1 : Ieee.double.read 4607182418800017408 = .number false 4503599627370496 (-52) := by decide +kernel
  unfold fdiv Ieee.Format.div ov
  rw [ex, e1]
  simp only [Datum.quotient]
  rw [if_neg (by decide)]
  simp only [Option.map_some, Option.getD_some, Ieee.Format.write]
  have hlm : m.log2 ≤ 52 := by
    by_cases h0 : m = 0
    · subst h0; decide
    · have := (Nat.log2_lt (n := m) (k := 53) h0).2 (by omega)
      omega
  have hl1 : (4503599627370496 : Nat).log2 = 52 := by decide +kernel
  have hf : Ieee.double.fractionBits = 52 := rfl
  rw [hl1, hf]
  generalize hmore : 52 + 2 + 52 - m.log2 = more
  have hm2 : m <<< more = m * 2 ^ (more - 52) * 4503599627370496 := by
    rw [Nat.shiftLeft_eq, Nat.mul_assoc, show (4503599627370496 : Nat) = 2 ^ 52 by decide, ← Nat.pow_add, show more - 52 + 52 = more by omega]
  rw [hm2, Nat.mul_div_cancel _ (by decide), Nat.mul_mod_left, show ((0 : Nat) != 0).toNat = 0 from rfl, Nat.add_zero]
  have h3 : 2 * (m * 2 ^ (more - 52)) = m * 2 ^ (more - 51) := by
    rw [show more - 51 = (more - 52) + 1 by omega, Nat.pow_succ, Nat.mul_comm 2, Nat.mul_assoc]
  rw [h3, show e - -52 - (more : Int) - 1 = e - ((more - 51 : Nat) : Int) by omega, near_up R hR s (s ^^ false) m e (hd s), read_word _ _ (by omega), hd]
  exact ⟨rfl, rfl, .inr (by cases s <;> rfl)⟩
/-- Opposite numbers make a nought. -/
theorem opp_zero {u v : Nat} (hu : fin u = true) (h : Opp (Ieee.double.read u) (Ieee.double.read v)) : Zer (fadd u v) := by
  obtain ⟨s, m, e, eu⟩ := fin_read hu
  unfold fadd Ieee.Format.add ov
  rw [eu] at h ⊢
  revert h
  cases Ieee.double.read v with
  | infinity t => exact fun h => h.elim
  | nan t f => exact fun h => h.elim
  | number t n j =>
    rintro ⟨rfl, rfl, h⟩
    simp only [Datum.sum, Option.map_some, Option.getD_some, Ieee.Format.write, signed_opp h]
    generalize Ieee.signed s m (e - min e e).toNat = X
    rw [show (X + -X).natAbs = 0 by omega]
    have : ∀ (b : Bool) (p : Int), Ieee.double.nearest b 0 p = Ieee.double.word b 0 := fun b p => by unfold Ieee.Format.nearest; rw [if_pos rfl]
    rw [this]
    exact zer_word _
theorem opp_of_sam {a b c : Datum} (h1 : Sam a b) (h2 : Opp a c) : Opp b c := by
  cases a <;> cases b
  all_goals first | exact h1.elim | skip
  · obtain ⟨rfl, rfl, h⟩ := h1
    cases c with
    | number t n j =>
      obtain ⟨rfl, rfl, h'⟩ := h2
      refine ⟨rfl, rfl, ?_⟩
      rcases h with h | h
      · exact .inl h
      · rcases h' with h' | h'
        · exact .inl h'
        · exact .inr (by rw [h', h])
    | infinity t => exact h2.elim
    | nan t f => exact h2.elim
  · cases c with
    | infinity t => exact (show t = _ from (h2 : t = _).trans (by rw [show _ = _ from h1]))
    | number t n j => exact h2.elim
    | nan t f => exact h2.elim
theorem opp_symm {a b : Datum} (h : Opp a b) : Opp b a := by
  cases a <;> cases b
  all_goals first | exact h.elim | skip
  · obtain ⟨rfl, rfl, h⟩ := h
    exact ⟨rfl, rfl, h.imp id (fun h => by rw [h, Bool.not_not])⟩
  · rename_i u v
    exact (by rw [show v = !u from h, Bool.not_not] : u = !v)
theorem zer_feq {z : Nat} (h : Zer z) : feq z 0 = true := by
  obtain ⟨t, h⟩ := h
  exact feq_sam (by rw [h, show Ieee.double.read 0 = .number false 0 (-1074) by decide +kernel]; exact ⟨rfl, rfl, .inl rfl⟩)
theorem zer_fin {z : Nat} (h : Zer z) : fin z = true := by
  obtain ⟨t, h⟩ := h
  exact fin_of h
theorem zer_sub {z : Nat} (h : Zer z) : Zer (fsub 0 z) := by
  obtain ⟨t, h⟩ := h
  unfold fsub Ieee.Format.sub ov
  rw [h, show Ieee.double.read 0 = .number false 0 (-1074) by decide +kernel]
  simp only [Datum.opposite, Datum.sum, Option.map_some, Option.getD_some, Ieee.Format.write]
  have e0 : ∀ (s : Bool) (u : Nat), Ieee.signed s 0 u = 0 := fun s u => by unfold Ieee.signed; cases s <;> simp
  rw [e0, e0]
  have : ∀ (b : Bool) (p : Int), Ieee.double.nearest b 0 p = Ieee.double.word b 0 := fun b p => by unfold Ieee.Format.nearest; rw [if_pos rfl]
  rw [show ((0 : Int) + 0).natAbs = 0 from rfl, this]
  exact zer_word _
theorem zer_of_feq {x : Nat} (hx : fin x = true) (h : feq x 0 = true) : Zer x := by
  obtain ⟨s, m, e, ex⟩ := fin_read hx
  have hb := read_bound ex
  obtain ⟨R, hR, hd⟩ := dat_of_read ex
  have hm : m = 0 := by
    unfold feq Ieee.Format.order at h
    rw [ex, show Ieee.double.read 0 = .number false 0 (-1074) by decide +kernel] at h
    simp only [Datum.order] at h
    have e0 : ∀ (s : Bool) (u : Nat), Ieee.signed s 0 u = 0 := fun s u => by unfold Ieee.signed; cases s <;> simp
    rw [e0] at h
    have h2 : compare (Ieee.signed s m (e - min e (-1074)).toNat) 0 = .eq := by simpa using h
    have h3 : Ieee.signed s m (e - min e (-1074)).toNat = 0 := Int.compare_eq_eq.1 h2
    have h4 := signed_abs s m (e - min e (-1074)).toNat
    rw [h3, Nat.shiftLeft_eq] at h4
    have := Nat.two_pow_pos (e - min e (-1074)).toNat
    rcases Nat.mul_eq_zero.1 h4.symm with h | h
    · exact h
    · omega
  subst hm
  refine ⟨s, ?_⟩
  rw [ex]
  have := hd s
  unfold dat at this
  split at this
  · injection this with _ _ he
    rw [he]
  · injection this with _ h1 _
    omega
theorem opp_fin_fin {y : Nat} (hy : fin y = true) : fin (fsub 0 y) = true := by
  have hp := opp_fin hy
  obtain ⟨a, m, e, ey⟩ := fin_read hy
  rw [ey] at hp
  revert hp
  cases hr : Ieee.double.read (fsub 0 y) with
  | number t n j => exact fun _ => fin_of hr
  | infinity t => exact fun h => h.elim
  | nan t f => exact fun h => h.elim
theorem small_fin {y : Nat} (h : small y = true) : fin y = true := by
  unfold small at h
  split at h
  · rename_i e; exact fin_of e
  · cases h
theorem zer_sam_zer {y z : Nat} (h : Zer y) (hs : Sam (Ieee.double.read y) (Ieee.double.read z)) : Zer z := by
  obtain ⟨t, h⟩ := h
  rw [h] at hs
  revert hs
  cases hr : Ieee.double.read z with
  | number u n j => exact fun hs => ⟨u, by obtain ⟨rfl, rfl, _⟩ := hs; exact hr⟩
  | infinity u => exact fun h => h.elim
  | nan u f => exact fun h => h.elim
end Go.Proofs.Ytaophbkedbphnab.Gen
