/- Plain facts on floats: whole numbers as floats and back; words that say the same. -/
import Derived.Test.YtaophbkedbphnabFMono
import Derived.Laws.BitsAll
set_option exponentiation.threshold 3000
set_option linter.unusedVariables false
set_option linter.unusedSimpArgs false
namespace Go.Proofs.Ytaophbkedbphnab.Gen
open Go.RowKit Go.Proofs.YtaophbkedbphnabW.PrintWords Go.Proofs.YtaophbkedbphnabW.PrintFlt
open Ieee (Datum)

theorem near_lt (sg : Bool) (q : Nat) (p : Int) : Ieee.double.nearest sg q p < 18446744073709551616 := by
  rw [nearest_rung]
  have : min (rung q p) 9218868437227405312 ≤ 9218868437227405312 := Nat.min_le_right _ _
  generalize min (rung q p) 9218868437227405312 = R at this
  unfold Ieee.Format.word
  rw [swd]
  cases sg
  · simp only [Bool.false_eq_true, if_false]; omega
  · simp only [if_true]; omega
theorem foi_near (n : Int) : foi n = Ieee.double.nearest (decide (n < 0)) n.natAbs 0 := rfl
theorem foi_lt (n : Int) : foi n < 18446744073709551616 := by rw [foi_near]; exact near_lt _ _ _
theorem foi_val {n : Int} (h : n.natAbs < 9007199254740992) : fin (foi n) = true ∧ val (foi n) = n * 2 ^ 1074 := by
  obtain ⟨e1, R, hR, hw⟩ := rd2_int (L := n) (k := 1074) h (by omega) 0
  have e2 := rd2_scale n 0 1074
  rw [show (0 : Int) - ((1074 : Nat) : Int) = -1074 by omega] at e2
  rw [Int.pow_zero, Int.mul_one, show (-1074 : Int) - ((0 : Nat) : Int) = -1074 by omega] at e1
  have hr : rung n.natAbs 0 < 9218868437227405312 := by
    have := rung_scale n.natAbs 0 1074
    rw [show (0 : Int) - ((1074 : Nat) : Int) = -1074 by omega, ← hw, rung_wv] at this
    omega
  have := nearest_val (decide (n < 0)) n 0 (.inr rfl) hr
  rw [foi_near, ← e1, e2]
  exact this

/-! a float made whole -/
theorem cut_zero (s : Bool) (n d : Nat) : Ieee.Toward.zero.cut s n d = n / 2 ^ d := by
  unfold Ieee.Toward.cut
  simp only [Nat.shiftLeft_eq, Nat.one_mul, show Bool.toNat false = 0 from rfl, Nat.add_zero]
  rcases Nat.le_total d (n.log2 + 2) with h | h
  · rw [Nat.min_eq_left h]
  · rw [Nat.min_eq_right h]
    have h1 : n < 2 ^ (n.log2 + 1) := Nat.lt_log2_self
    have h2 : 2 ^ (n.log2 + 2) = 2 * 2 ^ (n.log2 + 1) := by rw [Nat.pow_succ, Nat.mul_comm]
    have h3 : 2 ^ (n.log2 + 2) ≤ 2 ^ d := Nat.pow_le_pow_right (by omega) h
    rw [Nat.div_eq_of_lt (by omega), Nat.div_eq_of_lt (by omega)]
theorem conv_num {x : Nat} {s : Bool} {m : Nat} {i : Int} (h : Ieee.double.read x = .number s m i) : floatToIntVal .f64 x .i64 = (if IntKind.i64.min ≤ Ieee.signed s (m <<< i.toNat / 2 ^ (-i).toNat) 0 ∧ Ieee.signed s (m <<< i.toNat / 2 ^ (-i).toNat) 0 ≤ IntKind.i64.max then some (Ieee.signed s (m <<< i.toNat / 2 ^ (-i).toNat) 0) else none) := by
  have e : (FloatKind.f64.decode x).toInt .zero = some (Ieee.signed s (m <<< i.toNat / 2 ^ (-i).toNat) 0) := by
    have e0 : FloatKind.f64.decode x = Ieee.double.read x := rfl
    rw [e0, h]
    simp only [Datum.toInt, Datum.integral, cut_zero]
  unfold floatToIntVal
  rw [e]
theorem signed0 (s : Bool) (A : Nat) : Ieee.signed s A 0 = if s then -(A : Int) else (A : Int) := by unfold Ieee.signed; rw [Nat.shiftLeft_zero]
theorem cut_val (m : Nat) (i : Int) (hi : -1074 ≤ i) : m <<< i.toNat / 2 ^ (-i).toNat * 2 ^ 1074 ≤ m * 2 ^ (i + 1074).toNat := by
  rw [Nat.shiftLeft_eq]
  rcases Int.le_total 0 i with c | c
  · rw [show (-i).toNat = 0 by omega, Nat.pow_zero, Nat.div_one, show (i + 1074).toNat = i.toNat + 1074 by omega, Nat.pow_add, Nat.mul_assoc]
    exact Nat.le_refl _
  · rw [show i.toNat = 0 by omega, Nat.pow_zero, Nat.mul_one]
    have e : 1074 = (-i).toNat + (i + 1074).toNat := by omega
    have h := Nat.mul_le_mul_right (2 ^ (i + 1074).toNat) (Nat.div_mul_le_self m (2 ^ (-i).toNat))
    rw [Nat.mul_assoc, ← Nat.pow_add, ← e] at h
    exact h
theorem val_abs {x : Nat} {s : Bool} {m : Nat} {i : Int} (h : Ieee.double.read x = .number s m i) : (val x).natAbs = m * 2 ^ (i + 1074).toNat := by
  rw [val_read h]
  unfold Ieee.signed
  rw [Nat.shiftLeft_eq]
  cases s
  · exact Int.natAbs_natCast _
  · exact (Int.natAbs_neg _).trans (Int.natAbs_natCast _)
theorem inI_of {x : Nat} (hx : fin x = true) (hb : (val x).natAbs ≤ 4611686018427387904 * 2 ^ 1074) : inI x = true := by
  obtain ⟨s, m, i, ex⟩ := fin_read hx
  have hr := read_bound ex
  have h1 := cut_val m i hr.2.1
  rw [← val_abs ex] at h1
  have h2 : m <<< i.toNat / 2 ^ (-i).toNat ≤ 4611686018427387904 := Nat.le_of_mul_le_mul_right (Nat.le_trans h1 hb) (Nat.two_pow_pos _)
  unfold inI
  rw [conv_num ex, signed0]
  generalize m <<< i.toNat / 2 ^ (-i).toNat = A at h2
  have lo : IntKind.i64.min = -9223372036854775808 := by decide +kernel
  have hi : IntKind.i64.max = 9223372036854775807 := by decide +kernel
  rw [lo, hi, if_pos (by cases s <;> simp only [Bool.false_eq_true, if_false, if_true] <;> omega)]
  rfl
theorem toi_of {x : Nat} (hx : fin x = true) {n : Int} (hv : val x = n * 2 ^ 1074) (hn : n.natAbs ≤ 4611686018427387904) : toi x = n := by
  obtain ⟨s, m, i, ex⟩ := fin_read hx
  have hr := read_bound ex
  have ha := val_abs ex
  rw [hv, Int.natAbs_mul, Int.natAbs_pow, show Int.natAbs 2 = 2 from rfl] at ha
  have hA : m <<< i.toNat / 2 ^ (-i).toNat = n.natAbs := by
    rw [Nat.shiftLeft_eq]
    rcases Int.le_total 0 i with c | c
    · rw [show (i + 1074).toNat = i.toNat + 1074 by omega, Nat.pow_add, ← Nat.mul_assoc] at ha
      rw [show (-i).toNat = 0 by omega, Nat.pow_zero, Nat.div_one]
      exact (Nat.eq_of_mul_eq_mul_right (Nat.two_pow_pos _) ha).symm
    · have e : (2 : Nat) ^ 1074 = 2 ^ (-i).toNat * 2 ^ (i + 1074).toNat := by rw [← Nat.pow_add, show (-i).toNat + (i + 1074).toNat = 1074 by omega]
      rw [e, ← Nat.mul_assoc] at ha
      have := Nat.eq_of_mul_eq_mul_right (Nat.two_pow_pos _) ha
      rw [show i.toNat = 0 by omega, Nat.pow_zero, Nat.mul_one, ← this, Nat.mul_div_cancel _ (Nat.two_pow_pos _)]
  have hsg : n = if s then -(n.natAbs : Int) else (n.natAbs : Int) := by
    have hp : (0 : Int) < 2 ^ 1074 := Int.pow_pos (by omega)
    rw [val_read ex] at hv
    unfold Ieee.signed at hv
    cases s
    · simp only [Bool.false_eq_true, if_false] at hv ⊢
      have h0 : 0 ≤ n * 2 ^ 1074 := by rw [← hv]; exact Int.natCast_nonneg _
      have : 0 ≤ n := by
        rcases Int.lt_or_le n 0 with c | c
        · have := Int.mul_neg_of_neg_of_pos c hp; omega
        · exact c
      omega
    · simp only [if_true] at hv ⊢
      have h0 : n * 2 ^ 1074 ≤ 0 := by rw [← hv]; have := Int.natCast_nonneg (m <<< (i + 1074).toNat); omega
      have : n ≤ 0 := by
        rcases Int.lt_or_le 0 n with c | c
        · have := Int.mul_pos c hp; omega
        · exact c
      omega
  unfold toi
  rw [conv_num ex, signed0, hA, ← hsg]
  have lo : IntKind.i64.min = -9223372036854775808 := by decide +kernel
  have hi : IntKind.i64.max = 9223372036854775807 := by decide +kernel
  rw [lo, hi, if_pos (by omega)]
  rfl

/-! words -/
theorem read_sr {x : Nat} (hx : fin x = true) (h : x < 18446744073709551616) : Ieee.double.read x = dat (decide (9223372036854775808 ≤ x)) (x % 9223372036854775808) ∧ x % 9223372036854775808 < 9218868437227405312 := by
  have e : x = Ieee.double.word (decide (9223372036854775808 ≤ x)) (x % 9223372036854775808) := by
    unfold Ieee.Format.word
    rw [swd]
    by_cases c : 9223372036854775808 ≤ x
    · rw [decide_eq_true c, if_pos rfl]; omega
    · rw [decide_eq_false c, if_neg (by decide)]; omega
  have hR : x % 9223372036854775808 ≤ 9218868437227405312 := by
    rcases Nat.lt_or_ge 9218868437227405312 (x % 9223372036854775808) with c | c
    · exfalso
      have hn : isn x = true := by
        unfold isn Ieee.Format.read
        simp only [swd, bwd, iwd]
        rw [if_neg (by omega), if_neg (by omega), if_neg (by omega)]
        rfl
      rw [fin_isn hx] at hn
      cases hn
    · exact c
  have hr : Ieee.double.read x = dat (decide (9223372036854775808 ≤ x)) (x % 9223372036854775808) := by
    have := read_word (decide (9223372036854775808 ≤ x)) _ hR
    rw [← e] at this
    exact this
  refine ⟨hr, ?_⟩
  rcases Nat.lt_or_eq_of_le hR with c | c
  · exact c
  · exfalso
    rw [c] at hr
    unfold fin at hx
    rw [hr] at hx
    unfold dat at hx
    rw [if_neg (by decide), if_neg (by decide)] at hx
    cases hx
theorem wv_inj {R S : Nat} (h : wv R = wv S) : R = S := by rw [← rung_wv R, h, rung_wv]
/-- Numbers of one worth and one sign bit are one word. -/
theorem word_ext {x y : Nat} (hx : fin x = true) (hy : fin y = true) (lx : x < 18446744073709551616) (ly : y < 18446744073709551616) (hv : val x = val y) (hs : decide (9223372036854775808 ≤ x) = decide (9223372036854775808 ≤ y)) : x = y := by
  obtain ⟨r1, b1⟩ := read_sr hx lx
  obtain ⟨r2, b2⟩ := read_sr hy ly
  have v1 := val_dat r1 b1
  have v2 := val_dat r2 b2
  rw [v1, v2, ← hs] at hv
  have : wv (x % 9223372036854775808) = wv (y % 9223372036854775808) := by
    unfold sv at hv
    cases hd : decide (9223372036854775808 ≤ x)
    · rw [hd] at hv; simp only [Bool.false_eq_true, if_false] at hv; omega
    · rw [hd] at hv; simp only [if_true] at hv; omega
  have e := wv_inj this
  rw [decide_eq_decide] at hs
  by_cases c : 9223372036854775808 ≤ x
  · have := hs.1 c; omega
  · have := fun h => c (hs.2 h); omega
theorem fabs_fin {x : Nat} (hx : fin x = true) : fin (fabs x) = true ∧ val (fabs x) = ((val x).natAbs : Int) := by
  obtain ⟨s, m, i, ex⟩ := fin_read hx
  have e : fabs x = x % 9223372036854775808 := by unfold fabs; rw [fin_isn hx, if_neg (by decide)]
  have hr : Ieee.double.read (fabs x) = .number false m i := by rw [e, read_mod, ex]
  refine ⟨fin_of hr, ?_⟩
  rw [val_read hr, val_abs ex]
  unfold Ieee.signed
  rw [Nat.shiftLeft_eq]
  rfl
theorem mul_nan {x : Nat} (h : isn x = true) (c : Nat) : fmul x c = qnan := by
  obtain ⟨s, f, e⟩ := read_nan h
  unfold fmul Ieee.Format.mul ov
  rw [e]
  rfl
/-! tree of cases -/
def allB (p : Int → Bool) : Nat → Int → Bool
  | 0, i => p i
  | d + 1, i => allB p d i && allB p d (i + 2 ^ d)
theorem allB_get (p : Int → Bool) : ∀ d i, allB p d i = true → ∀ n, i ≤ n → n < i + 2 ^ d → p n = true := by
  intro d
  induction d with
  | zero =>
    intro i h n h1 h2
    obtain rfl : n = i := by rw [Int.pow_zero] at h2; omega
    exact h
  | succ d ih =>
    intro i h n h1 h2
    unfold allB at h
    rw [Bool.and_eq_true] at h
    rw [Int.pow_succ] at h2
    rcases Int.lt_or_le n (i + 2 ^ d) with c | c
    · exact ih i h.1 n h1 c
    · exact ih (i + 2 ^ d) h.2 n c (by omega)
end Go.Proofs.Ytaophbkedbphnab.Gen
