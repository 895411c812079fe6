/- Plain facts on floats: rounding keeps order; what is reckoned of bounded floats is bounded. -/
import Derived.Test.YtaophbkedbphnabFinMul
set_option exponentiation.threshold 3000
set_option linter.unusedVariables false
set_option linter.unusedSimpArgs false
namespace Go.Proofs.Ytaophbkedbphnab.Gen
open Go.RowKit Go.Proofs.YtaophbkedbphnabW.PrintWords Go.Proofs.YtaophbkedbphnabW.PrintFlt
open Ieee (Datum)

/-- n by 2^d, to the nearest, between two the even one. -/
def rne (n d : Nat) : Nat := n / 2 ^ d + (decide (2 ^ d < 2 * (n % 2 ^ d)) || (2 ^ d == 2 * (n % 2 ^ d) && n / 2 ^ d % 2 == 1)).toNat
theorem bt01 (x : Bool) : x.toNat ≤ 1 := by cases x <;> decide
theorem cut_rne (sg : Bool) (n d : Nat) : Ieee.Toward.even.cut sg n d = rne n d := by
  unfold Ieee.Toward.cut rne
  simp only [Nat.shiftLeft_eq, Nat.one_mul]
  rcases Nat.le_total d (n.log2 + 2) with h | h
  · rw [Nat.min_eq_left h]
  · rw [Nat.min_eq_right h]
    have h1 : n < 2 ^ (n.log2 + 1) := Nat.lt_log2_self
    have h2 : 2 ^ (n.log2 + 2) = 2 * 2 ^ (n.log2 + 1) := by rw [Nat.pow_succ, Nat.mul_comm]
    have h3 : 2 ^ (n.log2 + 2) ≤ 2 ^ d := Nat.pow_le_pow_right (by omega) h
    generalize 2 ^ (n.log2 + 2) = a at h2 h3 ⊢
    generalize 2 ^ d = b at h3 ⊢
    generalize 2 ^ (n.log2 + 1) = c at h1 h2
    rw [Nat.div_eq_of_lt (by omega : n < a), Nat.div_eq_of_lt (by omega : n < b), Nat.mod_eq_of_lt (by omega : n < a), Nat.mod_eq_of_lt (by omega : n < b)]
    have e1 : decide (a < 2 * n) = false := decide_eq_false (by omega)
    have e2 : decide (b < 2 * n) = false := decide_eq_false (by omega)
    have e3 : (a == 2 * n) = false := by rw [beq_eq_false_iff_ne]; omega
    have e4 : (b == 2 * n) = false := by rw [beq_eq_false_iff_ne]; omega
    rw [e1, e2, e3, e4]
theorem rne_mono {n m : Nat} (d : Nat) (h : n ≤ m) : rne n d ≤ rne m d := by
  unfold rne
  have hp := Nat.two_pow_pos d
  generalize 2 ^ d = g at hp ⊢
  have h1 := Nat.div_le_div_right (c := g) h
  rcases Nat.lt_or_eq_of_le h1 with h2 | h2
  · exact Nat.le_trans (Nat.add_le_add_left (bt01 _) _) (Nat.le_trans h2 (Nat.le_add_right _ _))
  · have a1 := Nat.div_add_mod n g
    have a2 := Nat.div_add_mod m g
    rw [h2] at a1 ⊢
    generalize g * (m / g) = z at a1 a2
    have h3 : n % g ≤ m % g := by omega
    refine Nat.add_le_add_left ?_ _
    generalize n % g = r at h3 ⊢
    generalize m % g = s at h3 ⊢
    by_cases c1 : g < 2 * r
    · have c1' : g < 2 * s := by omega
      rw [decide_eq_true c1, decide_eq_true c1']
      exact Nat.le_refl _
    · by_cases c2 : g = 2 * r
      · by_cases c3 : g < 2 * s
        · rw [decide_eq_true c3]
          exact bt01 _
        · obtain rfl : r = s := by omega
          exact Nat.le_refl _
      · have e : (decide (g < 2 * r) || (g == 2 * r && m / g % 2 == 1)) = false := by
          rw [decide_eq_false c1, beq_eq_false_iff_ne.2 c2]
          rfl
        rw [e]
        exact Nat.zero_le _
theorem rne_scale (n d k : Nat) : rne (n * 2 ^ k) (d + k) = rne n d := by
  unfold rne
  have hp := Nat.two_pow_pos k
  rw [Nat.pow_add, Nat.mul_div_mul_right _ _ hp, Nat.mul_mod_mul_right]
  have e : 2 * (n % 2 ^ d * 2 ^ k) = (2 * (n % 2 ^ d)) * 2 ^ k := by rw [Nat.mul_assoc]
  rw [e]
  have c1 : decide (2 ^ d * 2 ^ k < 2 * (n % 2 ^ d) * 2 ^ k) = decide (2 ^ d < 2 * (n % 2 ^ d)) := by
    rw [decide_eq_decide]
    exact Nat.mul_lt_mul_right hp
  have c2 : (2 ^ d * 2 ^ k == 2 * (n % 2 ^ d) * 2 ^ k) = (2 ^ d == 2 * (n % 2 ^ d)) := by
    rw [Bool.eq_iff_iff, beq_iff_eq, beq_iff_eq]
    exact Nat.mul_right_cancel_iff hp
  rw [c1, c2]
theorem rne_zero (n : Nat) : rne n 0 = n := by
  unfold rne
  rw [Nat.pow_zero, Nat.div_one, Nat.mod_one]
  rfl
theorem rne_up {n d : Nat} (h : n < 2 ^ (d + 53)) : rne n d ≤ 9007199254740992 := by
  have h1 : n / 2 ^ d < 9007199254740992 := by
    rw [Nat.div_lt_iff_lt_mul (Nat.two_pow_pos d)]
    rw [Nat.pow_add, Nat.mul_comm] at h
    exact h
  unfold rne
  exact Nat.le_trans (Nat.add_le_add_left (bt01 _) _) h1
theorem rne_low {n d : Nat} (h : 2 ^ (d + 52) ≤ n) : 4503599627370496 ≤ rne n d := by
  have h1 : 4503599627370496 ≤ n / 2 ^ d := by
    rw [Nat.le_div_iff_mul_le (Nat.two_pow_pos d)]
    rw [Nat.pow_add, Nat.mul_comm] at h
    exact h
  unfold rne
  exact Nat.le_trans h1 (Nat.le_add_right _ _)
def lastp (q : Nat) (p : Int) : Int := max (p + (q.log2 : Int) - 52) (-1074)
/-- The rung of q * 2^p. -/
def rung (q : Nat) (p : Int) : Nat := if q = 0 then 0 else (lastp q p + 1074).toNat * 4503599627370496 + rne (q <<< (p - lastp q p).toNat) (lastp q p - p).toNat
theorem nearest_rung (sg : Bool) (q : Nat) (p : Int) : Ieee.double.nearest sg q p = Ieee.double.word sg (min (rung q p) 9218868437227405312) := by
  unfold Ieee.Format.nearest rung
  by_cases h : q = 0
  · rw [if_pos h, if_pos h]
    rfl
  · rw [if_neg h, if_neg h]
    have hf : Ieee.double.fractionBits = 52 := rfl
    simp only [lwd, bwd, iwd, cut_rne, hf]
    have e : max (p + (q.log2 : Int) - ((52 : Nat) : Int)) (-1074) = lastp q p := rfl
    rw [e, show lastp q p - -1074 = lastp q p + 1074 by omega]
theorem lastp_ge (q : Nat) (p : Int) : -1074 ≤ lastp q p := by unfold lastp; omega
theorem lastp_ge' (q : Nat) (p : Int) : p + (q.log2 : Int) - 52 ≤ lastp q p := by unfold lastp; omega
theorem lastp_eq (q : Nat) (p : Int) : lastp q p = -1074 ∨ lastp q p = p + (q.log2 : Int) - 52 := by unfold lastp; omega
theorem rung_at {q : Nat} {p : Int} (hq : q ≠ 0) (B : Int) (h1 : B ≤ p) (h2 : B ≤ lastp q p) : rung q p = (lastp q p + 1074).toNat * 4503599627370496 + rne (q * 2 ^ (p - B).toNat) (lastp q p - B).toNat := by
  unfold rung
  rw [if_neg hq]
  generalize lastp q p = L at h2 ⊢
  congr 1
  rcases Int.le_total p L with c | c
  · rw [show (p - L).toNat = 0 by omega, Nat.shiftLeft_zero, show (L - B).toNat = (L - p).toNat + (p - B).toNat by omega, rne_scale]
  · rw [show (L - p).toNat = 0 by omega, Nat.shiftLeft_eq, show (p - B).toNat = (p - L).toNat + (L - B).toNat by omega, Nat.pow_add, ← Nat.mul_assoc]
    have := rne_scale (q * 2 ^ (p - L).toNat) 0 (L - B).toNat
    rw [Nat.zero_add] at this
    exact this.symm
theorem log2_scale {q : Nat} (hq : q ≠ 0) (k : Nat) : (q * 2 ^ k).log2 = q.log2 + k := by
  have hn0 : q * 2 ^ k ≠ 0 := Nat.ne_of_gt (Nat.mul_pos (by omega) (Nat.two_pow_pos _))
  rw [Nat.log2_eq_iff hn0]
  constructor
  · rw [Nat.pow_add]; exact Nat.mul_le_mul_right _ (Nat.log2_self_le hq)
  · rw [show q.log2 + k + 1 = (q.log2 + 1) + k by omega, Nat.pow_add]; exact Nat.mul_lt_mul_of_pos_right Nat.lt_log2_self (Nat.two_pow_pos _)
theorem log2_mono {a b : Nat} (h : a ≤ b) (ha : a ≠ 0) : a.log2 ≤ b.log2 := by
  have := (Nat.log2_lt (n := a) (k := b.log2 + 1) ha).2 (Nat.lt_of_le_of_lt h Nat.lt_log2_self)
  omega
theorem rung_mono {q1 q2 : Nat} {p1 p2 : Int} (B : Int) (h1 : B ≤ p1) (h2 : B ≤ p2) (h : q1 * 2 ^ (p1 - B).toNat ≤ q2 * 2 ^ (p2 - B).toNat) : rung q1 p1 ≤ rung q2 p2 := by
  by_cases z1 : q1 = 0
  · unfold rung; rw [if_pos z1]; exact Nat.zero_le _
  have n1 : ∀ k, q1 * 2 ^ k ≠ 0 := fun k => Nat.ne_of_gt (Nat.mul_pos (Nat.pos_of_ne_zero z1) (Nat.two_pow_pos k))
  by_cases z2 : q2 = 0
  · exfalso
    rw [z2, Nat.zero_mul] at h
    exact n1 _ (Nat.le_zero.1 h)
  have hl : p1 + (q1.log2 : Int) ≤ p2 + (q2.log2 : Int) := by
    have a := log2_mono h (n1 _)
    rw [log2_scale z1, log2_scale z2] at a
    omega
  have hL : lastp q1 p1 ≤ lastp q2 p2 := by unfold lastp; omega
  obtain ⟨B', b1, b2⟩ : ∃ B', B' ≤ B ∧ B' ≤ lastp q1 p1 := ⟨min B (lastp q1 p1), by omega, by omega⟩
  have h' : q1 * 2 ^ (p1 - B').toNat ≤ q2 * 2 ^ (p2 - B').toNat := by
    rw [show (p1 - B').toNat = (p1 - B).toNat + (B - B').toNat by omega, show (p2 - B').toNat = (p2 - B).toNat + (B - B').toNat by omega, Nat.pow_add, Nat.pow_add, ← Nat.mul_assoc, ← Nat.mul_assoc]
    exact Nat.mul_le_mul_right _ h
  rw [rung_at z1 B' (by omega) b2, rung_at z2 B' (by omega) (by omega)]
  by_cases c : lastp q1 p1 = lastp q2 p2
  · rw [c]
    exact Nat.add_le_add_left (rne_mono _ h') _
  · have g1 := lastp_ge q1 p1
    have g2 := lastp_ge' q1 p1
    have g3 := lastp_eq q2 p2
    have k1 : rne (q1 * 2 ^ (p1 - B').toNat) (lastp q1 p1 - B').toNat ≤ 9007199254740992 := by
      apply rne_up
      refine Nat.lt_of_lt_of_le (Nat.lt_log2_self (n := q1 * 2 ^ (p1 - B').toNat)) (Nat.pow_le_pow_right (by omega) ?_)
      rw [log2_scale z1]
      omega
    have k2 : 4503599627370496 ≤ rne (q2 * 2 ^ (p2 - B').toNat) (lastp q2 p2 - B').toNat := by
      apply rne_low
      refine Nat.le_trans (Nat.pow_le_pow_right (by omega) ?_) (Nat.log2_self_le (n := q2 * 2 ^ (p2 - B').toNat) (Nat.ne_of_gt (Nat.mul_pos (Nat.pos_of_ne_zero z2) (Nat.two_pow_pos _))))
      rw [log2_scale z2]
      omega
    have k3 : (lastp q1 p1 + 1074).toNat + 1 ≤ (lastp q2 p2 + 1074).toNat := by omega
    generalize rne (q1 * 2 ^ (p1 - B').toNat) (lastp q1 p1 - B').toNat = r1 at k1 ⊢
    generalize rne (q2 * 2 ^ (p2 - B').toNat) (lastp q2 p2 - B').toNat = r2 at k2 ⊢
    generalize (lastp q1 p1 + 1074).toNat = l1 at k3 ⊢
    generalize (lastp q2 p2 + 1074).toNat = l2 at k3 ⊢
    omega
theorem rung_scale (q : Nat) (p : Int) (k : Nat) : rung (q * 2 ^ k) (p - (k : Int)) = rung q p := by
  refine Nat.le_antisymm (rung_mono (p - (k : Int)) (by omega) (by omega) ?_) (rung_mono (p - (k : Int)) (by omega) (by omega) ?_)
  all_goals
    rw [show (p - (k : Int) - (p - (k : Int))).toNat = 0 by omega, show (p - (p - (k : Int))).toNat = k by omega, Nat.pow_zero, Nat.mul_one]
    exact Nat.le_refl _

/-! values -/
/-- What the rung stands for, in units of 2^-1074. -/
def wv (R : Nat) : Nat := if R < 4503599627370496 then R else (4503599627370496 + R % 4503599627370496) * 2 ^ (R / 4503599627370496 - 1)
theorem rung_wv (R : Nat) : rung (wv R) (-1074) = R := by
  unfold wv
  by_cases c : R < 4503599627370496
  · rw [if_pos c]
    unfold rung
    by_cases h0 : R = 0
    · rw [if_pos h0, h0]
    · rw [if_neg h0]
      have hl : R.log2 ≤ 51 := by
        have := (Nat.log2_lt (n := R) (k := 52) h0).2 (by omega)
        omega
      have e : lastp R (-1074) = -1074 := by unfold lastp; omega
      rw [e, show ((-1074 : Int) - -1074).toNat = 0 from rfl, Nat.shiftLeft_zero, rne_zero]
      omega
  · rw [if_neg c]
    obtain ⟨k, hk⟩ : ∃ k, R / 4503599627370496 - 1 = k := ⟨_, rfl⟩
    rw [hk]
    obtain ⟨m, hm⟩ : ∃ m, 4503599627370496 + R % 4503599627370496 = m := ⟨_, rfl⟩
    rw [hm]
    have hm0 : m ≠ 0 := by omega
    have hl : m.log2 = 52 := by rw [Nat.log2_eq_iff hm0]; omega
    have e : lastp (m * 2 ^ k) (-1074) = -1074 + (k : Int) := by unfold lastp; rw [log2_scale hm0, hl]; omega
    unfold rung
    rw [if_neg (Nat.ne_of_gt (Nat.mul_pos (Nat.pos_of_ne_zero hm0) (Nat.two_pow_pos _))), e, show ((-1074 : Int) - (-1074 + (k : Int))).toNat = 0 by omega, Nat.shiftLeft_zero, show ((-1074 : Int) + (k : Int) - -1074).toNat = 0 + k by omega, rne_scale, rne_zero]
    omega
theorem wv_le {R S : Nat} (h : R ≤ S) : wv R ≤ wv S := by
  rcases Nat.le_total (wv R) (wv S) with c | c
  · exact c
  · have : rung (wv S) (-1074) ≤ rung (wv R) (-1074) := rung_mono (-1074) (by omega) (by omega) (Nat.mul_le_mul_right _ c)
    rw [rung_wv, rung_wv] at this
    rw [Nat.le_antisymm h this]
    exact Nat.le_refl _
theorem wv_zero : wv 0 = 0 := rfl
/-- A number of at most 53 digits is told to the bit. -/
theorem wv_ex {n k : Nat} (hn : n < 9007199254740992) (hk : k ≤ 1900) : ∃ R, R < 9218868437227405312 ∧ wv R = n * 2 ^ k := by
  by_cases h0 : n = 0
  · exact ⟨0, by omega, by rw [h0, Nat.zero_mul]; rfl⟩
  have hl : n.log2 ≤ 52 := by
    have := (Nat.log2_lt (n := n) (k := 53) h0).2 (by omega)
    omega
  have hn0 : n * 2 ^ k ≠ 0 := Nat.ne_of_gt (Nat.mul_pos (Nat.pos_of_ne_zero h0) (Nat.two_pow_pos _))
  by_cases c : n.log2 + k < 52
  · refine ⟨n * 2 ^ k, ?_, ?_⟩
    all_goals have hlt : n * 2 ^ k < 2 ^ 52 := (Nat.log2_lt hn0).1 (by rw [log2_scale h0]; omega)
    · omega
    · unfold wv; rw [if_pos (by omega)]
  · obtain ⟨e, he⟩ : ∃ e, n.log2 + k - 52 = e := ⟨_, rfl⟩
    have hke : k = (k - e) + e := by omega
    obtain ⟨m, hm⟩ : ∃ m, n * 2 ^ (k - e) = m := ⟨_, rfl⟩
    have hnm : n * 2 ^ k = m * 2 ^ e := by rw [← hm, Nat.mul_assoc, ← Nat.pow_add, ← hke]
    have hm0 : m ≠ 0 := by rw [← hm]; exact Nat.ne_of_gt (Nat.mul_pos (Nat.pos_of_ne_zero h0) (Nat.two_pow_pos _))
    have hlm : m.log2 = 52 := by rw [← hm, log2_scale h0]; omega
    rw [Nat.log2_eq_iff hm0] at hlm
    refine ⟨e * 4503599627370496 + m, by omega, ?_⟩
    unfold wv
    rw [if_neg (by omega), show (e * 4503599627370496 + m) % 4503599627370496 = m - 4503599627370496 by omega, show (e * 4503599627370496 + m) / 4503599627370496 - 1 = e by omega, hnm, show 4503599627370496 + (m - 4503599627370496) = m by omega]
def sv (s : Bool) (R : Nat) : Int := if s then -(wv R : Int) else wv R
/-- What a number is worth, in units of 2^-1074. -/
def val (x : Nat) : Int := match Ieee.double.read x with
  | .number s m e => Ieee.signed s m (e + 1074).toNat
  | _ => 0
theorem val_read {x : Nat} {s : Bool} {m : Nat} {e : Int} (h : Ieee.double.read x = .number s m e) : val x = Ieee.signed s m (e + 1074).toNat := by unfold val; rw [h]
theorem val_dat {x : Nat} {s : Bool} {R : Nat} (h : Ieee.double.read x = dat s R) (hR : R < 9218868437227405312) : val x = sv s R := by
  unfold val sv wv
  rw [h]
  unfold dat
  by_cases c : R < 4503599627370496
  · rw [if_pos c, if_pos c]
    show Ieee.signed s R ((-1074 : Int) + 1074).toNat = _
    unfold Ieee.signed
    rw [show ((-1074 : Int) + 1074).toNat = 0 from rfl, Nat.shiftLeft_zero]
  · rw [if_neg c, if_neg c, if_pos hR]
    show Ieee.signed s (4503599627370496 + R % 4503599627370496) ((-1074 : Int) + ((R / 4503599627370496 - 1 : Nat) : Int) + 1074).toNat = _
    unfold Ieee.signed
    rw [show ((-1074 : Int) + ((R / 4503599627370496 - 1 : Nat) : Int) + 1074).toNat = R / 4503599627370496 - 1 by omega, Nat.shiftLeft_eq]
theorem fin_dat {x : Nat} (h : fin x = true) : ∃ s R, R < 9218868437227405312 ∧ Ieee.double.read x = dat s R := by
  obtain ⟨s, m, e, ex⟩ := fin_read h
  obtain ⟨R, hR, hd⟩ := dat_of_read ex
  exact ⟨s, R, hR, ex.trans (hd s).symm⟩
/-- X * 2^B, rounded, in units of 2^-1074. -/
def rd2 (X : Int) (B : Int) : Int := if X < 0 then -(wv (rung X.natAbs B) : Int) else wv (rung X.natAbs B)
theorem rung_natAbs {X Y : Int} (B : Int) (h : X.natAbs ≤ Y.natAbs) : rung X.natAbs B ≤ rung Y.natAbs B := rung_mono B (by omega) (by omega) (Nat.mul_le_mul_right _ h)
theorem rd2_mono {X Y : Int} (B : Int) (h : X ≤ Y) : rd2 X B ≤ rd2 Y B := by
  unfold rd2
  by_cases c1 : X < 0
  · rw [if_pos c1]
    by_cases c2 : Y < 0
    · rw [if_pos c2]
      have := wv_le (rung_natAbs (X := Y) (Y := X) B (by omega))
      omega
    · rw [if_neg c2]
      omega
  · rw [if_neg c1, if_neg (by omega)]
    have := wv_le (rung_natAbs (X := X) (Y := Y) B (by omega))
    omega
theorem rd2_scale (X : Int) (B : Int) (k : Nat) : rd2 (X * 2 ^ k) (B - (k : Int)) = rd2 X B := by
  unfold rd2
  have hp : (0 : Int) < 2 ^ k := Int.pow_pos (by omega)
  have h1 : (X * 2 ^ k).natAbs = X.natAbs * 2 ^ k := by rw [Int.natAbs_mul, Int.natAbs_pow]; rfl
  rw [h1, rung_scale]
  by_cases c : X < 0
  · rw [if_pos c, if_pos (Int.mul_neg_of_neg_of_pos c hp)]
  · rw [if_neg c, if_neg (by have := Int.mul_nonneg (by omega : 0 ≤ X) (Int.le_of_lt hp); omega)]
theorem rd2_sv (s : Bool) (R : Nat) : rd2 (sv s R) (-1074) = sv s R := by
  unfold rd2 sv
  cases s
  · simp only [Bool.false_eq_true, if_false]
    rw [if_neg (by omega), Int.natAbs_natCast, rung_wv]
  · simp only [if_true]
    rw [Int.natAbs_neg, Int.natAbs_natCast, rung_wv]
    by_cases c : -(wv R : Int) < 0
    · rw [if_pos c]
    · rw [if_neg c]
      omega
/-- What is written of a number. -/
theorem nearest_val (sg : Bool) (X B : Int) (hs : X = 0 ∨ sg = decide (X < 0)) (hf : rung X.natAbs B < 9218868437227405312) : fin (Ieee.double.nearest sg X.natAbs B) = true ∧ val (Ieee.double.nearest sg X.natAbs B) = rd2 X B := by
  rw [nearest_rung, Nat.min_eq_left (Nat.le_of_lt hf)]
  have hr := read_word sg _ (Nat.le_of_lt hf)
  refine ⟨fin_num hr hf, ?_⟩
  rw [val_dat hr hf]
  unfold sv rd2
  rcases hs with rfl | rfl
  · have : wv (rung (Int.natAbs 0) B) = 0 := by
      unfold rung
      rw [if_pos (show Int.natAbs 0 = 0 from rfl)]
      rfl
    rw [this]
    cases sg <;> rfl
  · by_cases c : X < 0
    · rw [decide_eq_true c, if_pos c]; rfl
    · rw [decide_eq_false c, if_neg c]; rfl
theorem signed_val {s : Bool} {m : Nat} {e : Int} (base : Int) (h : base ≤ e) (h' : -1074 ≤ base) : Ieee.signed s m (e - base).toNat * 2 ^ (base + 1074).toNat = Ieee.signed s m (e + 1074).toNat := by
  have hk : (e + 1074).toNat = (e - base).toNat + (base + 1074).toNat := by omega
  rw [hk]
  generalize (e - base).toNat = a
  generalize (base + 1074).toNat = b
  unfold Ieee.signed
  rw [Nat.shiftLeft_eq, Nat.shiftLeft_eq, Nat.pow_add, ← Nat.mul_assoc]
  cases s
  · simp only [Bool.false_eq_true, if_false]
    push_cast
    rfl
  · simp only [if_true]
    push_cast
    rw [Int.neg_mul]
theorem rung_lt_of {X : Int} {B : Int} {R : Nat} (hR : R < 9218868437227405312) (hB : B ≤ -1074) (h : X.natAbs ≤ wv R * 2 ^ (-1074 - B).toNat) : rung X.natAbs B < 9218868437227405312 := by
  have := rung_mono (q1 := X.natAbs) (q2 := wv R) (p1 := B) (p2 := -1074) B (by omega) hB (by rw [show (B - B).toNat = 0 by omega, Nat.pow_zero, Nat.mul_one]; exact h)
  rw [rung_wv] at this
  omega
theorem fadd_val {x y : Nat} (hx : fin x = true) (hy : fin y = true) (hf : rung (val x + val y).natAbs (-1074) < 9218868437227405312) : fin (fadd x y) = true ∧ val (fadd x y) = rd2 (val x + val y) (-1074) := by
  obtain ⟨s, m, i, ex⟩ := fin_read hx
  obtain ⟨t, n, j, ey⟩ := fin_read hy
  have hbx := read_bound ex
  have hby := read_bound ey
  rw [val_read ex, val_read ey] at hf ⊢
  unfold fadd Ieee.Format.add ov
  rw [ex, ey]
  simp only [Datum.sum, Option.map_some, Option.getD_some, Ieee.Format.write]
  obtain ⟨base, hb⟩ : ∃ base, min i j = base := ⟨_, rfl⟩
  have b1 : base ≤ i := by omega
  have b2 : base ≤ j := by omega
  have b3 : -1074 ≤ base := by omega
  rw [← signed_val (s := s) (m := m) base b1 b3, ← signed_val (s := t) (m := n) base b2 b3, ← Int.add_mul] at hf ⊢
  rw [hb]
  clear hb
  generalize Ieee.signed s m (i - base).toNat + Ieee.signed t n (j - base).toNat = T at hf ⊢
  have e := rd2_scale T base (base + 1074).toNat
  rw [show base - ((base + 1074).toNat : Int) = -1074 by omega] at e
  rw [e]
  refine nearest_val _ T base ?_ ?_
  · by_cases c : T = 0
    · exact .inl c
    · rw [if_neg c]; exact .inr rfl
  · have h1 : (T * 2 ^ (base + 1074).toNat).natAbs = T.natAbs * 2 ^ (base + 1074).toNat := by rw [Int.natAbs_mul, Int.natAbs_pow]; rfl
    rw [h1] at hf
    have := rung_scale T.natAbs base (base + 1074).toNat
    rw [show base - ((base + 1074).toNat : Int) = -1074 by omega] at this
    rw [← this]
    exact hf
theorem fmul_val {x y : Nat} (hx : fin x = true) (hy : fin y = true) (hf : rung (val x * val y).natAbs (-2148) < 9218868437227405312) : fin (fmul x y) = true ∧ val (fmul x y) = rd2 (val x * val y) (-2148) := by
  obtain ⟨s, m, i, ex⟩ := fin_read hx
  obtain ⟨t, n, j, ey⟩ := fin_read hy
  have hbx := read_bound ex
  have hby := read_bound ey
  rw [val_read ex, val_read ey] at hf ⊢
  unfold fmul Ieee.Format.mul ov
  rw [ex, ey]
  simp only [Datum.product, Option.map_some, Option.getD_some, Ieee.Format.write]
  have hk : ∃ k : Nat, (i + 1074).toNat + (j + 1074).toNat = k ∧ (i + j) - (k : Int) = -2148 := ⟨_, rfl, by omega⟩
  obtain ⟨k, hk, hk2⟩ := hk
  have hX : Ieee.signed s m (i + 1074).toNat * Ieee.signed t n (j + 1074).toNat = (if (s ^^ t) then -((m * n : Nat) : Int) else ((m * n : Nat) : Int)) * 2 ^ k := by
    rw [← hk]
    unfold Ieee.signed
    rw [Nat.shiftLeft_eq, Nat.shiftLeft_eq, Int.pow_add]
    generalize (i + 1074).toNat = a
    generalize (j + 1074).toNat = b
    push_cast
    generalize (2 : Int) ^ a = p
    generalize (2 : Int) ^ b = q
    cases s <;> cases t <;> simp [Int.neg_mul, Int.mul_neg, Int.neg_neg] <;> ac_rfl
  rw [hX] at hf ⊢
  obtain ⟨X, hXd⟩ : ∃ X : Int, (if (s ^^ t) then -((m * n : Nat) : Int) else ((m * n : Nat) : Int)) = X := ⟨_, rfl⟩
  have ha : X.natAbs = m * n := by
    rw [← hXd]
    cases (s ^^ t)
    · exact Int.natAbs_natCast (m * n)
    · exact (Int.natAbs_neg _).trans (Int.natAbs_natCast (m * n))
  have hsg : X = 0 ∨ (s ^^ t) = decide (X < 0) := by
    by_cases c : X = 0
    · exact .inl c
    · refine .inr ?_
      rw [← hXd] at c ⊢
      revert c
      cases (s ^^ t)
      · intro c
        simp only [Bool.false_eq_true, if_false]
        exact (decide_eq_false (by omega)).symm
      · intro c
        simp only [if_true] at c ⊢
        exact (decide_eq_true (by omega)).symm
  rw [hXd] at hf ⊢
  rw [← hk2, rd2_scale]
  rw [← ha]
  refine nearest_val _ X _ hsg ?_
  have h1 : (X * 2 ^ k).natAbs = X.natAbs * 2 ^ k := by rw [Int.natAbs_mul, Int.natAbs_pow]; rfl
  rw [h1, ← hk2, rung_scale] at hf
  exact hf

/-! order -/
theorem order_val {x y : Nat} (hx : fin x = true) (hy : fin y = true) : Ieee.double.order x y = some (compare (val x) (val y)) := by
  obtain ⟨s, m, i, ex⟩ := fin_read hx
  obtain ⟨t, n, j, ey⟩ := fin_read hy
  have hbx := read_bound ex
  have hby := read_bound ey
  rw [val_read ex, val_read ey]
  unfold Ieee.Format.order
  rw [ex, ey]
  simp only [Datum.order]
  obtain ⟨base, hb⟩ : ∃ base, min i j = base := ⟨_, rfl⟩
  rw [hb, ← signed_val base (by omega) (by omega), ← signed_val (s := t) base (by omega) (by omega)]
  have hp : (0 : Int) < 2 ^ (base + 1074).toNat := Int.pow_pos (by omega)
  generalize (2 : Int) ^ (base + 1074).toNat = p at hp ⊢
  generalize Ieee.signed s m (i - base).toNat = a
  generalize Ieee.signed t n (j - base).toNat = b
  congr 1
  rcases Int.lt_trichotomy a b with h | h | h
  · rw [Int.compare_eq_lt.2 h, Int.compare_eq_lt.2 (Int.mul_lt_mul_of_pos_right h hp)]
  · rw [h]; simp
  · rw [Int.compare_eq_gt.2 h, Int.compare_eq_gt.2 (Int.mul_lt_mul_of_pos_right h hp)]
theorem flt_val {x y : Nat} (hx : fin x = true) (hy : fin y = true) : flt x y = decide (val x < val y) := by
  unfold flt
  rw [order_val hx hy]
  by_cases h : val x < val y
  · rw [Int.compare_eq_lt.2 h, decide_eq_true h]; rfl
  · rw [decide_eq_false h]
    cases hc : compare (val x) (val y) with
    | lt => exact absurd (Int.compare_eq_lt.1 hc) h
    | eq => rfl
    | gt => rfl
theorem fgt_val {x y : Nat} (hx : fin x = true) (hy : fin y = true) : fgt x y = decide (val y < val x) := by
  unfold fgt
  rw [order_val hx hy]
  by_cases h : val y < val x
  · rw [Int.compare_eq_gt.2 h, decide_eq_true h]; rfl
  · rw [decide_eq_false h]
    cases hc : compare (val x) (val y) with
    | gt => exact absurd (Int.compare_eq_gt.1 hc) h
    | eq => rfl
    | lt => rfl
theorem feq_val {x y : Nat} (hx : fin x = true) (hy : fin y = true) : feq x y = decide (val x = val y) := by
  unfold feq
  rw [order_val hx hy]
  by_cases h : val x = val y
  · rw [Int.compare_eq_eq.2 h, decide_eq_true h]; rfl
  · rw [decide_eq_false h]
    cases hc : compare (val x) (val y) with
    | eq => exact absurd (Int.compare_eq_eq.1 hc) h
    | gt => rfl
    | lt => rfl
theorem fle_val {x y : Nat} (hx : fin x = true) (hy : fin y = true) : (flt x y || feq x y) = decide (val x ≤ val y) := by
  rw [flt_val hx hy, feq_val hx hy, Bool.eq_iff_iff, Bool.or_eq_true, decide_eq_true_eq, decide_eq_true_eq, decide_eq_true_eq]
  omega
theorem fge_val {x y : Nat} (hx : fin x = true) (hy : fin y = true) : (fgt x y || feq x y) = decide (val y ≤ val x) := by
  rw [fgt_val hx hy, feq_val hx hy, Bool.eq_iff_iff, Bool.or_eq_true, decide_eq_true_eq, decide_eq_true_eq, decide_eq_true_eq]
  omega

/-! bounds -/
/-- L and H in units of 2^(k - 1074). -/
def Bt (k : Nat) (L H : Int) (x : Nat) : Prop := fin x = true ∧ L * 2 ^ k ≤ val x ∧ val x ≤ H * 2 ^ k
theorem rd2_int {L : Int} {k : Nat} (h : L.natAbs < 9007199254740992) (hk : k ≤ 1900) (j : Nat) : rd2 (L * 2 ^ k * 2 ^ j) (-1074 - (j : Int)) = L * 2 ^ k ∧ ∃ R, R < 9218868437227405312 ∧ wv R = L.natAbs * 2 ^ k := by
  obtain ⟨R, hR, hw⟩ := wv_ex h hk
  refine ⟨?_, R, hR, hw⟩
  rw [rd2_scale]
  have e : L * 2 ^ k = sv (decide (L < 0)) R := by
    unfold sv
    rw [hw]
    by_cases c : L < 0
    · rw [decide_eq_true c, if_pos rfl]
      push_cast
      rw [show ((L.natAbs : Int)) = -L by omega, Int.neg_mul, Int.neg_neg]
    · rw [decide_eq_false c, if_neg (by decide)]
      push_cast
      rw [show ((L.natAbs : Int)) = L by omega]
  rw [e, rd2_sv]
theorem between {L H X : Int} {k j : Nat} (hL : L.natAbs < 9007199254740992) (hH : H.natAbs < 9007199254740992) (hk : k ≤ 1900) (h1 : L * 2 ^ k * 2 ^ j ≤ X) (h2 : X ≤ H * 2 ^ k * 2 ^ j) : rung X.natAbs (-1074 - (j : Int)) < 9218868437227405312 ∧ L * 2 ^ k ≤ rd2 X (-1074 - (j : Int)) ∧ rd2 X (-1074 - (j : Int)) ≤ H * 2 ^ k := by
  obtain ⟨eL, RL, hRL, hwL⟩ := rd2_int hL hk j
  obtain ⟨eH, RH, hRH, hwH⟩ := rd2_int hH hk j
  have m1 := rd2_mono (-1074 - (j : Int)) h1
  have m2 := rd2_mono (-1074 - (j : Int)) h2
  rw [eL] at m1
  rw [eH] at m2
  refine ⟨?_, m1, m2⟩
  have hp : ((2 : Int) ^ k * 2 ^ j) = ((2 ^ k * 2 ^ j : Nat) : Int) := by push_cast; rfl
  rw [Int.mul_assoc, hp] at h1 h2
  rcases Int.le_total 0 X with c | c
  · refine rung_lt_of hRH (by omega) ?_
    rw [hwH, show (-1074 - (-1074 - (j : Int))).toNat = j by omega, Nat.mul_assoc]
    have : H ≤ (H.natAbs : Int) := by omega
    have h3 := Int.mul_le_mul_of_nonneg_right this (Int.natCast_nonneg (2 ^ k * 2 ^ j))
    have h4 : (X.natAbs : Int) ≤ ((H.natAbs * (2 ^ k * 2 ^ j) : Nat) : Int) := by
      rw [Int.natCast_mul]
      omega
    exact Int.ofNat_le.1 h4
  · refine rung_lt_of hRL (by omega) ?_
    rw [hwL, show (-1074 - (-1074 - (j : Int))).toNat = j by omega, Nat.mul_assoc]
    have : -(L.natAbs : Int) ≤ L := by omega
    have h3 := Int.mul_le_mul_of_nonneg_right this (Int.natCast_nonneg (2 ^ k * 2 ^ j))
    have h4 : (X.natAbs : Int) ≤ ((L.natAbs * (2 ^ k * 2 ^ j) : Nat) : Int) := by
      rw [Int.natCast_mul]
      rw [Int.neg_mul] at h3
      omega
    exact Int.ofNat_le.1 h4
theorem bt_add {k : Nat} {L H L' H' : Int} {x y : Nat} (hk : k ≤ 1900) (hx : Bt k L H x) (hy : Bt k L' H' y) (hL : (L + L').natAbs < 9007199254740992) (hH : (H + H').natAbs < 9007199254740992) : Bt k (L + L') (H + H') (fadd x y) := by
  obtain ⟨fx, x1, x2⟩ := hx
  obtain ⟨fy, y1, y2⟩ := hy
  have h := between (X := val x + val y) (j := 0) hL hH hk (by rw [Int.pow_zero, Int.mul_one, Int.add_mul]; omega) (by rw [Int.pow_zero, Int.mul_one, Int.add_mul]; omega)
  obtain ⟨h1, h2, h3⟩ := h
  have e := fadd_val fx fy h1
  exact ⟨e.1, by rw [e.2]; exact h2, by rw [e.2]; exact h3⟩
theorem mul_range {a b l1 h1 l2 h2 L H : Int} (a1 : l1 ≤ a) (a2 : a ≤ h1) (b1 : l2 ≤ b) (b2 : b ≤ h2) (c1 : L ≤ l1 * l2) (c2 : L ≤ l1 * h2) (c3 : L ≤ h1 * l2) (c4 : L ≤ h1 * h2) (d1 : l1 * l2 ≤ H) (d2 : l1 * h2 ≤ H) (d3 : h1 * l2 ≤ H) (d4 : h1 * h2 ≤ H) : L ≤ a * b ∧ a * b ≤ H := by
  have key : ∀ u : Int, (0 ≤ b → l1 * b ≤ a * b ∧ a * b ≤ h1 * b) ∧ (b ≤ 0 → h1 * b ≤ a * b ∧ a * b ≤ l1 * b) := fun _ => ⟨fun hb => ⟨Int.mul_le_mul_of_nonneg_right a1 hb, Int.mul_le_mul_of_nonneg_right a2 hb⟩, fun hb => ⟨Int.mul_le_mul_of_nonpos_right a2 hb, Int.mul_le_mul_of_nonpos_right a1 hb⟩⟩
  have side : ∀ c : Int, L ≤ c * l2 → L ≤ c * h2 → c * l2 ≤ H → c * h2 ≤ H → L ≤ c * b ∧ c * b ≤ H := by
    intro c k1 k2 k3 k4
    rcases Int.le_total 0 c with hc | hc
    · have := Int.mul_le_mul_of_nonneg_left b1 hc
      have := Int.mul_le_mul_of_nonneg_left b2 hc
      omega
    · have := Int.mul_le_mul_of_nonpos_left hc b1
      have := Int.mul_le_mul_of_nonpos_left hc b2
      omega
  have s1 := side l1 c1 c2 d1 d2
  have s2 := side h1 c3 c4 d3 d4
  rcases Int.le_total 0 b with hb | hb
  · have := (key 0).1 hb
    omega
  · have := (key 0).2 hb
    omega
/-- c: how many digits are left out. -/
theorem bt_mul {k1 k2 k3 c : Nat} {L1 H1 L2 H2 L H : Int} {x y : Nat} (hk : k1 + k2 + c = k3 + 1074) (hk3 : k3 ≤ 1900) (hx : Bt k1 L1 H1 x) (hy : Bt k2 L2 H2 y) (c1 : L * 2 ^ c ≤ L1 * L2) (c2 : L * 2 ^ c ≤ L1 * H2) (c3 : L * 2 ^ c ≤ H1 * L2) (c4 : L * 2 ^ c ≤ H1 * H2) (d1 : L1 * L2 ≤ H * 2 ^ c) (d2 : L1 * H2 ≤ H * 2 ^ c) (d3 : H1 * L2 ≤ H * 2 ^ c) (d4 : H1 * H2 ≤ H * 2 ^ c) (hL : L.natAbs < 9007199254740992) (hH : H.natAbs < 9007199254740992) : Bt k3 L H (fmul x y) := by
  obtain ⟨fx, x1, x2⟩ := hx
  obtain ⟨fy, y1, y2⟩ := hy
  have p0 : (0 : Int) ≤ 2 ^ k1 * 2 ^ k2 := Int.mul_nonneg (Int.le_of_lt (Int.pow_pos (by omega))) (Int.le_of_lt (Int.pow_pos (by omega)))
  have sc : ∀ u v : Int, u * 2 ^ k1 * (v * 2 ^ k2) = (u * v) * (2 ^ k1 * 2 ^ k2) := fun u v => by ac_rfl
  have hpow : (2 : Int) ^ c * (2 ^ k1 * 2 ^ k2) = 2 ^ k3 * 2 ^ 1074 := by
    rw [← Int.pow_add, ← Int.pow_add, ← Int.pow_add, show c + (k1 + k2) = k3 + 1074 by omega]
  have tr : ∀ u v : Int, u * 2 ^ c ≤ v → u * 2 ^ k3 * 2 ^ 1074 ≤ v * (2 ^ k1 * 2 ^ k2) := fun u v h => by
    rw [Int.mul_assoc, ← hpow, ← Int.mul_assoc]
    exact Int.mul_le_mul_of_nonneg_right h p0
  have tr' : ∀ u v : Int, v ≤ u * 2 ^ c → v * (2 ^ k1 * 2 ^ k2) ≤ u * 2 ^ k3 * 2 ^ 1074 := fun u v h => by
    rw [Int.mul_assoc u, ← hpow, ← Int.mul_assoc u]
    exact Int.mul_le_mul_of_nonneg_right h p0
  have r := mul_range (L := L * 2 ^ k3 * 2 ^ 1074) (H := H * 2 ^ k3 * 2 ^ 1074) x1 x2 y1 y2
    (by rw [sc]; exact tr _ _ c1) (by rw [sc]; exact tr _ _ c2) (by rw [sc]; exact tr _ _ c3) (by rw [sc]; exact tr _ _ c4)
    (by rw [sc]; exact tr' _ _ d1) (by rw [sc]; exact tr' _ _ d2) (by rw [sc]; exact tr' _ _ d3) (by rw [sc]; exact tr' _ _ d4)
  obtain ⟨h1, h2, h3⟩ := between hL hH hk3 r.1 r.2
  have e := fmul_val fx fy h1
  exact ⟨e.1, by rw [e.2]; exact h2, by rw [e.2]; exact h3⟩
end Go.Proofs.Ytaophbkedbphnab.Gen
