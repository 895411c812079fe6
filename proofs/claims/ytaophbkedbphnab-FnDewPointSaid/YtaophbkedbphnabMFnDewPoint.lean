/- The plain statement of the law FnDewPoint: the dew point lies where the law says, for all drawn temperatures and humidities; no condition. -/
import Derived.Test.YtaophbkedbphnabFinMul
import Derived.Test.YtaophbkedbphnabGen
import Derived.Test.YtaophbkedbphnabQx3
import Derived.Test.YtaophbkedbphnabQx4
import Derived.Test.YtaophbkedbphnabQx6
import Derived.Test.YtaophbkedbphnabQx8
import Derived.Test.YtaophbkedbphnabQx9
import Derived.Test.YtaophbkedbphnabQx1
import Derived.Test.YtaophbkedbphnabQx10
import Derived.Test.YtaophbkedbphnabQx11
import Derived.Test.YtaophbkedbphnabQx12
import Derived.Test.YtaophbkedbphnabQx13
import Derived.Test.YtaophbkedbphnabQx14
import Derived.Test.YtaophbkedbphnabQx15
import Derived.Test.YtaophbkedbphnabQx18
import Derived.Test.YtaophbkedbphnabQx19
import Derived.Test.YtaophbkedbphnabQx20
import Derived.Test.YtaophbkedbphnabQx22
import Derived.Test.YtaophbkedbphnabQx23
import Derived.Test.YtaophbkedbphnabQx24
import Derived.Test.YtaophbkedbphnabQx25
import Derived.Test.YtaophbkedbphnabQx26
import Derived.Test.YtaophbkedbphnabQx27
import Derived.Test.YtaophbkedbphnabQx5
import Derived.Test.YtaophbkedbphnabQx7
import Derived.Test.YtaophbkedbphnabRows
import Derived.WalkKit
import Derived.ProofKit
import Derived.OpenShut
import Derived.ShutString
import Derived.ChangeOld
import Derived.Below
import Derived.SizedLaws
import Derived.Test.YtaophbkedbphnabWSized

section
/- Plain facts on floats: rounding keeps order; what is reckoned of bounded floats is bounded. -/
set_option exponentiation.threshold 3000
set_option linter.unusedVariables false
set_option linter.unusedSimpArgs false
namespace Go.Proofs.Ytaophbkedbphnab.Gen
open Go.RowKit Go.Proofs.YtaophbkedbphnabW.PrintWords Go.Proofs.YtaophbkedbphnabW.PrintFlt
open Ieee (Datum)

/-- n by 2^d, to the nearest, between two the even one. -/
def rne (n d : Nat) : Nat := n / 2 ^ d + (decide (2 ^ d < 2 * (n % 2 ^ d)) || (2 ^ d == 2 * (n % 2 ^ d) && n / 2 ^ d % 2 == 1)).toNat
theorem bt01 (x : Bool) : x.toNat ≤ 1 := by cases x <;> decide
theorem cut_rne (sg : Bool) (n d : Nat) : Ieee.Toward.even.cut sg n d = rne n d := by
  unfold Ieee.Toward.cut rne
  simp only [Nat.shiftLeft_eq, Nat.one_mul]
  rcases Nat.le_total d (n.log2 + 2) with h | h
  · rw [Nat.min_eq_left h]
  · rw [Nat.min_eq_right h]
    have h1 : n < 2 ^ (n.log2 + 1) := Nat.lt_log2_self
    have h2 : 2 ^ (n.log2 + 2) = 2 * 2 ^ (n.log2 + 1) := by rw [Nat.pow_succ, Nat.mul_comm]
    have h3 : 2 ^ (n.log2 + 2) ≤ 2 ^ d := Nat.pow_le_pow_right (by omega) h
    generalize 2 ^ (n.log2 + 2) = a at h2 h3 ⊢
    generalize 2 ^ d = b at h3 ⊢
    generalize 2 ^ (n.log2 + 1) = c at h1 h2
    rw [Nat.div_eq_of_lt (by omega : n < a), Nat.div_eq_of_lt (by omega : n < b), Nat.mod_eq_of_lt (by omega : n < a), Nat.mod_eq_of_lt (by omega : n < b)]
    have e1 : decide (a < 2 * n) = false := decide_eq_false (by omega)
    have e2 : decide (b < 2 * n) = false := decide_eq_false (by omega)
    have e3 : (a == 2 * n) = false := by rw [beq_eq_false_iff_ne]; omega
    have e4 : (b == 2 * n) = false := by rw [beq_eq_false_iff_ne]; omega
    rw [e1, e2, e3, e4]
theorem rne_mono {n m : Nat} (d : Nat) (h : n ≤ m) : rne n d ≤ rne m d := by
  unfold rne
  have hp := Nat.two_pow_pos d
  generalize 2 ^ d = g at hp ⊢
  have h1 := Nat.div_le_div_right (c := g) h
  rcases Nat.lt_or_eq_of_le h1 with h2 | h2
  · exact Nat.le_trans (Nat.add_le_add_left (bt01 _) _) (Nat.le_trans h2 (Nat.le_add_right _ _))
  · have a1 := Nat.div_add_mod n g
    have a2 := Nat.div_add_mod m g
    rw [h2] at a1 ⊢
    generalize g * (m / g) = z at a1 a2
    have h3 : n % g ≤ m % g := by omega
    refine Nat.add_le_add_left ?_ _
    generalize n % g = r at h3 ⊢
    generalize m % g = s at h3 ⊢
    by_cases c1 : g < 2 * r
    · have c1' : g < 2 * s := by omega
      rw [decide_eq_true c1, decide_eq_true c1']
      exact Nat.le_refl _
    · by_cases c2 : g = 2 * r
      · by_cases c3 : g < 2 * s
        · rw [decide_eq_true c3]
          exact bt01 _
        · obtain rfl : r = s := by omega
          exact Nat.le_refl _
      · have e : (decide (g < 2 * r) || (g == 2 * r && m / g % 2 == 1)) = false := by
          rw [decide_eq_false c1, beq_eq_false_iff_ne.2 c2]
          rfl
        rw [e]
        exact Nat.zero_le _
theorem rne_scale (n d k : Nat) : rne (n * 2 ^ k) (d + k) = rne n d := by
  unfold rne
  have hp := Nat.two_pow_pos k
  rw [Nat.pow_add, Nat.mul_div_mul_right _ _ hp, Nat.mul_mod_mul_right]
  have e : 2 * (n % 2 ^ d * 2 ^ k) = (2 * (n % 2 ^ d)) * 2 ^ k := by rw [Nat.mul_assoc]
  rw [e]
  have c1 : decide (2 ^ d * 2 ^ k < 2 * (n % 2 ^ d) * 2 ^ k) = decide (2 ^ d < 2 * (n % 2 ^ d)) := by
    rw [decide_eq_decide]
    exact Nat.mul_lt_mul_right hp
  have c2 : (2 ^ d * 2 ^ k == 2 * (n % 2 ^ d) * 2 ^ k) = (2 ^ d == 2 * (n % 2 ^ d)) := by
    rw [Bool.eq_iff_iff, beq_iff_eq, beq_iff_eq]
    exact Nat.mul_right_cancel_iff hp
  rw [c1, c2]
theorem rne_zero (n : Nat) : rne n 0 = n := by
  unfold rne
  rw [Nat.pow_zero, Nat.div_one, Nat.mod_one]
  rfl
theorem rne_up {n d : Nat} (h : n < 2 ^ (d + 53)) : rne n d ≤ 9007199254740992 := by
  have h1 : n / 2 ^ d < 9007199254740992 := by
    rw [Nat.div_lt_iff_lt_mul (Nat.two_pow_pos d)]
    rw [Nat.pow_add, Nat.mul_comm] at h
    exact h
  unfold rne
  exact Nat.le_trans (Nat.add_le_add_left (bt01 _) _) h1
theorem rne_low {n d : Nat} (h : 2 ^ (d + 52) ≤ n) : 4503599627370496 ≤ rne n d := by
  have h1 : 4503599627370496 ≤ n / 2 ^ d := by
    rw [Nat.le_div_iff_mul_le (Nat.two_pow_pos d)]
    rw [Nat.pow_add, Nat.mul_comm] at h
    exact h
  unfold rne
  exact Nat.le_trans h1 (Nat.le_add_right _ _)
def lastp (q : Nat) (p : Int) : Int := max (p + (q.log2 : Int) - 52) (-1074)
/-- The rung of q * 2^p. -/
def rung (q : Nat) (p : Int) : Nat := if q = 0 then 0 else (lastp q p + 1074).toNat * 4503599627370496 + rne (q <<< (p - lastp q p).toNat) (lastp q p - p).toNat
theorem nearest_rung (sg : Bool) (q : Nat) (p : Int) : Ieee.double.nearest sg q p = Ieee.double.word sg (min (rung q p) 9218868437227405312) := by
  unfold Ieee.Format.nearest rung
  by_cases h : q = 0
  · rw [if_pos h, if_pos h]
    rfl
  · rw [if_neg h, if_neg h]
    have hf : Ieee.double.fractionBits = 52 := rfl
    simp only [lwd, bwd, iwd, cut_rne, hf]
    have e : max (p + (q.log2 : Int) - ((52 : Nat) : Int)) (-1074) = lastp q p := rfl
    rw [e, show lastp q p - -1074 = lastp q p + 1074 by omega]
theorem lastp_ge (q : Nat) (p : Int) : -1074 ≤ lastp q p := by unfold lastp; omega
theorem lastp_ge' (q : Nat) (p : Int) : p + (q.log2 : Int) - 52 ≤ lastp q p := by unfold lastp; omega
theorem lastp_eq (q : Nat) (p : Int) : lastp q p = -1074 ∨ lastp q p = p + (q.log2 : Int) - 52 := by unfold lastp; omega
theorem rung_at {q : Nat} {p : Int} (hq : q ≠ 0) (B : Int) (h1 : B ≤ p) (h2 : B ≤ lastp q p) : rung q p = (lastp q p + 1074).toNat * 4503599627370496 + rne (q * 2 ^ (p - B).toNat) (lastp q p - B).toNat := by
  unfold rung
  rw [if_neg hq]
  generalize lastp q p = L at h2 ⊢
  congr 1
  rcases Int.le_total p L with c | c
  · rw [show (p - L).toNat = 0 by omega, Nat.shiftLeft_zero, show (L - B).toNat = (L - p).toNat + (p - B).toNat by omega, rne_scale]
  · rw [show (L - p).toNat = 0 by omega, Nat.shiftLeft_eq, show (p - B).toNat = (p - L).toNat + (L - B).toNat by omega, Nat.pow_add, ← Nat.mul_assoc]
    have := rne_scale (q * 2 ^ (p - L).toNat) 0 (L - B).toNat
    rw [Nat.zero_add] at this
    exact this.symm
theorem log2_scale {q : Nat} (hq : q ≠ 0) (k : Nat) : (q * 2 ^ k).log2 = q.log2 + k := by
  have hn0 : q * 2 ^ k ≠ 0 := Nat.ne_of_gt (Nat.mul_pos (by omega) (Nat.two_pow_pos _))
  rw [Nat.log2_eq_iff hn0]
  constructor
  · rw [Nat.pow_add]; exact Nat.mul_le_mul_right _ (Nat.log2_self_le hq)
  · rw [show q.log2 + k + 1 = (q.log2 + 1) + k by omega, Nat.pow_add]; exact Nat.mul_lt_mul_of_pos_right Nat.lt_log2_self (Nat.two_pow_pos _)
theorem log2_mono {a b : Nat} (h : a ≤ b) (ha : a ≠ 0) : a.log2 ≤ b.log2 := by
  have := (Nat.log2_lt (n := a) (k := b.log2 + 1) ha).2 (Nat.lt_of_le_of_lt h Nat.lt_log2_self)
  omega
theorem rung_mono {q1 q2 : Nat} {p1 p2 : Int} (B : Int) (h1 : B ≤ p1) (h2 : B ≤ p2) (h : q1 * 2 ^ (p1 - B).toNat ≤ q2 * 2 ^ (p2 - B).toNat) : rung q1 p1 ≤ rung q2 p2 := by
  by_cases z1 : q1 = 0
  · unfold rung; rw [if_pos z1]; exact Nat.zero_le _
  have n1 : ∀ k, q1 * 2 ^ k ≠ 0 := fun k => Nat.ne_of_gt (Nat.mul_pos (Nat.pos_of_ne_zero z1) (Nat.two_pow_pos k))
  by_cases z2 : q2 = 0
  · exfalso
    rw [z2, Nat.zero_mul] at h
    exact n1 _ (Nat.le_zero.1 h)
  have hl : p1 + (q1.log2 : Int) ≤ p2 + (q2.log2 : Int) := by
    have a := log2_mono h (n1 _)
    rw [log2_scale z1, log2_scale z2] at a
    omega
  have hL : lastp q1 p1 ≤ lastp q2 p2 := by unfold lastp; omega
  obtain ⟨B', b1, b2⟩ : ∃ B', B' ≤ B ∧ B' ≤ lastp q1 p1 := ⟨min B (lastp q1 p1), by omega, by omega⟩
  have h' : q1 * 2 ^ (p1 - B').toNat ≤ q2 * 2 ^ (p2 - B').toNat := by
    rw [show (p1 - B').toNat = (p1 - B).toNat + (B - B').toNat by omega, show (p2 - B').toNat = (p2 - B).toNat + (B - B').toNat by omega, Nat.pow_add, Nat.pow_add, ← Nat.mul_assoc, ← Nat.mul_assoc]
    exact Nat.mul_le_mul_right _ h
  rw [rung_at z1 B' (by omega) b2, rung_at z2 B' (by omega) (by omega)]
  by_cases c : lastp q1 p1 = lastp q2 p2
  · rw [c]
    exact Nat.add_le_add_left (rne_mono _ h') _
  · have g1 := lastp_ge q1 p1
    have g2 := lastp_ge' q1 p1
    have g3 := lastp_eq q2 p2
    have k1 : rne (q1 * 2 ^ (p1 - B').toNat) (lastp q1 p1 - B').toNat ≤ 9007199254740992 := by
      apply rne_up
      refine Nat.lt_of_lt_of_le (Nat.lt_log2_self (n := q1 * 2 ^ (p1 - B').toNat)) (Nat.pow_le_pow_right (by omega) ?_)
      rw [log2_scale z1]
      omega
    have k2 : 4503599627370496 ≤ rne (q2 * 2 ^ (p2 - B').toNat) (lastp q2 p2 - B').toNat := by
      apply rne_low
      refine Nat.le_trans (Nat.pow_le_pow_right (by omega) ?_) (Nat.log2_self_le (n := q2 * 2 ^ (p2 - B').toNat) (Nat.ne_of_gt (Nat.mul_pos (Nat.pos_of_ne_zero z2) (Nat.two_pow_pos _))))
      rw [log2_scale z2]
      omega
    have k3 : (lastp q1 p1 + 1074).toNat + 1 ≤ (lastp q2 p2 + 1074).toNat := by omega
    generalize rne (q1 * 2 ^ (p1 - B').toNat) (lastp q1 p1 - B').toNat = r1 at k1 ⊢
    generalize rne (q2 * 2 ^ (p2 - B').toNat) (lastp q2 p2 - B').toNat = r2 at k2 ⊢
    generalize (lastp q1 p1 + 1074).toNat = l1 at k3 ⊢
    generalize (lastp q2 p2 + 1074).toNat = l2 at k3 ⊢
    omega
theorem rung_scale (q : Nat) (p : Int) (k : Nat) : rung (q * 2 ^ k) (p - (k : Int)) = rung q p := by
  refine Nat.le_antisymm (rung_mono (p - (k : Int)) (by omega) (by omega) ?_) (rung_mono (p - (k : Int)) (by omega) (by omega) ?_)
  all_goals
    rw [show (p - (k : Int) - (p - (k : Int))).toNat = 0 by omega, show (p - (p - (k : Int))).toNat = k by omega, Nat.pow_zero, Nat.mul_one]
    exact Nat.le_refl _

/-! values -/
/-- What the rung stands for, in units of 2^-1074. -/
def wv (R : Nat) : Nat := if R < 4503599627370496 then R else (4503599627370496 + R % 4503599627370496) * 2 ^ (R / 4503599627370496 - 1)
theorem rung_wv (R : Nat) : rung (wv R) (-1074) = R := by
  unfold wv
  by_cases c : R < 4503599627370496
  · rw [if_pos c]
    unfold rung
    by_cases h0 : R = 0
    · rw [if_pos h0, h0]
    · rw [if_neg h0]
      have hl : R.log2 ≤ 51 := by
        have := (Nat.log2_lt (n := R) (k := 52) h0).2 (by omega)
        omega
      have e : lastp R (-1074) = -1074 := by unfold lastp; omega
      rw [e, show ((-1074 : Int) - -1074).toNat = 0 from rfl, Nat.shiftLeft_zero, rne_zero]
      omega
  · rw [if_neg c]
    obtain ⟨k, hk⟩ : ∃ k, R / 4503599627370496 - 1 = k := ⟨_, rfl⟩
    rw [hk]
    obtain ⟨m, hm⟩ : ∃ m, 4503599627370496 + R % 4503599627370496 = m := ⟨_, rfl⟩
    rw [hm]
    have hm0 : m ≠ 0 := by omega
    have hl : m.log2 = 52 := by rw [Nat.log2_eq_iff hm0]; omega
    have e : lastp (m * 2 ^ k) (-1074) = -1074 + (k : Int) := by unfold lastp; rw [log2_scale hm0, hl]; omega
    unfold rung
    rw [if_neg (Nat.ne_of_gt (Nat.mul_pos (Nat.pos_of_ne_zero hm0) (Nat.two_pow_pos _))), e, show ((-1074 : Int) - (-1074 + (k : Int))).toNat = 0 by omega, Nat.shiftLeft_zero, show ((-1074 : Int) + (k : Int) - -1074).toNat = 0 + k by omega, rne_scale, rne_zero]
    omega
theorem wv_le {R S : Nat} (h : R ≤ S) : wv R ≤ wv S := by
  rcases Nat.le_total (wv R) (wv S) with c | c
  · exact c
  · have : rung (wv S) (-1074) ≤ rung (wv R) (-1074) := rung_mono (-1074) (by omega) (by omega) (Nat.mul_le_mul_right _ c)
    rw [rung_wv, rung_wv] at this
    rw [Nat.le_antisymm h this]
    exact Nat.le_refl _
theorem wv_zero : wv 0 = 0 := rfl
/-- A number of at most 53 digits is told to the bit. -/
theorem wv_ex {n k : Nat} (hn : n < 9007199254740992) (hk : k ≤ 1900) : ∃ R, R < 9218868437227405312 ∧ wv R = n * 2 ^ k := by
  by_cases h0 : n = 0
  · exact ⟨0, by omega, by rw [h0, Nat.zero_mul]; rfl⟩
  have hl : n.log2 ≤ 52 := by
    have := (Nat.log2_lt (n := n) (k := 53) h0).2 (by omega)
    omega
  have hn0 : n * 2 ^ k ≠ 0 := Nat.ne_of_gt (Nat.mul_pos (Nat.pos_of_ne_zero h0) (Nat.two_pow_pos _))
  by_cases c : n.log2 + k < 52
  · refine ⟨n * 2 ^ k, ?_, ?_⟩
    all_goals have hlt : n * 2 ^ k < 2 ^ 52 := (Nat.log2_lt hn0).1 (by rw [log2_scale h0]; omega)
    · omega
    · unfold wv; rw [if_pos (by omega)]
  · obtain ⟨e, he⟩ : ∃ e, n.log2 + k - 52 = e := ⟨_, rfl⟩
    have hke : k = (k - e) + e := by omega
    obtain ⟨m, hm⟩ : ∃ m, n * 2 ^ (k - e) = m := ⟨_, rfl⟩
    have hnm : n * 2 ^ k = m * 2 ^ e := by rw [← hm, Nat.mul_assoc, ← Nat.pow_add, ← hke]
    have hm0 : m ≠ 0 := by rw [← hm]; exact Nat.ne_of_gt (Nat.mul_pos (Nat.pos_of_ne_zero h0) (Nat.two_pow_pos _))
    have hlm : m.log2 = 52 := by rw [← hm, log2_scale h0]; omega
    rw [Nat.log2_eq_iff hm0] at hlm
    refine ⟨e * 4503599627370496 + m, by omega, ?_⟩
    unfold wv
    rw [if_neg (by omega), show (e * 4503599627370496 + m) % 4503599627370496 = m - 4503599627370496 by omega, show (e * 4503599627370496 + m) / 4503599627370496 - 1 = e by omega, hnm, show 4503599627370496 + (m - 4503599627370496) = m by omega]
def sv (s : Bool) (R : Nat) : Int := if s then -(wv R : Int) else wv R
/-- What a number is worth, in units of 2^-1074. -/
def val (x : Nat) : Int := match Ieee.double.read x with
  | .number s m e => Ieee.signed s m (e + 1074).toNat
  | _ => 0
theorem val_read {x : Nat} {s : Bool} {m : Nat} {e : Int} (h : Ieee.double.read x = .number s m e) : val x = Ieee.signed s m (e + 1074).toNat := by unfold val; rw [h]
theorem val_dat {x : Nat} {s : Bool} {R : Nat} (h : Ieee.double.read x = dat s R) (hR : R < 9218868437227405312) : val x = sv s R := by
  unfold val sv wv
  rw [h]
  unfold dat
  by_cases c : R < 4503599627370496
  · rw [if_pos c, if_pos c]
    show Ieee.signed s R ((-1074 : Int) + 1074).toNat = _
    unfold Ieee.signed
    rw [show ((-1074 : Int) + 1074).toNat = 0 from rfl, Nat.shiftLeft_zero]
  · rw [if_neg c, if_neg c, if_pos hR]
    show Ieee.signed s (4503599627370496 + R % 4503599627370496) ((-1074 : Int) + ((R / 4503599627370496 - 1 : Nat) : Int) + 1074).toNat = _
    unfold Ieee.signed
    rw [show ((-1074 : Int) + ((R / 4503599627370496 - 1 : Nat) : Int) + 1074).toNat = R / 4503599627370496 - 1 by omega, Nat.shiftLeft_eq]
theorem fin_dat {x : Nat} (h : fin x = true) : ∃ s R, R < 9218868437227405312 ∧ Ieee.double.read x = dat s R := by
  obtain ⟨s, m, e, ex⟩ := fin_read h
  obtain ⟨R, hR, hd⟩ := dat_of_read ex
  exact ⟨s, R, hR, ex.trans (hd s).symm⟩
/-- X * 2^B, rounded, in units of 2^-1074. -/
def rd2 (X : Int) (B : Int) : Int := if X < 0 then -(wv (rung X.natAbs B) : Int) else wv (rung X.natAbs B)
theorem rung_natAbs {X Y : Int} (B : Int) (h : X.natAbs ≤ Y.natAbs) : rung X.natAbs B ≤ rung Y.natAbs B := rung_mono B (by omega) (by omega) (Nat.mul_le_mul_right _ h)
theorem rd2_mono {X Y : Int} (B : Int) (h : X ≤ Y) : rd2 X B ≤ rd2 Y B := by
  unfold rd2
  by_cases c1 : X < 0
  · rw [if_pos c1]
    by_cases c2 : Y < 0
    · rw [if_pos c2]
      have := wv_le (rung_natAbs (X := Y) (Y := X) B (by omega))
      omega
    · rw [if_neg c2]
      omega
  · rw [if_neg c1, if_neg (by omega)]
    have := wv_le (rung_natAbs (X := X) (Y := Y) B (by omega))
    omega
theorem rd2_scale (X : Int) (B : Int) (k : Nat) : rd2 (X * 2 ^ k) (B - (k : Int)) = rd2 X B := by
  unfold rd2
  have hp : (0 : Int) < 2 ^ k := Int.pow_pos (by omega)
  have h1 : (X * 2 ^ k).natAbs = X.natAbs * 2 ^ k := by rw [Int.natAbs_mul, Int.natAbs_pow]; rfl
  rw [h1, rung_scale]
  by_cases c : X < 0
  · rw [if_pos c, if_pos (Int.mul_neg_of_neg_of_pos c hp)]
  · rw [if_neg c, if_neg (by have := Int.mul_nonneg (by omega : 0 ≤ X) (Int.le_of_lt hp); omega)]
theorem rd2_sv (s : Bool) (R : Nat) : rd2 (sv s R) (-1074) = sv s R := by
  unfold rd2 sv
  cases s
  · simp only [Bool.false_eq_true, if_false]
    rw [if_neg (by omega), Int.natAbs_natCast, rung_wv]
  · simp only [if_true]
    rw [Int.natAbs_neg, Int.natAbs_natCast, rung_wv]
    by_cases c : -(wv R : Int) < 0
    · rw [if_pos c]
    · rw [if_neg c]
      omega
/-- What is written of a number. -/
theorem nearest_val (sg : Bool) (X B : Int) (hs : X = 0 ∨ sg = decide (X < 0)) (hf : rung X.natAbs B < 9218868437227405312) : fin (Ieee.double.nearest sg X.natAbs B) = true ∧ val (Ieee.double.nearest sg X.natAbs B) = rd2 X B := by
  rw [nearest_rung, Nat.min_eq_left (Nat.le_of_lt hf)]
  have hr := read_word sg _ (Nat.le_of_lt hf)
  refine ⟨fin_num hr hf, ?_⟩
  rw [val_dat hr hf]
  unfold sv rd2
  rcases hs with rfl | rfl
  · have : wv (rung (Int.natAbs 0) B) = 0 := by
      unfold rung
      rw [if_pos (show Int.natAbs 0 = 0 from rfl)]
      rfl
    rw [this]
    cases sg <;> rfl
  · by_cases c : X < 0
    · rw [decide_eq_true c, if_pos c]; rfl
    · rw [decide_eq_false c, if_neg c]; rfl
theorem signed_val {s : Bool} {m : Nat} {e : Int} (base : Int) (h : base ≤ e) (h' : -1074 ≤ base) : Ieee.signed s m (e - base).toNat * 2 ^ (base + 1074).toNat = Ieee.signed s m (e + 1074).toNat := by
  have hk : (e + 1074).toNat = (e - base).toNat + (base + 1074).toNat := by omega
  rw [hk]
  generalize (e - base).toNat = a
  generalize (base + 1074).toNat = b
  unfold Ieee.signed
  rw [Nat.shiftLeft_eq, Nat.shiftLeft_eq, Nat.pow_add, ← Nat.mul_assoc]
  cases s
  · simp only [Bool.false_eq_true, if_false]
    push_cast
    rfl
  · simp only [if_true]
    push_cast
    rw [Int.neg_mul]
theorem rung_lt_of {X : Int} {B : Int} {R : Nat} (hR : R < 9218868437227405312) (hB : B ≤ -1074) (h : X.natAbs ≤ wv R * 2 ^ (-1074 - B).toNat) : rung X.natAbs B < 9218868437227405312 := by
  have := rung_mono (q1 := X.natAbs) (q2 := wv R) (p1 := B) (p2 := -1074) B (by omega) hB (by rw [show (B - B).toNat = 0 by omega, Nat.pow_zero, Nat.mul_one]; exact h)
  rw [rung_wv] at this
  omega
theorem fadd_val {x y : Nat} (hx : fin x = true) (hy : fin y = true) (hf : rung (val x + val y).natAbs (-1074) < 9218868437227405312) : fin (fadd x y) = true ∧ val (fadd x y) = rd2 (val x + val y) (-1074) := by
  obtain ⟨s, m, i, ex⟩ := fin_read hx
  obtain ⟨t, n, j, ey⟩ := fin_read hy
  have hbx := read_bound ex
  have hby := read_bound ey
  rw [val_read ex, val_read ey] at hf ⊢
  unfold fadd Ieee.Format.add ov
  rw [ex, ey]
  simp only [Datum.sum, Option.map_some, Option.getD_some, Ieee.Format.write]
  obtain ⟨base, hb⟩ : ∃ base, min i j = base := ⟨_, rfl⟩
  have b1 : base ≤ i := by omega
  have b2 : base ≤ j := by omega
  have b3 : -1074 ≤ base := by omega
  rw [← signed_val (s := s) (m := m) base b1 b3, ← signed_val (s := t) (m := n) base b2 b3, ← Int.add_mul] at hf ⊢
  rw [hb]
  clear hb
  generalize Ieee.signed s m (i - base).toNat + Ieee.signed t n (j - base).toNat = T at hf ⊢
  have e := rd2_scale T base (base + 1074).toNat
  rw [show base - ((base + 1074).toNat : Int) = -1074 by omega] at e
  rw [e]
  refine nearest_val _ T base ?_ ?_
  · by_cases c : T = 0
    · exact .inl c
    · rw [if_neg c]; exact .inr rfl
  · have h1 : (T * 2 ^ (base + 1074).toNat).natAbs = T.natAbs * 2 ^ (base + 1074).toNat := by rw [Int.natAbs_mul, Int.natAbs_pow]; rfl
    rw [h1] at hf
    have := rung_scale T.natAbs base (base + 1074).toNat
    rw [show base - ((base + 1074).toNat : Int) = -1074 by omega] at this
    rw [← this]
    exact hf
theorem fmul_val {x y : Nat} (hx : fin x = true) (hy : fin y = true) (hf : rung (val x * val y).natAbs (-2148) < 9218868437227405312) : fin (fmul x y) = true ∧ val (fmul x y) = rd2 (val x * val y) (-2148) := by
  obtain ⟨s, m, i, ex⟩ := fin_read hx
  obtain ⟨t, n, j, ey⟩ := fin_read hy
  have hbx := read_bound ex
  have hby := read_bound ey
  rw [val_read ex, val_read ey] at hf ⊢
  unfold fmul Ieee.Format.mul ov
  rw [ex, ey]
  simp only [Datum.product, Option.map_some, Option.getD_some, Ieee.Format.write]
  have hk : ∃ k : Nat, (i + 1074).toNat + (j + 1074).toNat = k ∧ (i + j) - (k : Int) = -2148 := ⟨_, rfl, by omega⟩
  obtain ⟨k, hk, hk2⟩ := hk
  have hX : Ieee.signed s m (i + 1074).toNat * Ieee.signed t n (j + 1074).toNat = (if (s ^^ t) then -((m * n : Nat) : Int) else ((m * n : Nat) : Int)) * 2 ^ k := by
    rw [← hk]
    unfold Ieee.signed
    rw [Nat.shiftLeft_eq, Nat.shiftLeft_eq, Int.pow_add]
    generalize (i + 1074).toNat = a
    generalize (j + 1074).toNat = b
    push_cast
    generalize (2 : Int) ^ a = p
    generalize (2 : Int) ^ b = q
    cases s <;> cases t <;> simp [Int.neg_mul, Int.mul_neg, Int.neg_neg] <;> ac_rfl
  rw [hX] at hf ⊢
  obtain ⟨X, hXd⟩ : ∃ X : Int, (if (s ^^ t) then -((m * n : Nat) : Int) else ((m * n : Nat) : Int)) = X := ⟨_, rfl⟩
  have ha : X.natAbs = m * n := by
    rw [← hXd]
    cases (s ^^ t)
    · exact Int.natAbs_natCast (m * n)
    · exact (Int.natAbs_neg _).trans (Int.natAbs_natCast (m * n))
  have hsg : X = 0 ∨ (s ^^ t) = decide (X < 0) := by
    by_cases c : X = 0
    · exact .inl c
    · refine .inr ?_
      rw [← hXd] at c ⊢
      revert c
      cases (s ^^ t)
      · intro c
        simp only [Bool.false_eq_true, if_false]
        exact (decide_eq_false (by omega)).symm
      · intro c
        simp only [if_true] at c ⊢
        exact (decide_eq_true (by omega)).symm
  rw [hXd] at hf ⊢
  rw [← hk2, rd2_scale]
  rw [← ha]
  refine nearest_val _ X _ hsg ?_
  have h1 : (X * 2 ^ k).natAbs = X.natAbs * 2 ^ k := by rw [Int.natAbs_mul, Int.natAbs_pow]; rfl
  rw [h1, ← hk2, rung_scale] at hf
  exact hf

/-! order -/
theorem order_val {x y : Nat} (hx : fin x = true) (hy : fin y = true) : Ieee.double.order x y = some (compare (val x) (val y)) := by
  obtain ⟨s, m, i, ex⟩ := fin_read hx
  obtain ⟨t, n, j, ey⟩ := fin_read hy
  have hbx := read_bound ex
  have hby := read_bound ey
  rw [val_read ex, val_read ey]
  unfold Ieee.Format.order
  rw [ex, ey]
  simp only [Datum.order]
  obtain ⟨base, hb⟩ : ∃ base, min i j = base := ⟨_, rfl⟩
  rw [hb, ← signed_val base (by omega) (by omega), ← signed_val (s := t) base (by omega) (by omega)]
  have hp : (0 : Int) < 2 ^ (base + 1074).toNat := Int.pow_pos (by omega)
  generalize (2 : Int) ^ (base + 1074).toNat = p at hp ⊢
  generalize Ieee.signed s m (i - base).toNat = a
  generalize Ieee.signed t n (j - base).toNat = b
  congr 1
  rcases Int.lt_trichotomy a b with h | h | h
  · rw [Int.compare_eq_lt.2 h, Int.compare_eq_lt.2 (Int.mul_lt_mul_of_pos_right h hp)]
  · rw [h]; simp
  · rw [Int.compare_eq_gt.2 h, Int.compare_eq_gt.2 (Int.mul_lt_mul_of_pos_right h hp)]
theorem flt_val {x y : Nat} (hx : fin x = true) (hy : fin y = true) : flt x y = decide (val x < val y) := by
  unfold flt
  rw [order_val hx hy]
  by_cases h : val x < val y
  · rw [Int.compare_eq_lt.2 h, decide_eq_true h]; rfl
  · rw [decide_eq_false h]
    cases hc : compare (val x) (val y) with
    | lt => exact absurd (Int.compare_eq_lt.1 hc) h
    | eq => rfl
    | gt => rfl
theorem fgt_val {x y : Nat} (hx : fin x = true) (hy : fin y = true) : fgt x y = decide (val y < val x) := by
  unfold fgt
  rw [order_val hx hy]
  by_cases h : val y < val x
  · rw [Int.compare_eq_gt.2 h, decide_eq_true h]; rfl
  · rw [decide_eq_false h]
    cases hc : compare (val x) (val y) with
    | gt => exact absurd (Int.compare_eq_gt.1 hc) h
    | eq => rfl
    | lt => rfl
theorem feq_val {x y : Nat} (hx : fin x = true) (hy : fin y = true) : feq x y = decide (val x = val y) := by
  unfold feq
  rw [order_val hx hy]
  by_cases h : val x = val y
  · rw [Int.compare_eq_eq.2 h, decide_eq_true h]; rfl
  · rw [decide_eq_false h]
    cases hc : compare (val x) (val y) with
    | eq => exact absurd (Int.compare_eq_eq.1 hc) h
    | gt => rfl
    | lt => rfl
theorem fle_val {x y : Nat} (hx : fin x = true) (hy : fin y = true) : (flt x y || feq x y) = decide (val x ≤ val y) := by
  rw [flt_val hx hy, feq_val hx hy, Bool.eq_iff_iff, Bool.or_eq_true, decide_eq_true_eq, decide_eq_true_eq, decide_eq_true_eq]
  omega
theorem fge_val {x y : Nat} (hx : fin x = true) (hy : fin y = true) : (fgt x y || feq x y) = decide (val y ≤ val x) := by
  rw [fgt_val hx hy, feq_val hx hy, Bool.eq_iff_iff, Bool.or_eq_true, decide_eq_true_eq, decide_eq_true_eq, decide_eq_true_eq]
  omega

/-! bounds -/
/-- L and H in units of 2^(k - 1074). -/
def Bt (k : Nat) (L H : Int) (x : Nat) : Prop := fin x = true ∧ L * 2 ^ k ≤ val x ∧ val x ≤ H * 2 ^ k
theorem rd2_int {L : Int} {k : Nat} (h : L.natAbs < 9007199254740992) (hk : k ≤ 1900) (j : Nat) : rd2 (L * 2 ^ k * 2 ^ j) (-1074 - (j : Int)) = L * 2 ^ k ∧ ∃ R, R < 9218868437227405312 ∧ wv R = L.natAbs * 2 ^ k := by
  obtain ⟨R, hR, hw⟩ := wv_ex h hk
  refine ⟨?_, R, hR, hw⟩
  rw [rd2_scale]
  have e : L * 2 ^ k = sv (decide (L < 0)) R := by
    unfold sv
    rw [hw]
    by_cases c : L < 0
    · rw [decide_eq_true c, if_pos rfl]
      push_cast
      rw [show ((L.natAbs : Int)) = -L by omega, Int.neg_mul, Int.neg_neg]
    · rw [decide_eq_false c, if_neg (by decide)]
      push_cast
      rw [show ((L.natAbs : Int)) = L by omega]
  rw [e, rd2_sv]
theorem between {L H X : Int} {k j : Nat} (hL : L.natAbs < 9007199254740992) (hH : H.natAbs < 9007199254740992) (hk : k ≤ 1900) (h1 : L * 2 ^ k * 2 ^ j ≤ X) (h2 : X ≤ H * 2 ^ k * 2 ^ j) : rung X.natAbs (-1074 - (j : Int)) < 9218868437227405312 ∧ L * 2 ^ k ≤ rd2 X (-1074 - (j : Int)) ∧ rd2 X (-1074 - (j : Int)) ≤ H * 2 ^ k := by
  obtain ⟨eL, RL, hRL, hwL⟩ := rd2_int hL hk j
  obtain ⟨eH, RH, hRH, hwH⟩ := rd2_int hH hk j
  have m1 := rd2_mono (-1074 - (j : Int)) h1
  have m2 := rd2_mono (-1074 - (j : Int)) h2
  rw [eL] at m1
  rw [eH] at m2
  refine ⟨?_, m1, m2⟩
  have hp : ((2 : Int) ^ k * 2 ^ j) = ((2 ^ k * 2 ^ j : Nat) : Int) := by push_cast; rfl
  rw [Int.mul_assoc, hp] at h1 h2
  rcases Int.le_total 0 X with c | c
  · refine rung_lt_of hRH (by omega) ?_
    rw [hwH, show (-1074 - (-1074 - (j : Int))).toNat = j by omega, Nat.mul_assoc]
    have : H ≤ (H.natAbs : Int) := by omega
    have h3 := Int.mul_le_mul_of_nonneg_right this (Int.natCast_nonneg (2 ^ k * 2 ^ j))
    have h4 : (X.natAbs : Int) ≤ ((H.natAbs * (2 ^ k * 2 ^ j) : Nat) : Int) := by
      rw [Int.natCast_mul]
      omega
    exact Int.ofNat_le.1 h4
  · refine rung_lt_of hRL (by omega) ?_
    rw [hwL, show (-1074 - (-1074 - (j : Int))).toNat = j by omega, Nat.mul_assoc]
    have : -(L.natAbs : Int) ≤ L := by omega
    have h3 := Int.mul_le_mul_of_nonneg_right this (Int.natCast_nonneg (2 ^ k * 2 ^ j))
    have h4 : (X.natAbs : Int) ≤ ((L.natAbs * (2 ^ k * 2 ^ j) : Nat) : Int) := by
      rw [Int.natCast_mul]
      rw [Int.neg_mul] at h3
      omega
    exact Int.ofNat_le.1 h4
theorem bt_add {k : Nat} {L H L' H' : Int} {x y : Nat} (hk : k ≤ 1900) (hx : Bt k L H x) (hy : Bt k L' H' y) (hL : (L + L').natAbs < 9007199254740992) (hH : (H + H').natAbs < 9007199254740992) : Bt k (L + L') (H + H') (fadd x y) := by
  obtain ⟨fx, x1, x2⟩ := hx
  obtain ⟨fy, y1, y2⟩ := hy
  have h := between (X := val x + val y) (j := 0) hL hH hk (by rw [Int.pow_zero, Int.mul_one, Int.add_mul]; omega) (by rw [Int.pow_zero, Int.mul_one, Int.add_mul]; omega)
  obtain ⟨h1, h2, h3⟩ := h
  have e := fadd_val fx fy h1
  exact ⟨e.1, by rw [e.2]; exact h2, by rw [e.2]; exact h3⟩
theorem mul_range {a b l1 h1 l2 h2 L H : Int} (a1 : l1 ≤ a) (a2 : a ≤ h1) (b1 : l2 ≤ b) (b2 : b ≤ h2) (c1 : L ≤ l1 * l2) (c2 : L ≤ l1 * h2) (c3 : L ≤ h1 * l2) (c4 : L ≤ h1 * h2) (d1 : l1 * l2 ≤ H) (d2 : l1 * h2 ≤ H) (d3 : h1 * l2 ≤ H) (d4 : h1 * h2 ≤ H) : L ≤ a * b ∧ a * b ≤ H := by
  have key : ∀ u : Int, (0 ≤ b → l1 * b ≤ a * b ∧ a * b ≤ h1 * b) ∧ (b ≤ 0 → h1 * b ≤ a * b ∧ a * b ≤ l1 * b) := fun _ => ⟨fun hb => ⟨Int.mul_le_mul_of_nonneg_right a1 hb, Int.mul_le_mul_of_nonneg_right a2 hb⟩, fun hb => ⟨Int.mul_le_mul_of_nonpos_right a2 hb, Int.mul_le_mul_of_nonpos_right a1 hb⟩⟩
  have side : ∀ c : Int, L ≤ c * l2 → L ≤ c * h2 → c * l2 ≤ H → c * h2 ≤ H → L ≤ c * b ∧ c * b ≤ H := by
    intro c k1 k2 k3 k4
    rcases Int.le_total 0 c with hc | hc
    · have := Int.mul_le_mul_of_nonneg_left b1 hc
      have := Int.mul_le_mul_of_nonneg_left b2 hc
      omega
    · have := Int.mul_le_mul_of_nonpos_left hc b1
      have := Int.mul_le_mul_of_nonpos_left hc b2
      omega
  have s1 := side l1 c1 c2 d1 d2
  have s2 := side h1 c3 c4 d3 d4
  rcases Int.le_total 0 b with hb | hb
  · have := (key 0).1 hb
    omega
  · have := (key 0).2 hb
    omega
/-- c: how many digits are left out. -/
theorem bt_mul {k1 k2 k3 c : Nat} {L1 H1 L2 H2 L H : Int} {x y : Nat} (hk : k1 + k2 + c = k3 + 1074) (hk3 : k3 ≤ 1900) (hx : Bt k1 L1 H1 x) (hy : Bt k2 L2 H2 y) (c1 : L * 2 ^ c ≤ L1 * L2) (c2 : L * 2 ^ c ≤ L1 * H2) (c3 : L * 2 ^ c ≤ H1 * L2) (c4 : L * 2 ^ c ≤ H1 * H2) (d1 : L1 * L2 ≤ H * 2 ^ c) (d2 : L1 * H2 ≤ H * 2 ^ c) (d3 : H1 * L2 ≤ H * 2 ^ c) (d4 : H1 * H2 ≤ H * 2 ^ c) (hL : L.natAbs < 9007199254740992) (hH : H.natAbs < 9007199254740992) : Bt k3 L H (fmul x y) := by
  obtain ⟨fx, x1, x2⟩ := hx
  obtain ⟨fy, y1, y2⟩ := hy
  have p0 : (0 : Int) ≤ 2 ^ k1 * 2 ^ k2 := Int.mul_nonneg (Int.le_of_lt (Int.pow_pos (by omega))) (Int.le_of_lt (Int.pow_pos (by omega)))
  have sc : ∀ u v : Int, u * 2 ^ k1 * (v * 2 ^ k2) = (u * v) * (2 ^ k1 * 2 ^ k2) := fun u v => by ac_rfl
  have hpow : (2 : Int) ^ c * (2 ^ k1 * 2 ^ k2) = 2 ^ k3 * 2 ^ 1074 := by
    rw [← Int.pow_add, ← Int.pow_add, ← Int.pow_add, show c + (k1 + k2) = k3 + 1074 by omega]
  have tr : ∀ u v : Int, u * 2 ^ c ≤ v → u * 2 ^ k3 * 2 ^ 1074 ≤ v * (2 ^ k1 * 2 ^ k2) := fun u v h => by
    rw [Int.mul_assoc, ← hpow, ← Int.mul_assoc]
    exact Int.mul_le_mul_of_nonneg_right h p0
  have tr' : ∀ u v : Int, v ≤ u * 2 ^ c → v * (2 ^ k1 * 2 ^ k2) ≤ u * 2 ^ k3 * 2 ^ 1074 := fun u v h => by
    rw [Int.mul_assoc u, ← hpow, ← Int.mul_assoc u]
    exact Int.mul_le_mul_of_nonneg_right h p0
  have r := mul_range (L := L * 2 ^ k3 * 2 ^ 1074) (H := H * 2 ^ k3 * 2 ^ 1074) x1 x2 y1 y2
    (by rw [sc]; exact tr _ _ c1) (by rw [sc]; exact tr _ _ c2) (by rw [sc]; exact tr _ _ c3) (by rw [sc]; exact tr _ _ c4)
    (by rw [sc]; exact tr' _ _ d1) (by rw [sc]; exact tr' _ _ d2) (by rw [sc]; exact tr' _ _ d3) (by rw [sc]; exact tr' _ _ d4)
  obtain ⟨h1, h2, h3⟩ := between hL hH hk3 r.1 r.2
  have e := fmul_val fx fy h1
  exact ⟨e.1, by rw [e.2]; exact h2, by rw [e.2]; exact h3⟩
end Go.Proofs.Ytaophbkedbphnab.Gen
end

section
/- The vapour's polynomial lies between 0.02 and 127 from -50 to 50 (by intervals of whole numbers); halves and quotients of floats. -/
set_option exponentiation.threshold 3000
set_option linter.unusedVariables false
set_option linter.unusedSimpArgs false
namespace Go.Proofs.Ytaophbkedbphnab.Gen
open Go.RowKit Go.Proofs.YtaophbkedbphnabW.PrintWords Go.Proofs.YtaophbkedbphnabW.PrintFlt
open Ieee (Datum)

def mn4 (x y z w : Int) : Int := min (min x y) (min z w)
def mx4 (x y z w : Int) : Int := max (max x y) (max z w)
def lowM (c : Nat) (a b L H : Int) : Int := mn4 (a * L) (a * H) (b * L) (b * H) / 2 ^ c
def higM (c : Nat) (a b L H : Int) : Int := -(-mx4 (a * L) (a * H) (b * L) (b * H) / 2 ^ c)
def sOk (x : Int) : Bool := decide (x.natAbs < 9007199254740992)
def stepOk (c : Nat) (a b cl ch : Int) (r : Int × Int) : Bool := sOk (lowM c a b r.1 r.2) && sOk (higM c a b r.1 r.2) && sOk (cl + lowM c a b r.1 r.2) && sOk (ch + higM c a b r.1 r.2)
def stp (c : Nat) (a b cl ch : Int) (r : Int × Int) : Int × Int := (cl + lowM c a b r.1 r.2, ch + higM c a b r.1 r.2)
theorem stepB {k2 k3 c : Nat} {a b cl ch : Int} {r : Int × Int} {t y w : Nat} (hk : 1054 + k2 + c = k3 + 1074) (hk3 : k3 ≤ 1900) (ht : Bt 1054 a b t) (hw : Bt k3 cl ch w) (hy : Bt k2 r.1 r.2 y) (ok : stepOk c a b cl ch r = true) : Bt k3 (stp c a b cl ch r).1 (stp c a b cl ch r).2 (fadd w (fmul t y)) := by
  unfold stepOk sOk at ok
  simp only [Bool.and_eq_true, decide_eq_true_eq] at ok
  obtain ⟨⟨⟨o1, o2⟩, o3⟩, o4⟩ := ok
  have hp : (2 : Int) ^ c ≠ 0 := Int.ne_of_gt (Int.pow_pos (by omega))
  have l1 := Int.ediv_mul_le (mn4 (a * r.1) (a * r.2) (b * r.1) (b * r.2)) hp
  have l2 := Int.ediv_mul_le (-mx4 (a * r.1) (a * r.2) (b * r.1) (b * r.2)) hp
  have e1 : lowM c a b r.1 r.2 * 2 ^ c ≤ mn4 (a * r.1) (a * r.2) (b * r.1) (b * r.2) := l1
  have e2 : mx4 (a * r.1) (a * r.2) (b * r.1) (b * r.2) ≤ higM c a b r.1 r.2 * 2 ^ c := by
    unfold higM
    rw [Int.neg_mul]
    omega
  unfold mn4 at e1
  unfold mx4 at e2
  exact bt_add hk3 hw (bt_mul (c := c) hk hk3 ht hy (by omega) (by omega) (by omega) (by omega) (by omega) (by omega) (by omega) (by omega) o1 o2) o3 o4
def inB (k : Nat) (L H : Int) (x : Nat) : Bool := fin x && decide (L * 2 ^ k ≤ val x) && decide (val x ≤ H * 2 ^ k)
theorem inB_bt {k : Nat} {L H : Int} {x : Nat} (h : inB k L H x = true) : Bt k L H x := by
  unfold inB at h
  simp only [Bool.and_eq_true, decide_eq_true_eq] at h
  exact ⟨h.1.1, h.1.2, h.2⟩
theorem bt_weak {k : Nat} {L H L' H' : Int} {x : Nat} (h : Bt k L H x) (h1 : L' ≤ L) (h2 : H ≤ H') : Bt k L' H' x := by
  have hp : (0 : Int) ≤ 2 ^ k := Int.le_of_lt (Int.pow_pos (by omega))
  exact ⟨h.1, Int.le_trans (Int.mul_le_mul_of_nonneg_right h1 hp) h.2.1, Int.le_trans h.2.2 (Int.mul_le_mul_of_nonneg_right h2 hp)⟩
theorem cB0 : Bt 1029 214899106471977 214899106471978 4618562789834491187 := inB_bt (by decide +kernel)
theorem cB1 : Bt 1023 999015157899895 999015157899896 4601663741181105082 := inB_bt (by decide +kernel)
theorem cB2 : Bt 1017 2059327934377802 2059327934377803 4579390933518564651 := inB_bt (by decide +kernel)
theorem cB3 : Bt 1011 2444791698695326 2444791698695327 4553525207041591613 := inB_bt (by decide +kernel)
theorem cB4 : Bt 1004 3578657011897727 3578657011897728 4524267740276402943 := inB_bt (by decide +kernel)
theorem cB5 : Bt 997 3073816221529252 3073816221529253 4491732861304072521 := inB_bt (by decide +kernel)
theorem cB6 : Bt 994 74189612714195 74189612714196 4454304567055758550 := inB_bt (by decide +kernel)
def poly (t : Nat) : Nat := fadd 4618562789834491187 (fmul t (fadd 4601663741181105082 (fmul t (fadd 4579390933518564651 (fmul t (fadd 4553525207041591613 (fmul t (fadd 4524267740276402943 (fmul t (fadd 4491732861304072521 (fmul t 4454304567055758550)))))))))))
def r6 (_ _ : Int) : Int × Int := (74189612714195, 74189612714196)
def r5 (a b : Int) : Int × Int := stp 23 a b 3073816221529252 3073816221529253 (r6 a b)
def r4 (a b : Int) : Int × Int := stp 27 a b 3578657011897727 3578657011897728 (r5 a b)
def r3 (a b : Int) : Int × Int := stp 27 a b 2444791698695326 2444791698695327 (r4 a b)
def r2 (a b : Int) : Int × Int := stp 26 a b 2059327934377802 2059327934377803 (r3 a b)
def r1 (a b : Int) : Int × Int := stp 26 a b 999015157899895 999015157899896 (r2 a b)
def r0 (a b : Int) : Int × Int := stp 26 a b 214899106471977 214899106471978 (r1 a b)
def horOk (a b : Int) : Bool := stepOk 23 a b 3073816221529252 3073816221529253 (r6 a b) && stepOk 27 a b 3578657011897727 3578657011897728 (r5 a b) && stepOk 27 a b 2444791698695326 2444791698695327 (r4 a b) && stepOk 26 a b 2059327934377802 2059327934377803 (r3 a b) && stepOk 26 a b 999015157899895 999015157899896 (r2 a b) && stepOk 26 a b 214899106471977 214899106471978 (r1 a b) && decide (703687441777 ≤ (r0 a b).1) && decide ((r0 a b).2 ≤ 4468415255281664)
theorem hor_bt {a b : Int} {t : Nat} (ok : horOk a b = true) (ht : Bt 1054 a b t) : Bt 1029 703687441777 4468415255281664 (poly t) := by
  unfold horOk at ok
  simp only [Bool.and_eq_true, decide_eq_true_eq] at ok
  obtain ⟨⟨⟨⟨⟨⟨⟨o5, o4⟩, o3⟩, o2⟩, o1⟩, o0⟩, q1⟩, q2⟩ := ok
  have b5 := stepB (r := r6 a b) (by omega) (by omega) ht cB5 cB6 o5
  have b4 := stepB (r := r5 a b) (by omega) (by omega) ht cB4 b5 o4
  have b3 := stepB (r := r4 a b) (by omega) (by omega) ht cB3 b4 o3
  have b2 := stepB (r := r3 a b) (by omega) (by omega) ht cB2 b3 o2
  have b1 := stepB (r := r2 a b) (by omega) (by omega) ht cB1 b2 o1
  have b0 := stepB (r := r1 a b) (by omega) (by omega) ht cB0 b1 o0
  exact bt_weak b0 q1 q2
def chain : Int → List Int → Bool
  | _, [] => true
  | a, b :: l => horOk a b && chain b l
def lastOf : Int → List Int → Int
  | a, [] => a
  | _, b :: l => lastOf b l
theorem chain_cov (k : Nat) (v : Int) : ∀ (l : List Int) (a : Int), l ≠ [] → chain a l = true → a * 2 ^ k ≤ v → v ≤ lastOf a l * 2 ^ k → ∃ c d, horOk c d = true ∧ c * 2 ^ k ≤ v ∧ v ≤ d * 2 ^ k := by
  intro l
  induction l with
  | nil => intro a h; exact absurd rfl h
  | cons b l ih =>
    intro a _ hc h1 h2
    unfold chain at hc
    rw [Bool.and_eq_true] at hc
    by_cases c : v ≤ b * 2 ^ k
    · exact ⟨a, b, hc.1, h1, c⟩
    · refine ih b ?_ hc.2 (by omega) h2
      rintro rfl
      exact c h2
def pts : List Int := [-52377600, -52326400, -52275200, -52224000, -52172800, -52121600, -52070400, -52019200, -51968000, -51916800, -51865600, -51814400, -51763200, -51712000, -51660800, -51609600, -51558400, -51507200, -51456000, -51404800, -51353600, -51302400, -51251200, -51200000, -51148800, -51097600, -51046400, -50995200, -50944000, -50892800, -50841600, -50790400, -50739200, -50688000, -50585600, -50483200, -50380800, -50278400, -50176000, -50073600, -49971200, -49868800, -49766400, -49664000, -49561600, -49459200, -49356800, -49254400, -49152000, -49049600, -48947200, -48844800, -48742400, -48640000, -48537600, -48435200, -48332800, -48230400, -48128000, -48025600, -47923200, -47820800, -47718400, -47616000, -47513600, -47411200, -47308800, -47206400, -47104000, -47001600, -46899200, -46796800, -46694400, -46592000, -46489600, -46387200, -46284800, -46080000, -45875200, -45670400, -45465600, -45260800, -45056000, -44851200, -44646400, -44441600, -44236800, -44032000, -43827200, -43622400, -43417600, -43212800, -43008000, -42803200, -42598400, -42393600, -42188800, -41984000, -41779200, -41574400, -41369600, -40960000, -40550400, -40140800, -39731200, -39321600, -38912000, -38502400, -38092800, -37683200, -37273600, -36864000, -36454400, -36044800, -35225600, -34406400, -33587200, -32768000, -31948800, -31129600, -29491200, -27852800, -26214400, -24576000, -22937600, -19660800, -13107200, 0, 52428800]
theorem pts_ok : chain (-52428800) pts = true := by decide +kernel
theorem poly_bt {t : Nat} (ht : Bt 1054 (-52428800) 52428800 t) : Bt 1029 703687441777 4468415255281664 (poly t) := by
  obtain ⟨c, d, h, h1, h2⟩ := chain_cov 1054 (val t) pts (-52428800) (by decide) pts_ok ht.2.1 (by
    have : lastOf (-52428800) pts = 52428800 := by decide +kernel
    rw [this]
    exact ht.2.2)
  exact hor_bt h ⟨ht.1, h1, h2⟩

/-! halves, quotients -/
theorem rung_read {x : Nat} {s : Bool} {m : Nat} {e : Int} (h : Ieee.double.read x = .number s m e) : rung m e < 9218868437227405312 := by
  obtain ⟨R, hR, hd⟩ := dat_of_read h
  have hb := read_bound h
  have hv := val_dat (h.trans (hd s).symm) hR
  rw [val_read h] at hv
  have e1 : m * 2 ^ (e + 1074).toNat = wv R := by
    unfold Ieee.signed sv at hv
    rw [Nat.shiftLeft_eq] at hv
    cases s
    · simp only [Bool.false_eq_true, if_false] at hv
      exact Int.ofNat.inj hv
    · simp only [if_true] at hv
      exact Int.ofNat.inj (Int.neg_inj.1 hv)
  have := rung_scale m e (e + 1074).toNat
  rw [e1, show e - ((e + 1074).toNat : Int) = -1074 by omega, rung_wv] at this
  omega
theorem fin_near (sg : Bool) {q : Nat} {p : Int} (h : rung q p < 9218868437227405312) : fin (Ieee.double.nearest sg q p) = true := by
  rw [nearest_rung, Nat.min_eq_left (Nat.le_of_lt h)]
  exact fin_num (read_word sg _ (Nat.le_of_lt h)) h
theorem half_val {x : Nat} (hx : fin x = true) : fin (fdiv x 4611686018427387904) = true ∧ val (fdiv x 4611686018427387904) = rd2 (val x) (-1075) := by
  obtain ⟨s, m, e, ex⟩ := fin_read hx
  have hb := read_bound ex
  have e1 : Ieee.double.read 4611686018427387904 = .number false 4503599627370496 (-51) := by decide +kernel
  rw [val_read ex]
  unfold fdiv Ieee.Format.div ov
  rw [ex, e1]
  simp only [Datum.quotient]
  rw [if_neg (by decide)]
  simp only [Option.map_some, Option.getD_some, Ieee.Format.write]
  have hlm : m.log2 ≤ 52 := by
    by_cases h0 : m = 0
    · subst h0; decide
    · have := (Nat.log2_lt (n := m) (k := 53) h0).2 (by omega)
      omega
  have hl1 : (4503599627370496 : Nat).log2 = 52 := by decide +kernel
  have hf : Ieee.double.fractionBits = 52 := rfl
  rw [hl1, hf]
  generalize hmore : 52 + 2 + 52 - m.log2 = more
  have hm2 : m <<< more = m * 2 ^ (more - 52) * 4503599627370496 := by
    rw [Nat.shiftLeft_eq, Nat.mul_assoc, show (4503599627370496 : Nat) = 2 ^ 52 by decide, ← Nat.pow_add, show more - 52 + 52 = more by omega]
  rw [hm2, Nat.mul_div_cancel _ (by decide), Nat.mul_mod_left, show ((0 : Nat) != 0).toNat = 0 from rfl, Nat.add_zero]
  have h3 : 2 * (m * 2 ^ (more - 52)) = m * 2 ^ (more - 51) := by
    rw [show more - 51 = (more - 52) + 1 by omega, Nat.pow_succ, Nat.mul_comm 2, Nat.mul_assoc]
  rw [h3, show e - -51 - (more : Int) - 1 = (e - 1) - ((more - 51 : Nat) : Int) by omega, Bool.xor_false]
  generalize more - 51 = g
  have hX : ∃ X : Int, X = Ieee.signed s m 0 := ⟨_, rfl⟩
  obtain ⟨X, hX⟩ := hX
  have ha : X.natAbs = m := by
    rw [hX]
    unfold Ieee.signed
    rw [Nat.shiftLeft_zero]
    cases s
    · exact Int.natAbs_natCast m
    · exact (Int.natAbs_neg _).trans (Int.natAbs_natCast m)
  have hXs : X = 0 ∨ s = decide (X < 0) := by
    by_cases c : X = 0
    · exact .inl c
    · refine .inr ?_
      rw [hX] at c ⊢
      unfold Ieee.signed at c ⊢
      rw [Nat.shiftLeft_zero] at c ⊢
      cases s
      · simp only [Bool.false_eq_true, if_false]
        exact (decide_eq_false (by omega)).symm
      · simp only [if_true] at c ⊢
        exact (decide_eq_true (by omega)).symm
  have hval : Ieee.signed s m (e + 1074).toNat = X * 2 ^ (e + 1074).toNat := by
    rw [hX]
    unfold Ieee.signed
    rw [Nat.shiftLeft_zero, Nat.shiftLeft_eq]
    cases s
    · simp only [Bool.false_eq_true, if_false]
      push_cast
      rfl
    · simp only [if_true]
      push_cast
      rw [Int.neg_mul]
  rw [hval, show (-1075 : Int) = (e - 1) - ((e + 1074).toNat : Int) by omega, rd2_scale, ← rd2_scale X (e - 1) g]
  have h1 : (X * 2 ^ g).natAbs = m * 2 ^ g := by rw [Int.natAbs_mul, Int.natAbs_pow, ha]; rfl
  rw [← h1]
  refine nearest_val _ _ _ ?_ ?_
  · have hp : (0 : Int) < 2 ^ g := Int.pow_pos (by omega)
    rcases hXs with h | h
    · exact .inl (by rw [h, Int.zero_mul])
    · refine .inr ?_
      rw [h, decide_eq_decide]
      exact ⟨fun h => Int.mul_neg_of_neg_of_pos h hp, fun h => by
        rcases Int.lt_or_le X 0 with c | c
        · exact c
        · have := Int.mul_nonneg c (Int.le_of_lt hp); omega⟩
  · rw [h1, rung_scale]
    refine Nat.lt_of_le_of_lt ?_ (rung_read ex)
    refine rung_mono (e - 1) (by omega) (by omega) (Nat.mul_le_mul_left m (Nat.pow_le_pow_right (by omega) (by omega)))
theorem quot_fin {x y : Nat} {L1 H1 L2 H2 : Int} (hx : Bt 1036 L1 H1 x) (hy : Bt 1029 L2 H2 y) (h1 : 0 ≤ L1) (h2 : H1 < 9007199254740992) (h3 : 1 ≤ L2) : fin (fdiv x y) = true := by
  obtain ⟨fx, x1, x2⟩ := hx
  obtain ⟨fy, y1, y2⟩ := hy
  obtain ⟨s, m, i, ex⟩ := fin_read fx
  obtain ⟨t, n, j, ey⟩ := fin_read fy
  have hbx := read_bound ex
  have hby := read_bound ey
  rw [val_read ex] at x1 x2
  rw [val_read ey] at y1 y2
  have ab : ∀ (s : Bool) (m k : Nat) (V : Int), Ieee.signed s m k = V → 0 ≤ V → V = ((m * 2 ^ k : Nat) : Int) := by
    intro s m k V h h0
    rw [← h] at h0 ⊢
    unfold Ieee.signed at h0 ⊢
    rw [Nat.shiftLeft_eq] at h0 ⊢
    cases s
    · rfl
    · simp only [if_true] at h0 ⊢
      omega
  have p29 : (0 : Int) ≤ 2 ^ 1029 := by decide +kernel
  have p36 : (0 : Int) ≤ 2 ^ 1036 := by decide +kernel
  have vy := ab t n (j + 1074).toNat _ rfl (Int.le_trans (Int.mul_nonneg (by omega) p29) y1)
  have vx := ab s m (i + 1074).toNat _ rfl (Int.le_trans (Int.mul_nonneg h1 p36) x1)
  have gy : 2 ^ 1029 ≤ n * 2 ^ (j + 1074).toNat := by
    have : ((2 ^ 1029 : Nat) : Int) ≤ ((n * 2 ^ (j + 1074).toNat : Nat) : Int) := by
      rw [← vy]
      refine Int.le_trans ?_ y1
      have := Int.mul_le_mul_of_nonneg_right h3 p29
      rw [Int.one_mul] at this
      exact this
    exact Int.ofNat_le.1 this
  have gx : m * 2 ^ (i + 1074).toNat ≤ 2 ^ 1089 := by
    have : ((m * 2 ^ (i + 1074).toNat : Nat) : Int) ≤ ((2 ^ 1089 : Nat) : Int) := by
      rw [← vx]
      refine Int.le_trans x2 ?_
      have := Int.mul_le_mul_of_nonneg_right (show H1 ≤ 9007199254740992 by omega) p36
      exact Int.le_trans this (by decide +kernel)
    exact Int.ofNat_le.1 this
  have hn0 : n ≠ 0 := by
    rintro rfl
    rw [Nat.zero_mul] at gy
    exact absurd gy (by decide +kernel)
  have hj : 976 ≤ j + 1074 := by
    rcases Int.lt_or_le (j + 1074) 976 with c | c
    · exfalso
      have a1 : n * 2 ^ (j + 1074).toNat ≤ 9007199254740991 * 2 ^ 975 := Nat.mul_le_mul (by omega) (Nat.pow_le_pow_right (by omega) (by omega))
      have a2 : (9007199254740991 * 2 ^ 975 : Nat) < 2 ^ 1029 := by decide +kernel
      omega
    · exact c
  unfold fdiv Ieee.Format.div ov
  rw [ex, ey]
  simp only [Datum.quotient]
  rw [if_neg hn0]
  simp only [Option.map_some, Option.getD_some, Ieee.Format.write]
  generalize Ieee.double.fractionBits + 2 + n.log2 - m.log2 = more
  apply fin_near
  rw [Nat.shiftLeft_eq]
  by_cases hm0 : m = 0
  · subst hm0
    rw [Nat.zero_mul, Nat.zero_div, Nat.zero_mod]
    unfold rung
    rw [if_pos (by decide)]
    decide
  have hi : i + 1074 ≤ 1089 := by
    rcases Int.lt_or_le 1089 (i + 1074) with c | c
    · exfalso
      have a1 : 1 * 2 ^ 1090 ≤ m * 2 ^ (i + 1074).toNat := Nat.mul_le_mul (by omega) (Nat.pow_le_pow_right (by omega) (by omega))
      have a2 : (2 ^ 1089 : Nat) < 1 * 2 ^ 1090 := by decide +kernel
      omega
    · exact c
  have hQ : 2 * (m * 2 ^ more / n) + (m * 2 ^ more % n != 0).toNat ≤ 2 ^ (more + 55) := by
    have a1 : m * 2 ^ more / n ≤ m * 2 ^ more := Nat.div_le_self _ _
    have a2 : m * 2 ^ more ≤ 9007199254740991 * 2 ^ more := Nat.mul_le_mul_right _ (by omega)
    have a3 := bt01 (m * 2 ^ more % n != 0)
    have a4 : 1 ≤ 2 ^ more := Nat.one_le_two_pow
    rw [Nat.pow_add, show (2 : Nat) ^ 55 = 36028797018963968 by decide]
    generalize 2 ^ more = P at *
    generalize m * P / n = z at *
    generalize (m * P % n != 0).toNat = y at *
    omega
  have hr : rung 1 726 < 9218868437227405312 := by decide +kernel
  refine Nat.lt_of_le_of_lt (rung_mono (i - j - (more : Int) - 1) (by omega) (by omega) ?_) hr
  rw [show (i - j - (more : Int) - 1 - (i - j - (more : Int) - 1)).toNat = 0 by omega, Nat.pow_zero, Nat.mul_one, Nat.one_mul]
  exact Nat.le_trans hQ (Nat.pow_le_pow_right (by omega) (by omega))
/-- From a to b, both numbers. -/
theorem rng {t a b : Nat} (ha : fin a = true) (hb : fin b = true) (h1 : (fgt t a || feq t a) = true) (h2 : (flt t b || feq t b) = true) : fin t = true ∧ val a ≤ val t ∧ val t ≤ val b := by
  have ft : fin t = true := by
    unfold fgt feq Ieee.Format.order at h1
    unfold flt feq Ieee.Format.order at h2
    obtain ⟨s, m, i, ea⟩ := fin_read ha
    obtain ⟨u, n, j, eb⟩ := fin_read hb
    rw [ea] at h1
    rw [eb] at h2
    unfold fin
    revert h1 h2
    cases Ieee.double.read t with
    | number s m e => exact fun _ _ => rfl
    | nan s f => intro h; cases h
    | infinity s =>
      intro h1 h2
      cases s
      · cases h2
      · cases h1
  rw [fge_val ft ha, decide_eq_true_eq] at h1
  rw [fle_val ft hb, decide_eq_true_eq] at h2
  exact ⟨ft, h1, h2⟩
theorem rng' {t a b : Nat} (ha : fin a = true) (hb : fin b = true) (h1 : fgt t a = true) (h2 : (flt t b || feq t b) = true) : fin t = true ∧ val a < val t ∧ val t ≤ val b := by
  obtain ⟨ft, _, h⟩ := rng ha hb (by rw [h1]; rfl) h2
  rw [fgt_val ft ha, decide_eq_true_eq] at h1
  exact ⟨ft, h1, h⟩
end Go.Proofs.Ytaophbkedbphnab.Gen
end

section
/- The drawing of arguments out of bytes: each of these functions ends, and what it draws lies in its range; no condition. -/
set_option linter.unusedVariables false
set_option linter.unusedSimpArgs false
namespace Go.Proofs.Ytaophbkedbphnab.Draw
open Go.RowKit Go.Proofs.Ytaophbkedbphnab.Q Go.Proofs.Ytaophbkedbphnab.Gen Go.Proofs.YtaophbkedbphnabW.PrintWords Go.Proofs.YtaophbkedbphnabW.PrintMore

/-- The bytes that are drawn from. -/
structure Src (l : List Int) : Prop where
  len : l.length ≤ 1048576
  byte : ∀ x ∈ l, 0 ≤ x ∧ x ≤ 255
/-- A place in them. -/
def At (l : List Int) (p : Int) : Prop := 0 ≤ p ∧ p ≤ l.length

theorem Src.rd_ {l : List Int} (h : Src l) (i : Int) : 0 ≤ rd l i ∧ rd l i ≤ 255 := by
  unfold rd
  rw [List.getD_eq_getElem?_getD]
  by_cases hi : i.toNat < l.length
  · rw [List.getElem?_eq_getElem hi]; exact h.byte _ (List.getElem_mem hi)
  · rw [List.getElem?_eq_none (by omega)]; decide

theorem wrap64_range (x : Int) : -9223372036854775808 ≤ wrap64 x ∧ wrap64 x ≤ 9223372036854775807 := by unfold wrap64; omega

theorem next_ok {l : List Int} (h : Src l) {p : Int} (hp : At l p) : ∃ v q, spec_l1Rd_next.f l p = some (v, q) ∧ 0 ≤ v ∧ v ≤ 255 ∧ At l q := by
  unfold At at hp
  have hl := h.len
  unfold spec_l1Rd_next.f
  by_cases c : p ≥ (l.length : Int)
  · rw [if_pos c]
    exact ⟨_, _, rfl, by omega, by omega, hp⟩
  · have hr := h.rd_ p
    rw [if_neg c, w64 (x := p + 1) (by omega) (by omega), w64 (x := p + 1 - 1) (by omega) (by omega), show p + 1 - 1 = p by omega, if_pos (by omega), if_pos (by omega), w64 (x := rd l p) (by omega) (by omega)]
    exact ⟨_, _, rfl, by omega, by omega, by unfold At; omega⟩
theorem below_ok {l : List Int} (h : Src l) {p : Int} (hp : At l p) (n : Int) (hn : 1 ≤ n) : ∃ v q, spec_l1Rd_below.f l p n = some (v, q) ∧ 0 ≤ v ∧ v < n ∧ At l q := by
  unfold spec_l1Rd_below.f
  by_cases c : n ≤ 1
  · rw [if_pos c]
    exact ⟨_, _, rfl, by omega, by omega, hp⟩
  · rw [if_neg c]
    obtain ⟨v, q, e, v0, v1, hq⟩ := next_ok h hp
    by_cases d : n ≤ 256
    · rw [if_pos d, e, Option.bind_some, if_neg (by omega)]
      exact ⟨_, _, rfl, Int.tmod_nonneg _ v0, Int.tmod_lt_of_pos _ (by omega), hq⟩
    · obtain ⟨v', q', e', v0', v1', hq'⟩ := next_ok h hq
      rw [if_neg d, e, Option.bind_some, e', Option.bind_some, if_neg (by omega), w64 (x := v * 256) (by omega) (by omega), w64 (by omega) (by omega)]
      exact ⟨_, _, rfl, Int.tmod_nonneg _ (by omega), Int.tmod_lt_of_pos _ (by omega), hq'⟩
theorem once_ok {l : List Int} (h : Src l) {p : Int} (hp : At l p) (n : Int) (hn : 1 ≤ n) : ∃ b q, spec_l1Rd_once.f l p n = some (b, q) ∧ At l q := by
  unfold spec_l1Rd_once.f
  obtain ⟨v, q, e, _, _, hq⟩ := below_ok h hp n hn
  rw [e, Option.bind_some]
  exact ⟨_, _, rfl, hq⟩
theorem word_ok {l : List Int} (h : Src l) {p : Int} (hp : At l p) : ∃ v q, Ev (fun k => spec_l1Rd_word.f k l p) (v, q) ∧ At l q := by
  simp only [spec_l1Rd_word.f]
  have main : ∀ (t : Nat) (i x p : Int), 8 - i = t → 0 ≤ i → At l p → ∃ v q, Ev (fun k => spec_l1Rd_word.l0 k x i l p) (v, q) ∧ At l q := by
    intro t
    induction t with
    | zero =>
      intro i x p h1 h2 hp
      refine ⟨x, p, Ev_succ fun k => ?_, hp⟩
      simp only [spec_l1Rd_word.l0]
      rw [if_neg (by omega)]
    | succ t ih =>
      intro i x p h1 h2 hp
      obtain ⟨v, q, e, _, _, hq⟩ := next_ok h hp
      obtain ⟨v', q', e', hq'⟩ := ih (i + 1) (Go.bits .or .u64 (IntKind.u64.wrap (x * 256)) (IntKind.u64.wrap v)) q (by omega) (by omega) hq
      refine ⟨v', q', Ev.step (fun k => ?_) e', hq'⟩
      simp only [spec_l1Rd_word.l0]
      rw [if_pos (by omega), e, Option.bind_some, w64 (by omega) (by omega)]
  exact main 8 0 0 p (by omega) (by omega) hp
theorem number_ok {l : List Int} (h : Src l) {p : Int} (hp : At l p) : ∃ v q, Ev (fun k => spec_l1Rd_number.f k l p) (v, q) ∧ (-9223372036854775808 ≤ v ∧ v ≤ 9223372036854775807) ∧ At l q := by
  simp only [spec_l1Rd_number.f]
  obtain ⟨v, q, e, v0, v1, hq⟩ := below_ok h hp 5 (by omega)
  simp only [e, Option.bind_some]
  by_cases c0 : v = 0
  · obtain ⟨u, q', e', u0, u1, hq'⟩ := below_ok h hq 300 (by omega)
    simp only [e', Option.bind_some]
    exact ⟨_, _, evPos c0 (Ev.now _), wrap64_range _, hq'⟩
  by_cases c1 : v = 1
  · obtain ⟨u, q', e', u0, u1, hq'⟩ := below_ok h hq 12 (by omega)
    simp only [e', Option.bind_some]
    refine ⟨_, _, evNeg c0 (evPos c1 (evPos u0 (evPos (by simpa using u1) (Ev.now _)))), ?_, hq'⟩
    have : u = 0 ∨ u = 1 ∨ u = 2 ∨ u = 3 ∨ u = 4 ∨ u = 5 ∨ u = 6 ∨ u = 7 ∨ u = 8 ∨ u = 9 ∨ u = 10 ∨ u = 11 := by omega
    rcases this with rfl | rfl | rfl | rfl | rfl | rfl | rfl | rfl | rfl | rfl | rfl | rfl <;> decide
  by_cases c2 : v = 2
  · obtain ⟨x, q', e', hq'⟩ := word_ok h hq
    obtain ⟨u, q2, e2, u0, u1, hq2⟩ := below_ok h hq' 60 (by omega)
    refine ⟨wrap64 (shr .u64 x (IntKind.u64.wrap (wrap64 (1 + u)))), q2, evNeg c0 (evNeg c1 (evPos c2 (Ev.bind e' ?_))), ?_, hq2⟩
    · simp only [e2, Option.bind_some]
      exact evPos (by unfold IntKind.wrap; simp [IntKind.signed, IntKind.bits]; omega) (Ev.now _)
    · exact wrap64_range _
  · obtain ⟨u, q', e', u0, u1, hq'⟩ := below_ok h hq 20 (by omega)
    simp only [e', Option.bind_some]
    exact ⟨_, _, evNeg c0 (evNeg c1 (evNeg c2 (Ev.now _))), by omega, hq'⟩

end Go.Proofs.Ytaophbkedbphnab.Draw
end

section
/- The plain statement of the law FnDewPoint: the dew point lies where the law says, for all drawn temperatures and humidities; no condition. -/
set_option exponentiation.threshold 3000
set_option linter.unusedVariables false
set_option linter.unusedSimpArgs false
namespace Go.Proofs.Ytaophbkedbphnab.Pure
open Go.RowKit Go.Proofs.Ytaophbkedbphnab.Q Go.Proofs.Ytaophbkedbphnab.Gen Go.Proofs.Ytaophbkedbphnab.Draw Go.Proofs.YtaophbkedbphnabW.PrintWords Go.Proofs.YtaophbkedbphnabW.PrintMore Go.Proofs.YtaophbkedbphnabW.PrintFlt

/-! the draws end -/
theorem float_ok {l : List Int} (h : Src l) {p : Int} (hp : At l p) : ∃ v q, Ev (fun k => spec_l1Rd_float.f k l p) (v, q) ∧ At l q := by
  simp only [spec_l1Rd_float.f]
  obtain ⟨v, q, e, v0, v1, hq⟩ := below_ok h hp 8 (by omega)
  simp only [e, Option.bind_some, spec_l1None.f]
  by_cases c0 : v = 0
  · exact ⟨_, _, evPos c0 (Ev.now _), hq⟩
  by_cases c1 : v = 1
  · obtain ⟨u, q', e', u0, u1, hq'⟩ := below_ok h hq 16 (by omega)
    simp only [e', Option.bind_some]
    exact ⟨_, _, evNeg c0 (evPos c1 (evPos u0 (evPos (by simpa using u1) (Ev.now _)))), hq'⟩
  by_cases c2 : v = 2
  · obtain ⟨x, q', e', _, hq'⟩ := number_ok h hq
    obtain ⟨u, q2, e2, u0, u1, hq2⟩ := below_ok h hq' 1000 (by omega)
    refine ⟨fdiv (foi x) (foi (wrap64 (1 + u))), q2, evNeg c0 (evNeg c1 (evPos c2 (Ev.bind e' ?_))), hq2⟩
    simp only [e2, Option.bind_some]
    exact Ev.now _
  by_cases c3 : v = 3
  · obtain ⟨u, q', e', u0, u1, hq'⟩ := below_ok h hq 1000 (by omega)
    simp only [e', Option.bind_some]
    exact ⟨_, _, evNeg c0 (evNeg c1 (evNeg c2 (evPos c3 (Ev.now _)))), hq'⟩
  · obtain ⟨u, q', e', u0, u1, hq'⟩ := below_ok h hq 1000 (by omega)
    simp only [e', Option.bind_some]
    exact ⟨_, _, evNeg c0 (evNeg c1 (evNeg c2 (evNeg c3 (Ev.now _)))), hq'⟩
theorem tenth_ok {l : List Int} (h : Src l) {p : Int} (hp : At l p) (a b : Int) (h1 : 1 ≤ wrap64 (wrap64 (b - a) + 1)) : ∃ v q, spec_l1Rd_tenth.f l p a b = some (v, q) ∧ At l q := by
  unfold spec_l1Rd_tenth.f
  obtain ⟨v, q, e, _, _, hq⟩ := below_ok h hp (wrap64 (wrap64 (b - a) + 1)) h1
  rw [e, Option.bind_some]
  exact ⟨_, _, rfl, hq⟩
theorem warmth_ok {l : List Int} (h : Src l) {p : Int} (hp : At l p) : ∃ v q, Ev (fun k => spec_l1Rd_warmth.f k l p) (v, q) ∧ At l q := by
  simp only [spec_l1Rd_warmth.f]
  obtain ⟨b, q, e, hq⟩ := once_ok h hp 9 (by omega)
  rw [e]
  cases b with
  | true =>
    obtain ⟨v, q2, e2, hq2⟩ := float_ok h hq
    exact ⟨v, q2, Ev.bind (Ev.now _) (evPos rfl (Ev.bind e2 (Ev.now _))), hq2⟩
  | false =>
    obtain ⟨v, q2, e2, hq2⟩ := tenth_ok h hq (-520) 520 (by unfold wrap64; omega)
    refine ⟨v, q2, Ev.bind (Ev.now _) (evNeg (by intro h; cases h) ?_), hq2⟩
    show Ev (fun k => (spec_l1Rd_tenth.f l q (-520) 520).bind fun bt164 => some (bt164.1, bt164.2)) (v, q2)
    rw [e2]
    exact Ev.now _
theorem draw_ok {l : List Int} (h : Src l) : ∃ t u, Ev (fun k => spec_DrawDewOf.f k l) (t, u) := by
  simp only [spec_DrawDewOf.f]
  have h0 : At l 0 := ⟨Int.le_refl _, by omega⟩
  obtain ⟨t, q, e, hq⟩ := warmth_ok h h0
  obtain ⟨u, q2, e2, hq2⟩ := tenth_ok h hq (-3) 1010 (by unfold wrap64; omega)
  obtain ⟨b, q3, e3, hq3⟩ := once_ok h hq2 10 (by omega)
  cases b with
  | true =>
    obtain ⟨v, q4, e4, _⟩ := float_ok h hq3
    refine ⟨t, v, Ev.bind (Ev.now (l, 0)) (Ev.bind e ?_)⟩
    simp only [e2]
    refine Ev.bind (Ev.now _) ?_
    simp only [e3]
    exact Ev.bind (Ev.now _) (evPos rfl (Ev.bind e4 (Ev.now _)))
  | false =>
    refine ⟨t, u, Ev.bind (Ev.now (l, 0)) (Ev.bind e ?_)⟩
    simp only [e2]
    refine Ev.bind (Ev.now _) ?_
    simp only [e3]
    exact Ev.bind (Ev.now _) (evNeg (by intro h; cases h) (Ev.now _))

/-! the vapour -/
def warm (t : Nat) : Bool := (fgt t 13855605728582041600 || feq t 13855605728582041600) && (flt t 4632233691727265792 || feq t 4632233691727265792)
def V (t : Nat) : Nat := if warm t = true then poly t else qnan
theorem none_ev : spec_l1None.f = some qnan := by decide +kernel
theorem nan_ev : impl_nan.f = some qnan := rfl
theorem vap_spec (t : Nat) : Ev (fun k => spec_Vapour.f k t) (V t) := by
  simp only [spec_Vapour.f]
  have no : ∀ b, b = true → Ev (fun k => spec_Vapour.j0 k t b) qnan := fun b hb => by
    refine Ev.step (fun k => spec_Vapour.j0.eq_2 _ _ k) (evPos hb ?_)
    rw [none_ev]
    exact Ev.bind (Ev.now _) (Ev.now _)
  unfold V warm
  by_cases c1 : (fgt t 13855605728582041600 || feq t 13855605728582041600) = true
  · rw [c1, Bool.true_and]
    refine evPos rfl ?_
    by_cases c2 : (flt t 4632233691727265792 || feq t 4632233691727265792) = true
    · rw [c2, if_pos rfl]
      refine Ev.step (fun k => spec_Vapour.j0.eq_2 _ _ k) (evNeg (by decide) (Ev.bind (Ev.now _) (evPos (by decide) ?_)))
      generalize hy : ([4618562789834491187, 4601663741181105082, 4579390933518564651, 4553525207041591613, 4524267740276402943, 4491732861304072521, 4454304567055758550] : List Nat) = ys
      have hl : ys.length = 7 := by rw [← hy]; rfl
      have step : ∀ (i : Nat) (x z : Nat), i < 7 → Ev (fun k => spec_Vapour.l0 k t ys (fadd (rd_F ys (i : Int)) (fmul t x)) ((i : Int) - 1)) z → Ev (fun k => spec_Vapour.l0 k t ys x (i : Int)) z := by
        intro i x z hi h
        refine Ev.step (fun k => spec_Vapour.l0.eq_2 _ _ _ _ k) (evPos (by omega) (evPos (by omega) (evPos (by omega) ?_)))
        rw [w64 (x := (i : Int) - 1) (by omega) (by omega)]
        exact h
      have last : ∀ z, Ev (fun k => spec_Vapour.l0 k t ys z (-1)) z := fun z => Ev.step (fun k => spec_Vapour.l0.eq_2 _ _ _ _ k) (evNeg (by decide) (Ev.now _))
      have e : poly t = fadd (rd_F ys 0) (fmul t (fadd (rd_F ys 1) (fmul t (fadd (rd_F ys 2) (fmul t (fadd (rd_F ys 3) (fmul t (fadd (rd_F ys 4) (fmul t (fadd (rd_F ys 5) (fmul t (rd_F ys 6)))))))))))) := by rw [← hy]; rfl
      rw [e]
      exact step 5 _ _ (by omega) (step 4 _ _ (by omega) (step 3 _ _ (by omega) (step 2 _ _ (by omega) (step 1 _ _ (by omega) (step 0 _ _ (by omega) (last _))))))
    · rw [Bool.not_eq_true] at c2
      rw [c2, if_neg (by decide)]
      exact no _ rfl
  · rw [Bool.not_eq_true] at c1
    rw [c1, Bool.false_and, if_neg (by decide)]
    exact evNeg (by decide) (no _ rfl)
theorem vap_impl (t : Nat) : Ev (fun k => impl_Vapour.f k t) (V t) := by
  simp only [impl_Vapour.f]
  have no : ∀ b, b = true → Ev (fun k => impl_Vapour.j0 k t b) qnan := fun b hb => by
    refine Ev.step (fun k => impl_Vapour.j0.eq_2 _ _ k) (evPos hb ?_)
    rw [nan_ev]
    exact Ev.bind (Ev.now _) (Ev.now _)
  unfold V warm
  by_cases c1 : (fgt t 13855605728582041600 || feq t 13855605728582041600) = true
  · rw [c1, Bool.true_and]
    refine evPos rfl ?_
    by_cases c2 : (flt t 4632233691727265792 || feq t 4632233691727265792) = true
    · rw [c2, if_pos rfl]
      refine Ev.step (fun k => impl_Vapour.j0.eq_2 _ _ k) (evNeg (by decide) (Ev.bind (Ev.now _) ?_))
      generalize hy : ([4491732861304072521, 4524267740276402943, 4553525207041591613, 4579390933518564651, 4601663741181105082] : List Nat) = ys
      have hl : ys.length = 5 := by rw [← hy]; rfl
      rw [hl]
      have step : ∀ (i : Nat) (x z : Nat), i < 5 → Ev (fun k => impl_Vapour.l0 k t (fmul t (fadd (rd_F ys (i : Int)) x)) ys ((5 : Nat) : Int) ((i + 1 : Nat) : Int)) z → Ev (fun k => impl_Vapour.l0 k t x ys ((5 : Nat) : Int) (i : Int)) z := by
        intro i x z hi h
        refine Ev.step (fun k => impl_Vapour.l0.eq_2 _ _ _ _ _ k) (evPos (by omega) (evPos (by omega) (evPos (by omega) ?_)))
        rw [up1 (by omega)]
        exact h
      have last : ∀ z, Ev (fun k => impl_Vapour.l0 k t z ys ((5 : Nat) : Int) ((5 : Nat) : Int)) (fadd 4618562789834491187 z) := fun z => Ev.step (fun k => impl_Vapour.l0.eq_2 _ _ _ _ _ k) (evNeg (by omega) (Ev.now _))
      have e : poly t = fadd 4618562789834491187 (fmul t (fadd (rd_F ys (4 : Nat)) (fmul t (fadd (rd_F ys (3 : Nat)) (fmul t (fadd (rd_F ys (2 : Nat)) (fmul t (fadd (rd_F ys (1 : Nat)) (fmul t (fadd (rd_F ys (0 : Nat)) (fmul t 4454304567055758550))))))))))) := by rw [← hy]; rfl
      rw [e]
      exact step 0 _ _ (by omega) (step 1 _ _ (by omega) (step 2 _ _ (by omega) (step 3 _ _ (by omega) (step 4 _ _ (by omega) (last _)))))
    · rw [Bool.not_eq_true] at c2
      rw [c2, if_neg (by decide)]
      exact no _ rfl
  · rw [Bool.not_eq_true] at c1
    rw [c1, Bool.false_and, if_neg (by decide)]
    exact evNeg (by decide) (no _ rfl)

/-! numbers -/
theorem fA : fin 13855605728582041600 = true := by decide +kernel
theorem fB : fin 4632233691727265792 = true := by decide +kernel
theorem fC : fin 4636737291354636288 = true := by decide +kernel
theorem f0 : fin 0 = true := by decide +kernel
def u20 : Int := 2 ^ 1054
theorem vA : val 13855605728582041600 = -52428800 * 2 ^ 1054 := by decide +kernel
theorem vB : val 4632233691727265792 = 52428800 * 2 ^ 1054 := by decide +kernel
theorem bC : Bt 1029 3518437208883200 3518437208883200 4636737291354636288 := inB_bt (by decide +kernel)
theorem v0 : val 0 = 0 := by decide +kernel
theorem warm_bt {t : Nat} (h : warm t = true) : Bt 1054 (-52428800) 52428800 t := by
  unfold warm at h
  rw [Bool.and_eq_true] at h
  obtain ⟨ft, h1, h2⟩ := rng fA fB h.1 h.2
  rw [vA] at h1
  rw [vB] at h2
  exact ⟨ft, h1, h2⟩
theorem warm_of {t : Nat} (h : Bt 1054 (-52428800) 52428800 t) : warm t = true := by
  obtain ⟨ft, h1, h2⟩ := h
  unfold warm
  rw [fge_val ft fA, fle_val ft fB, vA, vB, decide_eq_true h1, decide_eq_true h2]
  rfl
theorem V_bt {t : Nat} (h : warm t = true) : Bt 1029 703687441777 4468415255281664 (V t) := by
  unfold V
  rw [if_pos h]
  exact poly_bt (warm_bt h)
/-- A hundred times the vapour. -/
theorem V100 {t : Nat} (h : warm t = true) : Bt 1036 549755813 3490949418188800 (fmul (V t) 4636737291354636288) := by
  refine bt_mul (k1 := 1029) (k2 := 1029) (c := 52) (by omega) (by omega) (V_bt h) bC ?_ ?_ ?_ ?_ ?_ ?_ ?_ ?_ (by decide) (by decide) <;> decide +kernel
/-- What is asked. -/
structure Ask (t h : Nat) : Prop where
  w : warm t = true
  fh : fin h = true
  h0 : 0 < val h
  h1 : val h ≤ val 4636737291354636288
theorem Ask.want {t h : Nat} (a : Ask t h) : fin (fmul h (V t)) = true ∧ val (fmul h (V t)) ≤ val (fmul (V t) 4636737291354636288) := by
  have hV := V_bt a.w
  have b100 := V100 a.w
  have hh : Bt 1029 0 3518437208883200 h := ⟨a.fh, by rw [Int.zero_mul]; exact Int.le_of_lt a.h0, Int.le_trans a.h1 bC.2.2⟩
  have m1 : Bt 1036 0 3490949418188800 (fmul h (V t)) := by
    refine bt_mul (k1 := 1029) (k2 := 1029) (c := 52) (by omega) (by omega) hh hV ?_ ?_ ?_ ?_ ?_ ?_ ?_ ?_ (by decide) (by decide) <;> decide +kernel
  have hv0 : 0 ≤ val (V t) := Int.le_trans (by decide +kernel) hV.2.1
  have le : val h * val (V t) ≤ val (V t) * val 4636737291354636288 := by
    rw [Int.mul_comm (val (V t))]
    exact Int.mul_le_mul_of_nonneg_right a.h1 hv0
  have p29 : (0 : Int) < 2 ^ 1029 := by decide +kernel
  have bp : ∀ x y : Nat, Bt 1029 0 4468415255281664 x → Bt 1029 0 4468415255281664 y → rung (val x * val y).natAbs (-2148) < 9218868437227405312 := by
    intro x y hx hy
    have x0 : 0 ≤ val x := by have := hx.2.1; rwa [Int.zero_mul] at this
    have y0 : 0 ≤ val y := by have := hy.2.1; rwa [Int.zero_mul] at this
    refine (between (L := 0) (H := 4468415255281664) (k := 1110) (j := 1074) (by decide) (by decide) (by omega) ?_ ?_).1
    · rw [Int.zero_mul, Int.zero_mul]; exact Int.mul_nonneg x0 y0
    · refine Int.le_trans (Int.mul_le_mul hx.2.2 hy.2.2 y0 (by decide +kernel)) (by decide +kernel)
  have w1 : Bt 1029 0 4468415255281664 h := bt_weak hh (by decide) (by decide)
  have w2 : Bt 1029 0 4468415255281664 (V t) := bt_weak hV (by decide) (by decide)
  have w3 : Bt 1029 0 4468415255281664 4636737291354636288 := bt_weak bC (by decide) (by decide)
  have e1 := fmul_val a.fh hV.1 (bp _ _ w1 w2)
  have e2 := fmul_val hV.1 fC (bp _ _ w2 w3)
  exact ⟨m1.1, by rw [e1.2, e2.2]; exact rd2_mono _ le⟩
/-- Where the search stands. -/
structure Dw (t h lo hi : Nat) : Prop where
  fl : fin lo = true
  fh : fin hi = true
  le : val lo ≤ val hi
  bo : -52428800 * 2 ^ 1054 ≤ val lo
  tp : val hi ≤ val t
  q : flt (fmul (V hi) 4636737291354636288) (fmul h (V t)) = false
theorem wv_twice {s : Bool} {R : Nat} (h : wv R ≤ 52428800 * 2 ^ 1054) : ∃ S, S < 9218868437227405312 ∧ wv S = 2 * wv R := by
  by_cases c : R < 4503599627370496
  · refine ⟨2 * R, by omega, ?_⟩
    unfold wv
    rw [if_pos c]
    by_cases c2 : 2 * R < 4503599627370496
    · rw [if_pos c2]
    · rw [if_neg c2, show (2 * R) / 4503599627370496 - 1 = 0 by omega, Nat.pow_zero, Nat.mul_one]
      omega
  · have hR : R < 9218868437227405312 - 4503599627370496 := by
      rcases Nat.lt_or_ge R (9218868437227405312 - 4503599627370496) with c2 | c2
      · exact c2
      · exfalso
        have := wv_le c2
        have e : 52428800 * 2 ^ 1054 < wv (9218868437227405312 - 4503599627370496) := by decide +kernel
        omega
    refine ⟨R + 4503599627370496, by omega, ?_⟩
    unfold wv
    rw [if_neg c, if_neg (by omega), show (R + 4503599627370496) % 4503599627370496 = R % 4503599627370496 by omega, show (R + 4503599627370496) / 4503599627370496 - 1 = (R / 4503599627370496 - 1) + 1 by omega, Nat.pow_succ, Nat.mul_comm 2, Nat.mul_assoc]
/-- Twice a number of this size is a number; half of what is rounded between such is between. -/
theorem twice {x : Nat} (hx : fin x = true) (h1 : -52428800 * 2 ^ 1054 ≤ val x) (h2 : val x ≤ 52428800 * 2 ^ 1054) : rd2 (2 * val x) (-1074) = 2 * val x ∧ rd2 (2 * val x) (-1075) = val x := by
  obtain ⟨s, R, hR, hd⟩ := fin_dat hx
  have hv := val_dat hd hR
  have hw : wv R ≤ 52428800 * 2 ^ 1054 := by
    rw [hv] at h1 h2
    unfold sv at h1 h2
    have e : (52428800 * 2 ^ 1054 : Int) = ((52428800 * 2 ^ 1054 : Nat) : Int) := by decide +kernel
    have e' : (-52428800 * 2 ^ 1054 : Int) = -((52428800 * 2 ^ 1054 : Nat) : Int) := by decide +kernel
    rw [e] at h2
    rw [e'] at h1
    generalize (52428800 * 2 ^ 1054 : Nat) = B at *
    cases s
    · simp only [Bool.false_eq_true, if_false] at h1 h2; omega
    · simp only [if_true] at h1 h2; omega
  obtain ⟨S, hS, hw2⟩ := wv_twice (s := s) hw
  have e2 : 2 * val x = sv s S := by
    rw [hv]
    unfold sv
    rw [hw2]
    cases s
    · simp only [Bool.false_eq_true, if_false]; omega
    · simp only [if_true]; omega
  refine ⟨by rw [e2]; exact rd2_sv s S, ?_⟩
  have := rd2_scale (val x) (-1074) 1
  rw [Int.pow_succ, Int.pow_zero, Int.one_mul, Int.mul_comm, show (-1074 : Int) - ((1 : Nat) : Int) = -1075 by omega] at this
  rw [this, hv, rd2_sv]
theorem Dw.mid {t h lo hi : Nat} (ht : warm t = true) (d : Dw t h lo hi) : fin (fdiv (fadd lo hi) 4611686018427387904) = true ∧ val lo ≤ val (fdiv (fadd lo hi) 4611686018427387904) ∧ val (fdiv (fadd lo hi) 4611686018427387904) ≤ val hi := by
  have tb := (warm_bt ht).2.2
  have bo := d.bo
  have tp := d.tp
  have le := d.le
  obtain ⟨a1, a2⟩ := twice d.fl bo (Int.le_trans le (Int.le_trans tp tb))
  obtain ⟨b1, b2⟩ := twice d.fh (Int.le_trans bo le) (Int.le_trans tp tb)
  have hr : rung (val lo + val hi).natAbs (-1074) < 9218868437227405312 := by
    refine (between (L := -104857600) (H := 104857600) (k := 1054) (j := 0) (by decide) (by decide) (by omega) ?_ ?_).1
    · rw [Int.pow_zero, Int.mul_one]
      have e : (-104857600 : Int) * 2 ^ 1054 = -52428800 * 2 ^ 1054 + -52428800 * 2 ^ 1054 := by decide +kernel
      rw [e]
      exact Int.add_le_add bo (Int.le_trans bo le)
    · rw [Int.pow_zero, Int.mul_one]
      have e : (104857600 : Int) * 2 ^ 1054 = 52428800 * 2 ^ 1054 + 52428800 * 2 ^ 1054 := by decide +kernel
      rw [e]
      exact Int.add_le_add (Int.le_trans le (Int.le_trans tp tb)) (Int.le_trans tp tb)
  obtain ⟨fs, vs⟩ := fadd_val d.fl d.fh hr
  obtain ⟨fm, vm⟩ := half_val fs
  have s1 : 2 * val lo ≤ val (fadd lo hi) := by
    rw [vs, ← a1]
    exact rd2_mono _ (by omega)
  have s2 : val (fadd lo hi) ≤ 2 * val hi := by
    rw [vs, ← b1]
    exact rd2_mono _ (by omega)
  refine ⟨fm, ?_, ?_⟩
  · rw [vm, ← a2]
    exact rd2_mono _ s1
  · rw [vm, ← b2]
    exact rd2_mono _ s2
theorem search {t h : Nat} (a : Ask t h) : ∀ (n j : Nat) (lo hi : Nat), j + n = 60 → Dw t h lo hi → ∃ d, Ev (fun k => spec_DewOf.l0 k lo hi (fmul h (V t)) (j : Int)) d ∧ Ev (fun k => impl_DewOf.l0 k h (V t) lo hi (j : Int)) d ∧ Dw t h d d := by
  intro n
  induction n with
  | zero =>
    intro j lo hi hj d
    refine ⟨hi, Ev.step (fun k => spec_DewOf.l0.eq_2 _ _ _ _ k) (evNeg (by omega) (Ev.now _)), Ev.step (fun k => impl_DewOf.l0.eq_2 _ _ _ _ _ k) (evNeg (by omega) (Ev.now _)), ⟨d.fh, d.fh, Int.le_refl _, Int.le_trans d.bo d.le, d.tp, d.q⟩⟩
  | succ n ih =>
    intro j lo hi hj d
    obtain ⟨m1, m2, m3⟩ := d.mid a.w
    obtain ⟨m, hm⟩ : ∃ m, fdiv (fadd lo hi) 4611686018427387904 = m := ⟨_, rfl⟩
    rw [hm] at m1 m2 m3
    cases c : flt (fmul (V m) 4636737291354636288) (fmul h (V t)) with
    | true =>
      obtain ⟨z, h1, h2, h3⟩ := ih (j + 1) m hi (by omega) ⟨m1, d.fh, m3, Int.le_trans d.bo m2, d.tp, d.q⟩
      refine ⟨z, Ev.step (fun k => spec_DewOf.l0.eq_2 _ _ _ _ k) (evPos (by omega) ?_), Ev.step (fun k => impl_DewOf.l0.eq_2 _ _ _ _ _ k) (evPos (by omega) ?_), h3⟩
      · rw [hm, up1 (by omega)]
        exact Ev.bind (vap_spec m) (evPos c h1)
      · rw [hm, up1 (by omega)]
        exact Ev.bind (vap_impl m) (evPos c h2)
    | false =>
      obtain ⟨z, h1, h2, h3⟩ := ih (j + 1) lo m (by omega) ⟨d.fl, m1, m2, d.bo, Int.le_trans m3 d.tp, c⟩
      refine ⟨z, Ev.step (fun k => spec_DewOf.l0.eq_2 _ _ _ _ k) (evPos (by omega) ?_), Ev.step (fun k => impl_DewOf.l0.eq_2 _ _ _ _ _ k) (evPos (by omega) ?_), h3⟩
      · rw [hm, up1 (by omega)]
        exact Ev.bind (vap_spec m) (evNeg (by rw [c]; decide) h1)
      · rw [hm, up1 (by omega)]
        exact Ev.bind (vap_impl m) (evNeg (by rw [c]; decide) h2)
theorem known_i (x : Nat) : impl_Known.f x = some (fin x) := by
  unfold impl_Known.f impl_missing.f math_IsInf.f math_Abs.f
  rw [Option.bind_some, fne_self, ← known2]
  cases isn x
  · rw [if_neg (by decide), if_pos rfl]; rfl
  · rfl
theorem known_s (x : Nat) : spec_Known.f x = some (fin x) := by
  unfold spec_Known.f
  rw [known1]
def okh (h : Nat) : Bool := fgt h 0 && (flt h 4636737291354636288 || feq h 4636737291354636288)
theorem fin_qnan : fin qnan = false := by decide +kernel
/-- Both find the same dew point: a number as the law asks, where there is one. -/
theorem dew_both (t h : Nat) : ∃ d, Ev (fun k => spec_DewOf.f k t h) d ∧ Ev (fun k => impl_DewOf.f k t h) d ∧ (d = qnan ∨ (Ask t h ∧ Dw t h d d)) := by
  simp only [spec_DewOf.f, impl_DewOf.f, known_i, known_s]
  have no1 : ∀ (x : Nat) b, b = true → Ev (fun k => spec_DewOf.j0 k t h x b) qnan := fun x b hb => by
    refine Ev.step (fun k => spec_DewOf.j0.eq_2 _ _ _ _ k) (evPos hb ?_)
    rw [none_ev]
    exact Ev.bind (Ev.now _) (Ev.now _)
  have no2 : ∀ (x : Nat) b, b = true → Ev (fun k => impl_DewOf.j0 k t h x b) qnan := fun x b hb => by
    refine Ev.step (fun k => impl_DewOf.j0.eq_2 _ _ _ _ k) (evPos hb ?_)
    rw [nan_ev]
    exact Ev.bind (Ev.now _) (Ev.now _)
  cases cw : warm t with
  | false =>
    have eV : V t = qnan := by unfold V; rw [cw, if_neg (by decide)]
    refine ⟨qnan, Ev.bind (vap_spec t) (Ev.bind (Ev.now _) (evNeg ?_ (no1 _ _ rfl))), Ev.bind (vap_impl t) (Ev.bind (Ev.now _) (evNeg ?_ (no2 _ _ rfl))), .inl rfl⟩
    all_goals rw [eV, fin_qnan]; decide
  | true =>
    have fV := (V_bt cw).1
    by_cases c1 : fgt h 0 = true
    rotate_left
    · exact ⟨qnan, Ev.bind (vap_spec t) (Ev.bind (Ev.now _) (evPos fV (evNeg c1 (no1 _ _ rfl)))), Ev.bind (vap_impl t) (Ev.bind (Ev.now _) (evPos fV (evNeg c1 (no2 _ _ rfl)))), .inl rfl⟩
    by_cases c2 : (flt h 4636737291354636288 || feq h 4636737291354636288) = true
    rotate_left
    · rw [Bool.not_eq_true] at c2
      exact ⟨qnan, Ev.bind (vap_spec t) (Ev.bind (Ev.now _) (evPos fV (evPos c1 (no1 _ _ (by rw [c2]; rfl))))), Ev.bind (vap_impl t) (Ev.bind (Ev.now _) (evPos fV (evPos c1 (no2 _ _ (by rw [c2]; rfl))))), .inl rfl⟩
    obtain ⟨fh, h0, h1⟩ := rng' f0 fC c1 c2
    rw [v0] at h0
    have a : Ask t h := ⟨cw, fh, h0, h1⟩
    have tb := warm_bt cw
    have w := a.want
    have start : Dw t h 13855605728582041600 t := ⟨fA, tb.1, by rw [vA]; exact tb.2.1, by rw [vA]; exact Int.le_refl _, Int.le_refl _, by
      rw [flt_val (V100 cw).1 w.1]
      exact decide_eq_false (by have := w.2; omega)⟩
    obtain ⟨d, s1, s2, s3⟩ := search a 60 0 _ _ rfl start
    refine ⟨d, Ev.bind (vap_spec t) (Ev.bind (Ev.now _) (evPos fV (evPos c1 ?_))), Ev.bind (vap_impl t) (Ev.bind (Ev.now _) (evPos fV (evPos c1 ?_))), .inr ⟨a, s3⟩⟩
    · rw [c2]
      exact Ev.step (fun k => spec_DewOf.j0.eq_2 _ _ _ _ k) (evNeg (by decide) s1)
    · rw [c2]
      exact Ev.step (fun k => impl_DewOf.j0.eq_2 _ _ _ _ k) (evNeg (by decide) s2)

theorem FnDewPoint : laws_FnDewPoint.Pure := by
  intro l hl _ hb
  refine Ev.rounds ?_
  simp only [laws_FnDewPoint.f, laws_big.f]
  by_cases c : l.length ≤ 1048576
  rotate_left
  · exact Ev.bind (Ev.now _) (evPos (decide_eq_true (by omega)) (Ev.now _))
  have src : Src l := ⟨c, fun x hx => by
    have := hb x hx
    simp [Lit.wf] at this
    exact this⟩
  obtain ⟨t, h, hd⟩ := draw_ok src
  obtain ⟨d, s1, s2, hq⟩ := dew_both t h
  refine Ev.bind (Ev.now _) (evNeg (by rw [decide_eq_true_eq]; omega) (Ev.bind hd (Ev.bind s1 (Ev.bind s2 ?_))))
  show Ev (fun k => (if (fne d d) = true then (some (fne d d)) else (if (flt d t || feq d t) = true then (if (fgt d 13855605728582041600 || feq d 13855605728582041600) = true then ((impl_Vapour.f k d).bind fun t253 => ((impl_Vapour.f k t).bind fun t256 => (if (fgt (fmul t253 4636737291354636288) (fmul h t256) || feq (fmul t253 4636737291354636288) (fmul h t256)) = true then ((impl_Humidity.f k t d).bind fun t259 => ((spec_Known.f t259).bind fun t261 => (some t261))) else (some false)))) else (some false)) else (some false)))) true
  rcases hq with rfl | ⟨a, q⟩
  · have e : fne qnan qnan = true := by decide +kernel
    rw [e]
    exact evPos rfl (Ev.now _)
  have w := a.want
  have tb := warm_bt a.w
  have db : Bt 1054 (-52428800) 52428800 d := ⟨q.fl, q.bo, Int.le_trans q.tp tb.2.2⟩
  have wd := warm_of db
  have hV := V_bt wd
  have hT := V_bt a.w
  have hne : fne d d = false := by rw [fne_self]; exact fin_isn q.fl
  refine evNeg (by rw [hne]; decide) (evPos ?_ (evPos ?_ (Ev.bind (vap_impl d) (Ev.bind (vap_impl t) (evPos ?_ ?_)))))
  · rw [fle_val q.fl tb.1]
    exact decide_eq_true q.tp
  · rw [fge_val q.fl fA, vA]
    exact decide_eq_true q.bo
  · have := q.q
    rw [flt_val (V100 wd).1 w.1, decide_eq_false_iff_not] at this
    rw [fge_val (V100 wd).1 w.1]
    exact decide_eq_true (by omega)
  · have hum : Ev (fun k => impl_Humidity.f k t d) (fdiv (fmul (V d) 4636737291354636288) (V t)) := by
      simp only [impl_Humidity.f, impl_missing.f]
      have n1 : fne (V t) (V t) = false := by rw [fne_self]; exact fin_isn hT.1
      have n2 : fne (V d) (V d) = false := by rw [fne_self]; exact fin_isn hV.1
      have n3 : fgt d t = false := by
        rw [fgt_val q.fl tb.1]
        exact decide_eq_false (by have := q.tp; omega)
      refine Ev.bind (vap_impl t) (Ev.bind (vap_impl d) (Ev.bind (Ev.now _) (evNeg (by rw [n1]; decide) (Ev.bind (Ev.now _) (evNeg (by rw [n2]; decide) (evNeg (by rw [n3]; decide) (Ev.now _)))))))
    refine Ev.bind hum ?_
    rw [known_s]
    rw [quot_fin (V100 wd) hT (by decide) (by decide) (by decide)]
    exact Ev.bind (Ev.now _) (Ev.now _)
end Go.Proofs.Ytaophbkedbphnab.Pure
end

section
/- Plain Lean functions with the same answers as the Go functions of this seat, and a proof for each that the Go code comes to just these answers; no condition. Written by a program of this session (the kit's printer, turned). -/
namespace Go.Proofs.Ytaophbkedbphnab.fnDewPoint
open Go.ChangeShapes Go.WideShapes Go.ChangeAt Go.RowKit
open Go.ChangeMaps (open_string shut_string)
set_option linter.unusedVariables false
theorem own : ownKnob Try.prog.godebug = none := by kernel_rfl
theorem laidOut : laidOutB Try.prog = true := by kernel_rfl
def IsRow (k : IntKind) (w : World) (a : Option Addr) (len cap : Nat) (zs : List Int) : Prop :=
  (a = none ∧ len = 0 ∧ cap = 0 ∧ zs = []) ∨
  ∃ x, a = some x ∧ len ≤ cap ∧ cap ≤ maxLen ∧ zs.length = cap ∧ (∀ i, i < zs.length → w.cell? (x.add i) = some (.int k (zs.getD i 0))) ∧ ∀ n ∈ zs, (Lit.int k n).wf = true
set_option maxRecDepth 100000 in
theorem lifted (os : Os) (started : os.Started) (H : Type) (enc : TypeId × Value → H) :
    ReturnsInHanded {} Try.checked os 5 .any (Rows.fnDewPointSpec.pre6 enc Try.prog Try.f5 Rows.fnDewPointRow.domain false) (Rows.fnDewPointSpec.post enc Try.prog Try.f5 false true false false) := by
  refine returnsInHanded_of_change_sized (C := Try.checked) own started (by kernel_rfl) Try.func5
    (ChangeSpec.witness6 (enc := enc) (C := Try.checked) false ⟨#[], #[.slice none 0 0], []⟩ 8 (by kernel_rfl) (by kernel_rfl) (by kernel_rfl) (by kernel_rfl)) ?_
  intro W base args ds gs before hval0 hW hcnd hsz0 _
  have hsz : (DataW.weightsEach Try.prog (Try.f5.params.toList ++ Rows.fnDewPointSpec.plain.varTypes Try.prog) (ds ++ gs)).all (· ≤ reachBytes) = true := hsz0
  have hval : ∀ (j : Nat) t v, Try.f5.params[j]? = some t → args[j]? = some v → Value.okWide Try.prog W .any base t v := hval0
  have hW' := hW
  obtain ⟨p, q, hA0, hV, rfl, hfz, hnd⟩ := hW
  have hA : DataW.TrodAll enc Try.prog W 0 (fun _ => true) true Try.f5.params.toList args.toList ds p := hA0
  rw [Try.params5] at hA hval hsz
  obtain ⟨v0, vs0, d0, ds0, p0, q0, hargs, rfl, rfl, h0, r0⟩ := trodAll_cons hA
  obtain ⟨rfl, rfl, rfl⟩ := trodAll_nil r0
  obtain rfl : args = #[v0] := by cases args; simp_all
  obtain ⟨rfl, rfl⟩ := trodVars_none hV
  obtain ⟨a0, len0, cap0, rfl⟩ := okWide_slice Try.underlying32 (hval 0 32 v0 rfl rfl)
  have k0 := h0
  have lt0 : ∀ x ∈ p0, x.block < W.heap.size := by obtain ⟨m, hm⟩ := k0; exact DataW.trod_lt m _ _ _ hm
  obtain ⟨z0, w0⟩ : ∃ zs, IsRow .u8 W a0 len0 cap0 zs := by
    obtain ⟨fuel, hf⟩ := h0
    rcases open_ints Try.underlying32 Try.underlying5 (by kernel_rfl) hf with ⟨hcs, _⟩ | ⟨x, l, c, zs, hcs, _, hl, hm, hz, _, hcell, hwz⟩
    · simp [Value.cells] at hcs
      obtain ⟨rfl, rfl, rfl⟩ := hcs
      exact ⟨[], .inl ⟨rfl, rfl, rfl, rfl⟩⟩
    · simp [Value.cells] at hcs
      obtain ⟨rfl, rfl, rfl⟩ := hcs
      exact ⟨zs, .inr ⟨_, rfl, hl, hm, by simpa using hz, hcell, hwz⟩⟩
  have y0 : len0 * 1 ≤ 140737488351232 := Go.Proofs.YtaophbkedbphnabW.PrintWords.sized_ints hsz (j := 0) (t := 32) rfl rfl Try.underlying32 Try.underlying5 (by kernel_rfl) (by kernel_rfl) h0
  clear hA0 hval0 hsz0 hsz
  refine (Q.laws_FnDewPoint.walk Pure.FnDewPoint a0 len0 cap0 z0 W w0 y0).mono fun e W' ⟨he, bel⟩ => ?_
  subst he
  exact ⟨_, rfl, _, _, _, [], _, [], hW', trodAll_mk1 (shut_bool Try.underlying4 _), (trodAll_cons_mk (Below.trod laidOut (by kernel_rfl) (of_decide_eq_true (by kernel_rfl)) k0 bel lt0) trodAll_mk0), rfl, bel.frame _, fun h => by cases h⟩
theorem over : Rows.fnDewPointRow.holds Try.pinned (OpenSpec.ofChange Rows.fnDewPointSpec) :=
  OpenClaim.holds_of_wide 5 Try.f5 rfl rfl rfl rfl rfl rfl rfl ⟨rfl, rfl, rfl, rfl, rfl⟩ rfl rfl rfl rfl rfl (by kernel_rfl) Try.func5 (by kernel_rfl)
    (of_decide_eq_true (by kernel_rfl)) (by unfold Func.isWrapper; first | (rw [if_pos (by decide +kernel)]; kernel_rfl) | (rw [if_neg (by decide +kernel)]; exact ⟨rfl, rfl⟩))
    (fun os started H enc _ => lifted os started H enc)
theorem proved : Rows.FnDewPointSaid := over
#print axioms proved
end Go.Proofs.Ytaophbkedbphnab.fnDewPoint
namespace Go.Proofs.Ytaophbkedbphnab
/-- The row, under a short name, for the claim. -/
theorem fnDewPoint_holds : Rows.FnDewPointSaid := fnDewPoint.proved
end Go.Proofs.Ytaophbkedbphnab
end
