/- Plain facts on floats: sums and products commute; a sign flipped ahead of a product, or ahead of a sum, is the sign flipped behind it, but for noughts. -/
import Derived.Test.YtaophbkedbphnabFltL
set_option linter.unusedVariables false
set_option linter.unusedSimpArgs false
namespace Go.Proofs.Ytaophbkedbphnab.Gen
open Go.RowKit Go.Proofs.YtaophbkedbphnabW.PrintWords Go.Proofs.YtaophbkedbphnabW.PrintFlt
open Ieee (Datum)

theorem sum_comm (a b : Datum) : a.sum b = b.sum a := by
  cases a with
  | nan s f => cases b <;> rfl
  | infinity s =>
    cases b with
    | nan t f => rfl
    | infinity t => cases s <;> cases t <;> rfl
    | number t n j => rfl
  | number s m i =>
    cases b with
    | nan t f => rfl
    | infinity t => rfl
    | number t n j =>
      unfold Datum.sum
      simp only [Int.min_comm i j, Bool.and_comm s t, Int.add_comm (Ieee.signed s m (i - min j i).toNat)]
theorem product_comm (a b : Datum) : a.product b = b.product a := by
  cases a with
  | nan s f => cases b <;> rfl
  | infinity s =>
    cases b with
    | nan t f => rfl
    | infinity t => cases s <;> cases t <;> rfl
    | number t n j => rfl
  | number s m i =>
    cases b with
    | nan t f => rfl
    | infinity t => rfl
    | number t n j =>
      unfold Datum.product
      simp only [Nat.mul_comm m n, Int.add_comm i j, Bool.xor_comm s t]
theorem fadd_comm (x y : Nat) : fadd x y = fadd y x := by unfold fadd Ieee.Format.add; rw [sum_comm]
theorem fmul_comm (x y : Nat) : fmul x y = fmul y x := by unfold fmul Ieee.Format.mul; rw [product_comm]

/-- What the word of a sign and a rung stands for. -/
def dat (s : Bool) (R : Nat) : Datum := if R < 4503599627370496 then .number s R (-1074) else if R < 9218868437227405312 then .number s (4503599627370496 + R % 4503599627370496) (-1074 + (R / 4503599627370496 - 1 : Nat)) else .infinity s
theorem swd : Ieee.double.signWeight = 9223372036854775808 := by decide +kernel
theorem bwd : Ieee.double.binade = 4503599627370496 := by decide +kernel
theorem iwd : Ieee.double.infRung = 9218868437227405312 := by decide +kernel
theorem lwd : Ieee.double.leastPlace = -1074 := by decide +kernel
theorem read_word (s : Bool) (R : Nat) (h : R ≤ 9218868437227405312) : Ieee.double.read (Ieee.double.word s R) = dat s R := by
  have hm : Ieee.double.word s R % 9223372036854775808 = R := by
    unfold Ieee.Format.word
    rw [swd]
    cases s <;> simp <;> omega
  have hs : (Ieee.double.word s R / 9223372036854775808 % 2 == 1) = s := by
    unfold Ieee.Format.word
    rw [swd]
    cases s
    · simp; omega
    · simp; omega
  unfold Ieee.Format.read dat
  simp only [swd, bwd, iwd, lwd, hm, hs]
  split
  · rfl
  · split
    · rfl
    · rw [if_pos (by omega)]
theorem dat_of_read {x : Nat} {s : Bool} {m : Nat} {e : Int} (h : Ieee.double.read x = .number s m e) : ∃ R, R < 9218868437227405312 ∧ ∀ t, dat t R = .number t m e := by
  unfold Ieee.Format.read at h
  simp only [swd, bwd, iwd, lwd] at h
  refine ⟨x % 9223372036854775808, ?_, ?_⟩
  · split at h
    · omega
    · split at h
      · assumption
      · split at h <;> cases h
  · intro t
    unfold dat
    split at h
    · injection h with _ hm he
      rw [if_pos (by assumption), hm, he]
    · split at h
      · injection h with _ hm he
        rw [if_neg (by assumption), if_pos (by assumption), hm, he]
      · split at h <;> cases h

def Opp : Datum → Datum → Prop
  | .number s m e, .number t n j => m = n ∧ e = j ∧ (m = 0 ∨ t = !s)
  | .infinity s, .infinity t => t = !s
  | _, _ => False
def Sam : Datum → Datum → Prop
  | .number s m e, .number t n j => m = n ∧ e = j ∧ (m = 0 ∨ t = s)
  | .infinity s, .infinity t => t = s
  | _, _ => False
theorem opp_dat (s t : Bool) (R : Nat) (h : R = 0 ∨ t = !s) : Opp (dat s R) (dat t R) := by
  unfold dat
  split
  · exact ⟨rfl, rfl, h⟩
  · have h' : t = !s := h.elim (fun h => by omega) id
    split
    · exact ⟨rfl, rfl, .inr h'⟩
    · exact h'
theorem sam_dat (s t : Bool) (R : Nat) (h : R = 0 ∨ t = s) : Sam (dat s R) (dat t R) := by
  unfold dat
  split
  · exact ⟨rfl, rfl, h⟩
  · have h' : t = s := h.elim (fun h => by omega) id
    split
    · exact ⟨rfl, rfl, .inr h'⟩
    · exact h'
theorem nearest_word (m : Nat) (p : Int) : ∃ R, R ≤ 9218868437227405312 ∧ (m = 0 → R = 0) ∧ ∀ s, Ieee.double.nearest s m p = Ieee.double.word s R := by
  unfold Ieee.Format.nearest
  by_cases h : m = 0
  · exact ⟨0, by decide, fun _ => rfl, fun s => by rw [if_pos h]⟩
  · refine ⟨min ((max (p + (m.log2 : Int) - (Ieee.double.fractionBits : Int)) Ieee.double.leastPlace - Ieee.double.leastPlace).toNat * Ieee.double.binade + Ieee.Toward.even.cut false (m <<< (p - max (p + (m.log2 : Int) - (Ieee.double.fractionBits : Int)) Ieee.double.leastPlace).toNat) (max (p + (m.log2 : Int) - (Ieee.double.fractionBits : Int)) Ieee.double.leastPlace - p).toNat) Ieee.double.infRung, ?_, fun h' => absurd h' h, fun s => ?_⟩
    · rw [iwd]; exact Nat.min_le_right ..
    · rw [if_neg h]
      rfl
theorem opp_nearest (s t : Bool) (m : Nat) (p : Int) (h : m = 0 ∨ t = !s) : Opp (Ieee.double.read (Ieee.double.nearest s m p)) (Ieee.double.read (Ieee.double.nearest t m p)) := by
  obtain ⟨R, h1, h2, h3⟩ := nearest_word m p
  rw [h3, h3, read_word _ _ h1, read_word _ _ h1]
  exact opp_dat _ _ _ (h.imp h2 id)
theorem sam_nearest (s t : Bool) (m : Nat) (p : Int) (h : m = 0 ∨ t = s) : Sam (Ieee.double.read (Ieee.double.nearest s m p)) (Ieee.double.read (Ieee.double.nearest t m p)) := by
  obtain ⟨R, h1, h2, h3⟩ := nearest_word m p
  rw [h3, h3, read_word _ _ h1, read_word _ _ h1]
  exact sam_dat _ _ _ (h.imp h2 id)
theorem opp_sam {a b c : Datum} (h1 : Opp a b) (h2 : Opp a c) : Sam b c := by
  cases a <;> cases b <;> cases c <;> simp only [Opp, Sam] at *
  · obtain ⟨rfl, rfl, h1⟩ := h1
    obtain ⟨rfl, rfl, h2⟩ := h2
    refine ⟨rfl, rfl, ?_⟩
    rcases h1 with h | h
    · exact .inl h
    · rcases h2 with h' | h'
      · exact .inl h'
      · exact .inr (h'.trans h.symm)
  · rw [h1, h2]
theorem feq_sam {x y : Nat} (h : Sam (Ieee.double.read x) (Ieee.double.read y)) : feq x y = true := by
  unfold feq Ieee.Format.order
  revert h
  generalize Ieee.double.read x = a
  generalize Ieee.double.read y = b
  intro h
  cases a <;> cases b <;> simp only [Sam] at h
  · obtain ⟨rfl, rfl, h⟩ := h
    rename_i s m e t
    have hs : ∀ u, Ieee.signed s m u = Ieee.signed t m u := by
      intro u
      rcases h with h | h
      · subst h; unfold Ieee.signed; cases s <;> cases t <;> simp
      · rw [h]
    simp only [Datum.order, hs]
    simp
  · rename_i s t
    subst h
    cases t <;> rfl

/-- What a number's word stands for is written as that word, however it is spread. -/
theorem nearest_exact (R : Nat) (hR : R < 9218868437227405312) (t sg : Bool) (m : Nat) (e : Int) (h : dat t R = .number t m e) : Ieee.double.nearest sg (m <<< (e + 1074).toNat) (-1074) = Ieee.double.word sg R := by
  unfold dat at h
  split at h
  · injection h with _ hm he
    subst hm he
    unfold Ieee.Format.nearest
    by_cases h0 : R = 0
    · subst h0; rfl
    · rw [if_neg (by simpa using h0)]
      have hl : R.log2 ≤ 51 := by
        have := (Nat.log2_lt (n := R) (k := 52) h0).2 (by omega)
        omega
      simp only [show ((-1074 : Int) + 1074).toNat = 0 from rfl, Nat.shiftLeft_zero, lwd, bwd, iwd]
      have hf : Ieee.double.fractionBits = 52 := rfl
      rw [hf, show max ((-1074 : Int) + (R.log2 : Int) - ((52 : Nat) : Int)) (-1074) = -1074 by omega]
      have hc : Ieee.Toward.even.cut sg R 0 = R := by
        unfold Ieee.Toward.cut
        have hg : 1 <<< min 0 (R.log2 + 2) = 1 := by rw [Nat.zero_min]; rfl
        simp only [hg, Nat.div_one, Nat.mod_one]
        rfl
      rw [show ((-1074 : Int) - -1074).toNat = 0 from rfl, Nat.shiftLeft_zero, hc, Nat.zero_mul, Nat.zero_add, Nat.min_eq_left (Nat.le_of_lt hR)]
  · rename_i hb
    injection h with _ hm he
    obtain ⟨k, hk⟩ : ∃ k, R / 4503599627370496 - 1 = k := ⟨_, rfl⟩
    rw [hk] at he
    subst he
    have ek : ((-1074 : Int) + (k : Nat) + 1074).toNat = k := by omega
    rw [ek]
    have hm1 : 4503599627370496 ≤ m := by omega
    have hm2 : m < 9007199254740992 := by omega
    have hfin : min (k * 4503599627370496 + m) 9218868437227405312 = R := by omega
    have hp : 0 < 2 ^ k := Nat.two_pow_pos k
    have hn : m <<< k = m * 2 ^ k := Nat.shiftLeft_eq ..
    have hn0 : m <<< k ≠ 0 := by rw [hn]; exact Nat.ne_of_gt (Nat.mul_pos (by omega) hp)
    have hl : (m <<< k).log2 = 52 + k := by
      rw [Nat.log2_eq_iff hn0, hn]
      constructor
      · rw [Nat.pow_add]; exact Nat.mul_le_mul_right _ hm1
      · rw [show 52 + k + 1 = 53 + k by omega, Nat.pow_add]; exact Nat.mul_lt_mul_of_pos_right hm2 hp
    unfold Ieee.Format.nearest
    rw [if_neg hn0]
    have hf : Ieee.double.fractionBits = 52 := rfl
    simp only [hl, lwd, bwd, iwd, hf]
    rw [show max ((-1074 : Int) + ((52 + k : Nat) : Int) - ((52 : Nat) : Int)) (-1074) = -1074 + (k : Int) by omega, show ((-1074 : Int) - (-1074 + (k : Int))).toNat = 0 by omega, show ((-1074 : Int) + (k : Int) - -1074).toNat = k by omega, Nat.shiftLeft_zero]
    have hc : Ieee.Toward.even.cut sg (m <<< k) k = m := by
      unfold Ieee.Toward.cut
      have hg : 1 <<< min k ((m <<< k).log2 + 2) = 2 ^ k := by rw [hl, show min k (52 + k + 2) = k by omega, Nat.shiftLeft_eq, Nat.one_mul]
      simp only [hg]
      rw [hn, Nat.mul_div_cancel _ hp, Nat.mul_mod_left]
      have h1 : (decide (2 ^ k < 2 * 0)) = false := by simp
      have h2 : (2 ^ k == 2 * 0) = false := by simp
      rw [h1, h2]
      rfl
    rw [hc]
    rw [hfin]
theorem opp_neg {y : Nat} {s : Bool} {m : Nat} {e : Int} (h : Ieee.double.read y = .number s m e) : Opp (Ieee.double.read y) (Ieee.double.read (fsub 0 y)) := by
  obtain ⟨R, hR, hd⟩ := dat_of_read h
  have hb := read_bound h
  unfold fsub Ieee.Format.sub ov
  rw [show Ieee.double.read 0 = .number false 0 (-1074) by decide +kernel, h]
  simp only [Datum.opposite, Datum.sum, Option.map_some, Option.getD_some, Ieee.Format.write]
  rw [show min (-1074 : Int) e = -1074 by omega, show e - -1074 = e + 1074 by omega]
  have h0 : Ieee.signed false 0 ((-1074 : Int) - -1074).toNat = 0 := rfl
  rw [h0, Int.zero_add]
  have ha : (Ieee.signed (!s) m (e + 1074).toNat).natAbs = m <<< (e + 1074).toNat := by
    have hc : ∀ (x : Nat), (-(x : Int)).natAbs = x ∧ ((x : Int)).natAbs = x := fun x => ⟨by omega, by omega⟩
    unfold Ieee.signed
    cases s
    · simp only [Bool.not_false, if_true]
      exact (hc _).1
    · simp only [Bool.not_true, Bool.false_eq_true, if_false]
      exact (hc _).2
  rw [ha, nearest_exact R hR s _ m e (hd s), read_word _ _ (by omega), ← hd s]
  refine opp_dat _ _ _ ?_
  by_cases hm : m = 0
  · left
    have := hd s
    unfold dat at this
    split at this
    · injection this with _ h1 _; omega
    · injection this with _ h1 _; omega
  · right
    have hn : 0 < m <<< (e + 1074).toNat := by
      rw [Nat.shiftLeft_eq]
      exact Nat.mul_pos (by omega) (Nat.two_pow_pos _)
    have hc : ∀ (x : Nat), 0 < x → (if (-(x : Int)) = 0 then (false && !s) else decide ((-(x : Int)) < 0)) = true ∧ (if (x : Int) = 0 then (false && !s) else decide ((x : Int) < 0)) = false := by
      intro x hx
      constructor
      · rw [if_neg (by omega)]
        exact decide_eq_true (by omega)
      · rw [if_neg (by omega)]
        exact decide_eq_false (by omega)
    unfold Ieee.signed
    cases s
    · simp only [Bool.not_false, if_true]
      exact (hc _ hn).1
    · simp only [Bool.not_true, Bool.false_eq_true, if_false]
      exact (hc _ hn).2
theorem fin_read {x : Nat} (h : fin x = true) : ∃ s m e, Ieee.double.read x = .number s m e := by
  unfold fin at h
  split at h
  · exact ⟨_, _, _, by assumption⟩
  · cases h
theorem opp_mul {a b b' : Nat} (ha : fin a = true) (hb : fin b = true) (h : Opp (Ieee.double.read b) (Ieee.double.read b')) : Opp (Ieee.double.read (fmul a b)) (Ieee.double.read (fmul a b')) := by
  obtain ⟨s, m, e, ea⟩ := fin_read ha
  obtain ⟨t, n, j, eb⟩ := fin_read hb
  unfold fmul Ieee.Format.mul ov
  rw [eb] at h
  rw [ea, eb]
  revert h
  generalize Ieee.double.read b' = d
  intro h
  cases d with
  | infinity u => exact False.elim h
  | nan u f => exact False.elim h
  | number u n' j' =>
    obtain ⟨rfl, rfl, h⟩ := h
    simp only [Datum.product, Option.map_some, Option.getD_some, Ieee.Format.write]
    refine opp_nearest _ _ _ _ ?_
    rcases h with h | h
    · left; rw [h, Nat.mul_zero]
    · right; rw [h]; cases s <;> cases t <;> rfl
theorem sam_mul {a b a' b' : Nat} (ha : fin a = true) (hb : fin b = true) (h : Opp (Ieee.double.read b) (Ieee.double.read b')) (h' : Opp (Ieee.double.read a) (Ieee.double.read a')) : Sam (Ieee.double.read (fmul a b)) (Ieee.double.read (fmul a' b')) := by
  obtain ⟨s, m, e, ea⟩ := fin_read ha
  obtain ⟨t, n, j, eb⟩ := fin_read hb
  unfold fmul Ieee.Format.mul ov
  rw [eb] at h
  rw [ea] at h'
  rw [ea, eb]
  revert h h'
  generalize Ieee.double.read b' = d
  generalize Ieee.double.read a' = d'
  intro h' h
  cases d with
  | infinity u => exact False.elim h
  | nan u f => exact False.elim h
  | number u n' j' =>
    cases d' with
    | infinity u => exact False.elim h'
    | nan u f => exact False.elim h'
    | number u' m' e' =>
      obtain ⟨rfl, rfl, h⟩ := h
      obtain ⟨rfl, rfl, h'⟩ := h'
      simp only [Datum.product, Option.map_some, Option.getD_some, Ieee.Format.write]
      refine sam_nearest _ _ _ _ ?_
      rcases h with h | h
      · left; rw [h, Nat.mul_zero]
      · rcases h' with h' | h'
        · left; rw [h', Nat.zero_mul]
        · right; rw [h, h']; cases s <;> cases t <;> rfl
theorem signed_opp {s t : Bool} {m u : Nat} (h : m = 0 ∨ t = !s) : Ieee.signed t m u = - Ieee.signed s m u := by
  unfold Ieee.signed
  rcases h with h | h
  · subst h; cases s <;> cases t <;> simp
  · subst h; cases s <;> simp
theorem signed_sam {s t : Bool} {m u : Nat} (h : m = 0 ∨ t = s) : Ieee.signed t m u = Ieee.signed s m u := by
  rcases h with h | h
  · unfold Ieee.signed; subst h; cases s <;> cases t <;> simp
  · rw [h]
theorem opp_add {a b a' b' : Nat} (ha : fin a = true) (hb : fin b = true) (h' : Opp (Ieee.double.read a) (Ieee.double.read a')) (h : Opp (Ieee.double.read b) (Ieee.double.read b')) : Opp (Ieee.double.read (fadd a b)) (Ieee.double.read (fadd a' b')) := by
  obtain ⟨s, m, e, ea⟩ := fin_read ha
  obtain ⟨t, n, j, eb⟩ := fin_read hb
  unfold fadd Ieee.Format.add ov
  rw [eb] at h
  rw [ea] at h'
  rw [ea, eb]
  revert h h'
  generalize Ieee.double.read b' = d
  generalize Ieee.double.read a' = d'
  intro h' h
  cases d with
  | infinity u => exact False.elim h
  | nan u f => exact False.elim h
  | number u n' j' =>
    cases d' with
    | infinity u => exact False.elim h'
    | nan u f => exact False.elim h'
    | number u' m' e' =>
      obtain ⟨rfl, rfl, h⟩ := h
      obtain ⟨rfl, rfl, h'⟩ := h'
      simp only [Datum.sum, Option.map_some, Option.getD_some, Ieee.Format.write, signed_opp h, signed_opp h']
      generalize Ieee.signed s m (e - min e j).toNat = X
      generalize Ieee.signed t n (j - min e j).toNat = Y
      rw [show (-X + -Y).natAbs = (X + Y).natAbs by omega]
      refine opp_nearest _ _ _ _ ?_
      by_cases hz : X + Y = 0
      · left; omega
      · right
        rw [if_neg hz, if_neg (by omega)]
        by_cases hl : X + Y < 0
        · simp [hl]; omega
        · simp [hl]; omega
theorem sam_sub {a b b' : Nat} (ha : fin a = true) (hb : fin b = true) (h : Sam (Ieee.double.read b) (Ieee.double.read b')) : Sam (Ieee.double.read (fsub a b)) (Ieee.double.read (fsub a b')) := by
  obtain ⟨s, m, e, ea⟩ := fin_read ha
  obtain ⟨t, n, j, eb⟩ := fin_read hb
  unfold fsub Ieee.Format.sub ov
  rw [eb] at h
  rw [ea, eb]
  revert h
  generalize Ieee.double.read b' = d
  intro h
  cases d with
  | infinity u => exact False.elim h
  | nan u f => exact False.elim h
  | number u n' j' =>
    obtain ⟨rfl, rfl, h⟩ := h
    have h2 : n = 0 ∨ (!u) = (!t) := h.imp id (fun h => by rw [h])
    simp only [Datum.opposite, Datum.sum, Option.map_some, Option.getD_some, Ieee.Format.write, signed_sam h2]
    refine sam_nearest _ _ _ _ ?_
    by_cases hz : Ieee.signed s m (e - min e j).toNat + Ieee.signed (!t) n (j - min e j).toNat = 0
    · left; omega
    · right; rw [if_neg hz, if_neg hz]
theorem fin_inf (s : Bool) : fin (Ieee.double.word s Ieee.double.infRung) = false := by cases s <;> decide +kernel
theorem fin_qnan : fin qnan = false := by decide +kernel
theorem fin_sum {a b : Datum} (h : fin (ov ((a.sum b).map Ieee.double.write)) = true) : (∃ s m e, a = .number s m e) ∧ (∃ s m e, b = .number s m e) := by
  have hq : ∀ {x}, fin x = true → fin x = false → False := fun h1 h2 => by rw [h1] at h2; cases h2
  cases a with
  | nan s f => cases b <;> exact (hq h fin_qnan).elim
  | infinity s =>
    cases b with
    | nan t f => exact (hq h fin_qnan).elim
    | infinity t =>
      simp only [Datum.sum] at h
      split at h
      · exact (hq h (fin_inf _)).elim
      · exact (hq h fin_qnan).elim
    | number t n j => exact (hq h (fin_inf _)).elim
  | number s m i =>
    cases b with
    | nan t f => exact (hq h fin_qnan).elim
    | infinity t => exact (hq h (fin_inf _)).elim
    | number t n j => exact ⟨⟨_, _, _, rfl⟩, ⟨_, _, _, rfl⟩⟩
theorem fin_of {x : Nat} {s : Bool} {m : Nat} {e : Int} (h : Ieee.double.read x = .number s m e) : fin x = true := by unfold fin; rw [h]
theorem fin_add {x y : Nat} (h : fin (fadd x y) = true) : fin x = true ∧ fin y = true := by
  obtain ⟨⟨_, _, _, h1⟩, ⟨_, _, _, h2⟩⟩ := fin_sum h
  exact ⟨fin_of h1, fin_of h2⟩
theorem fin_sub {x y : Nat} (h : fin (fsub x y) = true) : fin x = true ∧ fin y = true := by
  obtain ⟨⟨_, _, _, h1⟩, ⟨s, m, e, h2⟩⟩ := fin_sum h
  refine ⟨fin_of h1, ?_⟩
  unfold fin
  revert h2
  cases Ieee.double.read y <;> intro h2
  · rfl
  · cases h2
  · cases h2
theorem opp_fin {y : Nat} (h : fin y = true) : Opp (Ieee.double.read y) (Ieee.double.read (fsub 0 y)) := by
  obtain ⟨_, _, _, e⟩ := fin_read h
  exact opp_neg e
/-- The product of the mirrored is the mirrored product. -/
theorem conj_re {ar ai br bi : Nat} (h1 : fin ai = true) (h2 : fin bi = true) (hp : fin (fsub (fmul ar br) (fmul ai bi)) = true) : feq (fsub (fmul ar br) (fmul ai bi)) (fsub (fmul ar br) (fmul (fsub 0 ai) (fsub 0 bi))) = true := by
  obtain ⟨hu, hv⟩ := fin_sub hp
  exact feq_sam (sam_sub hu hv (sam_mul h1 h2 (opp_fin h2) (opp_fin h1)))
theorem conj_im {ar ai br bi : Nat} (h0 : fin ar = true) (h1 : fin ai = true) (h2 : fin bi = true) (h3 : fin br = true) (hp : fin (fadd (fmul ar bi) (fmul ai br)) = true) : feq (fsub 0 (fadd (fmul ar bi) (fmul ai br))) (fadd (fmul ar (fsub 0 bi)) (fmul (fsub 0 ai) br)) = true := by
  obtain ⟨hu, hv⟩ := fin_add hp
  refine feq_sam (opp_sam (opp_fin hp) (opp_add hu hv (opp_mul h0 h2 (opp_fin h2)) ?_))
  rw [fmul_comm ai br, fmul_comm (fsub 0 ai) br]
  exact opp_mul h3 h1 (opp_fin h1)
end Go.Proofs.Ytaophbkedbphnab.Gen
