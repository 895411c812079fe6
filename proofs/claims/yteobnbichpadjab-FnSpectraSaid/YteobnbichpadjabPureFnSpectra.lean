/- The plain statement of the law FnSpectra: a row comes back from its spectrum, its spectrum from the row, and what is mixed of two rows has the product of theirs; no condition. -/
import Derived.Test.YteobnbichpadjabSpec
import Derived.Test.YteobnbichpadjabDraw
import Derived.Test.YteobnbichpadjabQx1
import Derived.Test.YteobnbichpadjabQx14
import Derived.Test.YteobnbichpadjabQx15
import Derived.Test.YteobnbichpadjabQx16
import Derived.Test.YteobnbichpadjabQx18
import Derived.Test.YteobnbichpadjabQx20
import Derived.Test.YteobnbichpadjabQx21
import Derived.Test.YteobnbichpadjabQx23
import Derived.Test.YteobnbichpadjabQx24
set_option linter.unusedVariables false
set_option linter.unusedSimpArgs false
namespace Go.Proofs.Yteobnbichpadjab.Pure
open Go.RowKit Go.Proofs.Yteobnbichpadjab.Q Go.Proofs.Yteobnbichpadjab.Gen Go.Proofs.Yteobnbichpadjab.Draw Go.Proofs.YteobnbichpadjabW.PrintWords Go.Proofs.YteobnbichpadjabW.PrintMore

/-! sums modulo 65537 -/
def M (x y : Nat) : Prop := x % 65537 = y % 65537
theorem M.refl (x : Nat) : M x x := rfl
theorem M.symm {x y : Nat} (h : M x y) : M y x := Eq.symm h
theorem M.trans {x y z : Nat} (h : M x y) (k : M y z) : M x z := Eq.trans h k
theorem M.add {a b c d : Nat} (h : M a b) (k : M c d) : M (a + c) (b + d) := by unfold M at *; rw [Nat.add_mod, h, k, ← Nat.add_mod]
theorem M.mul {a b c d : Nat} (h : M a b) (k : M c d) : M (a * c) (b * d) := by unfold M at *; rw [Nat.mul_mod, h, k, ← Nat.mul_mod]
theorem M.md (x : Nat) : M (x % 65537) x := Nat.mod_mod _ _

def sm (f : Nat → Nat) : Nat → Nat
  | 0 => 0
  | n + 1 => sm f n + f n
theorem sm_congr {f g : Nat → Nat} {n : Nat} (h : ∀ i, i < n → M (f i) (g i)) : M (sm f n) (sm g n) := by
  induction n with
  | zero => exact M.refl _
  | succ n ih => exact (ih fun i hi => h i (by omega)).add (h n (by omega))
theorem sm_eq {f g : Nat → Nat} {n : Nat} (h : ∀ i, i < n → f i = g i) : sm f n = sm g n := by
  induction n with
  | zero => rfl
  | succ n ih => simp only [sm, ih fun i hi => h i (by omega), h n (by omega)]
theorem sm_add (f g : Nat → Nat) (n : Nat) : sm (fun i => f i + g i) n = sm f n + sm g n := by
  induction n with
  | zero => rfl
  | succ n ih => simp only [sm, ih]; omega
theorem sm_mul (c : Nat) (f : Nat → Nat) (n : Nat) : sm (fun i => c * f i) n = c * sm f n := by
  induction n with
  | zero => rfl
  | succ n ih => simp only [sm, ih, Nat.mul_add]
theorem sm_zero (n : Nat) : sm (fun _ => 0) n = 0 := by
  induction n with
  | zero => rfl
  | succ n ih => simp only [sm, ih]
theorem sm_swap (f : Nat → Nat → Nat) (n m : Nat) : sm (fun k => sm (fun i => f k i) n) m = sm (fun i => sm (fun k => f k i) m) n := by
  induction m with
  | zero => simp only [sm, sm_zero]
  | succ m ih => simp only [sm, ih, sm_add]
theorem sm_app (f : Nat → Nat) (a b : Nat) : sm f (a + b) = sm f a + sm (fun i => f (a + i)) b := by
  induction b with
  | zero => rfl
  | succ b ih => rw [← Nat.add_assoc]; simp only [sm, ih]; omega
theorem sm_rot (f : Nat → Nat) (n s : Nat) (hs : s < n) : sm (fun i => f ((i + s) % n)) n = sm f n := by
  have h1 : sm (fun i => f ((i + s) % n)) n = sm (fun i => f ((i + s) % n)) ((n - s) + s) := by rw [Nat.sub_add_cancel (by omega)]
  have h2 : sm f n = sm f (s + (n - s)) := by rw [Nat.add_comm, Nat.sub_add_cancel (by omega)]
  rw [h1, h2, sm_app, sm_app, Nat.add_comm]
  congr 1
  · refine sm_eq fun i hi => ?_
    rw [show (n - s + i + s) = n + i by omega, Nat.add_mod_left, Nat.mod_eq_of_lt (by omega)]
  · refine sm_eq fun i hi => ?_
    rw [Nat.mod_eq_of_lt (by omega), Nat.add_comm]
/-- One place only. -/
theorem sm_one (c : Nat → Nat) (n j : Nat) (hj : j < n) (f : Nat → Nat) (h0 : ∀ i, i < n → i ≠ j → M (f i) 0) (h1 : M (f j) (c j)) : M (sm f n) (c j) := by
  have key : ∀ m, m ≤ n → M (sm f m) (if j < m then c j else 0) := by
    intro m
    induction m with
    | zero => intro _; exact M.refl _
    | succ m ih =>
      intro hm
      by_cases e : m = j
      · subst e
        rw [if_pos (by omega)]
        have := (ih (by omega)).add h1
        rw [if_neg (by omega), Nat.zero_add] at this
        exact this
      · have := (ih (by omega)).add (h0 m (by omega) e)
        rw [Nat.add_zero] at this
        refine this.trans ?_
        by_cases q : j < m
        · rw [if_pos q, if_pos (by omega)]; exact M.refl _
        · rw [if_neg q, if_neg (by omega)]; exact M.refl _
  have := key n (Nat.le_refl _)
  rwa [if_pos hj] at this

/-! roots of unity -/
def P2 (n : Nat) : Prop := n = 1 ∨ n = 2 ∨ n = 4 ∨ n = 8 ∨ n = 16 ∨ n = 32 ∨ n = 64
def rt (n : Nat) : Nat := 3 ^ (65536 / n) % 65537
def powP (t e : Nat) : Nat := t ^ e % 65537
theorem powP_lt (t e : Nat) : powP t e < 65537 := Nat.mod_lt _ (by decide)
theorem powP_mod (t e : Nat) (h : t < 65537) (he : e < 4611686018427387904) : Ev (fun k => impl_powMod.f k (t : Int) (e : Int)) ((powP t e : Nat) : Int) := powMod_ev t e h he
def invT (t : Nat) : Nat := powP t 65535
theorem invT_lt (t : Nat) : invT t < 65537 := powP_lt _ _
theorem invT_ev (t : Nat) (h : t < 65537) : Ev (fun k => impl_powMod.f k (t : Int) 65535) ((invT t : Nat) : Int) := powP_mod t 65535 h (by decide)
theorem rt_lt (n : Nat) : rt n < 65537 := Nat.mod_lt _ (by decide)
theorem inv_rt (n : Nat) (h : P2 n) : powP (rt n) (n - 1) = invT (rt n) := by
  rcases h with rfl | rfl | rfl | rfl | rfl | rfl | rfl <;> decide +kernel
theorem rt_one (n : Nat) (h : P2 n) : powP (rt n) n = 1 := by
  rcases h with rfl | rfl | rfl | rfl | rfl | rfl | rfl <;> decide +kernel
theorem inv_len (n : Nat) (h : P2 n) : (n * invT n) % 65537 = 1 := by
  rcases h with rfl | rfl | rfl | rfl | rfl | rfl | rfl <;> decide +kernel
def chk (n : Nat) : Bool := (List.range n).all fun e => (sm (fun k => powP (rt n) (k * e % n)) n) % 65537 == (if e = 0 then n else 0)
theorem chk_all (n : Nat) (h : P2 n) : chk n = true := by
  rcases h with rfl | rfl | rfl | rfl | rfl | rfl | rfl <;> decide +kernel

theorem P2.le {n : Nat} (h : P2 n) : 1 ≤ n ∧ n ≤ 64 := by unfold P2 at h; omega

/-- The power of the root, at any place. -/
def E (n x : Nat) : Nat := powP (rt n) (x % n)
theorem powP_M (t e : Nat) : M (powP t e) (t ^ e) := M.md _
theorem pow_per (n : Nat) (h : P2 n) (x : Nat) : M (rt n ^ x) (E n x) := by
  have h1 : M (rt n ^ n) 1 := by have := rt_one n h; unfold powP at this; unfold M; rw [this]
  have h2 : ∀ q, M (rt n ^ (n * q)) 1 := by
    intro q
    induction q with
    | zero => exact M.refl _
    | succ q ih =>
      rw [Nat.mul_succ, Nat.pow_add]
      exact ih.mul h1
  have h3 : rt n ^ x = rt n ^ (n * (x / n)) * rt n ^ (x % n) := by rw [← Nat.pow_add, Nat.div_add_mod]
  rw [h3]
  have := (h2 (x / n)).mul (M.refl (rt n ^ (x % n)))
  rw [Nat.one_mul] at this
  exact this.trans (powP_M _ _).symm
theorem E_add (n : Nat) (h : P2 n) (x y : Nat) : M (E n x * E n y) (E n (x + y)) := by
  have := (pow_per n h x).mul (pow_per n h y)
  rw [← Nat.pow_add] at this
  exact this.symm.trans (pow_per n h (x + y))
theorem E_mod (n x : Nat) : E n (x % n) = E n x := by unfold E; rw [Nat.mod_mod]
theorem E_sum (n : Nat) (h : P2 n) (e : Nat) : M (sm (fun k => E n (k * e)) n) (if e % n = 0 then n else 0) := by
  have hc := chk_all n h
  unfold chk at hc
  rw [List.all_eq_true] at hc
  have := hc (e % n) (List.mem_range.mpr (Nat.mod_lt _ (by have := h.le; omega)))
  rw [beq_iff_eq] at this
  have e1 : sm (fun k => E n (k * e)) n = sm (fun k => powP (rt n) (k * (e % n) % n)) n := sm_eq fun k _ => by unfold E; rw [Nat.mul_mod_mod]
  unfold M
  rw [e1, this]
  split
  · have := h.le; rw [Nat.mod_eq_of_lt (by omega)]
  · rfl

/-! spectra of rows of residues -/
structure Row (a : List Int) : Prop where
  n : P2 a.length
  r : allIn a 0 65536 = true
def at_ (a : List Int) (i : Nat) : Nat := (a.getD i 0).toNat
theorem Row.at_ {a : List Int} (h : Row a) (i : Nat) (hi : i < a.length) : a.getD i 0 = ((Pure.at_ a i : Nat) : Int) ∧ Pure.at_ a i < 65537 := by
  have := allIn_get h.r i hi
  unfold Pure.at_
  omega
theorem row_of {a : List Int} (h : rowOk a = true) : Row a := ⟨(rowOk_form h).1, (rowOk_form h).2⟩

def S (a : List Int) (t k i : Nat) : Nat := sm (fun i => at_ a i * powP t (i * k % a.length)) i
theorem partS_eq {a : List Int} (h : Row a) (t k : Nat) : ∀ i, i ≤ a.length → partS a t a.length k i = ((S a t k i % 65537 : Nat) : Int) := by
  intro i
  induction i with
  | zero => intro _; rfl
  | succ i ih =>
    intro hi
    obtain ⟨e, hlt⟩ := h.at_ i (by omega)
    have hp := powP_lt t (i * k % a.length)
    have hm : at_ a i * powP t (i * k % a.length) ≤ 65536 * 65536 := Nat.mul_le_mul (by omega) (by omega)
    have hs : S a t k i % 65537 < 65537 := Nat.mod_lt _ (by decide)
    have em : (at_ a i : Int) * ((t ^ (i * k % a.length) % 65537 : Nat) : Int) = ((at_ a i * powP t (i * k % a.length) : Nat) : Int) := by rw [Int.natCast_mul]; rfl
    rw [partS, ih (by omega), e, em, w64 (x := ((at_ a i * powP t (i * k % a.length) : Nat) : Int)) (by omega) (by omega), w64 (by omega) (by omega), ← Int.natCast_add]
    rw [Int.tmod_eq_emod_of_nonneg (by omega)]
    have : ((S a t k i % 65537 + at_ a i * powP t (i * k % a.length)) % 65537 : Nat) = S a t k (i + 1) % 65537 := by
      show _ = (S a t k i + at_ a i * powP t (i * k % a.length)) % 65537
      rw [Nat.mod_add_mod]
    rw [← this]
    omega
def Sp (a : List Int) (t k : Nat) : Nat := S a t k a.length % 65537
theorem sums_get {a : List Int} (h : Row a) (t k : Nat) (hk : k < a.length) : (sums a t).getD k 0 = ((Sp a t k : Nat) : Int) := by
  unfold sums
  rw [tab_get _ _ _ hk, partS_eq h t k _ (Nat.le_refl _)]
  rfl
theorem row_sums {a : List Int} (h : Row a) (t : Nat) : Row (sums a t) := by
  refine ⟨by rw [sums_length]; exact h.n, ?_⟩
  unfold allIn
  rw [List.all_eq_true]
  intro x hx
  obtain ⟨k, hk, rfl⟩ := List.mem_iff_getElem.mp hx
  rw [sums_length] at hk
  have e := sums_get h t k hk
  rw [List.getD_eq_getElem?_getD, List.getElem?_eq_getElem (by rw [sums_length]; exact hk)] at e
  have e : (sums a t)[k]'(by rw [sums_length]; exact hk) = ((Sp a t k : Nat) : Int) := e
  rw [e]
  have : Sp a t k < 65537 := Nat.mod_lt _ (by decide)
  simp
  omega
theorem at_sums {a : List Int} (h : Row a) (t k : Nat) (hk : k < a.length) : at_ (sums a t) k = Sp a t k := by
  unfold at_
  rw [sums_get h t k hk]
  omega

def scaled (xs : List Int) (b : Int) : List Int := xs.map fun x => Int.tmod (wrap64 (x * b)) 65537
theorem scaled_length (xs : List Int) (b : Int) : (scaled xs b).length = xs.length := by simp [scaled]
theorem scaled_get (xs : List Int) (b : Int) (i : Nat) (hi : i < xs.length) : (scaled xs b).getD i 0 = Int.tmod (wrap64 (xs.getD i 0 * b)) 65537 := by
  simp [scaled, List.getD_eq_getElem?_getD, hi]
theorem scaled_at {a : List Int} (h : Row a) (b : Nat) (hb : b < 65537) (i : Nat) (hi : i < a.length) : (scaled a b).getD i 0 = ((at_ a i * b % 65537 : Nat) : Int) := by
  obtain ⟨e, hlt⟩ := h.at_ i hi
  rw [scaled_get _ _ _ hi, e, mulmod hlt hb]
theorem row_scaled {a : List Int} (h : Row a) (b : Nat) (hb : b < 65537) : Row (scaled a b) := by
  refine ⟨by rw [scaled_length]; exact h.n, ?_⟩
  unfold allIn
  rw [List.all_eq_true]
  intro x hx
  obtain ⟨k, hk, rfl⟩ := List.mem_iff_getElem.mp hx
  rw [scaled_length] at hk
  have e := scaled_at h b hb k hk
  rw [List.getD_eq_getElem?_getD, List.getElem?_eq_getElem (by rw [scaled_length]; exact hk)] at e
  have e : (scaled a b)[k]'(by rw [scaled_length]; exact hk) = ((at_ a k * b % 65537 : Nat) : Int) := e
  rw [e]
  have : at_ a k * b % 65537 < 65537 := Nat.mod_lt _ (by decide)
  simp
  omega
theorem at_scaled {a : List Int} (h : Row a) (b : Nat) (hb : b < 65537) (i : Nat) (hi : i < a.length) : at_ (scaled a b) i = at_ a i * b % 65537 := by
  have e := scaled_at h b hb i hi
  show ((scaled a b).getD i 0).toNat = _
  rw [e]
  omega

/-- The two ways of turning: forth (1) and back (n - 1). -/
def tn (n c : Nat) : Nat := powP (rt n) c
theorem tn_lt (n c : Nat) : tn n c < 65537 := powP_lt _ _
theorem tn_pow (n : Nat) (h : P2 n) (c x : Nat) : M (powP (tn n c) (x % n)) (E n (c * x)) := by
  have h1 : M (tn n c ^ (x % n)) ((rt n ^ c) ^ (x % n)) := by
    generalize x % n = y
    induction y with
    | zero => exact M.refl _
    | succ y ih => rw [Nat.pow_succ, Nat.pow_succ]; exact ih.mul (powP_M _ _)
  refine (powP_M _ _).trans (h1.trans ?_)
  rw [← Nat.pow_mul]
  refine (pow_per n h _).trans ?_
  unfold M E
  rw [Nat.mul_mod_mod]
theorem Sp_M {a : List Int} (h : Row a) (c k : Nat) : M (Sp a (tn a.length c) k) (sm (fun i => at_ a i * E a.length (c * (i * k))) a.length) :=
  (M.md _).trans (sm_congr fun i _ => (M.refl _).mul (tn_pow _ h.n c (i * k)))

theorem there_back {a : List Int} (h : Row a) (c d : Nat) (hcd : ∀ i j, i < a.length → j < a.length → ((c * i + d * j) % a.length = 0 ↔ i = j)) (j : Nat) (hj : j < a.length) :
    M (Sp (sums a (tn a.length c)) (tn a.length d) j) (a.length * at_ a j) := by
  have hs := row_sums h (tn a.length c)
  have l : (sums a (tn a.length c)).length = a.length := sums_length _ _
  have e1 := Sp_M hs d j
  rw [l] at e1
  refine e1.trans ?_
  have e2 : M (sm (fun k => at_ (sums a (tn a.length c)) k * E a.length (d * (k * j))) a.length)
      (sm (fun k => sm (fun i => at_ a i * E a.length (k * (c * i + d * j))) a.length) a.length) := by
    refine sm_congr fun k hk => ?_
    rw [at_sums h _ k hk]
    refine ((Sp_M h c k).mul (M.refl _)).trans ?_
    rw [Nat.mul_comm, ← sm_mul]
    refine sm_congr fun i hi => ?_
    rw [Nat.mul_comm, Nat.mul_assoc]
    refine (M.refl (at_ a i)).mul ?_
    refine (E_add _ h.n _ _).trans ?_
    rw [show c * (i * k) + d * (k * j) = k * (c * i + d * j) by rw [Nat.mul_add, ← Nat.mul_assoc, ← Nat.mul_assoc, ← Nat.mul_assoc, ← Nat.mul_assoc, Nat.mul_comm (c * i) k, Nat.mul_comm d k, Nat.mul_assoc k c i, ← Nat.mul_assoc k c i]]
    exact M.refl _
  refine e2.trans ?_
  rw [sm_swap]
  refine sm_one (fun j => a.length * at_ a j) a.length j hj _ (fun i hi hij => ?_) ?_
  · rw [sm_mul]
    have := (M.refl (at_ a i)).mul (E_sum a.length h.n (c * i + d * j))
    rw [if_neg (fun e => hij ((hcd i j hi hj).mp e)), Nat.mul_zero] at this
    exact this
  · rw [sm_mul]
    have := (M.refl (at_ a j)).mul (E_sum a.length h.n (c * j + d * j))
    rw [if_pos ((hcd j j hj hj).mpr rfl)] at this
    exact this.trans (by rw [Nat.mul_comm]; exact M.refl _)

theorem turn_back {n : Nat} (h : 1 ≤ n) (i j : Nat) (hi : i < n) (hj : j < n) : ((1 * i + (n - 1) * j) % n = 0 ↔ i = j) ∧ (((n - 1) * i + 1 * j) % n = 0 ↔ i = j) := by
  have key : ∀ i j, i < n → j < n → ((i + (n - 1) * j) % n = 0 ↔ i = j) := by
    intro i j hi hj
    have e : i + (n - 1) * j + j = i + n * j := by
      have : (n - 1) * j + j = n * j := by rw [← Nat.succ_mul]; congr 1; omega
      omega
    constructor
    · intro h0
      have d : n ∣ i + (n - 1) * j := Nat.dvd_of_mod_eq_zero h0
      have m1 : (i + (n - 1) * j + j) % n = j % n := by rw [Nat.add_mod, h0, Nat.zero_add, Nat.mod_mod]
      rw [e, Nat.add_mul_mod_self_left, Nat.mod_eq_of_lt hi, Nat.mod_eq_of_lt hj] at m1
      exact m1
    · rintro rfl
      have : i + (n - 1) * i = n * i := by
        have : (n - 1) * i + i = n * i := by rw [← Nat.succ_mul]; congr 1; omega
        omega
      rw [this, Nat.mul_mod_right]
  constructor
  · rw [Nat.one_mul]; exact key i j hi hj
  · rw [Nat.one_mul, Nat.add_comm]
    exact (key j i hj hi).trans eq_comm

theorem list_eq {a b : List Int} (hl : a.length = b.length) (h : ∀ i, i < a.length → a.getD i 0 = b.getD i 0) : a = b := by
  apply List.ext_getElem hl
  intro i h1 h2
  have := h i h1
  rwa [List.getD_eq_getElem?_getD, List.getD_eq_getElem?_getD, List.getElem?_eq_getElem h1, List.getElem?_eq_getElem h2] at this

def fwd (a : List Int) : List Int := sums a (rt a.length)
def bck (a : List Int) : List Int := scaled (sums a (invT (rt a.length))) ((invT a.length : Nat) : Int)
theorem fwd_length (a : List Int) : (fwd a).length = a.length := sums_length _ _
theorem bck_length (a : List Int) : (bck a).length = a.length := by unfold bck; rw [scaled_length, sums_length]
theorem tn_one (n : Nat) : tn n 1 = rt n := by unfold tn powP; rw [Nat.pow_one]; exact Nat.mod_eq_of_lt (rt_lt n)
theorem tn_inv (n : Nat) (h : P2 n) : tn n (n - 1) = invT (rt n) := inv_rt n h

theorem bck_fwd {a : List Int} (h : Row a) : bck (fwd a) = a := by
  have hs := row_sums h (rt a.length)
  have l := fwd_length a
  have hle := h.n.le
  refine list_eq (by rw [bck_length, l]) fun j hj => ?_
  rw [bck_length, l] at hj
  unfold bck
  rw [l]
  have hs2 := row_sums hs (invT (rt a.length))
  have e := scaled_at hs2 (invT a.length) (invT_lt _) j (by rw [sums_length, sums_length]; exact hj)
  show (scaled (sums (sums a (rt a.length)) (invT (rt a.length))) _).getD j 0 = _
  rw [e, (h.at_ j hj).1, at_sums hs _ j (by rw [sums_length]; exact hj)]
  have tb := there_back h 1 (a.length - 1) (fun i j hi hj => (turn_back (by omega) i j hi hj).1) j hj
  rw [tn_one, tn_inv _ h.n] at tb
  have m := tb.mul (M.refl (invT a.length))
  have m2 : M (a.length * at_ a j * invT a.length) (at_ a j) := by
    have : M (a.length * invT a.length) 1 := by unfold M; rw [inv_len _ h.n]
    have := this.mul (M.refl (at_ a j))
    rw [Nat.one_mul, Nat.mul_right_comm] at this
    exact this
  have m3 := m.trans m2
  unfold M at m3
  rw [m3, Nat.mod_eq_of_lt (h.at_ j hj).2]

theorem fwd_bck {a : List Int} (h : Row a) : fwd (bck a) = a := by
  have hs := row_sums h (invT (rt a.length))
  have hk := row_scaled hs (invT a.length) (invT_lt _)
  have l := bck_length a
  have hle := h.n.le
  have hb : Row (bck a) := hk
  refine list_eq (by rw [fwd_length, l]) fun j hj => ?_
  rw [fwd_length, l] at hj
  unfold fwd
  rw [l, sums_get hb _ j (by rw [l]; exact hj), (h.at_ j hj).1]
  have e1 := Sp_M hb 1 j
  rw [l, tn_one] at e1
  have e2 : M (sm (fun i => at_ (bck a) i * E a.length (1 * (i * j))) a.length) (invT a.length * sm (fun i => at_ (sums a (invT (rt a.length))) i * E a.length (1 * (i * j))) a.length) := by
    rw [← sm_mul]
    refine sm_congr fun i hi => ?_
    have : at_ (bck a) i = _ := at_scaled hs (invT a.length) (invT_lt _) i (by rw [sums_length]; exact hi)
    rw [this]
    refine ((M.md _).mul (M.refl _)).trans ?_
    rw [Nat.mul_right_comm, Nat.mul_comm (invT a.length)]
    exact M.refl _
  have e3 := Sp_M hs 1 j
  rw [sums_length, tn_one] at e3
  have tb := there_back h (a.length - 1) 1 (fun i j hi hj => (turn_back (by omega) i j hi hj).2) j hj
  rw [tn_one, tn_inv _ h.n] at tb
  have m := (e1.trans (e2.trans ((M.refl (invT a.length)).mul (e3.symm.trans tb))))
  have m2 : M (invT a.length * (a.length * at_ a j)) (at_ a j) := by
    have : M (a.length * invT a.length) 1 := by unfold M; rw [inv_len _ h.n]
    have := this.mul (M.refl (at_ a j))
    rw [Nat.one_mul, Nat.mul_comm a.length, Nat.mul_assoc] at this
    exact this
  have m3 := m.trans m2
  unfold M at m3
  have hlt : Sp (bck a) (rt a.length) j < 65537 := Nat.mod_lt _ (by decide)
  rw [Nat.mod_eq_of_lt hlt, Nat.mod_eq_of_lt (h.at_ j hj).2] at m3
  rw [m3]

/-! what is mixed of two rows -/
def cv (a b : List Int) (i q : Nat) : Nat := sm (fun q => at_ a q * at_ b ((i + a.length - q) % a.length)) q
def mixd (a b : List Int) : List Int := tab a.length fun i => ((cv a b i a.length % 65537 : Nat) : Int)
theorem mixd_length (a b : List Int) : (mixd a b).length = a.length := by simp [mixd, tab_length]
theorem mixd_get (a b : List Int) (i : Nat) (hi : i < a.length) : (mixd a b).getD i 0 = ((cv a b i a.length % 65537 : Nat) : Int) := by unfold mixd; rw [tab_get _ _ _ hi]
theorem row_mixd {a b : List Int} (h : Row a) : Row (mixd a b) := by
  refine ⟨by rw [mixd_length]; exact h.n, ?_⟩
  unfold allIn
  rw [List.all_eq_true]
  intro x hx
  obtain ⟨k, hk, rfl⟩ := List.mem_iff_getElem.mp hx
  rw [mixd_length] at hk
  have e := mixd_get a b k hk
  rw [List.getD_eq_getElem?_getD, List.getElem?_eq_getElem (by rw [mixd_length]; exact hk)] at e
  have e : (mixd a b)[k]'(by rw [mixd_length]; exact hk) = ((cv a b k a.length % 65537 : Nat) : Int) := e
  rw [e]
  have : cv a b k a.length % 65537 < 65537 := Nat.mod_lt _ (by decide)
  simp
  omega
theorem at_mixd (a b : List Int) (i : Nat) (hi : i < a.length) : at_ (mixd a b) i = cv a b i a.length % 65537 := by
  show ((mixd a b).getD i 0).toNat = _
  rw [mixd_get a b i hi]
  omega

theorem product {a b : List Int} (ha : Row a) (hb : Row b) (hl : b.length = a.length) (k : Nat) (hk : k < a.length) :
    M (Sp (mixd a b) (rt a.length) k) (Sp a (rt a.length) k * Sp b (rt a.length) k) := by
  have hm := row_mixd (b := b) ha
  have lm := mixd_length a b
  have e1 := Sp_M hm 1 k
  rw [lm, tn_one] at e1
  have ea := Sp_M ha 1 k
  rw [tn_one] at ea
  have eb := Sp_M hb 1 k
  rw [hl, tn_one] at eb
  refine e1.trans (M.trans ?_ (ea.mul eb).symm)
  have e2 : M (sm (fun i => at_ (mixd a b) i * E a.length (1 * (i * k))) a.length)
      (sm (fun i => sm (fun q => at_ a q * E a.length (1 * (q * k)) * (at_ b ((i + a.length - q) % a.length) * E a.length (1 * (((i + a.length - q) % a.length) * k)))) a.length) a.length) := by
    refine sm_congr fun i hi => ?_
    rw [at_mixd a b i hi]
    refine ((M.md _).mul (M.refl _)).trans ?_
    unfold cv
    rw [Nat.mul_comm, ← sm_mul]
    refine sm_congr fun q hq => ?_
    have hE : M (E a.length (1 * (q * k)) * E a.length (1 * (((i + a.length - q) % a.length) * k))) (E a.length (1 * (i * k))) := by
      refine (E_add _ ha.n _ _).trans ?_
      have : (1 * (q * k) + 1 * ((i + a.length - q) % a.length * k)) % a.length = (1 * (i * k)) % a.length := by
        rw [Nat.one_mul, Nat.one_mul, Nat.one_mul, ← Nat.add_mul, Nat.mul_mod, Nat.add_mod, Nat.mod_mod, ← Nat.add_mod, show q + (i + a.length - q) = i + a.length by omega, Nat.add_mod_right, ← Nat.mul_mod]
      unfold M E
      rw [this]
    have := (M.refl (at_ a q * at_ b ((i + a.length - q) % a.length))).mul hE.symm
    rw [Nat.mul_comm] at this
    refine this.trans ?_
    rw [Nat.mul_mul_mul_comm]
    exact M.refl _
  refine e2.trans ?_
  rw [sm_swap]
  have e3 : sm (fun q => sm (fun i => at_ a q * E a.length (1 * (q * k)) * (at_ b ((i + a.length - q) % a.length) * E a.length (1 * (((i + a.length - q) % a.length) * k)))) a.length) a.length
      = sm (fun q => sm (fun i => at_ b i * E a.length (1 * (i * k))) a.length * (at_ a q * E a.length (1 * (q * k)))) a.length := by
    refine sm_eq fun q hq => ?_
    rw [sm_mul, Nat.mul_comm]
    congr 1
    by_cases q0 : q = 0
    · subst q0
      refine sm_eq fun i hi => ?_
      rw [Nat.sub_zero, Nat.add_mod_right, Nat.mod_eq_of_lt hi]
    · have := sm_rot (fun i => at_ b i * E a.length (1 * (i * k))) a.length (a.length - q) (by omega)
      rw [← this]
      refine sm_eq fun i hi => ?_
      rw [show i + (a.length - q) = i + a.length - q by omega]
  rw [e3, sm_mul, Nat.mul_comm]
  exact M.refl _

/-! the code -/
theorem spec_ev {a : List Int} (h : rowOk a = true) : Ev (fun k => impl_Spectrum.f k a) (fwd a, true) := by
  have hr := row_of h
  have hle := hr.n.le
  simp only [impl_Spectrum.f]
  refine Ev.bind (rowOk_impl a (by omega)) ?_
  rw [h]
  refine evPos rfl (evNeg (by omega) (Ev.bind (turn3_ev _ hr.n) (Ev.bind (spectrum_ev a _ (rt_lt _) (by omega)) (Ev.now _))))

theorem scale_impl (xs : List Int) (b : Int) (h : xs.length ≤ 1048576) : Ev (fun k => impl_Unspectrum.l0 k xs b (xs.length : Int) 0) (scaled xs b, true) := by
  have := count (fun k i (s : List Int) => impl_Unspectrum.l0 k s b (xs.length : Int) i) xs.length (fun i => mixed (scaled xs b) xs i) (scaled xs b, true) ?_ ?_ 0 (by omega)
  · simpa [mixed_zero] using this
  · intro i hi
    refine ⟨0, fun k _ => ?_⟩
    simp only [impl_Unspectrum.l0]
    rw [if_pos (by omega), if_pos (by omega), if_pos (by rw [mixed_length _ _ _ (by rw [scaled_length]), scaled_length]; omega), up1 (by omega), Int.toNat_natCast, rd_nat, mixed_get_right _ _ _ _ _ (Nat.le_refl _) (by rw [scaled_length]; omega), ← scaled_get _ _ _ hi, mixed_set _ _ _ _ (by rw [scaled_length]) (by rw [scaled_length]; exact hi)]
  · refine Ev_succ fun k => ?_
    simp only [impl_Unspectrum.l0]
    have := mixed_all (scaled xs b) xs (by rw [scaled_length])
    rw [scaled_length] at this
    rw [this, if_neg (by omega)]

theorem unspec_ev {a : List Int} (h : rowOk a = true) : Ev (fun k => impl_Unspectrum.f k a) (bck a, true) := by
  have hr := row_of h
  have hle := hr.n.le
  simp only [impl_Unspectrum.f]
  refine Ev.bind (rowOk_impl a (by omega)) ?_
  rw [h]
  refine evPos rfl (evNeg (by omega) (Ev.bind (turn3_ev _ hr.n) (Ev.bind (invT_ev (rt a.length) (rt_lt _)) (Ev.bind (spectrum_ev a _ (invT_lt _) (by omega)) (Ev.bind (invT_ev a.length (by omega)) ?_)))))
  exact scale_impl _ _ (by rw [sums_length]; omega)

theorem pow2_bits (n : Nat) (h : P2 n) : Go.bits .and .i64 (n : Int) (wrap64 ((n : Int) - 1)) = 0 := by
  rcases h with rfl | rfl | rfl | rfl | rfl | rfl | rfl <;> decide +kernel
theorem ok_of {a : List Int} (h : Row a) : rowOk a = true := by
  have := h.n.le
  unfold rowOk
  rw [pow2_bits _ h.n, h.r]
  simp
  omega

def okM (a b : List Int) : Bool := rowOk a && rowOk b && decide (a.length = b.length)

theorem idx {i q n : Nat} (hi : i < n) (hq : q < n) (hn : n ≤ 64) : Int.tmod (wrap64 (wrap64 ((i : Int) - (q : Int)) + (n : Int))) (n : Int) = (((i + n - q) % n : Nat) : Int) := by
  rw [w64 (x := (i : Int) - q) (by omega) (by omega), w64 (by omega) (by omega), show (i : Int) - q + n = ((i + n - q : Nat) : Int) by omega, Int.tmod_eq_emod_of_nonneg (by omega)]
  rfl

theorem mixed_spec (a b : List Int) (ha : a.length ≤ 1048576) (hb : b.length ≤ 1048576) : ∃ r, Ev (fun k => spec_Mixed.f k a b) (r, okM a b) := by
  simp only [spec_Mixed.f]
  have no : Ev (fun k => spec_Mixed.j0 k a b true) ([], false) := Ev_succ fun k => by simp only [spec_Mixed.j0]; rfl
  unfold okM
  by_cases h1 : rowOk a = true
  · by_cases h2 : rowOk b = true
    · by_cases h3 : a.length = b.length
      · have hr := row_of h1
        have hrb := row_of h2
        have hle := hr.n.le
        have main : ∀ t i (o : List Int), a.length - i = t → i ≤ a.length → o.length = i → ∃ r, Ev (fun k => spec_Mixed.l0 k a b (a.length : Int) o (i : Int)) (r, true) := by
          intro t
          induction t with
          | zero =>
            intro i o h4 h5 h6
            refine ⟨o, Ev_succ fun k => ?_⟩
            simp only [spec_Mixed.l0]
            rw [if_neg (by omega)]
          | succ t ih =>
            intro i o h4 h5 h6
            have inner : ∀ t q (x : Int), a.length - q = t → q ≤ a.length → 0 ≤ x → x ≤ 65536 → ∃ r, Ev (fun k => spec_Mixed.l1 k a b (a.length : Int) o (i : Int) x (q : Int)) (r, true) := by
              intro t
              induction t with
              | zero =>
                intro q x h7 h8 h9 h10
                obtain ⟨r, e⟩ := ih (i + 1) (o ++ [x]) (by omega) (by omega) (by simp; omega)
                refine ⟨r, Ev.step (fun k => ?_) e⟩
                simp only [spec_Mixed.l1]
                rw [if_neg (by omega), if_pos (by omega), up1 (by omega)]
              | succ t ih2 =>
                intro q x h7 h8 h9 h10
                have hq : q < a.length := by omega
                have hi := idx (i := i) (q := q) (by omega) hq hle.2
                have hm : (i + a.length - q) % a.length < a.length := Nat.mod_lt _ (by omega)
                obtain ⟨e1, l1⟩ := hr.at_ q hq
                obtain ⟨e2, l2⟩ := hrb.at_ ((i + a.length - q) % a.length) (by omega)
                have hmul : at_ a q * at_ b ((i + a.length - q) % a.length) ≤ 65536 * 65536 := Nat.mul_le_mul (by omega) (by omega)
                have hn : 0 ≤ x + ((at_ a q * at_ b ((i + a.length - q) % a.length) : Nat) : Int) := by omega
                obtain ⟨r, e⟩ := ih2 (q + 1) (Int.tmod (x + ((at_ a q * at_ b ((i + a.length - q) % a.length) : Nat) : Int)) 65537) (by omega) (by omega) (Int.tmod_nonneg _ hn) (by have := Int.tmod_lt_of_pos (x + ((at_ a q * at_ b ((i + a.length - q) % a.length) : Nat) : Int)) (b := 65537) (by omega); omega)
                refine ⟨r, Ev.step (fun k => ?_) e⟩
                simp only [spec_Mixed.l1, hi]
                rw [if_pos (by omega), if_pos (by omega), if_pos (by omega), if_neg (by omega), if_pos (by omega), if_pos (by omega), rd_nat, rd_nat, e1, e2, ← Int.natCast_mul, w64 (x := ((at_ a q * at_ b ((i + a.length - q) % a.length) : Nat) : Int)) (by omega) (by omega), w64 (by omega) (by omega), up1 (by omega)]
            obtain ⟨r, e⟩ := inner _ 0 0 rfl (by omega) (by omega) (by omega)
            refine ⟨r, Ev.step (fun k => ?_) e⟩
            simp only [spec_Mixed.l0]
            rw [if_pos (by omega)]
            rfl
        obtain ⟨r, e⟩ := main _ 0 [] rfl (by omega) rfl
        refine ⟨r, Ev.bind (rowOk_spec a (by omega)) (evPos h1 (Ev.bind (rowOk_spec b (by omega)) (evPos h2 ?_)))⟩
        rw [h1, h2, decide_eq_true h3, show ((a.length : Int) != (b.length : Int)) = false by simp [h3]]
        refine Ev.step (fun k => ?_) e
        simp only [spec_Mixed.j0]
        rfl
      · refine ⟨[], Ev.bind (rowOk_spec a (by omega)) (evPos h1 (Ev.bind (rowOk_spec b (by omega)) (evPos h2 ?_)))⟩
        rw [decide_eq_false h3, Bool.and_false, show ((a.length : Int) != (b.length : Int)) = true by simp; omega]
        exact no
    · refine ⟨[], Ev.bind (rowOk_spec a (by omega)) (evPos h1 (Ev.bind (rowOk_spec b (by omega)) (evNeg h2 ?_)))⟩
      rw [Bool.not_eq_true] at h2
      rw [h2, Bool.and_false, Bool.false_and]
      exact no
  · refine ⟨[], Ev.bind (rowOk_spec a (by omega)) (evNeg h1 ?_)⟩
    rw [Bool.not_eq_true] at h1
    rw [h1, Bool.false_and, Bool.false_and]
    exact no

def cvI (a b : List Int) (i q : Nat) : Int := ((cv a b i q % 65537 : Nat) : Int)

theorem mixed_impl_l0 {a b : List Int} (hr : Row a) (hrb : Row b) (h3 : a.length = b.length) : Ev (fun k => impl_Mixed.l0 k a b (a.length : Int) (List.replicate a.length 0) (a.length : Int) 0) (mixd a b, true) := by
  have hle := hr.n.le
  have main : ∀ t i, a.length - i = t → i ≤ a.length → Ev (fun k => impl_Mixed.l0 k a b (a.length : Int) (mixed (mixd a b) (List.replicate a.length 0) i) (a.length : Int) (i : Int)) (mixd a b, true) := by
    intro t
    induction t with
    | zero =>
      intro i h4 h5
      obtain rfl : i = a.length := by omega
      refine Ev_succ fun k => ?_
      simp only [impl_Mixed.l0]
      have := mixed_all (mixd a b) (List.replicate a.length 0) (by simp [mixd_length])
      rw [mixd_length] at this
      rw [if_neg (by omega), this]
    | succ t ih =>
      intro i h4 h5
      have hi : i < a.length := by omega
      have lm : (mixed (mixd a b) (List.replicate a.length 0) i).length = a.length := by rw [mixed_length _ _ _ (by simp [mixd_length]), mixd_length]
      have inner : ∀ t q, a.length - q = t → q ≤ a.length → Ev (fun k => impl_Mixed.l1 k a b (a.length : Int) ((mixed (mixd a b) (List.replicate a.length 0) i).set i (cvI a b i q)) (i : Int) (a.length : Int) (i : Int) (a.length : Int) (q : Int)) (mixd a b, true) := by
        intro t
        induction t with
        | zero =>
          intro q h7 h8
          obtain rfl : q = a.length := by omega
          have next := ih (i + 1) (by omega) (by omega)
          have hs := mixed_set (mixd a b) (List.replicate a.length 0) 0 i (by simp [mixd_length]) (by rw [mixd_length]; exact hi)
          rw [mixd_get a b i hi] at hs
          rw [← hs] at next
          refine Ev.step (fun k => ?_) next
          simp only [impl_Mixed.l1]
          rw [if_neg (by omega), up1 (by omega)]
          rfl
        | succ t ih2 =>
          intro q h7 h8
          have hq : q < a.length := by omega
          have hix := idx (i := i) (q := q) (by omega) hq hle.2
          have hm : (i + a.length - q) % a.length < a.length := Nat.mod_lt _ (by omega)
          obtain ⟨e1, l1⟩ := hr.at_ q hq
          obtain ⟨e2, l2⟩ := hrb.at_ ((i + a.length - q) % a.length) (by omega)
          have hmul : at_ a q * at_ b ((i + a.length - q) % a.length) ≤ 65536 * 65536 := Nat.mul_le_mul (by omega) (by omega)
          have hc : cv a b i q % 65537 < 65537 := Nat.mod_lt _ (by decide)
          have hg : rd ((mixed (mixd a b) (List.replicate a.length 0) i).set i (cvI a b i q)) (i : Int) = cvI a b i q := by
            rw [rd_nat, List.getD_eq_getElem?_getD, List.getElem?_set_self (by rw [lm]; exact hi)]; rfl
          have hv : Int.tmod (wrap64 (cvI a b i q + wrap64 (((at_ a q : Nat) : Int) * ((at_ b ((i + a.length - q) % a.length) : Nat) : Int)))) 65537 = cvI a b i (q + 1) := by
            unfold cvI
            rw [← Int.natCast_mul, w64 (x := ((at_ a q * at_ b ((i + a.length - q) % a.length) : Nat) : Int)) (by omega) (by omega), w64 (by omega) (by omega), ← Int.natCast_add, Int.tmod_eq_emod_of_nonneg (by omega)]
            have : ((cv a b i q % 65537 + at_ a q * at_ b ((i + a.length - q) % a.length)) % 65537 : Nat) = cv a b i (q + 1) % 65537 := by
              show _ = (cv a b i q + at_ a q * at_ b ((i + a.length - q) % a.length)) % 65537
              rw [Nat.mod_add_mod]
            rw [← this]
            omega
          have next := ih2 (q + 1) (by omega) (by omega)
          refine Ev.step (fun k => ?_) next
          simp only [impl_Mixed.l1, hix]
          rw [if_pos (by omega), if_pos (by omega), if_pos (by rw [List.length_set, lm]; omega), if_pos (by omega), if_pos (by omega), if_neg (by omega), if_pos (by omega), if_pos (by omega), hg, rd_nat, rd_nat, e1, e2, hv, Int.toNat_natCast, List.set_set, up1 (by omega)]
      have start := inner _ 0 rfl (by omega)
      have hz : (mixed (mixd a b) (List.replicate a.length 0) i).set i (cvI a b i 0) = mixed (mixd a b) (List.replicate a.length 0) i := by
        have hg : (mixed (mixd a b) (List.replicate a.length 0) i).getD i 0 = 0 := by
          rw [mixed_get_right _ _ _ _ _ (Nat.le_refl _) (by rw [mixd_length]; omega)]
          simp [List.getD_eq_getElem?_getD, hi]
        refine list_eq (by simp) fun j hj => ?_
        by_cases c : j = i
        · subst c
          rw [hg, List.getD_eq_getElem?_getD, List.getElem?_set_self (by rw [lm]; exact hi)]
          rfl
        · rw [List.getD_eq_getElem?_getD, List.getElem?_set_ne (fun e => c e.symm), ← List.getD_eq_getElem?_getD]
      rw [hz] at start
      refine Ev.step (fun k => ?_) start
      simp only [impl_Mixed.l0]
      rw [if_pos (by omega)]
      rfl
  have := main _ 0 rfl (by omega)
  simpa [mixed_zero] using this

theorem mixed_impl (a b : List Int) (ha : a.length ≤ 1048576) (hb : b.length ≤ 1048576) : Ev (fun k => impl_Mixed.f k a b) (if okM a b = true then mixd a b else [], okM a b) := by
  simp only [impl_Mixed.f]
  have no : Ev (fun k => impl_Mixed.j0 k a b true) ([], false) := Ev_succ fun k => by simp only [impl_Mixed.j0]; rfl
  unfold okM
  by_cases h1 : rowOk a = true
  · by_cases h2 : rowOk b = true
    · by_cases h3 : a.length = b.length
      · have hr := row_of h1
        have hrb := row_of h2
        have hle := hr.n.le
        refine Ev.bind (rowOk_impl a (by omega)) (evPos h1 (Ev.bind (rowOk_impl b (by omega)) (evPos h2 ?_)))
        rw [h1, h2, decide_eq_true h3, show ((a.length : Int) != (b.length : Int)) = false by simp [h3]]
        refine Ev.step (fun k => ?_) (mixed_impl_l0 hr hrb h3)
        simp only [impl_Mixed.j0]
        rw [if_neg (by decide), if_pos (by omega), if_pos (by omega), Option.bind_some, Int.toNat_natCast, List.length_replicate]
      · refine Ev.bind (rowOk_impl a (by omega)) (evPos h1 (Ev.bind (rowOk_impl b (by omega)) (evPos h2 ?_)))
        rw [decide_eq_false h3, Bool.and_false, show ((a.length : Int) != (b.length : Int)) = true by simp; omega]
        exact no
    · refine Ev.bind (rowOk_impl a (by omega)) (evPos h1 (Ev.bind (rowOk_impl b (by omega)) (evNeg h2 ?_)))
      rw [Bool.not_eq_true] at h2
      rw [h2, Bool.and_false, Bool.false_and]
      exact no
  · refine Ev.bind (rowOk_impl a (by omega)) (evNeg h1 ?_)
    rw [Bool.not_eq_true] at h1
    rw [h1, Bool.false_and, Bool.false_and]
    exact no

theorem same_ev (a : List Int) (h : a.length ≤ 1048576) : Ev (fun k => laws_sameInts.f k a a) true := by
  simp only [laws_sameInts.f]
  refine evPos (by trivial) ?_
  refine count (fun k i (_ : Unit) => laws_sameInts.l0 k a a i) a.length (fun _ => ()) true ?_ ?_ 0 (by omega)
  · intro j hj
    refine ⟨0, fun k _ => ?_⟩
    simp only [laws_sameInts.l0]
    rw [if_pos (by omega), if_pos (by omega), if_pos (by omega), if_pos trivial, up1 (by omega)]
  · refine Ev_succ (fun k => ?_)
    simp only [laws_sameInts.l0]
    rw [if_neg (by omega)]

/-! the draws -/
theorem residues_ok {l : List Int} (h : Src l) {p : Int} (hp : At l p) (n : Nat) (hn : n ≤ 1000) : ∃ a q, Ev (fun k => spec_l1Rd_residues.f k l p (n : Int)) (a, q) ∧ a.length = n ∧ At l q := by
  simp only [spec_l1Rd_residues.f]
  have main : ∀ (t i : Nat) (a : List Int) (p : Int), n - i = t → i = a.length → i ≤ n → At l p → ∃ a' q, Ev (fun k => spec_l1Rd_residues.l0 k (n : Int) a (i : Int) l p) (a', q) ∧ a'.length = n ∧ At l q := by
    intro t
    induction t with
    | zero =>
      intro i a p h1 h2 h3 hp
      refine ⟨a, p, Ev_succ fun k => ?_, by omega, hp⟩
      simp only [spec_l1Rd_residues.l0]
      rw [if_neg (by omega)]
    | succ t ih =>
      intro i a p h1 h2 h3 hp
      obtain ⟨u, q, e, _, _, hq⟩ := below_ok h hp 300 (by omega)
      obtain ⟨v, q2, e2, _, _, hq2⟩ := below_ok h hq 65537 (by omega)
      obtain ⟨w, q3, e3, w0, w1, hq3⟩ := below_ok h hq2 4 (by omega)
      obtain ⟨a', q', e', r⟩ := ih (i + 1) (a ++ [rd [u, 65536, 0, v] w]) q3 (by omega) (by simp; omega) (by omega) hq3
      refine ⟨a', q', Ev.step (fun k => ?_) e', r⟩
      simp -implicitDefEqProofs only [spec_l1Rd_residues.l0]
      rw [if_pos (by omega), e, Option.bind_some, e2, Option.bind_some, Option.bind_some, e3, Option.bind_some, if_pos w0, if_pos (by simpa using w1), if_pos (by omega), up1 (by omega)]
  exact main n 0 [] p (by omega) (by simp) (by omega) hp

theorem shl_ok (u : Int) (h0 : 0 ≤ u) (h1 : u < 7) : ∃ n : Nat, shl .i64 1 (IntKind.u64.wrap u) = (n : Int) ∧ 1 ≤ n ∧ n ≤ 64 ∧ 0 ≤ IntKind.u64.wrap u := by
  have : u = 0 ∨ u = 1 ∨ u = 2 ∨ u = 3 ∨ u = 4 ∨ u = 5 ∨ u = 6 := by omega
  rcases this with rfl | rfl | rfl | rfl | rfl | rfl | rfl
  · exact ⟨1, by decide, by decide, by decide, by decide⟩
  · exact ⟨2, by decide, by decide, by decide, by decide⟩
  · exact ⟨4, by decide, by decide, by decide, by decide⟩
  · exact ⟨8, by decide, by decide, by decide, by decide⟩
  · exact ⟨16, by decide, by decide, by decide, by decide⟩
  · exact ⟨32, by decide, by decide, by decide, by decide⟩
  · exact ⟨64, by decide, by decide, by decide, by decide⟩

theorem drawRow_j0 {l : List Int} (h : Src l) {p : Int} (hp : At l p) (n : Nat) (n0 : 1 ≤ n) (n1 : n ≤ 64) : ∃ a q, Ev (fun k => spec_l16DrawRow.j0 k (n : Int) l p) (a, q) ∧ a.length ≤ 128 ∧ At l q := by
  obtain ⟨a, q, e, la, hq⟩ := residues_ok h hp n (by omega)
  obtain ⟨u, q2, e2, u0, u1, hq2⟩ := below_ok h hq 20 (by omega)
  have out : ∀ (r : List Int × Int) (F : Nat → Option (List Int × Int)), (∀ k, spec_l16DrawRow.j0 (k + 1) (n : Int) l p = (spec_l1Rd_residues.f k l p n).bind fun bt => F k |>.bind fun x => some x) → True := fun _ _ _ => trivial
  by_cases c0 : u = 0
  · obtain ⟨w, q3, e3, w0, w1, hq3⟩ := below_ok h hq2 3 (by omega)
    obtain ⟨K, e⟩ := e
    refine ⟨a.set 0 (rd [-1, 65536, 65537] w), q3, ⟨K + 1, fun k hk => ?_⟩, by simp; omega, hq3⟩
    obtain ⟨k, rfl⟩ : ∃ j, k = j + 1 := ⟨k - 1, by omega⟩
    have e := e k (by omega)
    simp -implicitDefEqProofs only [spec_l16DrawRow.j0] at e ⊢
    rw [e, Option.bind_some, e2, Option.bind_some, if_pos c0, Option.bind_some, e3, Option.bind_some, if_pos w0, if_pos (by simpa using w1), if_pos (by show (0 : Int) < (a.length : Int); omega)]
    rfl
  by_cases c1 : u = 1
  · obtain ⟨K, e⟩ := e
    refine ⟨a ++ [1], q2, ⟨K + 1, fun k hk => ?_⟩, by simp; omega, hq2⟩
    obtain ⟨k, rfl⟩ : ∃ j, k = j + 1 := ⟨k - 1, by omega⟩
    have e := e k (by omega)
    simp -implicitDefEqProofs only [spec_l16DrawRow.j0] at e ⊢
    rw [e, Option.bind_some, e2, Option.bind_some, if_neg c0, if_pos c1, if_pos (by show a.length < 17592186044416; omega)]
  by_cases c2 : u = 2
  · obtain ⟨K, e⟩ := e
    refine ⟨a.take 0, q2, ⟨K + 1, fun k hk => ?_⟩, by simp, hq2⟩
    obtain ⟨k, rfl⟩ : ∃ j, k = j + 1 := ⟨k - 1, by omega⟩
    have e := e k (by omega)
    simp -implicitDefEqProofs only [spec_l16DrawRow.j0] at e ⊢
    rw [e, Option.bind_some, e2, Option.bind_some, if_neg c0, if_neg c1, if_pos c2, if_pos (by omega)]
    rfl
  by_cases c3 : u = 3
  · obtain ⟨a2, q3, ⟨K2, e3⟩, la2, hq3⟩ := residues_ok h hq2 128 (by omega)
    obtain ⟨K, e⟩ := e
    refine ⟨a2, q3, ⟨max K K2 + 1, fun k hk => ?_⟩, by omega, hq3⟩
    obtain ⟨k, rfl⟩ : ∃ j, k = j + 1 := ⟨k - 1, by omega⟩
    have e := e k (by omega)
    have e3 : spec_l1Rd_residues.f k l q2 128 = some (a2, q3) := e3 k (by omega)
    simp -implicitDefEqProofs only [spec_l16DrawRow.j0] at e ⊢
    rw [e, Option.bind_some, e2, Option.bind_some, if_neg c0, if_neg c1, if_neg c2, if_pos c3, e3, Option.bind_some]
  · obtain ⟨K, e⟩ := e
    refine ⟨a, q2, ⟨K + 1, fun k hk => ?_⟩, by omega, hq2⟩
    obtain ⟨k, rfl⟩ : ∃ j, k = j + 1 := ⟨k - 1, by omega⟩
    have e := e k (by omega)
    simp -implicitDefEqProofs only [spec_l16DrawRow.j0] at e ⊢
    rw [e, Option.bind_some, e2, Option.bind_some, if_neg c0, if_neg c1, if_neg c2, if_neg c3]

theorem drawRow_ok {l : List Int} (h : Src l) {p : Int} (hp : At l p) : ∃ a q, Ev (fun k => spec_l16DrawRow.f k l p) (a, q) ∧ a.length ≤ 128 ∧ At l q := by
  obtain ⟨u, q, e, u0, u1, hq⟩ := below_ok h hp 5 (by omega)
  obtain ⟨n, en, n0, n1, w0⟩ := shl_ok u u0 (by omega)
  by_cases c : (l.length : Int) > 60
  · obtain ⟨v, q2, e2, v0, v1, hq2⟩ := below_ok h hq 7 (by omega)
    obtain ⟨n', en', n0', n1', w0'⟩ := shl_ok v v0 v1
    obtain ⟨a, q3, e3, r⟩ := drawRow_j0 h hq2 n' n0' n1'
    refine ⟨a, q3, Ev.congr (fun k => ?_) e3, r⟩
    simp -implicitDefEqProofs only [spec_l16DrawRow.f]
    rw [e, Option.bind_some, if_pos w0, if_pos c, e2, Option.bind_some, if_pos w0', en']
  · obtain ⟨a, q3, e3, r⟩ := drawRow_j0 h hq n n0 n1
    refine ⟨a, q3, Ev.congr (fun k => ?_) e3, r⟩
    simp -implicitDefEqProofs only [spec_l16DrawRow.f]
    rw [e, Option.bind_some, if_pos w0, if_neg c, en]

theorem draw_ok {l : List Int} (h : Src l) : ∃ a b, Ev (fun k => spec_DrawMixed.f k l) (a, b) ∧ a.length ≤ 128 ∧ b.length ≤ 128 := by
  have e0 : spec_l1Open.f l = some (l, 0) := rfl
  simp -implicitDefEqProofs only [spec_DrawMixed.f, e0, Option.bind_some]
  obtain ⟨a, q, e, la, hq⟩ := drawRow_ok h (p := 0) (by unfold At; omega)
  obtain ⟨b, q2, e2, lb, hq2⟩ := residues_ok h hq a.length (by omega)
  obtain ⟨c, q3, e3, hq3⟩ := once_ok h hq2 12 (by omega)
  by_cases hc : c = true
  · obtain ⟨b2, q4, e4, lb2, _⟩ := drawRow_ok h hq3
    refine ⟨a, b2, Ev.bind e (Ev.bind e2 ?_), la, lb2⟩
    simp -implicitDefEqProofs only [e3, Option.bind_some]
    exact evPos hc (Ev.bind e4 (Ev.now _))
  · refine ⟨a, b, Ev.bind e (Ev.bind e2 ?_), la, by omega⟩
    simp -implicitDefEqProofs only [e3, Option.bind_some]
    exact evNeg hc (Ev.now _)

theorem FnSpectra : laws_FnSpectra.Pure := by
  intro l _ _ hb
  refine Ev.rounds ?_
  simp only [laws_FnSpectra.f, laws_big.f, Option.bind_some]
  by_cases big : decide ((l.length : Int) > 1048576) = true
  · exact evPos big (Ev.now _)
  refine evNeg big ?_
  have h : Src l := ⟨by have := big; simp at this; omega, fun x hx => by have := hb x hx; simp [Lit.wf] at this; exact this⟩
  obtain ⟨a, b, e, la, lb⟩ := draw_ok h
  obtain ⟨r, es⟩ := mixed_spec a b (by omega) (by omega)
  refine Ev.bind e (Ev.bind es (Ev.bind (mixed_impl a b (by omega) (by omega)) (evNeg (by simp) ?_)))
  by_cases ok : okM a b = true
  · have ok' := ok
    simp only [okM, Bool.and_eq_true, decide_eq_true_iff] at ok'
    obtain ⟨⟨oa, ob⟩, hl⟩ := ok'
    have ha := row_of oa
    have hrb := row_of ob
    have hm := row_mixd (b := b) ha
    have hs := row_sums ha (rt a.length)
    have hu : Row (bck a) := row_scaled (row_sums ha _) _ (invT_lt _)
    rw [if_pos ok]
    have e1 := unspec_ev (ok_of hs)
    rw [show bck (sums a (rt a.length)) = a from bck_fwd ha] at e1
    have e2 := spec_ev (ok_of hu)
    rw [fwd_bck ha] at e2
    refine evPos ok (Ev.bind (spec_ev oa) (Ev.bind (spec_ev ob) (Ev.bind (spec_ev (ok_of hm)) (Ev.bind e1 (Ev.bind (unspec_ev oa) ?_)))))
    refine evPos rfl (evPos rfl (evPos rfl (evPos rfl (evPos rfl (Ev.bind (same_ev a (by omega)) (evPos rfl (evPos (by rw [fwd_length]) (evPos (by show ((fwd b).length : Int) = (a.length : Int); rw [fwd_length, hl]) ?_))))))))
    rw [show (((fwd (mixd a b)).length : Int) != (a.length : Int)) = false by rw [fwd_length, mixd_length]; simp]
    have loop0 : Ev (fun k => laws_FnSpectra.l0 k a (fwd a) (fwd b) (fwd (mixd a b)) 0) true := by
      refine count (fun k i (_ : Unit) => laws_FnSpectra.l0 k a (fwd a) (fwd b) (fwd (mixd a b)) i) a.length (fun _ => ()) true ?_ ?_ 0 (by omega)
      · intro j hj
        refine ⟨0, fun k _ => ?_⟩
        have za : (fwd a).getD j 0 = ((Sp a (rt a.length) j : Nat) : Int) := sums_get ha _ j hj
        have zb : (fwd b).getD j 0 = ((Sp b (rt a.length) j : Nat) : Int) := by
          unfold fwd
          rw [← hl]
          exact sums_get hrb _ j (by omega)
        have zm : (fwd (mixd a b)).getD j 0 = ((Sp (mixd a b) (rt a.length) j : Nat) : Int) := by
          unfold fwd
          rw [mixd_length]
          exact sums_get hm _ j (by rw [mixd_length]; exact hj)
        have pr := product ha hrb hl.symm j hj
        have l1 : Sp a (rt a.length) j < 65537 := Nat.mod_lt _ (by decide)
        have l2 : Sp b (rt a.length) j < 65537 := Nat.mod_lt _ (by decide)
        have l3 : Sp (mixd a b) (rt a.length) j < 65537 := Nat.mod_lt _ (by decide)
        unfold M at pr
        rw [Nat.mod_eq_of_lt l3] at pr
        simp only [laws_FnSpectra.l0]
        rw [if_pos (by omega), if_pos (by omega), if_pos (by rw [fwd_length, mixd_length]; omega), if_pos (by rw [fwd_length]; omega), if_pos (by rw [fwd_length]; omega), rd_nat, rd_nat, rd_nat, za, zb, zm, mulmod l1 l2, pr, if_pos rfl, up1 (by omega)]
      · refine Ev_succ (fun k => ?_)
        simp only [laws_FnSpectra.l0]
        rw [if_neg (by omega)]
    have j1 : Ev (fun k => laws_FnSpectra.j1 k a (fwd a) (fwd b) (fwd (mixd a b)) false) true := by
      refine Ev.step (fun k => ?_) loop0
      simp only [laws_FnSpectra.j1]
      rfl
    refine Ev.step (f := fun k => (impl_Spectrum.f k (bck a)).bind fun bt622 => (if bt622.2 = true then ((laws_sameInts.f k bt622.1 a).bind fun t626 => (laws_FnSpectra.j1 k a (fwd a) (fwd b) (fwd (mixd a b)) (!t626))) else (laws_FnSpectra.j1 k a (fwd a) (fwd b) (fwd (mixd a b)) true))) (fun k => ?_) (Ev.bind e2 (evPos rfl (Ev.bind (same_ev a (by omega)) j1)))
    simp only [laws_FnSpectra.j0]
    rfl
  · rw [if_neg ok]
    exact evNeg ok (Ev.now _)

end Go.Proofs.Yteobnbichpadjab.Pure
