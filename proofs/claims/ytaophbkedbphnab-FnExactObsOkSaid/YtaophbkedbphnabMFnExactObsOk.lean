/- The plain statement of the law FnExactObsOk: program and reference hold the same observations right; for floats of 64 bits, as all are that come in. -/
import Derived.Test.YtaophbkedbphnabWWords
import Derived.Test.YtaophbkedbphnabWMore
import Derived.Deep.Slices
import Derived.ChangeArms
import Derived.WideShapes
import Derived.Test.YtaophbkedbphnabFlt
import Derived.Test.YtaophbkedbphnabObsChkB
import Derived.Test.YtaophbkedbphnabQx1
import Derived.Test.YtaophbkedbphnabQx10
import Derived.Test.YtaophbkedbphnabQx11
import Derived.Test.YtaophbkedbphnabQx12
import Derived.Test.YtaophbkedbphnabQx13
import Derived.Test.YtaophbkedbphnabQx14
import Derived.Test.YtaophbkedbphnabQx17
import Derived.Test.YtaophbkedbphnabQx18
import Derived.Test.YtaophbkedbphnabQx19
import Derived.Test.YtaophbkedbphnabQx2
import Derived.Test.YtaophbkedbphnabQx20
import Derived.Test.YtaophbkedbphnabQx21
import Derived.Test.YtaophbkedbphnabQx22
import Derived.Test.YtaophbkedbphnabQx23
import Derived.Test.YtaophbkedbphnabQx24
import Derived.Test.YtaophbkedbphnabQx25
import Derived.Test.YtaophbkedbphnabQx26
import Derived.Test.YtaophbkedbphnabQx3
import Derived.Test.YtaophbkedbphnabQx4
import Derived.Test.YtaophbkedbphnabQx5
import Derived.Test.YtaophbkedbphnabQx6
import Derived.Test.YtaophbkedbphnabQx7
import Derived.Test.YtaophbkedbphnabQx8
import Derived.Test.YtaophbkedbphnabQx9
import Derived.Test.YtaophbkedbphnabRows
import Derived.WalkKit
import Derived.ProofKit
import Derived.OpenShut
import Derived.ShutString
import Derived.ChangeOld
import Derived.Below
import Derived.SizedLaws
import Derived.Laws.Cover2

section
/- Arguments of any shape, opened: what a datum's reading says of its cells, by kinds; no condition. -/
set_option linter.unusedVariables false
set_option linter.unusedSimpArgs false
namespace Go.Proofs.Ytaophbkedbphnab.Opens
open Go.RowKit Go.Proofs.YtaophbkedbphnabW.PrintWords Go.Deep

section
variable {H : Type} {enc : TypeId × Value → H} {P : Program} {w : World} {base : Nat} {spare : Nat → Bool} {held : Bool}
/-- Whatever is read as type t is told by the kind d. -/
def Opn (enc : TypeId × Value → H) (P : Program) (w : World) (base : Nat) (spare : Nat → Bool) (held : Bool) (t : TypeId) {α : Type} (d : Kd α) : Prop :=
  ∀ (fuel : Nat) (cs : List Value) (x : DataW H × List MemPlace), DataW.trod enc P w base spare held fuel t cs = some x → ∃ a : α, d.K w a cs

theorem opn_int {t : TypeId} {k : IntKind} (ht : P.underlying t = some (.int k)) : Opn enc P w base spare held t (Kd.int k) := fun fuel cs x h => by
  obtain ⟨n, rfl, _⟩ := DataW.trod_int ht h
  exact ⟨n, rfl⟩
theorem opn_bool {t : TypeId} (ht : P.underlying t = some .bool) : Opn enc P w base spare held t Kd.bool := fun fuel cs x h => by
  obtain ⟨b, rfl, _⟩ := DataW.trod_bool ht h
  exact ⟨b, rfl⟩
theorem opn_string {t : TypeId} (ht : P.underlying t = some .string) : Opn enc P w base spare held t Kd.string := fun fuel cs x h => by
  obtain ⟨s, rfl, _⟩ := DataW.trod_string ht h
  exact ⟨s, rfl⟩

theorem opn_slice {α : Type} (z : α) {d : Kd α} {t e : TypeId} (ht : P.underlying t = some (.slice e)) (hs : P.cellsOf e = d.sz) (h : Opn enc P w base spare held e d) : Opn enc P w base spare held t (Kd.slice e d) := by
  intro fuel cs x hx
  rcases open_slice ht hx with ⟨rfl, _⟩ | ⟨a, len, cap, m, n, D, Pl, rfl, _, hl, hm, hmm, _, hel⟩
  · exact ⟨[], none, 0, rfl, Nat.le_refl _, Kd.C_nil _ _⟩
  have hle : len ≤ m := by rw [hmm]; split <;> omega
  haveI : Inhabited α := ⟨z⟩
  obtain ⟨f, hf⟩ := choose_lt (α := α) (n := len) (p := fun i x => ∃ cs', w.cells? base (a.add (i * P.cellsOf e)) (P.cellsOf e) = some cs' ∧ d.K w x cs') (fun i hi => by
    obtain ⟨cs', h1, h2⟩ := hel i (by omega)
    obtain ⟨x, hk⟩ := h n cs' _ h2
    exact ⟨x, cs', h1, hk⟩)
  refine ⟨(List.range len).map f, some a, cap, by simp, by simpa using hl, ?_⟩
  refine ⟨by simp, by unfold maxLen at hm; simp; omega, fun hp => ⟨a, rfl, fun j p hj => ?_⟩⟩
  have hj' : j < len := by have := (List.getElem?_eq_some_iff.1 hj).1; simpa using this
  simp [hj'] at hj
  obtain ⟨cs', h1, h2⟩ := hf j hj'
  subst hj
  refine ⟨cs', d.K_len h2, h2, fun i u hu => ?_⟩
  obtain ⟨_, hlen, hcell⟩ := World.cells?_some h1
  have hi : i < P.cellsOf e := by have := (List.getElem?_eq_some_iff.1 hu).1; omega
  rw [← hs, ← Go.Deep.add_add, hcell i hi]
  exact hu

/-- Two in line, at a place of the cells. -/
theorem pair_at {α β : Type} {a : Kd α} {b : Kd β} {x : α} {y : β} {cs : List Value} (off s : Nat) (h0 : a.K w x ((cs.drop off).take s)) (h1 : b.K w y (cs.drop (off + s))) : (Kd.pair a b).K w (x, y) (cs.drop off) :=
  ⟨(cs.drop off).take s, (cs.drop off).drop s, (List.take_append_drop _ _).symm, h0, by rw [List.drop_drop]; exact h1⟩
theorem last_at {α : Type} {a : Kd α} {x : α} {cs : List Value} (off s : Nat) (hl : cs.length = off + s) (h0 : a.K w x ((cs.drop off).take s)) : a.K w x (cs.drop off) := by
  rwa [List.take_of_length_le (by simp; omega)] at h0
/-- A field's reading. -/
theorem field_at {α : Type} {d : Kd α} {t off s n : Nat} {cs : List Value} {y : Option (DataW H × List MemPlace)} (h : Opn enc P w base spare held t d) (hs : P.cellsOf t = s) (hy : ∃ z, y = some z)
    (hf : DataW.trod enc P w base spare held n t ((cs.drop off).take (P.cellsOf t)) = y) : ∃ a : α, d.K w a ((cs.drop off).take s) := by
  obtain ⟨z, rfl⟩ := hy
  subst hs
  exact h n _ _ hf
end

/-- A slice that came in. -/
theorem slice_in {H : Type} {enc : TypeId × Value → H} {P : Program} {w : World} {base : Nat} {spare : Nat → Bool} {held : Bool} {α : Type} {d : Kd α} {t e : TypeId} {a : Option Addr} {len cap : Nat} {D : DataW H} {p : List MemPlace}
    (h : Opn enc P w base spare held t (Kd.slice e d)) (hd : DataW.Trod enc P w base spare held t (.slice a len cap) D p) :
    ∃ l : List α, len = l.length ∧ l.length ≤ cap ∧ l.length ≤ 9223372036854775807 ∧ d.C w a l.length l := by
  obtain ⟨fuel, hf⟩ := hd
  obtain ⟨l, A, c, he, hl, hC⟩ := h fuel _ _ hf
  simp [Value.cells] at he
  obtain ⟨rfl, rfl, rfl⟩ := he
  exact ⟨l, rfl, hl, hC.2.1, hC⟩
/-- A struct that came in. -/
theorem struct_in {H : Type} {enc : TypeId × Value → H} {P : Program} {w : World} {base : Nat} {spare : Nat → Bool} {held : Bool} {α : Type} {d : Kd α} {t : TypeId} {cs : Array Value} {D : DataW H} {p : List MemPlace}
    (h : Opn enc P w base spare held t d) (hd : DataW.Trod enc P w base spare held t (.agg cs) D p) : ∃ x : α, d.K w x cs.toList := by
  obtain ⟨fuel, hf⟩ := hd
  exact h fuel _ _ hf
theorem agg_of {cs : Array Value} {l : List Value} (h : cs.toList = l) : cs = l.toArray := by rw [← h]
/-- An element of a row that is read. -/
theorem row_K {α : Type} {d : Kd α} {w : World} {A : Option Addr} {n : Nat} {xs : List α} (h : d.C w A n xs) {x : α} (hx : x ∈ xs) : ∃ cs, d.K w x cs := by
  obtain ⟨j, hj, rfl⟩ := List.mem_iff_getElem.mp hx
  obtain ⟨ad, _, hc⟩ := h.2.2 (by have := h.1; omega)
  obtain ⟨c, _, hr, _⟩ := hc j _ (List.getElem?_eq_getElem hj)
  exact ⟨c, hr⟩
end Go.Proofs.Ytaophbkedbphnab.Opens
end

section
/- Floats among the arguments, opened; no condition. -/
set_option linter.unusedVariables false
set_option linter.unusedSimpArgs false
namespace Go.Proofs.Ytaophbkedbphnab.Opens
open Go.RowKit Go.Proofs.YtaophbkedbphnabW.PrintWords Go.Proofs.YtaophbkedbphnabW.PrintFlt Go.Deep
section
variable {H : Type} {enc : TypeId × Value → H} {P : Program} {w : World} {base : Nat} {spare : Nat → Bool} {held : Bool} {t : TypeId}
theorem trod_flt {fuel : Nat} {cs : List Value} {x : DataW H × List MemPlace} {k : FloatKind} (ht : P.underlying t = some (.float k)) (h : DataW.trod enc P w base spare held fuel t cs = some x) : ∃ b, cs = [.float k b] := by
  cases fuel with
  | zero => simp [DataW.trod] at h
  | succ n =>
    unfold DataW.trod at h
    rw [ht] at h
    split at h <;> simp_all
theorem opn_float (ht : P.underlying t = some (.float .f64)) : Opn enc P w base spare held t Kd.flt := fun fuel cs x h => by
  obtain ⟨b, rfl⟩ := trod_flt ht h
  exact ⟨cn b, b, by rw [un_cn]⟩
end
/-- A float that came in within a struct has 64 bits. -/
theorem flt_bits {P : Program} {w : World} {r : Reach} {base : Nat} {t : TypeId} {fs : Array Field} {cs : Array Value} (ht : P.underlying t = some (.struct fs)) (h : Value.okWide P w r base t (.agg cs)) (i p x : Nat) (hi : cs[i]? = some (.float .f64 (un p x))) : x < 18446744073709551616 := by
  simp only [Value.okWide, ht] at h
  obtain ⟨cs', h1, _, ts, _, _, h5⟩ := h
  injection h1 with h1
  subst h1
  obtain ⟨u, _, hc⟩ := h5 i _ hi
  have hb : un p x < 18446744073709551616 := by
    unfold Cell.okWide at hc
    split at hc
    · rename_i e; cases e
    · rename_i e; cases e
    · rename_i e; cases e
    · rename_i e; cases e
    · rename_i e; cases e
    · rename_i e; cases e
    · rename_i e; cases e
    · unfold Cell.ok at hc
      split at hc
      all_goals first | exact hc.elim | (rename_i e; cases e; done) | skip
      rename_i e
      cases e
      obtain ⟨rfl, hc⟩ := hc
      exact hc
  unfold un at hb
  by_cases c : x = qnan
  · rw [c]; decide
  · rw [if_neg c] at hb; exact hb
end Go.Proofs.Ytaophbkedbphnab.Opens
end

section
/- The plain statement of the law FnExactObsOk: program and reference hold the same observations right; for floats of 64 bits, as all are that come in. -/
set_option exponentiation.threshold 3000
set_option linter.unusedVariables false
set_option linter.unusedSimpArgs false
namespace Go.Proofs.Ytaophbkedbphnab.Pure
open Go.RowKit Go.Proofs.Ytaophbkedbphnab.Q Go.Proofs.Ytaophbkedbphnab.Gen Go.Proofs.YtaophbkedbphnabW.PrintWords Go.Proofs.YtaophbkedbphnabW.PrintMore Go.Proofs.YtaophbkedbphnabW.PrintFlt

def inS (a b c : Int) : Bool := decide (b ≤ a) && decide (a ≤ c)
theorem inS_iff (a b c : Int) : inS a b c = true ↔ b ≤ a ∧ a ≤ c := by simp [inS]
theorem l2In_s (a b c : Int) : spec_l2In.f a b c = some (inS a b c) := by
  unfold spec_l2In.f inS; by_cases h : a ≥ b <;> simp [h, show b ≤ a ↔ a ≥ b from Iff.rfl]
theorem in_s (a b c : Int) : impl_in.f a b c = some (inS a b c) := by
  unfold impl_in.f inS; by_cases h : a ≥ b <;> simp [h, show b ≤ a ↔ a ≥ b from Iff.rfl]
theorem known_i (x : Nat) : impl_Known.f x = some (fin x) := by
  unfold impl_Known.f impl_missing.f math_IsInf.f math_Abs.f
  rw [Option.bind_some, fne_self, ← known2]
  cases isn x
  · rw [if_neg (by decide), if_pos rfl]; rfl
  · rfl
theorem known_s (x : Nat) : spec_Known.f x = some (fin x) := by
  unfold spec_Known.f
  rw [known1]
theorem f0 : fin 0 = true := by decide +kernel
theorem v0 : val 0 = 0 := by decide +kernel
theorem fE : fin 4831355200913801216 = true := by decide +kernel
theorem vE : val 4831355200913801216 = 1000000000000000 * 2 ^ 1074 := by decide +kernel
theorem fEm : fin 14054727237768577024 = true := by decide +kernel
theorem vEm : val 14054727237768577024 = -1000000000000000 * 2 ^ 1074 := by decide +kernel
theorem fT : fin 4681608360884174848 = true := by decide +kernel
theorem vT : val 4681608360884174848 = 100000 * 2 ^ 1074 := by decide +kernel
theorem p74 : (0 : Int) < 2 ^ 1074 := Int.pow_pos (by omega)
theorem fin_qnan : fin qnan = false := by decide +kernel

/-! the nearest whole number -/
theorem whole_s (x : Nat) : ∃ b, spec_l1Whole.f x = some b ∧ (b = true → fin x = true ∧ (val x).natAbs ≤ 1000000000000000 * 2 ^ 1074) := by
  unfold spec_l1Whole.f
  rw [known_s, Option.bind_some]
  cases hx : fin x with
  | false => exact ⟨false, by rw [if_neg (by decide)], fun h => by cases h⟩
  | true =>
    rw [if_pos rfl]
    by_cases c : (fgt x 14054727237768577024 || feq x 14054727237768577024) = true
    · rw [if_pos c]
      refine ⟨_, rfl, fun h => ⟨rfl, ?_⟩⟩
      rw [fge_val hx fEm, vEm, decide_eq_true_eq] at c
      rw [fle_val hx fE, vE, decide_eq_true_eq] at h
      have e : ((1000000000000000 * 2 ^ 1074 : Nat) : Int) = 1000000000000000 * 2 ^ 1074 := by decide +kernel
      have e' : (-1000000000000000 * 2 ^ 1074 : Int) = -(1000000000000000 * 2 ^ 1074) := by decide +kernel
      rw [e', ← e] at c
      rw [← e] at h
      generalize (1000000000000000 * 2 ^ 1074 : Nat) = B at *
      omega
    · exact ⟨false, by rw [if_neg c], fun h => by cases h⟩
theorem near_total (x : Nat) : ∃ p, spec_Nearest.f x = some p := by
  unfold spec_Nearest.f
  obtain ⟨b, hb, hq⟩ := whole_s x
  rw [hb, Option.bind_some]
  cases b with
  | false => exact ⟨(0, false), by rw [if_neg (by decide)]⟩
  | true =>
    obtain ⟨fx, hv⟩ := hq rfl
    rw [if_pos rfl, if_pos (inI_of fx (Nat.le_trans hv (Nat.mul_le_mul_right _ (by decide))))]
    repeat' split
    all_goals exact ⟨_, rfl⟩
theorem near_foi {n : Int} (h : n.natAbs ≤ 1000000) : spec_Nearest.f (foi n) = some (n, true) := by
  obtain ⟨fx, hv⟩ := foi_val (n := n) (by omega)
  have ht := toi_of fx hv (by omega)
  have hI : inI (foi n) = true := inI_of fx (by
    rw [hv, Int.natAbs_mul, Int.natAbs_pow, show Int.natAbs 2 = 2 from rfl]
    exact Nat.mul_le_mul_right _ (by omega))
  have hw : spec_l1Whole.f (foi n) = some true := by
    unfold spec_l1Whole.f
    rw [known_s, Option.bind_some, fx, if_pos rfl, fge_val fx fEm, fle_val fx fE, vEm, vE, hv, if_pos, decide_eq_true]
    · exact Int.mul_le_mul_of_nonneg_right (by omega) (Int.le_of_lt p74)
    · exact decide_eq_true (Int.mul_le_mul_of_nonneg_right (by omega) (Int.le_of_lt p74))
  have hg : fgt (foi n) (foi n) = false := by rw [fgt_val fx fx]; exact decide_eq_false (by omega)
  have hs : feq (fsub (foi n) (foi n)) 0 = true := by rw [known1]; exact fx
  have hz : fsub (foi n) (foi n) = 0 := by
    obtain ⟨s, m, e, er⟩ := fin_read fx
    have := Gen.sub_self (Ieee.double.read (foi n))
    unfold fsub Ieee.Format.sub ov
    rw [this, er]
    rfl
  unfold spec_Nearest.f
  rw [hw, Option.bind_some, if_pos rfl, if_pos hI, ht, hg, if_neg (by decide), hz, if_neg (by decide +kernel), if_neg (by decide +kernel)]

/-! the same -/
theorem minus_s {x : Nat} (hx : fin x = true) (lx : x < 18446744073709551616) : spec_l1Minus.f x = some (decide (9223372036854775808 ≤ x)) := by
  obtain ⟨r, b⟩ := read_sr hx lx
  have v := val_dat r b
  unfold spec_l1Minus.f
  rw [flt_val hx f0, feq_val hx f0, v0, v]
  by_cases c0 : x % 9223372036854775808 = 0
  · rcases (by omega : x = 0 ∨ x = 9223372036854775808) with rfl | rfl <;> decide +kernel
  · have hw : wv (x % 9223372036854775808) ≠ 0 := fun h => c0 (wv_inj (h.trans wv_zero.symm))
    unfold sv
    by_cases c : 9223372036854775808 ≤ x
    · rw [decide_eq_true c]
      simp only [if_true]
      rw [if_pos (by rw [decide_eq_true_eq]; omega)]
    · rw [decide_eq_false c]
      simp only [Bool.false_eq_true, if_false]
      rw [if_neg (by rw [decide_eq_true_eq]; omega), if_neg (by rw [decide_eq_true_eq]; omega)]
theorem same_s {x y : Nat} (nx : isn x = false) (lx : x < 18446744073709551616) (hy : fin y = true) (ly : y < 18446744073709551616) : Ev (fun k => spec_Same.f k x y) (decide (x = y)) := by
  simp only [spec_Same.f, fne_self, nx, fin_isn hy]
  refine evNeg (by decide) (Ev.step (fun k => spec_Same.j0.eq_2 _ _ _ k) (evNeg (by decide) ?_))
  cases hx : fin x with
  | false =>
    have e : feq x y = false := by
      unfold feq Ieee.Format.order
      obtain ⟨s, m, i, ey⟩ := fin_read hy
      rw [ey]
      unfold fin at hx
      unfold isn at nx
      revert hx nx
      cases Ieee.double.read x with
      | number s m e => intro _ h; cases h
      | nan s f => intro h; cases h
      | infinity s => cases s <;> exact fun _ _ => rfl
    rw [e, decide_eq_false (fun h => by rw [h, hy] at hx; cases hx)]
    exact evNeg (by decide) (Ev.now _)
  | true =>
    rw [minus_s hx lx, minus_s hy ly, feq_val hx hy]
    by_cases c : val x = val y
    · refine evPos (decide_eq_true c) (Ev.bind (Ev.now _) (Ev.bind (Ev.now _) ?_))
      have e : (decide (9223372036854775808 ≤ x) == decide (9223372036854775808 ≤ y)) = decide (x = y) := by
        by_cases d : decide (9223372036854775808 ≤ x) = decide (9223372036854775808 ≤ y)
        · rw [decide_eq_true (word_ext hx hy lx ly c d), beq_iff_eq.2 d]
        · have e3 : decide (x = y) = false := decide_eq_false (fun h : x = y => d (by rw [h]))
          rw [e3, beq_eq_false_iff_ne.2 d]
      rw [e]
      exact Ev.now _
    · have e3 : decide (x = y) = false := decide_eq_false (fun h : x = y => c (by rw [h]))
      rw [decide_eq_false c, e3]
      exact evNeg (by decide) (Ev.now _)
theorem same_i {x y : Nat} (nx : isn x = false) (hy : fin y = true) : impl_Same.f y x = some (decide (x = y)) := by
  unfold impl_Same.f
  rw [fin_isn hy, nx, if_neg (by decide), if_neg (by decide)]
  congr 1
  rw [decide_eq_decide]
  exact eq_comm

/-! Round -/
theorem bit63 {t c : Nat} (h1 : 9223372036854775808 ≤ t) (h2 : t < 18446744073709551616) (h3 : 9223372036854775808 ≤ c) (h4 : c < 18446744073709551616) : 9223372036854775808 ≤ t &&& c := by
  have b : (t &&& c).testBit 63 = true := by
    rw [Nat.testBit_and, Nat.testBit_eq_decide_div_mod_eq, Nat.testBit_eq_decide_div_mod_eq, decide_eq_true (by omega), decide_eq_true (by omega)]
    rfl
  have := Nat.ge_two_pow_of_testBit b
  exact this
theorem round_ok {x : Nat} (hx : fin x = true) (lx : x < 18446744073709551616) (hb : (val x).natAbs ≤ 1048576 * 2 ^ 1074) : ∃ r, math_Round.f x = some r ∧ inI r = true := by
  unfold math_Round.f
  rw [fin_isn hx, if_neg (by decide)]
  refine ⟨_, rfl, ?_⟩
  obtain ⟨rd, hR⟩ := read_sr hx lx
  obtain ⟨R, eR⟩ : ∃ R, x % 9223372036854775808 = R := ⟨_, rfl⟩
  rw [eR] at rd hR
  have hv := val_dat rd hR
  have hw : wv R ≤ 1048576 * 2 ^ 1074 := by
    rw [hv] at hb
    unfold sv at hb
    cases hs : decide (9223372036854775808 ≤ x) <;> rw [hs] at hb
    · simp only [Bool.false_eq_true, if_false] at hb; rwa [Int.natAbs_natCast] at hb
    · simp only [if_true] at hb; rwa [Int.natAbs_neg, Int.natAbs_natCast] at hb
  have hE : Go.bits .and .u64 ((x : Int) / 4503599627370496) 2047 = ((R / 4503599627370496 : Nat) : Int) := by
    have key : ∀ y : Nat, y < 4096 → Go.bits .and .u64 (y : Int) 2047 = (y : Int) % 2048 := by
      intro y h
      go_bits2
    have e : (x : Int) / 4503599627370496 = ((x / 4503599627370496 : Nat) : Int) := by omega
    rw [e, key _ (by omega)]
    omega
  have done : ∀ z : Nat, z < 18446744073709551616 → fin z = true → (val z).natAbs ≤ 4611686018427387904 * 2 ^ 1074 → inI (cn z) = true := by
    intro z _ hz hzv
    unfold cn
    rw [fin_isn hz, if_neg (by decide)]
    exact inI_of hz hzv
  obtain ⟨E, hE'⟩ : ∃ E, R / 4503599627370496 = E := ⟨_, rfl⟩
  have hbx : math_Round.b x = if (E : Int) < 1023 then (if ((E : Int) == 1022) = true then Go.bits .or .u64 (Go.bits .and .u64 (x : Int) 9223372036854775808) 4607182418800017408 else Go.bits .and .u64 (x : Int) 9223372036854775808) else if (E : Int) < 1075 then Go.bits .andNot .u64 (IntKind.u64.wrap ((x : Int) + 2251799813685248 / 2 ^ ((E : Int) - 1023).toNat)) (4503599627370495 / 2 ^ ((E : Int) - 1023).toNat) else (x : Int) := by
    unfold math_Round.b
    rw [hE, hE']
  have hand : Go.bits .and .u64 (x : Int) 9223372036854775808 = 0 ∨ Go.bits .and .u64 (x : Int) 9223372036854775808 = 9223372036854775808 := by
    have key : ∀ y : Nat, y < 18446744073709551616 → Go.bits .and .u64 (y : Int) 9223372036854775808 = (y : Int) / 9223372036854775808 % 2 * 9223372036854775808 := by
      intro y h
      go_bits2
    rw [key x lx]
    omega
  rw [hbx]
  by_cases c1 : (E : Int) < 1023
  · rw [if_pos c1]
    by_cases c2 : ((E : Int) == 1022) = true
    · rw [if_pos c2]
      rcases hand with h | h <;> rw [h] <;> decide +kernel
    · rw [if_neg c2]
      rcases hand with h | h <;> rw [h] <;> decide +kernel
  · rw [if_neg c1]
    by_cases c2 : (E : Int) < 1075
    · rw [if_pos c2]
      have hpow : ((2 : Int) ^ ((E : Int) - 1023).toNat) = ((2 ^ ((E : Int) - 1023).toNat : Nat) : Int) := by push_cast; rfl
      rw [hpow]
      have hp := Nat.two_pow_pos ((E : Int) - 1023).toNat
      generalize 2 ^ ((E : Int) - 1023).toNat = P at hp
      obtain ⟨a, ha, ha2⟩ : ∃ a : Nat, (2251799813685248 : Int) / (P : Int) = (a : Int) ∧ a ≤ 2251799813685248 := ⟨2251799813685248 / P, (Int.natCast_ediv 2251799813685248 P).symm, Nat.div_le_self _ _⟩
      obtain ⟨b, hb1, hb2⟩ : ∃ b : Nat, (4503599627370495 : Int) / (P : Int) = (b : Int) ∧ b ≤ 4503599627370495 := ⟨4503599627370495 / P, (Int.natCast_ediv 4503599627370495 P).symm, Nat.div_le_self _ _⟩
      rw [ha, hb1]
      have hRs : R + 4503599627370496 < 9218868437227405312 := by omega
      have hwr : IntKind.u64.wrap ((x : Int) + (a : Int)) = ((x + a : Nat) : Int) := by
        have : IntKind.u64.wrap ((x : Int) + (a : Int)) = ((x : Int) + (a : Int)) % 18446744073709551616 := by simp [IntKind.wrap, IntKind.bits, IntKind.signed]
        rw [this]
        omega
      rw [hwr]
      have hAN := u64_andNot ((x + a : Nat) : Int) (b : Int) (by omega) (by omega) (by omega) (by omega)
      rw [Int.toNat_natCast, Int.toNat_natCast] at hAN
      rw [hAN, Int.toNat_natCast]
      obtain ⟨z, hz⟩ : ∃ z, (x + a) &&& (18446744073709551615 - b) = z := ⟨_, rfl⟩
      rw [hz]
      have hz1 : z ≤ x + a := by rw [← hz]; exact Nat.and_le_left
      have hz2 : 9223372036854775808 ≤ x → 9223372036854775808 ≤ z := fun h => by rw [← hz]; exact bit63 (by omega) (by omega) (by omega) (by omega)
      obtain ⟨S, hS, hzs⟩ : ∃ S, S ≤ R + 4503599627370496 ∧ z = Ieee.double.word (decide (9223372036854775808 ≤ x)) S := by
        unfold Ieee.Format.word
        rw [swd]
        by_cases c : 9223372036854775808 ≤ x
        · rw [decide_eq_true c]
          exact ⟨z - 9223372036854775808, by omega, by rw [if_pos rfl]; have := hz2 c; omega⟩
        · rw [decide_eq_false c]
          exact ⟨z, by omega, by rw [if_neg (by decide)]⟩
      have rz := read_word (decide (9223372036854775808 ≤ x)) S (by omega)
      rw [← hzs] at rz
      refine done z (by omega) (fin_num rz (by omega)) ?_
      rw [val_dat rz (by omega)]
      have hle := wv_le hS
      have htw : wv (R + 4503599627370496) = 2 * wv R := by
        unfold wv
        rw [if_neg (by omega), if_neg (by omega), show (R + 4503599627370496) % 4503599627370496 = R % 4503599627370496 by omega, show (R + 4503599627370496) / 4503599627370496 - 1 = (R / 4503599627370496 - 1) + 1 by omega, Nat.pow_succ, Nat.mul_comm 2, Nat.mul_assoc]
      have hfin : wv S ≤ 4611686018427387904 * 2 ^ 1074 := by
        refine Nat.le_trans hle ?_
        rw [htw]
        refine Nat.le_trans (Nat.mul_le_mul_left 2 hw) ?_
        rw [← Nat.mul_assoc]
        exact Nat.mul_le_mul_right _ (by decide)
      unfold sv
      cases decide (9223372036854775808 ≤ x)
      · simp only [Bool.false_eq_true, if_false]; rw [Int.natAbs_natCast]; exact hfin
      · simp only [if_true]; rw [Int.natAbs_neg, Int.natAbs_natCast]; exact hfin
    · rw [if_neg c2, Int.toNat_natCast]
      exact done x lx hx (Nat.le_trans hb (Nat.mul_le_mul_right _ (by decide)))

/-! tenths -/
structure Ten (n : Int) : Prop where
  fi : fin (F n) = true
  lt : F n < 18446744073709551616
  ml : fmul (F n) 4621819117588971520 = foi n
  sm : fgt (fabs (F n)) 4681608360884174848 = false
  rn : math_Round.f (foi n) = some (foi n)
theorem ten {n : Int} (h1 : -999 ≤ n) (h2 : n ≤ 14999) : Ten n := by
  have h := chk_get h1 h2
  unfold chk at h
  simp only [Bool.and_eq_true, decide_eq_true_eq, beq_iff_eq, Bool.not_eq_true'] at h
  obtain ⟨⟨⟨⟨a, b⟩, c⟩, d⟩, e⟩ := h
  exact ⟨a, b, c, d, e⟩
theorem tenths {a b : Int} (ha : -999 ≤ a) (hb : b ≤ 14999) {x : Nat} (lx : x < 18446744073709551616) : ∃ t, Ev (fun k => impl_ObsOk_1.f k x a b) t ∧ Ev (fun k => spec_l5Part.f k x a b) t := by
  simp only [impl_ObsOk_1.f, spec_l5Part.f, impl_missing.f, fne_self]
  have i0 : ∀ c, c = true → Ev (fun k => impl_inTenths.j0 k x a b c) (0, false) := fun c hc => Ev.step (fun k => impl_inTenths.j0.eq_2 _ _ _ _ k) (evPos hc (Ev.now _))
  cases nx : isn x with
  | true =>
    refine ⟨true, ?_, ?_⟩
    · have : fin x = false := by
        cases h : fin x with
        | false => rfl
        | true => rw [fin_isn h] at nx; cases nx
      refine Ev.bind (a := (0, false)) ?_ (Ev.bind (Ev.now _) (evPos rfl (Ev.now _)))
      simp only [impl_inTenths.f, known_i, this]
      exact Ev.bind (Ev.now _) (evNeg (by decide) (i0 _ rfl))
    · refine Ev.bind (a := (0, false)) ?_ (evPos rfl (Ev.now _))
      simp only [spec_l5Tenths.f, mul_nan nx]
      have : spec_Nearest.f qnan = some (0, false) := by decide +kernel
      rw [this]
      exact Ev.bind (Ev.now _) (evNeg (by decide) (Ev.now _))
  | false =>
    by_cases P : ∃ n, a ≤ n ∧ n ≤ b ∧ x = F n
    · obtain ⟨n, h1, h2, rfl⟩ := P
      have T := ten (n := n) (by omega) (by omega)
      have hn : n.natAbs ≤ 1000000 := by omega
      obtain ⟨fx, hv⟩ := foi_val (n := n) (by omega)
      have ht := toi_of fx hv (by omega)
      have hI : inI (foi n) = true := inI_of fx (by
        rw [hv, Int.natAbs_mul, Int.natAbs_pow, show Int.natAbs 2 = 2 from rfl]
        exact Nat.mul_le_mul_right _ (by omega))
      refine ⟨true, ?_, ?_⟩
      · refine Ev.bind (a := (n, true)) ?_ (Ev.bind (Ev.now _) (evNeg (by decide) (Ev.now _)))
        simp only [impl_inTenths.f, known_i, T.fi, math_Abs.f]
        refine Ev.bind (Ev.now _) (evPos rfl (Ev.bind (Ev.now _) (Ev.step (fun k => impl_inTenths.j0.eq_2 _ _ _ _ k) (evNeg (by rw [T.sm]; decide) ?_))))
        rw [T.ml, T.rn]
        refine Ev.bind (Ev.now _) (evPos hI ?_)
        rw [ht, in_s, (inS_iff n a b).2 ⟨h1, h2⟩]
        refine Ev.bind (Ev.now _) (evPos rfl ?_)
        have : impl_Same.f (fdiv (foi n) 4621819117588971520) (F n) = some true := by
          have := same_i (x := F n) (y := F n) (fin_isn T.fi) T.fi
          rw [decide_eq_true rfl] at this
          exact this
        rw [this]
        exact Ev.bind (Ev.now _) (Ev.now _)
      · refine Ev.bind (a := (n, true)) ?_ (evNeg (by decide) (Ev.now _))
        simp only [spec_l5Tenths.f, T.ml]
        rw [near_foi hn]
        have := same_s (x := F n) (y := F n) (fin_isn T.fi) T.lt T.fi T.lt
        rw [decide_eq_true rfl] at this
        exact Ev.bind (Ev.now _) (evPos rfl (evNeg (by omega) (evNeg (by omega) (Ev.bind this (evPos rfl (Ev.now _))))))
    · have no : ∀ n, a ≤ n → n ≤ b → decide (x = F n) = false := fun n h1 h2 => decide_eq_false (fun h => P ⟨n, h1, h2, h⟩)
      refine ⟨false, ?_, ?_⟩
      · have main : ∃ z : Int, Ev (fun k => impl_inTenths.f k x a b) (z, false) := by
          simp only [impl_inTenths.f, known_i, math_Abs.f]
          cases fx : fin x with
          | false => exact ⟨0, Ev.bind (Ev.now _) (evNeg (by decide) (i0 _ rfl))⟩
          | true =>
            cases hg : fgt (fabs x) 4681608360884174848 with
            | true => exact ⟨0, Ev.bind (Ev.now _) (evPos rfl (Ev.bind (Ev.now _) (by rw [hg]; exact i0 _ rfl)))⟩
            | false =>
              have hx2 : (val x).natAbs ≤ 100000 * 2 ^ 1074 := by
                rw [fgt_val (fabs_fin fx).1 fT, vT, (fabs_fin fx).2, decide_eq_false_iff_not] at hg
                have e : ((100000 * 2 ^ 1074 : Nat) : Int) = 100000 * 2 ^ 1074 := by decide +kernel
                rw [← e] at hg
                generalize (100000 * 2 ^ 1074 : Nat) = B at *
                omega
              have e : ((100000 * 2 ^ 1074 : Nat) : Int) = 100000 * 2 ^ 1074 := by decide +kernel
              have bx : Bt 1074 (-100000) 100000 x := by
                refine ⟨fx, ?_, ?_⟩
                · rw [show (-100000 : Int) * 2 ^ 1074 = -(100000 * 2 ^ 1074) by decide +kernel, ← e]
                  generalize (100000 * 2 ^ 1074 : Nat) = B at *
                  omega
                · rw [← e]
                  generalize (100000 * 2 ^ 1074 : Nat) = B at *
                  omega
              have b10 : Bt 1074 10 10 4621819117588971520 := ⟨by decide +kernel, by decide +kernel, by decide +kernel⟩
              have bm : Bt 1074 (-1000000) 1000000 (fmul x 4621819117588971520) := by
                refine bt_mul (k1 := 1074) (k2 := 1074) (c := 0) (by omega) (by omega) bx b10 ?_ ?_ ?_ ?_ ?_ ?_ ?_ ?_ (by decide) (by decide) <;> decide
              have hl : fmul x 4621819117588971520 < 18446744073709551616 := by
                obtain ⟨s, m, i, ex⟩ := fin_read fx
                obtain ⟨t, n, j, ey⟩ := fin_read b10.1
                unfold fmul Ieee.Format.mul ov
                rw [ex, ey]
                exact near_lt _ _ _
              obtain ⟨r, hr, hI⟩ := round_ok bm.1 hl (by
                have b1 := bm.2.1
                have b2 := bm.2.2
                rw [show (-1000000 : Int) * 2 ^ 1074 = -((1000000 * 2 ^ 1074 : Nat) : Int) by decide +kernel] at b1
                rw [show (1000000 : Int) * 2 ^ 1074 = ((1000000 * 2 ^ 1074 : Nat) : Int) by decide +kernel] at b2
                refine Nat.le_trans ?_ (Nat.mul_le_mul_right (2 ^ 1074) (by decide : 1000000 ≤ 1048576))
                generalize (1000000 * 2 ^ 1074 : Nat) = B at *
                omega)
              refine ⟨toi r, Ev.bind (Ev.now _) (evPos rfl (Ev.bind (Ev.now _) ?_))⟩
              rw [hg]
              refine Ev.step (fun k => impl_inTenths.j0.eq_2 _ _ _ _ k) (evNeg (by decide) ?_)
              rw [hr]
              refine Ev.bind (Ev.now _) (evPos hI ?_)
              rw [in_s]
              cases hin : inS (toi r) a b with
              | false => exact Ev.bind (Ev.now _) (evNeg (by decide) (Ev.now _))
              | true =>
                have hr2 := (inS_iff _ _ _).1 hin
                have T := ten (n := toi r) (by omega) (by omega)
                have := same_i (x := x) (y := F (toi r)) nx T.fi
                rw [no _ hr2.1 hr2.2] at this
                refine Ev.bind (Ev.now _) (evPos rfl ?_)
                have e2 : impl_Same.f (fdiv (foi (toi r)) 4621819117588971520) x = some false := this
                rw [e2]
                exact Ev.bind (Ev.now _) (Ev.now _)
        obtain ⟨z, hz⟩ := main
        exact Ev.bind hz (Ev.bind (Ev.now _) (evNeg (by decide) (Ev.now _)))
      · obtain ⟨⟨m, ok⟩, hm⟩ := near_total (fmul x 4621819117588971520)
        have main : Ev (fun k => spec_l5Tenths.f k x a b) (0, false) := by
          simp only [spec_l5Tenths.f, hm]
          refine Ev.bind (Ev.now _) ?_
          cases ok with
          | false => exact evNeg (by intro h; cases h) (Ev.now _)
          | true =>
            refine evPos rfl ?_
            by_cases c1 : m < a
            · exact evPos c1 (Ev.now _)
            · refine evNeg c1 ?_
              by_cases c2 : m > b
              · exact evPos c2 (Ev.now _)
              · refine evNeg c2 ?_
                have T := ten (n := m) (by omega) (by omega)
                have := same_s (x := x) (y := F m) nx lx T.fi T.lt
                rw [no m (by omega) (by omega)] at this
                exact Ev.bind this (evNeg (by decide) (Ev.now _))
        exact Ev.bind main (evNeg (by decide) (Ev.now _))

/-! whole numbers -/
theorem wholes {a b : Int} (ha : 0 ≤ a) (hb : b ≤ 99990) {x : Nat} (lx : x < 18446744073709551616) : ∃ p q : Int × Bool, Ev (fun k => impl_wholeOf.f k x a b) p ∧ Ev (fun k => spec_l5Is.f k x a b) q ∧ p.2 = q.2 ∧ (p.2 = true → p.1 = q.1 ∧ isn x = false) := by
  have i0 : ∀ c, c = true → Ev (fun k => impl_wholeOf.j0 k x a b c) (0, false) := fun c hc => Ev.step (fun k => impl_wholeOf.j0.eq_2 _ _ _ _ k) (evPos hc (Ev.now _))
  have fo : ∀ n : Int, a ≤ n → n ≤ b → fin (foi n) = true := fun n h1 h2 => (foi_val (n := n) (by omega)).1
  by_cases P : ∃ n, a ≤ n ∧ n ≤ b ∧ x = foi n
  · obtain ⟨n, h1, h2, rfl⟩ := P
    obtain ⟨fx, hv⟩ := foi_val (n := n) (by omega)
    have ht := toi_of fx hv (by omega)
    have hI : inI (foi n) = true := inI_of fx (by
      rw [hv, Int.natAbs_mul, Int.natAbs_pow, show Int.natAbs 2 = 2 from rfl]
      exact Nat.mul_le_mul_right _ (by omega))
    have hg : fgt (fabs (foi n)) 4831355200913801216 = false := by
      rw [fgt_val (fabs_fin fx).1 fE, vE, (fabs_fin fx).2, hv]
      refine decide_eq_false ?_
      rw [Int.natAbs_mul, Int.natAbs_pow, show Int.natAbs 2 = 2 from rfl]
      have := Nat.mul_le_mul_right (2 ^ 1074) (show n.natAbs ≤ 1000000000000000 by omega)
      have e : ((1000000000000000 * 2 ^ 1074 : Nat) : Int) = 1000000000000000 * 2 ^ 1074 := by decide +kernel
      rw [← e]
      have := Int.ofNat_le.2 this
      omega
    refine ⟨(n, true), (n, true), ?_, ?_, rfl, fun _ => ⟨rfl, fin_isn fx⟩⟩
    · simp only [impl_wholeOf.f, known_i, fx, math_Abs.f]
      refine Ev.bind (Ev.now _) (evPos rfl (Ev.bind (Ev.now _) ?_))
      rw [hg]
      refine Ev.step (fun k => impl_wholeOf.j0.eq_2 _ _ _ _ k) (evNeg (by decide) (evPos hI ?_))
      rw [ht, in_s, (inS_iff n a b).2 ⟨h1, h2⟩]
      refine Ev.bind (Ev.now _) (evPos rfl ?_)
      have := same_i (x := foi n) (y := foi n) (fin_isn fx) fx
      rw [decide_eq_true rfl] at this
      rw [this]
      exact Ev.bind (Ev.now _) (Ev.now _)
    · simp only [spec_l5Is.f]
      rw [near_foi (by omega)]
      have := same_s (x := foi n) (y := foi n) (fin_isn fx) (foi_lt _) fx (foi_lt _)
      rw [decide_eq_true rfl] at this
      exact Ev.bind (Ev.now _) (evPos rfl (evNeg (by omega) (evNeg (by omega) (Ev.bind this (evPos rfl (Ev.now _))))))
  · have no : ∀ n, a ≤ n → n ≤ b → decide (x = foi n) = false := fun n h1 h2 => decide_eq_false (fun h => P ⟨n, h1, h2, h⟩)
    have hi : ∃ z : Int, Ev (fun k => impl_wholeOf.f k x a b) (z, false) := by
      simp only [impl_wholeOf.f, known_i, math_Abs.f]
      cases fx : fin x with
      | false => exact ⟨0, Ev.bind (Ev.now _) (evNeg (by decide) (i0 _ rfl))⟩
      | true =>
        cases hg : fgt (fabs x) 4831355200913801216 with
        | true => exact ⟨0, Ev.bind (Ev.now _) (evPos rfl (Ev.bind (Ev.now _) (by rw [hg]; exact i0 _ rfl)))⟩
        | false =>
          have hI : inI x = true := inI_of fx (by
            rw [fgt_val (fabs_fin fx).1 fE, vE, (fabs_fin fx).2, decide_eq_false_iff_not] at hg
            have e : ((1000000000000000 * 2 ^ 1074 : Nat) : Int) = 1000000000000000 * 2 ^ 1074 := by decide +kernel
            rw [← e] at hg
            refine Nat.le_trans ?_ (Nat.mul_le_mul_right (2 ^ 1074) (by decide : 1000000000000000 ≤ 4611686018427387904))
            generalize (1000000000000000 * 2 ^ 1074 : Nat) = B at *
            omega)
          refine ⟨toi x, Ev.bind (Ev.now _) (evPos rfl (Ev.bind (Ev.now _) ?_))⟩
          rw [hg]
          refine Ev.step (fun k => impl_wholeOf.j0.eq_2 _ _ _ _ k) (evNeg (by decide) (evPos hI ?_))
          rw [in_s]
          cases hin : inS (toi x) a b with
          | false => exact Ev.bind (Ev.now _) (evNeg (by decide) (Ev.now _))
          | true =>
            have hr2 := (inS_iff _ _ _).1 hin
            have := same_i (x := x) (y := foi (toi x)) (fin_isn fx) (fo _ hr2.1 hr2.2)
            rw [no _ hr2.1 hr2.2] at this
            rw [this]
            exact Ev.bind (Ev.now _) (evPos rfl (Ev.bind (Ev.now _) (Ev.now _)))
    have hs : Ev (fun k => spec_l5Is.f k x a b) (0, false) := by
      obtain ⟨⟨m, ok⟩, hm⟩ := near_total x
      simp only [spec_l5Is.f, hm]
      refine Ev.bind (Ev.now _) ?_
      cases ok with
      | false => exact evNeg (by intro h; cases h) (Ev.now _)
      | true =>
        have nx : isn x = false := by
          cases h : isn x with
          | false => rfl
          | true =>
            exfalso
            have hf : fin x = false := by
              cases h2 : fin x with
              | false => rfl
              | true => rw [fin_isn h2] at h; cases h
            unfold spec_Nearest.f spec_l1Whole.f at hm
            rw [known_s, Option.bind_some, hf, if_neg (by decide), Option.bind_some, if_neg (by decide)] at hm
            cases hm
        refine evPos rfl ?_
        by_cases c1 : m < a
        · exact evPos c1 (Ev.now _)
        · refine evNeg c1 ?_
          by_cases c2 : m > b
          · exact evPos c2 (Ev.now _)
          · refine evNeg c2 ?_
            have := same_s (x := x) (y := foi m) nx lx (fo m (by omega) (by omega)) (foi_lt _)
            rw [no m (by omega) (by omega)] at this
            exact Ev.bind this (evNeg (by decide) (Ev.now _))
    obtain ⟨z, hz⟩ := hi
    exact ⟨(z, false), (0, false), hz, hs, rfl, fun h => by cases h⟩

/-! the whole observation -/
def sky (w c : Int) : Bool := if w = -1 then (if c = -1 then true else if inS w 0 99 then inS c 0 8 else false) else if inS w 0 99 then inS c 0 8 else false
theorem obs_both (s : Int) (t d p : Nat) (di : Int) (sp vi ra : Nat) (w c : Int) (lt : t < 18446744073709551616) (ld : d < 18446744073709551616) (lp : p < 18446744073709551616) (lsp : sp < 18446744073709551616) (lv : vi < 18446744073709551616) (lr : ra < 18446744073709551616) :
    ∃ b, Ev (fun k => spec_ObsOk.f k s t d p di sp vi ra w c) b ∧ Ev (fun k => impl_ObsOk.f k s t d p di sp vi ra w c) b := by
  obtain ⟨b1, i1, s1⟩ := tenths (a := -999) (b := 999) (by omega) (by omega) lt
  obtain ⟨b2, i2, s2⟩ := tenths (a := -999) (b := 999) (by omega) (by omega) ld
  obtain ⟨b3, i3, s3⟩ := tenths (a := 5000) (b := 14999) (by omega) (by omega) lp
  obtain ⟨b4, i4, s4⟩ := tenths (a := 0) (b := 9999) (by omega) (by omega) lr
  obtain ⟨wi, ws, iw, sw, ew, vw⟩ := wholes (a := 0) (b := 99) (by omega) (by omega) lsp
  obtain ⟨xi, xs, ix, sx, ex, vx⟩ := wholes (a := 0) (b := 99990) (by omega) (by omega) lv
  obtain ⟨wind, hwind⟩ : ∃ wind : Bool, wind = (if di = -1 then fne sp sp else (if wi.2 = true then (if inS di 0 36 = true then ((wi.1 == 0) == (di == 0)) else false) else false)) := ⟨_, rfl⟩
  obtain ⟨bad, hbad⟩ : ∃ bad : Bool, bad = (if isn vi = true then false else (if xi.2 = true then (Int.tmod xi.1 10) != 0 else true)) := ⟨_, rfl⟩
  -- the reference's parts
  have sWind : Ev (fun k => spec_l5WindOk.f k s t d p di sp vi ra w c) wind := by
    simp only [spec_l5WindOk.f]
    rw [hwind]
    by_cases c1 : di = -1
    · rw [if_pos c1]; exact evPos c1 (Ev.now _)
    · rw [if_neg c1]
      refine evNeg c1 (Ev.bind sw ?_)
      rw [← ew]
      cases hw : wi.2 with
      | false =>
        change Ev _ false
        exact evNeg (by decide) (Ev.now _)
      | true =>
        rw [l2In_s, ← (vw hw).1]
        change Ev _ (if inS di 0 36 = true then ((wi.1 == 0) == (di == 0)) else false)
        refine evPos rfl (Ev.bind (Ev.now _) ?_)
        cases hd : inS di 0 36 with
        | false =>
          change Ev _ false
          exact evNeg (by decide) (Ev.now _)
        | true =>
          change Ev _ ((wi.1 == 0) == (di == 0))
          exact evPos rfl (Ev.now _)
  refine ⟨if bad = true then false else (if inS s 1 99999 = true then (if b1 = true then (if b2 = true then (if b3 = true then (if wind = true then (if b4 = true then sky w c else false) else false) else false) else false) else false) else false), ?_, ?_⟩
  · have rest : ∀ y, Ev (fun k => spec_ObsOk.j1 k y s t d p di sp vi ra w c) (if inS s 1 99999 = true then (if b1 = true then (if b2 = true then (if b3 = true then (if wind = true then (if b4 = true then y else false) else false) else false) else false) else false) else false) := by
      intro y
      refine Ev.step (fun k => spec_ObsOk.j1.eq_2 _ _ _ _ _ _ _ _ _ _ _ k) ?_
      rw [l2In_s]
      refine Ev.bind (Ev.now _) ?_
      cases inS s 1 99999
      · rw [if_neg (by decide)]; exact evNeg (by decide) (Ev.now _)
      rw [if_pos rfl]
      refine evPos rfl (Ev.bind s1 ?_)
      cases b1
      · rw [if_neg (by decide)]; exact evNeg (by decide) (Ev.now _)
      rw [if_pos rfl]
      refine evPos rfl (Ev.bind s2 ?_)
      cases b2
      · rw [if_neg (by decide)]; exact evNeg (by decide) (Ev.now _)
      rw [if_pos rfl]
      refine evPos rfl (Ev.bind s3 ?_)
      cases b3
      · rw [if_neg (by decide)]; exact evNeg (by decide) (Ev.now _)
      rw [if_pos rfl]
      refine evPos rfl (Ev.bind sWind ?_)
      cases wind
      · rw [if_neg (by decide)]; exact evNeg (by decide) (Ev.now _)
      rw [if_pos rfl]
      refine evPos rfl (Ev.bind s4 ?_)
      cases b4
      · change Ev _ false
        exact evNeg (by decide) (Ev.now _)
      change Ev _ y
      exact evPos rfl (Ev.now _)
    have j0 : Ev (fun k => spec_ObsOk.j0 k bad s t d p di sp vi ra w c) (if bad = true then false else (if inS s 1 99999 = true then (if b1 = true then (if b2 = true then (if b3 = true then (if wind = true then (if b4 = true then sky w c else false) else false) else false) else false) else false) else false)) := by
      refine Ev.step (fun k => spec_ObsOk.j0.eq_2 _ _ _ _ _ _ _ _ _ _ _ k) ?_
      cases bad
      rotate_left
      · rw [if_pos rfl]; exact evPos rfl (Ev.now _)
      rw [if_neg (by decide)]
      refine evNeg (by decide) ?_
      unfold sky
      have two : Ev (fun k => (spec_l2In.f w 0 99).bind fun t126 => (if t126 = true then ((spec_l2In.f c 0 8).bind fun t127 => (spec_ObsOk.j1 k t127 s t d p di sp vi ra w c)) else (spec_ObsOk.j1 k false s t d p di sp vi ra w c))) (if inS s 1 99999 = true then (if b1 = true then (if b2 = true then (if b3 = true then (if wind = true then (if b4 = true then (if inS w 0 99 = true then inS c 0 8 else false) else false) else false) else false) else false) else false) else false) := by
        simp only [l2In_s]
        refine Ev.bind (Ev.now _) ?_
        cases inS w 0 99
        · exact evNeg (by decide) (rest _)
        · exact evPos rfl (Ev.bind (Ev.now _) (rest _))
      by_cases c1 : w = -1
      · rw [if_pos c1]
        refine evPos c1 ?_
        by_cases c2 : c = -1
        · rw [if_pos c2]; exact evPos c2 (rest _)
        · rw [if_neg c2]; exact evNeg c2 two
      · rw [if_neg c1]; exact evNeg c1 two
    simp only [spec_ObsOk.f, feq_self]
    refine Ev.bind sx ?_
    rw [← ex]
    have hb := hbad
    cases hn : isn vi with
    | true =>
      rw [hn, if_pos rfl] at hb
      rw [hb] at j0
      rw [hb]
      exact evNeg (by decide) j0
    | false =>
      rw [hn, if_neg (by decide)] at hb
      refine evPos rfl ?_
      cases hx : xi.2 with
      | false =>
        rw [hx, if_neg (by decide)] at hb
        rw [hb] at j0
        rw [hb]
        exact evNeg (by decide) j0
      | true =>
        rw [hx, if_pos rfl] at hb
        rw [← (vx hx).1, ← hb]
        exact evPos rfl j0
  · have j2 : ∀ y, Ev (fun k => impl_ObsOk.j2 k y s t d p di sp vi ra w c) (if y = true then false else sky w c) := by
      intro y
      refine Ev.step (fun k => impl_ObsOk.j2.eq_2 _ _ _ _ _ _ _ _ _ _ _ k) ?_
      cases y
      rotate_left
      · change Ev _ false
        exact evPos rfl (Ev.now _)
      change Ev _ (sky w c)
      refine evNeg (by decide) ?_
      unfold sky
      have two : Ev (fun _ : Nat => (impl_in.f w 0 99).bind fun t174 => (if t174 = true then ((impl_in.f c 0 8).bind fun t175 => (some t175)) else (some false))) (if inS w 0 99 = true then inS c 0 8 else false) := by
        simp only [in_s]
        refine Ev.bind (Ev.now _) ?_
        cases inS w 0 99
        · exact evNeg (by decide) (Ev.now _)
        · exact evPos rfl (Ev.bind (Ev.now _) (Ev.now _))
      by_cases c1 : w = -1
      · rw [if_pos c1, if_pos c1]
        by_cases c2 : c = -1
        · rw [if_pos c2, if_pos c2]; exact Ev.now _
        · rw [if_neg c2, if_neg c2]; exact two
      · rw [if_neg c1, if_neg c1]; exact two
    have j1 : Ev (fun k => impl_ObsOk.j1 k s t d p di sp vi ra w c) (if bad = true then false else sky w c) := by
      refine Ev.step (fun k => impl_ObsOk.j1.eq_2 _ _ _ _ _ _ _ _ _ _ k) (Ev.bind ix ?_)
      simp only [impl_missing.f, fne_self]
      refine Ev.bind (Ev.now _) ?_
      have hb := hbad
      cases hn : isn vi with
      | true =>
        rw [hn, if_pos rfl] at hb
        rw [hb]
        exact evPos rfl (j2 false)
      | false =>
        rw [hn, if_neg (by decide)] at hb
        refine evNeg (by decide) ?_
        cases hx : xi.2 with
        | false =>
          rw [hx, if_neg (by decide)] at hb
          rw [hb]
          exact evNeg (by decide) (j2 true)
        | true =>
          rw [hx, if_pos rfl] at hb
          rw [← hb]
          exact evPos rfl (j2 bad)
    have j0 : Ev (fun k => impl_ObsOk.j0 k false s t d p di sp vi ra w c) (if wind = true then (if bad = true then false else sky w c) else false) := by
      refine Ev.step (fun k => impl_ObsOk.j0.eq_2 _ _ _ _ _ _ _ _ _ _ _ k) (evNeg (by decide) ?_)
      have hw := hwind
      by_cases c1 : di = -1
      · rw [if_pos c1] at hw
        refine evPos c1 ?_
        simp only [impl_missing.f]
        refine Ev.bind (Ev.now _) ?_
        rw [← hw]
        cases wind
        · rw [if_neg (by decide)]; exact evNeg (by decide) (Ev.now _)
        · rw [if_pos rfl]; exact evPos rfl j1
      · rw [if_neg c1] at hw
        refine evNeg c1 (Ev.bind iw ?_)
        cases h2 : wi.2 with
        | false =>
          rw [h2, if_neg (by decide)] at hw
          rw [hw, if_neg (by decide)]
          exact evNeg (by decide) (Ev.now _)
        | true =>
          rw [h2, if_pos rfl] at hw
          rw [in_s]
          refine evPos rfl (Ev.bind (Ev.now _) ?_)
          cases hd : inS di 0 36 with
          | false =>
            rw [hd, if_neg (by decide)] at hw
            rw [hw, if_neg (by decide)]
            exact evNeg (by decide) (Ev.now _)
          | true =>
            rw [hd, if_pos rfl] at hw
            refine evPos rfl ?_
            have e : ((wi.1 == 0) != (di == 0)) = !wind := by rw [hw]; rfl
            rw [e]
            cases wind
            · rw [if_neg (by decide)]; exact evPos rfl (Ev.now _)
            · rw [if_pos rfl]; exact evNeg (by decide) j1
    have no : ∀ y, y = true → Ev (fun k => impl_ObsOk.j0 k y s t d p di sp vi ra w c) false := fun y hy => Ev.step (fun k => impl_ObsOk.j0.eq_2 _ _ _ _ _ _ _ _ _ _ _ k) (evPos hy (Ev.now _))
    have swap : (if bad = true then false else (if inS s 1 99999 = true then (if b1 = true then (if b2 = true then (if b3 = true then (if wind = true then (if b4 = true then sky w c else false) else false) else false) else false) else false) else false)) = (if inS s 1 99999 = true then (if b1 = true then (if b2 = true then (if b3 = true then (if b4 = true then (if wind = true then (if bad = true then false else sky w c) else false) else false) else false) else false) else false) else false) := by
      cases bad <;> cases inS s 1 99999 <;> cases b1 <;> cases b2 <;> cases b3 <;> cases b4 <;> cases wind <;> rfl
    rw [swap]
    simp only [impl_ObsOk.f, in_s]
    refine Ev.bind (Ev.now _) ?_
    cases inS s 1 99999
    · rw [if_neg (by decide)]; exact evNeg (by decide) (no _ rfl)
    rw [if_pos rfl]
    refine evPos rfl (Ev.bind i1 ?_)
    cases b1
    · rw [if_neg (by decide)]; exact evNeg (by decide) (no _ rfl)
    rw [if_pos rfl]
    refine evPos rfl (Ev.bind i2 ?_)
    cases b2
    · rw [if_neg (by decide)]; exact evNeg (by decide) (no _ rfl)
    rw [if_pos rfl]
    refine evPos rfl (Ev.bind i3 ?_)
    cases b3
    · rw [if_neg (by decide)]; exact evNeg (by decide) (no _ rfl)
    rw [if_pos rfl]
    refine evPos rfl (Ev.bind i4 ?_)
    cases b4
    · rw [if_neg (by decide)]; exact no _ rfl
    rw [if_pos rfl]
    exact j0

theorem FnExactObsOk (s : Int) (t d p : Nat) (di : Int) (sp vi ra : Nat) (w c : Int) (lt : t < 18446744073709551616) (ld : d < 18446744073709551616) (lp : p < 18446744073709551616) (lsp : sp < 18446744073709551616) (lv : vi < 18446744073709551616) (lr : ra < 18446744073709551616) : ∃ k, laws_FnExactObsOk.f k s t d p di sp vi ra w c = some true := by
  refine Ev.rounds ?_
  obtain ⟨b, h1, h2⟩ := obs_both s t d p di sp vi ra w c lt ld lp lsp lv lr
  simp only [laws_FnExactObsOk.f, laws_toObs.f]
  refine Ev.bind (Ev.now _) (Ev.bind h1 (Ev.bind (Ev.now _) (Ev.bind h2 (evNeg ?_ (Ev.now _)))))
  cases b <;> decide
end Go.Proofs.Ytaophbkedbphnab.Pure
end

section
/- The law FnExactObsOk of this seat holds for all arguments: the row, out of its plain statement and the contract of its Go function; no condition. -/
namespace Go.Proofs.Ytaophbkedbphnab.fnExactObsOk
open Go.ChangeShapes Go.WideShapes Go.ChangeAt Go.RowKit Go.Proofs.Ytaophbkedbphnab.Opens Go.Proofs.Ytaophbkedbphnab.Q Go.Proofs.YtaophbkedbphnabW.PrintWords Go.Proofs.YtaophbkedbphnabW.PrintFlt
open Go.ChangeMaps (open_string shut_string)
set_option linter.unusedVariables false
theorem own : ownKnob Try.prog.godebug = none := by kernel_rfl
theorem laidOut : laidOutB Try.prog = true := by kernel_rfl
theorem opn58 {H : Type} {enc : TypeId × Value → H} {w : World} {base : Nat} {spare : Nat → Bool} {held : Bool} : Opn enc Try.prog w base spare held 58 k58 := by
  intro fuel cs x h
  obtain ⟨xs, n, _, _, hl, hlen, hf⟩ := DataW.trod_struct Try.underlying58 h
  have hs : ∀ i, i < 10 → ∃ z, xs[i]? = some z := fun i hi => ⟨xs[i]'(by rw [hlen]; exact hi), List.getElem?_eq_getElem _⟩
  rw [show Try.prog.cellsOf 58 = 10 from by kernel_rfl] at hl
  obtain ⟨a0, h0⟩ := field_at (off := 0) (s := 1) (opn_int Try.underlying2) (by kernel_rfl) (hs 0 (by decide)) (hf 0 _ rfl)
  obtain ⟨a1, h1⟩ := field_at (off := 1) (s := 1) (opn_float Try.underlying34) (by kernel_rfl) (hs 1 (by decide)) (hf 1 _ rfl)
  obtain ⟨a2, h2⟩ := field_at (off := 2) (s := 1) (opn_float Try.underlying34) (by kernel_rfl) (hs 2 (by decide)) (hf 2 _ rfl)
  obtain ⟨a3, h3⟩ := field_at (off := 3) (s := 1) (opn_float Try.underlying34) (by kernel_rfl) (hs 3 (by decide)) (hf 3 _ rfl)
  obtain ⟨a4, h4⟩ := field_at (off := 4) (s := 1) (opn_int Try.underlying2) (by kernel_rfl) (hs 4 (by decide)) (hf 4 _ rfl)
  obtain ⟨a5, h5⟩ := field_at (off := 5) (s := 1) (opn_float Try.underlying34) (by kernel_rfl) (hs 5 (by decide)) (hf 5 _ rfl)
  obtain ⟨a6, h6⟩ := field_at (off := 6) (s := 1) (opn_float Try.underlying34) (by kernel_rfl) (hs 6 (by decide)) (hf 6 _ rfl)
  obtain ⟨a7, h7⟩ := field_at (off := 7) (s := 1) (opn_float Try.underlying34) (by kernel_rfl) (hs 7 (by decide)) (hf 7 _ rfl)
  obtain ⟨a8, h8⟩ := field_at (off := 8) (s := 1) (opn_int Try.underlying2) (by kernel_rfl) (hs 8 (by decide)) (hf 8 _ rfl)
  obtain ⟨a9, h9⟩ := field_at (off := 9) (s := 1) (opn_int Try.underlying2) (by kernel_rfl) (hs 9 (by decide)) (hf 9 _ rfl)
  exact ⟨⟨a0, a1, a2, a3, a4, a5, a6, a7, a8, a9⟩, (pair_at 0 1 h0 (pair_at 1 1 h1 (pair_at 2 1 h2 (pair_at 3 1 h3 (pair_at 4 1 h4 (pair_at 5 1 h5 (pair_at 6 1 h6 (pair_at 7 1 h7 (pair_at 8 1 h8 (last_at 9 1 hl h9))))))))))⟩
set_option maxRecDepth 100000 in
theorem lifted (os : Os) (started : os.Started) (H : Type) (enc : TypeId × Value → H) :
    ReturnsInHanded {} Try.checked os 7 .any (Rows.fnExactObsOkSpec.pre6 enc Try.prog Try.f7 Rows.fnExactObsOkRow.domain false) (Rows.fnExactObsOkSpec.post enc Try.prog Try.f7 false true false false) := by
  refine returnsInHanded_of_change_sized (C := Try.checked) own started (by kernel_rfl) Try.func7
    (ChangeSpec.witness6 (enc := enc) (C := Try.checked) false ⟨#[], #[.agg #[.int .i64 0, .float .f64 0, .float .f64 0, .float .f64 0, .int .i64 0, .float .f64 0, .float .f64 0, .float .f64 0, .int .i64 0, .int .i64 0]], []⟩ 8 (by kernel_rfl) (by kernel_rfl) (by kernel_rfl) (by kernel_rfl)) ?_
  intro W base args ds gs before hval0 hW hcnd hsz0 _
  have hsz : (DataW.weightsEach Try.prog (Try.f7.params.toList ++ Rows.fnExactObsOkSpec.plain.varTypes Try.prog) (ds ++ gs)).all (· ≤ reachBytes) = true := hsz0
  have hval : ∀ (j : Nat) t v, Try.f7.params[j]? = some t → args[j]? = some v → Value.okWide Try.prog W .any base t v := hval0
  have hW' := hW
  obtain ⟨p, q, hA0, hV, rfl, hfz, hnd⟩ := hW
  have hA : DataW.TrodAll enc Try.prog W 0 (fun _ => true) true Try.f7.params.toList args.toList ds p := hA0
  rw [Try.params7] at hA hval hsz
  obtain ⟨v0, vs0, d0, ds0, p0, q0, hargs, rfl, rfl, h0, r0⟩ := trodAll_cons hA
  obtain ⟨rfl, rfl, rfl⟩ := trodAll_nil r0
  obtain rfl : args = #[v0] := by cases args; simp_all
  obtain ⟨rfl, rfl⟩ := trodVars_none hV
  obtain ⟨cs0, rfl, _⟩ := okWide_struct Try.underlying58 (hval 0 58 v0 rfl rfl)
  have k0 := h0
  have lt0 : ∀ x ∈ p0, x.block < W.heap.size := by obtain ⟨m, hm⟩ := k0; exact DataW.trod_lt m _ _ _ hm
  obtain ⟨x0, hK0⟩ := struct_in opn58 h0
  obtain ⟨b0_1, b0_2, b0_3, b0_5, b0_6, b0_7, e0⟩ := k58_open hK0
  obtain rfl := agg_of e0
  clear hA0 hval0 hsz0 hsz
  obtain ⟨k, hk⟩ := Pure.FnExactObsOk x0.f0 x0.f1 x0.f2 x0.f3 x0.f4 x0.f5 x0.f6 x0.f7 x0.f8 x0.f9 (flt_bits Try.underlying58 (hval 0 58 _ rfl rfl) 1 _ _ rfl) (flt_bits Try.underlying58 (hval 0 58 _ rfl rfl) 2 _ _ rfl) (flt_bits Try.underlying58 (hval 0 58 _ rfl rfl) 3 _ _ rfl) (flt_bits Try.underlying58 (hval 0 58 _ rfl rfl) 5 _ _ rfl) (flt_bits Try.underlying58 (hval 0 58 _ rfl rfl) 6 _ _ rfl) (flt_bits Try.underlying58 (hval 0 58 _ rfl rfl) 7 _ _ rfl)
  refine (laws_FnExactObsOk.calls k x0.f0 b0_1 x0.f1 b0_2 x0.f2 b0_3 x0.f3 x0.f4 b0_5 x0.f5 b0_6 x0.f6 b0_7 x0.f7 x0.f8 x0.f9 true W  hk).mono fun e W' hp_ => ?_
  obtain ⟨rfl, hb_⟩ := hp_
  have bel : Below W.heap.size W W' := hb_
  exact ⟨_, rfl, _, _, _, [], _, [], hW', trodAll_mk1 (shut_bool Try.underlying4 _), (trodAll_cons_mk (Below.trod laidOut (by kernel_rfl) (of_decide_eq_true (by kernel_rfl)) k0 bel lt0) trodAll_mk0), rfl, bel.frame _, fun h => by cases h⟩
theorem over : Rows.fnExactObsOkRow.holds Try.pinned (OpenSpec.ofChange Rows.fnExactObsOkSpec) :=
  OpenClaim.holds_of_wide 7 Try.f7 rfl rfl rfl rfl rfl rfl rfl ⟨rfl, rfl, rfl, rfl, rfl⟩ rfl rfl rfl rfl rfl (by kernel_rfl) Try.func7 (by kernel_rfl)
    (of_decide_eq_true (by kernel_rfl)) (by unfold Func.isWrapper; first | (rw [if_pos (by decide +kernel)]; kernel_rfl) | (rw [if_neg (by decide +kernel)]; exact ⟨rfl, rfl⟩))
    (fun os started H enc _ => lifted os started H enc)
theorem proved : Rows.FnExactObsOkSaid := over
end Go.Proofs.Ytaophbkedbphnab.fnExactObsOk
namespace Go.Proofs.Ytaophbkedbphnab
/-- The row, under a short name, for the claim. -/
theorem fnExactObsOk_holds : Rows.FnExactObsOkSaid := fnExactObsOk.proved
#print axioms fnExactObsOk_holds
end Go.Proofs.Ytaophbkedbphnab
end
