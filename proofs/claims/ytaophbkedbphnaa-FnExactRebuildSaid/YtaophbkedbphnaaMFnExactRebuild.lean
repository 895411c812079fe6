import Derived.Test.YtaophbkedbphnaaWWords
import Derived.Test.YtaophbkedbphnaaWMore
import Derived.Deep.Slices
import Derived.ChangeArms
import Derived.WideShapes
import Derived.Test.YtaophbkedbphnaaFlt
import Derived.Test.YtaophbkedbphnaaFltL
import Derived.Test.YtaophbkedbphnaaQx1
import Derived.Test.YtaophbkedbphnaaQx2
import Derived.Test.YtaophbkedbphnaaQx3
import Derived.Test.YtaophbkedbphnaaQx4
import Derived.Test.YtaophbkedbphnaaQx5
import Derived.Test.YtaophbkedbphnaaQx6
import Derived.Test.YtaophbkedbphnaaQx13
import Derived.Test.YtaophbkedbphnaaQx14
import Derived.Test.YtaophbkedbphnaaQx17
import Derived.Test.YtaophbkedbphnaaQx18
import Derived.Test.YtaophbkedbphnaaQx19
import Derived.Test.YtaophbkedbphnaaQx20
import Derived.Test.YtaophbkedbphnaaQx7
import Derived.Test.YtaophbkedbphnaaQx8
import Derived.Test.YtaophbkedbphnaaQx9
import Derived.Test.YtaophbkedbphnaaQx10
import Derived.Test.YtaophbkedbphnaaQx11
import Derived.Test.YtaophbkedbphnaaQx12
import Derived.Test.YtaophbkedbphnaaQx21
import Derived.Test.YtaophbkedbphnaaQx22
import Derived.Test.YtaophbkedbphnaaQx23
import Derived.Test.YtaophbkedbphnaaQx24
import Derived.Test.YtaophbkedbphnaaQx25
import Derived.Test.YtaophbkedbphnaaQx26
import Derived.Test.YtaophbkedbphnaaRows
import Derived.WalkKit
import Derived.ProofKit
import Derived.OpenShut
import Derived.ShutString
import Derived.ChangeOld
import Derived.Below
import Derived.SizedLaws
import Derived.Laws.Cover2

section
/- Arguments of any shape, opened: what a datum's reading says of its cells, by kinds; no condition. -/
set_option linter.unusedVariables false
set_option linter.unusedSimpArgs false
namespace Go.Proofs.Ytaophbkedbphnaa.Opens
open Go.RowKit Go.Proofs.YtaophbkedbphnaaW.PrintWords Go.Deep

section
variable {H : Type} {enc : TypeId × Value → H} {P : Program} {w : World} {base : Nat} {spare : Nat → Bool} {held : Bool}
/-- Whatever is read as type t is told by the kind d. -/
def Opn (enc : TypeId × Value → H) (P : Program) (w : World) (base : Nat) (spare : Nat → Bool) (held : Bool) (t : TypeId) {α : Type} (d : Kd α) : Prop :=
  ∀ (fuel : Nat) (cs : List Value) (x : DataW H × List MemPlace), DataW.trod enc P w base spare held fuel t cs = some x → ∃ a : α, d.K w a cs

theorem opn_int {t : TypeId} {k : IntKind} (ht : P.underlying t = some (.int k)) : Opn enc P w base spare held t (Kd.int k) := fun fuel cs x h => by
  obtain ⟨n, rfl, _⟩ := DataW.trod_int ht h
  exact ⟨n, rfl⟩
theorem opn_bool {t : TypeId} (ht : P.underlying t = some .bool) : Opn enc P w base spare held t Kd.bool := fun fuel cs x h => by
  obtain ⟨b, rfl, _⟩ := DataW.trod_bool ht h
  exact ⟨b, rfl⟩
theorem opn_string {t : TypeId} (ht : P.underlying t = some .string) : Opn enc P w base spare held t Kd.string := fun fuel cs x h => by
  obtain ⟨s, rfl, _⟩ := DataW.trod_string ht h
  exact ⟨s, rfl⟩

theorem opn_slice {α : Type} (z : α) {d : Kd α} {t e : TypeId} (ht : P.underlying t = some (.slice e)) (hs : P.cellsOf e = d.sz) (h : Opn enc P w base spare held e d) : Opn enc P w base spare held t (Kd.slice e d) := by
  intro fuel cs x hx
  rcases open_slice ht hx with ⟨rfl, _⟩ | ⟨a, len, cap, m, n, D, Pl, rfl, _, hl, hm, hmm, _, hel⟩
  · exact ⟨[], none, 0, rfl, Nat.le_refl _, Kd.C_nil _ _⟩
  have hle : len ≤ m := by rw [hmm]; split <;> omega
  haveI : Inhabited α := ⟨z⟩
  obtain ⟨f, hf⟩ := choose_lt (α := α) (n := len) (p := fun i x => ∃ cs', w.cells? base (a.add (i * P.cellsOf e)) (P.cellsOf e) = some cs' ∧ d.K w x cs') (fun i hi => by
    obtain ⟨cs', h1, h2⟩ := hel i (by omega)
    obtain ⟨x, hk⟩ := h n cs' _ h2
    exact ⟨x, cs', h1, hk⟩)
  refine ⟨(List.range len).map f, some a, cap, by simp, by simpa using hl, ?_⟩
  refine ⟨by simp, by unfold maxLen at hm; simp; omega, fun hp => ⟨a, rfl, fun j p hj => ?_⟩⟩
  have hj' : j < len := by have := (List.getElem?_eq_some_iff.1 hj).1; simpa using this
  simp [hj'] at hj
  obtain ⟨cs', h1, h2⟩ := hf j hj'
  subst hj
  refine ⟨cs', d.K_len h2, h2, fun i u hu => ?_⟩
  obtain ⟨_, hlen, hcell⟩ := World.cells?_some h1
  have hi : i < P.cellsOf e := by have := (List.getElem?_eq_some_iff.1 hu).1; omega
  rw [← hs, ← Go.Deep.add_add, hcell i hi]
  exact hu

/-- Two in line, at a place of the cells. -/
theorem pair_at {α β : Type} {a : Kd α} {b : Kd β} {x : α} {y : β} {cs : List Value} (off s : Nat) (h0 : a.K w x ((cs.drop off).take s)) (h1 : b.K w y (cs.drop (off + s))) : (Kd.pair a b).K w (x, y) (cs.drop off) :=
  ⟨(cs.drop off).take s, (cs.drop off).drop s, (List.take_append_drop _ _).symm, h0, by rw [List.drop_drop]; exact h1⟩
theorem last_at {α : Type} {a : Kd α} {x : α} {cs : List Value} (off s : Nat) (hl : cs.length = off + s) (h0 : a.K w x ((cs.drop off).take s)) : a.K w x (cs.drop off) := by
  rwa [List.take_of_length_le (by simp; omega)] at h0
/-- A field's reading. -/
theorem field_at {α : Type} {d : Kd α} {t off s n : Nat} {cs : List Value} {y : Option (DataW H × List MemPlace)} (h : Opn enc P w base spare held t d) (hs : P.cellsOf t = s) (hy : ∃ z, y = some z)
    (hf : DataW.trod enc P w base spare held n t ((cs.drop off).take (P.cellsOf t)) = y) : ∃ a : α, d.K w a ((cs.drop off).take s) := by
  obtain ⟨z, rfl⟩ := hy
  subst hs
  exact h n _ _ hf
end

/-- A slice that came in. -/
theorem slice_in {H : Type} {enc : TypeId × Value → H} {P : Program} {w : World} {base : Nat} {spare : Nat → Bool} {held : Bool} {α : Type} {d : Kd α} {t e : TypeId} {a : Option Addr} {len cap : Nat} {D : DataW H} {p : List MemPlace}
    (h : Opn enc P w base spare held t (Kd.slice e d)) (hd : DataW.Trod enc P w base spare held t (.slice a len cap) D p) :
    ∃ l : List α, len = l.length ∧ l.length ≤ cap ∧ l.length ≤ 9223372036854775807 ∧ d.C w a l.length l := by
  obtain ⟨fuel, hf⟩ := hd
  obtain ⟨l, A, c, he, hl, hC⟩ := h fuel _ _ hf
  simp [Value.cells] at he
  obtain ⟨rfl, rfl, rfl⟩ := he
  exact ⟨l, rfl, hl, hC.2.1, hC⟩
/-- A struct that came in. -/
theorem struct_in {H : Type} {enc : TypeId × Value → H} {P : Program} {w : World} {base : Nat} {spare : Nat → Bool} {held : Bool} {α : Type} {d : Kd α} {t : TypeId} {cs : Array Value} {D : DataW H} {p : List MemPlace}
    (h : Opn enc P w base spare held t d) (hd : DataW.Trod enc P w base spare held t (.agg cs) D p) : ∃ x : α, d.K w x cs.toList := by
  obtain ⟨fuel, hf⟩ := hd
  exact h fuel _ _ hf
theorem agg_of {cs : Array Value} {l : List Value} (h : cs.toList = l) : cs = l.toArray := by rw [← h]
/-- An element of a row that is read. -/
theorem row_K {α : Type} {d : Kd α} {w : World} {A : Option Addr} {n : Nat} {xs : List α} (h : d.C w A n xs) {x : α} (hx : x ∈ xs) : ∃ cs, d.K w x cs := by
  obtain ⟨j, hj, rfl⟩ := List.mem_iff_getElem.mp hx
  obtain ⟨ad, _, hc⟩ := h.2.2 (by have := h.1; omega)
  obtain ⟨c, _, hr, _⟩ := hc j _ (List.getElem?_eq_getElem hj)
  exact ⟨c, hr⟩
end Go.Proofs.Ytaophbkedbphnaa.Opens
end

section
/- Floats among the arguments, opened; no condition. -/
set_option linter.unusedVariables false
set_option linter.unusedSimpArgs false
namespace Go.Proofs.Ytaophbkedbphnaa.Opens
open Go.RowKit Go.Proofs.YtaophbkedbphnaaW.PrintWords Go.Proofs.YtaophbkedbphnaaW.PrintFlt Go.Deep
section
variable {H : Type} {enc : TypeId × Value → H} {P : Program} {w : World} {base : Nat} {spare : Nat → Bool} {held : Bool} {t : TypeId}
theorem trod_flt {fuel : Nat} {cs : List Value} {x : DataW H × List MemPlace} {k : FloatKind} (ht : P.underlying t = some (.float k)) (h : DataW.trod enc P w base spare held fuel t cs = some x) : ∃ b, cs = [.float k b] := by
  cases fuel with
  | zero => simp [DataW.trod] at h
  | succ n =>
    unfold DataW.trod at h
    rw [ht] at h
    split at h <;> simp_all
theorem opn_float (ht : P.underlying t = some (.float .f64)) : Opn enc P w base spare held t Kd.flt := fun fuel cs x h => by
  obtain ⟨b, rfl⟩ := trod_flt ht h
  exact ⟨cn b, b, by rw [un_cn]⟩
end
end Go.Proofs.Ytaophbkedbphnaa.Opens
end

section
/- What the helpers of the laws answer for lists of Level: copies, comparisons, marks; for lists of at most 2^20 elements. -/
set_option linter.unusedVariables false
set_option linter.unusedSimpArgs false
namespace Go.Proofs.Ytaophbkedbphnaa.Gen
open Go.RowKit Go.Proofs.Ytaophbkedbphnaa.Q Go.Proofs.YtaophbkedbphnaaW.PrintWords Go.Proofs.YtaophbkedbphnaaW.PrintMore Go.Proofs.YtaophbkedbphnaaW.PrintFlt

theorem sameFloat_ev (x : Nat) : Ev (fun k => laws_sameFloat.f k x x) true := by
  have hj : Ev (fun k => laws_sameFloat.j0 k x x (fne x x)) true := by
    refine Ev_succ fun k => ?_
    simp only [laws_sameFloat.j0]
    cases h : fne x x with
    | true => rw [if_pos rfl, if_pos rfl]
    | false =>
      rw [if_neg (by decide)]
      have h2 : feq x x = true := by rw [fne_eq] at h; simpa using h
      by_cases h3 : feq x 0 = true
      · rw [if_pos h3, if_pos h3, beq_self_eq_true]
      · rw [if_neg h3, h2]
  simp only [laws_sameFloat.f]
  by_cases h : fne x x = true
  · rw [h] at hj
    exact evPos h hj
  · exact evNeg h hj

theorem rdset62 (l : List S62) (e : S62) (j : Nat) (h : j < l.length) : rd_T62 (l.set j e) (j : Int) = e := by simp [rd_T62, List.getD_eq_getElem?_getD, h]
theorem rdn62 (l : List S62) (j : Nat) : rd_T62 l (j : Int) = l.getD j z62 := by simp [rd_T62]
def convLevel (x : S66) : S62 := ⟨x.f0, x.f1⟩
theorem toLevel_eq (x : S66) : laws_toLevel.f x.f0 x.f1 = some (x.f0, x.f1) := by unfold laws_toLevel.f; rfl
theorem toLevelS_ev (l : List S66) (h : l.length ≤ 1048576) : Ev (fun k => laws_toLevelS.f k l) (l.map convLevel) := by
  simp only [laws_toLevelS.f]
  refine evPos (by omega) (evPos (by simp; omega) ?_)
  have := count (fun k i (s : List S62) => laws_toLevelS.l0 k l s i) l.length (fun j => mixed (l.map convLevel) (List.replicate l.length z62) j) (l.map convLevel) ?_ ?_ 0 (by omega)
  · simpa [mixed_zero] using this
  · intro j hj
    refine ⟨0, fun k _ => ?_⟩
    simp only [laws_toLevelS.l0]
    rw [if_pos (by omega), if_pos (by omega), toLevel_eq, Option.bind_some, if_pos (by rw [mixed_length _ _ _ (by simp)]; simp; omega), up1 (by omega), Int.toNat_natCast]
    have hm := mixed_set (l.map convLevel) (List.replicate l.length z62) z62 j (by simp) (by simpa using hj)
    rw [← hm]
    congr 2
    simp [rd_T66, convLevel, List.getD_eq_getElem?_getD, hj]
  · refine Ev_succ (fun k => ?_)
    simp only [laws_toLevelS.l0]
    have hm := mixed_all (l.map convLevel) (List.replicate l.length z62) (by simp)
    rw [List.length_map] at hm
    rw [if_neg (by omega), hm]

theorem eqLevel_ev (x : S62) : Ev (fun k => laws_eqLevel.f k x.f0 x.f1 x.f0 x.f1) true := by
  simp only [laws_eqLevel.f]
  repeat' first | exact Ev.now _ | refine Ev.bind (sameFloat_ev _) (evPos rfl ?_) | refine evPos rfl ?_
theorem eqLevelS_ev (l : List S62) (h : l.length ≤ 1099511627776) : Ev (fun k => laws_eqLevelS.f k l l) true := by
  simp only [laws_eqLevelS.f]
  refine evPos trivial ?_
  refine scanE (fun k i => laws_eqLevelS.l0 k l l i) l.length (fun _ => true) ?_ ?_ 0 (by omega)
  · intro j hj ih
    refine Ev.step (fun k => laws_eqLevelS.l0.eq_2 _ _ _ k) ?_
    refine evPos (by omega) (evPos (by omega) (evPos (by omega) (Ev.bind (eqLevel_ev _) (evPos rfl ?_))))
    rw [up1 (by omega)]
    exact ih
  · refine Ev_succ (fun k => ?_)
    simp only [laws_eqLevelS.l0]
    rw [if_neg (by omega)]

theorem szLevelS_ok (l : List S66) (h : l.length ≤ 1048576) : Ev (fun _ : Nat => laws_szLevelS.f l 1048576) (1048576 - (l.length : Int)) := by
  unfold laws_szLevelS.f
  rw [w64 (x := 1048576 - (l.length : Int)) (by omega) (by omega), if_neg (by omega)]
  exact Ev.now _
theorem szLevelS_big (l : List S66) (h0 : l.length ≤ 9223372036854775807) (h : ¬ l.length ≤ 1048576) : Ev (fun _ : Nat => laws_szLevelS.f l 1048576) (-1) := by
  unfold laws_szLevelS.f
  rw [w64 (x := 1048576 - (l.length : Int)) (by omega) (by omega), if_pos (by omega)]
  exact Ev.now _

end Go.Proofs.Ytaophbkedbphnaa.Gen
end

section
/- Ascents: program and reference take the same lists of levels for ascents; for lists of at most 2^20 levels. -/
set_option linter.unusedVariables false
set_option linter.unusedSimpArgs false
namespace Go.Proofs.Ytaophbkedbphnaa.Gen
open Go.RowKit Go.Proofs.Ytaophbkedbphnaa.Q Go.Proofs.YtaophbkedbphnaaW.PrintWords Go.Proofs.YtaophbkedbphnaaW.PrintMore Go.Proofs.YtaophbkedbphnaaW.PrintFlt

theorem l2In_eq (a b c : Int) : spec_l2In.f a b c = some (decide (b ≤ a) && decide (a ≤ c)) := by
  unfold spec_l2In.f; by_cases h : a ≥ b <;> simp [h, show b ≤ a ↔ a ≥ b from Iff.rfl]
theorem in_eq (a b c : Int) : impl_in.f a b c = some (decide (b ≤ a) && decide (a ≤ c)) := by
  unfold impl_in.f; by_cases h : a ≥ b <;> simp [h, show b ≤ a ↔ a ≥ b from Iff.rfl]
theorem known_spec (x : Nat) : spec_Known.f x = some (fin x) := by
  unfold spec_Known.f
  rw [known1]
theorem known_impl (x : Nat) : impl_Known.f x = some (fin x) := by
  unfold impl_Known.f impl_missing.f math_IsInf.f math_Abs.f
  rw [← known2 x, Option.bind_some, fne_self]
  cases h : isn x with
  | true => rfl
  | false => rfl

def prA (l : List S62) (i : Nat) : Int := (l.getD i z62).f0
def tmA (l : List S62) (i : Nat) : Nat := (l.getD i z62).f1
def stepOk (l : List S62) (j : Nat) : Bool :=
  (decide (1 ≤ prA l j) && decide (prA l j ≤ 12000)) && (decide (j = 0) || decide (prA l j < prA l (j - 1))) && fin (tmA l j) && !flt (tmA l j) 13864612927836782592 && !fgt (tmA l j) 4641240890982006784
def ascFrom (l : List S62) : Nat → Nat → Bool
  | 0, _ => true
  | t + 1, j => stepOk l j && ascFrom l t (j + 1)
def ascOk (l : List S62) : Bool := decide (2 ≤ l.length) && decide (l.length ≤ 400) && ascFrom l l.length 0

theorem asc_spec (l : List S62) (hl : l.length ≤ 1048576) : ∀ t j, j + t = l.length → Ev (fun k => spec_AscentOk.l0 k l (j : Int)) (ascFrom l t j) := by
  intro t
  induction t with
  | zero =>
    intro j h
    refine Ev_succ fun k => ?_
    simp only [spec_AscentOk.l0]
    rw [if_neg (by omega)]
    rfl
  | succ t ih =>
    intro j h
    have IH := ih (j + 1) (by omega)
    have J : ∀ b, Ev (fun k => spec_AscentOk.j2 k l (j : Int) b) (!b && ascFrom l t (j + 1)) := by
      intro b
      refine Ev.step (fun k => spec_AscentOk.j2.eq_2 _ _ _ k) ?_
      cases b with
      | true => exact evPos rfl (Ev.now _)
      | false =>
        refine evNeg (by decide) ?_
        rw [up1 (by omega)]
        simpa using IH
    have R : ∀ b, b = !stepOk l j → Ev (fun k => spec_AscentOk.j2 k l (j : Int) b) (ascFrom l (t + 1) j) := by
      rintro b rfl
      have := J (!stepOk l j)
      rw [Bool.not_not] at this
      exact this
    refine Ev.step (fun k => spec_AscentOk.l0.eq_2 _ _ k) ?_
    simp only [l2In_eq, known_spec, Option.bind_some, rdn62]
    refine evPos (by omega) (evPos (by omega) ?_)
    have T : (decide (1 ≤ prA l j) && decide (prA l j ≤ 12000)) = true → (decide (j = 0) || decide (prA l j < prA l (j - 1))) = true → Ev (fun k => if fin (tmA l j) = true then (if flt (tmA l j) 13864612927836782592 = true then spec_AscentOk.j2 k l (j : Int) true else spec_AscentOk.j2 k l (j : Int) (fgt (tmA l j) 4641240890982006784)) else spec_AscentOk.j2 k l (j : Int) true) (ascFrom l (t + 1) j) := by
      intro d1 d2
      by_cases c4 : fin (tmA l j) = true
      · refine evPos c4 ?_
        by_cases c5 : flt (tmA l j) 13864612927836782592 = true
        · exact evPos c5 (R _ (by unfold stepOk; rw [d1, d2, c4, c5]; rfl))
        · refine evNeg c5 (R _ ?_)
          rw [Bool.not_eq_true] at c5
          unfold stepOk
          rw [d1, d2, c4, c5]
          cases fgt (tmA l j) 4641240890982006784 <;> rfl
      · refine evNeg c4 (R _ ?_)
        rw [Bool.not_eq_true] at c4
        unfold stepOk
        rw [d1, d2, c4]
        rfl
    by_cases c1 : (decide (1 ≤ prA l j) && decide (prA l j ≤ 12000)) = true
    · refine evPos c1 ?_
      by_cases c2 : (j : Int) > 0
      · refine evPos c2 ?_
        have e : wrap64 ((j : Int) - 1) = ((j - 1 : Nat) : Int) := by rw [w64 (by omega) (by omega)]; omega
        simp only [e, rdn62]
        refine evPos (by omega) (evPos (by omega) ?_)
        by_cases c3 : prA l j ≥ prA l (j - 1)
        · refine evPos c3 (R _ ?_)
          have hd : (decide (j = 0) || decide (prA l j < prA l (j - 1))) = false := by simp; omega
          unfold stepOk
          rw [c1, hd]
          rfl
        · exact evNeg c3 (T c1 (by simp; omega))
      · exact evNeg c2 (T c1 (by simp; omega))
    · refine evNeg c1 (R _ ?_)
      rw [Bool.not_eq_true] at c1
      unfold stepOk
      rw [c1]
      rfl

theorem asc_impl (l : List S62) (hl : l.length ≤ 1048576) : ∀ t j, j + t = l.length → Ev (fun k => impl_AscentOk.l0 k l l (l.length : Int) (j : Int)) (ascFrom l t j) := by
  intro t
  induction t with
  | zero =>
    intro j h
    refine Ev_succ fun k => ?_
    simp only [impl_AscentOk.l0]
    rw [if_neg (by omega)]
    rfl
  | succ t ih =>
    intro j h
    have IH := ih (j + 1) (by omega)
    have J : ∀ b, Ev (fun k => impl_AscentOk.j1 k l l (l.length : Int) (j : Int) b) (!b && ascFrom l t (j + 1)) := by
      intro b
      refine Ev.step (fun k => impl_AscentOk.j1.eq_2 _ _ _ _ _ k) ?_
      cases b with
      | true => exact evPos rfl (Ev.now _)
      | false =>
        refine evNeg (by decide) ?_
        rw [up1 (by omega)]
        simpa using IH
    have R : ∀ b, b = !stepOk l j → Ev (fun k => impl_AscentOk.j1 k l l (l.length : Int) (j : Int) b) (ascFrom l (t + 1) j) := by
      rintro b rfl
      have := J (!stepOk l j)
      rw [Bool.not_not] at this
      exact this
    refine Ev.step (fun k => impl_AscentOk.l0.eq_2 _ _ _ _ k) ?_
    simp only [in_eq, known_impl, Option.bind_some, rdn62]
    refine evPos (by omega) (evPos (by omega) (evPos (by omega) ?_))
    have T : (decide (1 ≤ prA l j) && decide (prA l j ≤ 12000)) = true → (decide (j = 0) || decide (prA l j < prA l (j - 1))) = true → Ev (fun k => if fin (tmA l j) = true then (if flt (tmA l j) 13864612927836782592 = true then impl_AscentOk.j1 k l l (l.length : Int) (j : Int) true else impl_AscentOk.j1 k l l (l.length : Int) (j : Int) (fgt (tmA l j) 4641240890982006784)) else impl_AscentOk.j1 k l l (l.length : Int) (j : Int) true) (ascFrom l (t + 1) j) := by
      intro d1 d2
      by_cases c4 : fin (tmA l j) = true
      · refine evPos c4 ?_
        by_cases c5 : flt (tmA l j) 13864612927836782592 = true
        · exact evPos c5 (R _ (by unfold stepOk; rw [d1, d2, c4, c5]; rfl))
        · refine evNeg c5 (R _ ?_)
          rw [Bool.not_eq_true] at c5
          unfold stepOk
          rw [d1, d2, c4, c5]
          cases fgt (tmA l j) 4641240890982006784 <;> rfl
      · refine evNeg c4 (R _ ?_)
        rw [Bool.not_eq_true] at c4
        unfold stepOk
        rw [d1, d2, c4]
        rfl
    by_cases c1 : (decide (1 ≤ prA l j) && decide (prA l j ≤ 12000)) = true
    · refine evPos c1 ?_
      by_cases c2 : (j : Int) > 0
      · refine evPos c2 ?_
        have e : wrap64 ((j : Int) - 1) = ((j - 1 : Nat) : Int) := by rw [w64 (by omega) (by omega)]; omega
        simp only [e, rdn62]
        refine evPos (by omega) (evPos (by omega) ?_)
        by_cases c3 : prA l j ≥ prA l (j - 1)
        · refine evPos c3 (R _ ?_)
          have hd : (decide (j = 0) || decide (prA l j < prA l (j - 1))) = false := by simp; omega
          unfold stepOk
          rw [c1, hd]
          rfl
        · exact evNeg c3 (T c1 (by simp; omega))
      · exact evNeg c2 (T c1 (by simp; omega))
    · refine evNeg c1 (R _ ?_)
      rw [Bool.not_eq_true] at c1
      unfold stepOk
      rw [c1]
      rfl

theorem ascent_spec (l : List S62) (hl : l.length ≤ 1048576) : Ev (fun k => spec_AscentOk.f k l) (ascOk l) := by
  have J : ∀ b, b = !(decide (2 ≤ l.length) && decide (l.length ≤ 400)) → Ev (fun k => spec_AscentOk.j0 k l b) (ascOk l) := by
    rintro b rfl
    refine Ev.step (fun k => spec_AscentOk.j0.eq_2 _ _ k) ?_
    have h0 := asc_spec l hl l.length 0 (by omega)
    unfold ascOk
    cases h : (decide (2 ≤ l.length) && decide (l.length ≤ 400)) with
    | true => exact evNeg (by decide) (by simpa using h0)
    | false => exact evPos rfl (by simpa using Ev.now false)
  simp only [spec_AscentOk.f]
  by_cases c : (l.length : Int) < 2
  · exact evPos c (J _ (by simp; omega))
  · refine evNeg c (J _ ?_)
    have h1 : decide (2 ≤ l.length) = true := by simp; omega
    rw [h1, Bool.true_and]
    by_cases h : l.length ≤ 400
    · simp [h]; omega
    · simp [h]; omega
theorem ascent_impl (l : List S62) (hl : l.length ≤ 1048576) : Ev (fun k => impl_AscentOk.f k l) (ascOk l) := by
  simp only [impl_AscentOk.f, in_eq, Option.bind_some]
  have h0 := asc_impl l hl l.length 0 (by omega)
  by_cases h : 2 ≤ l.length ∧ l.length ≤ 400
  · refine evPos (by simp; omega) ?_
    have : ascOk l = ascFrom l l.length 0 := by simp [ascOk, h.1, h.2]
    rw [this]
    simpa using h0
  · refine evNeg (by simp; omega) ?_
    have : ascOk l = false := by
      unfold ascOk
      have : (decide (2 ≤ l.length) && decide (l.length ≤ 400)) = false := by simp; omega
      rw [this]
      rfl
    rw [this]
    exact Ev.now _
theorem ascOk_len {l : List S62} (h : ascOk l = true) : 2 ≤ l.length ∧ l.length ≤ 400 := by
  unfold ascOk at h
  simp only [Bool.and_eq_true, decide_eq_true_eq] at h
  exact h.1
theorem ascFrom_at {l : List S62} : ∀ t j, ascFrom l t j = true → ∀ i, j ≤ i → i < j + t → stepOk l i = true := by
  intro t
  induction t with
  | zero => intro j _ i h1 h2; omega
  | succ t ih =>
    intro j h i h1 h2
    unfold ascFrom at h
    rw [Bool.and_eq_true] at h
    by_cases hi : i = j
    · rw [hi]; exact h.1
    · exact ih (j + 1) h.2 i (by omega) (by omega)
theorem ascOk_at {l : List S62} (h : ascOk l = true) (i : Nat) (hi : i < l.length) : stepOk l i = true := by
  unfold ascOk at h
  rw [Bool.and_eq_true] at h
  exact ascFrom_at _ _ h.2 i (by omega) (by omega)
end Go.Proofs.Ytaophbkedbphnaa.Gen
end

section
/- The plain statement of the law FnExactRebuild: program and reference read the same temperature out of every list of levels at every pressure; no condition. -/
set_option linter.unusedVariables false
set_option linter.unusedSimpArgs false
namespace Go.Proofs.Ytaophbkedbphnaa.Pure
open Go.RowKit Go.Proofs.Ytaophbkedbphnaa.Q Go.Proofs.Ytaophbkedbphnaa.Gen Go.Proofs.YtaophbkedbphnaaW.PrintWords Go.Proofs.YtaophbkedbphnaaW.PrintMore Go.Proofs.YtaophbkedbphnaaW.PrintFlt

theorem none_spec : spec_l1None.f = some qnan := by
  unfold spec_l1None.f
  exact congrArg some (by decide +kernel)
theorem nan_impl : impl_nan.f = some qnan := by
  unfold impl_nan.f math_NaN.f
  rfl
theorem between_1 (a : Int) : impl_Between_1.f a = some (decide (-12000 ≤ a) && decide (a ≤ 12000)) := by
  unfold impl_Between_1.f
  rw [in_eq]
  rfl
theorem ite_bind {α β : Type} {c : Prop} [Decidable c] (x y : Option α) (f : α → Option β) : (if c then x else y).bind f = if c then x.bind f else y.bind f := by split <;> rfl

/-- Between two levels that follow one on the other, at a pressure between theirs. -/
theorem between_both (p0 p1 q : Int) (t0 t1 : Nat) (h0 : 1 ≤ p0 ∧ p0 ≤ 12000) (h1 : 1 ≤ p1 ∧ p1 ≤ 12000) (h2 : p1 < p0) (h3 : q ≤ p0) (h4 : p1 ≤ q) : ∃ r, spec_Between.f p0 t0 p1 t1 q = some r ∧ impl_Between.f p0 t0 p1 t1 q = some r := by
  unfold spec_Between.f impl_Between.f
  by_cases c1 : q = p0
  · rw [if_pos c1, if_pos c1]
    exact ⟨_, rfl, rfl⟩
  · rw [if_neg c1, if_neg c1]
    by_cases c2 : q = p1
    · rw [if_pos c2, if_pos c2]
      exact ⟨_, rfl, rfl⟩
    · rw [if_neg c2, if_neg c2]
      have w : wrap64 (p0 - p1) = p0 - p1 := w64 (by omega) (by omega)
      have d : ∀ x : Int, -12000 ≤ x → x ≤ 12000 → (decide (-12000 ≤ x) && decide (x ≤ 12000)) = true := by intro x a b; simp; omega
      have e1 : (decide (p0 < q) != decide (q < p1)) = false := by
        have a1 : decide (p0 < q) = false := by simp; omega
        have a2 : decide (q < p1) = false := by simp; omega
        rw [a1, a2]
        rfl
      have e2 : ¬ q ≤ mn p0 p1 := by unfold mn; split <;> omega
      have e3 : ¬ q ≥ mx p0 p1 := by unfold mx; split <;> omega
      simp only [l2In_eq, between_1, w, d p0 (by omega) (by omega), d p1 (by omega) (by omega), d q (by omega) (by omega), d (p0 - p1) (by omega) (by omega), Option.bind_some, if_true, e1, e2, e3, if_false, Bool.false_eq_true]
      exact ⟨_, rfl, rfl⟩

theorem evK {α : Type} {g : Option α} {r : α} (h : g = some r) : Ev (fun _ => g) r := ⟨0, fun _ _ => h⟩

theorem rebuild_loop (l : List S62) (q : Int) (hl : l.length ≤ 1048576) (ha : ∀ i, i < l.length → stepOk l i = true) : ∀ t i, i + 1 + t = l.length → ∃ r, Ev (fun k => spec_Rebuild.l0 k l q (i : Int)) r ∧ Ev (fun k => impl_Rebuild.l0 k l q (i : Int)) r := by
  intro t
  induction t with
  | zero =>
    intro i h
    refine ⟨qnan, Ev_succ fun k => ?_, Ev_succ fun k => ?_⟩
    · simp only [spec_Rebuild.l0]
      rw [up1 (by omega), if_neg (by omega), none_spec]
      rfl
    · simp only [impl_Rebuild.l0]
      rw [up1 (by omega), if_neg (by omega), nan_impl]
      rfl
  | succ t ih =>
    intro i h
    obtain ⟨r, hs, hi⟩ := ih (i + 1) (by omega)
    by_cases c1 : q ≤ prA l i
    · by_cases c2 : q ≥ prA l (i + 1)
      · have s0 := ha i (by omega)
        have s1 := ha (i + 1) (by omega)
        unfold stepOk at s0 s1
        simp only [Bool.and_eq_true, Bool.or_eq_true, decide_eq_true_eq] at s0 s1
        have hlt : prA l (i + 1) < prA l i := by
          rcases s1.1.1.1.2 with z | z
          · omega
          · exact z
        obtain ⟨r', e1, e2⟩ := between_both (prA l i) (prA l (i + 1)) q (tmA l i) (tmA l (i + 1)) s0.1.1.1.1 s1.1.1.1.1 hlt c1 c2
        refine ⟨r', ?_, ?_⟩
        · refine Ev.step (fun k => spec_Rebuild.l0.eq_2 _ _ _ k) ?_
          rw [up1 (by omega)]
          simp only [rdn62]
          exact evPos (by omega) (evPos (by omega) (evPos (by omega) (evPos c1 (evPos (by omega) (evPos c2 (Ev.bind (evK e1) (Ev.now _)))))))
        · refine Ev.step (fun k => impl_Rebuild.l0.eq_2 _ _ _ k) ?_
          rw [up1 (by omega)]
          simp only [rdn62]
          exact evPos (by omega) (evPos (by omega) (evPos (by omega) (evPos c1 (evPos (by omega) (evPos c2 (Ev.bind (evK e2) (Ev.now _)))))))
      · refine ⟨r, ?_, ?_⟩
        · refine Ev.step (fun k => spec_Rebuild.l0.eq_2 _ _ _ k) ?_
          rw [up1 (by omega)]
          simp only [rdn62]
          exact evPos (by omega) (evPos (by omega) (evPos (by omega) (evPos c1 (evPos (by omega) (evNeg c2 hs)))))
        · refine Ev.step (fun k => impl_Rebuild.l0.eq_2 _ _ _ k) ?_
          rw [up1 (by omega)]
          simp only [rdn62]
          exact evPos (by omega) (evPos (by omega) (evPos (by omega) (evPos c1 (evPos (by omega) (evNeg c2 hi)))))
    · refine ⟨r, ?_, ?_⟩
      · refine Ev.step (fun k => spec_Rebuild.l0.eq_2 _ _ _ k) ?_
        rw [up1 (by omega)]
        simp only [rdn62]
        exact evPos (by omega) (evPos (by omega) (evPos (by omega) (evNeg c1 hs)))
      · refine Ev.step (fun k => impl_Rebuild.l0.eq_2 _ _ _ k) ?_
        rw [up1 (by omega)]
        simp only [rdn62]
        exact evPos (by omega) (evPos (by omega) (evPos (by omega) (evNeg c1 hi)))

theorem rebuild_both (l : List S62) (q : Int) (hl : l.length ≤ 1048576) : ∃ R, Ev (fun k => spec_Rebuild.f k l q) R ∧ Ev (fun k => impl_Rebuild.f k l q) R := by
  simp only [spec_Rebuild.f, impl_Rebuild.f, none_spec, nan_impl, Option.bind_some]
  have hs := ascent_spec l hl
  have hi := ascent_impl l hl
  cases h : ascOk l with
  | false =>
    rw [h] at hs hi
    exact ⟨_, Ev.bind hs (evNeg (by decide) (Ev.now _)), Ev.bind hi (evNeg (by decide) (Ev.now _))⟩
  | true =>
    rw [h] at hs hi
    have hn := ascOk_len h
    obtain ⟨r, a, b⟩ := rebuild_loop l q hl (ascOk_at h) (l.length - 1) 0 (by omega)
    exact ⟨r, Ev.bind hs (evPos rfl a), Ev.bind hi (evPos rfl b)⟩

theorem FnExactRebuild : laws_FnExactRebuild.Pure := by
  intro l q hl0 _
  refine Ev.rounds ?_
  simp only [laws_FnExactRebuild.f]
  by_cases hl : l.length ≤ 1048576
  rotate_left
  · exact Ev.bind (szLevelS_big l hl0 hl) (evPos (by decide) (Ev.now _))
  have hc : (l.map convLevel).length ≤ 1048576 := by rw [List.length_map]; exact hl
  obtain ⟨R, hs, hi⟩ := rebuild_both (l.map convLevel) q hc
  refine Ev.bind (szLevelS_ok _ hl) ?_
  refine evNeg (by first | omega | (simp; omega) | simp) ?_
  refine Ev.bind (toLevelS_ev _ (by first | assumption | omega | (simp; omega))) ?_
  refine Ev.bind hs ?_
  refine Ev.bind (toLevelS_ev _ (by first | assumption | omega | (simp; omega))) ?_
  refine Ev.bind hi ?_
  refine Ev.bind (sameFloat_ev _) ?_
  refine evPos (by first | rfl | trivial | simp) ?_
  refine Ev.bind (toLevelS_ev _ (by first | assumption | omega | (simp; omega))) ?_
  refine Ev.bind (eqLevelS_ev _ (by first | assumption | omega | (simp; omega))) ?_
  refine evPos (by first | rfl | trivial | simp) ?_
  exact Ev.now _
end Go.Proofs.Ytaophbkedbphnaa.Pure
end

section
/- The law FnExactRebuild of this seat holds for all arguments: the row, out of its plain statement and the contract of its Go function; no condition. -/
namespace Go.Proofs.Ytaophbkedbphnaa.fnExactRebuild
open Go.ChangeShapes Go.WideShapes Go.ChangeAt Go.RowKit Go.Proofs.Ytaophbkedbphnaa.Opens Go.Proofs.Ytaophbkedbphnaa.Q Go.Proofs.YtaophbkedbphnaaW.PrintWords Go.Proofs.YtaophbkedbphnaaW.PrintFlt
open Go.ChangeMaps (open_string shut_string)
set_option linter.unusedVariables false
theorem own : ownKnob Try.prog.godebug = none := by kernel_rfl
theorem laidOut : laidOutB Try.prog = true := by kernel_rfl
theorem opn66 {H : Type} {enc : TypeId × Value → H} {w : World} {base : Nat} {spare : Nat → Bool} {held : Bool} : Opn enc Try.prog w base spare held 66 k66 := by
  intro fuel cs x h
  obtain ⟨xs, n, _, _, hl, hlen, hf⟩ := DataW.trod_struct Try.underlying66 h
  have hs : ∀ i, i < 2 → ∃ z, xs[i]? = some z := fun i hi => ⟨xs[i]'(by rw [hlen]; exact hi), List.getElem?_eq_getElem _⟩
  rw [show Try.prog.cellsOf 66 = 2 from by kernel_rfl] at hl
  obtain ⟨a0, h0⟩ := field_at (off := 0) (s := 1) (opn_int Try.underlying2) (by kernel_rfl) (hs 0 (by decide)) (hf 0 _ rfl)
  obtain ⟨a1, h1⟩ := field_at (off := 1) (s := 1) (opn_float Try.underlying33) (by kernel_rfl) (hs 1 (by decide)) (hf 1 _ rfl)
  exact ⟨⟨a0, a1⟩, (pair_at 0 1 h0 (last_at 1 1 hl h1))⟩
set_option maxRecDepth 100000 in
theorem lifted (os : Os) (started : os.Started) (H : Type) (enc : TypeId × Value → H) :
    ReturnsInHanded {} Try.checked os 5 .any (Rows.fnExactRebuildSpec.pre6 enc Try.prog Try.f5 Rows.fnExactRebuildRow.domain false) (Rows.fnExactRebuildSpec.post enc Try.prog Try.f5 false true false false) := by
  refine returnsInHanded_of_change_sized (C := Try.checked) own started (by kernel_rfl) Try.func5
    (ChangeSpec.witness6 (enc := enc) (C := Try.checked) false ⟨#[], #[.slice none 0 0, .int .i64 0], []⟩ 8 (by kernel_rfl) (by kernel_rfl) (by kernel_rfl) (by kernel_rfl)) ?_
  intro W base args ds gs before hval0 hW hcnd hsz0 _
  have hsz : (DataW.weightsEach Try.prog (Try.f5.params.toList ++ Rows.fnExactRebuildSpec.plain.varTypes Try.prog) (ds ++ gs)).all (· ≤ reachBytes) = true := hsz0
  have hval : ∀ (j : Nat) t v, Try.f5.params[j]? = some t → args[j]? = some v → Value.okWide Try.prog W .any base t v := hval0
  have hW' := hW
  obtain ⟨p, q, hA0, hV, rfl, hfz, hnd⟩ := hW
  have hA : DataW.TrodAll enc Try.prog W 0 (fun _ => true) true Try.f5.params.toList args.toList ds p := hA0
  rw [Try.params5] at hA hval hsz
  obtain ⟨v0, vs0, d0, ds0, p0, q0, hargs, rfl, rfl, h0, r0⟩ := trodAll_cons hA
  obtain ⟨v1, vs1, d1, ds1, p1, q1, rfl, rfl, rfl, h1, r1⟩ := trodAll_cons r0
  obtain ⟨rfl, rfl, rfl⟩ := trodAll_nil r1
  obtain rfl : args = #[v0, v1] := by cases args; simp_all
  obtain ⟨rfl, rfl⟩ := trodVars_none hV
  obtain ⟨a0, len0, cap0, rfl⟩ := okWide_slice Try.underlying22 (hval 0 22 v0 rfl rfl)
  have k0 := h0
  have lt0 : ∀ x ∈ p0, x.block < W.heap.size := by obtain ⟨m, hm⟩ := k0; exact DataW.trod_lt m _ _ _ hm
  obtain ⟨l0, e0, hc0, hm0, hr0⟩ := slice_in (opn_slice z66 Try.underlying22 (by kernel_rfl) opn66) h0
  subst e0
  obtain ⟨a1, rfl, rfl, rfl, w1⟩ := open_int Try.underlying2 (hval 1 2 v1 rfl rfl) h1
  clear hA0 hval0 hsz0 hsz
  obtain ⟨k, hk⟩ := Pure.FnExactRebuild l0 a1 hm0 w1
  refine (laws_FnExactRebuild.calls k _ _ l0 a1 true W hr0 hc0 hk).mono fun e W' hp_ => ?_
  obtain ⟨rfl, hb_⟩ := hp_
  have bel : Below W.heap.size W W' := hb_
  exact ⟨_, rfl, _, _, _, [], _, [], hW', trodAll_mk1 (shut_bool Try.underlying4 _), (trodAll_cons_mk (Below.trod laidOut (by kernel_rfl) (of_decide_eq_true (by kernel_rfl)) k0 bel lt0) (trodAll_cons_mk (shut_int Try.underlying2 w1) trodAll_mk0)), rfl, bel.frame _, fun h => by cases h⟩
theorem over : Rows.fnExactRebuildRow.holds Try.pinned (OpenSpec.ofChange Rows.fnExactRebuildSpec) :=
  OpenClaim.holds_of_wide 5 Try.f5 rfl rfl rfl rfl rfl rfl rfl ⟨rfl, rfl, rfl, rfl, rfl⟩ rfl rfl rfl rfl rfl (by kernel_rfl) Try.func5 (by kernel_rfl)
    (of_decide_eq_true (by kernel_rfl)) (by unfold Func.isWrapper; first | (rw [if_pos (by decide +kernel)]; kernel_rfl) | (rw [if_neg (by decide +kernel)]; exact ⟨rfl, rfl⟩))
    (fun os started H enc _ => lifted os started H enc)
theorem proved : Rows.FnExactRebuildSaid := over
end Go.Proofs.Ytaophbkedbphnaa.fnExactRebuild
namespace Go.Proofs.Ytaophbkedbphnaa
/-- The row, under a short name, for the claim. -/
theorem fnExactRebuild_holds : Rows.FnExactRebuildSaid := fnExactRebuild.proved
#print axioms fnExactRebuild_holds
end Go.Proofs.Ytaophbkedbphnaa
end
