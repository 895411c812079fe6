/- Floats, told up to a NaN's bits: a plain number of Nat that stands for what a float64 is worth, and a letter that stands for which NaN it is, where it is one. What the operations give; how a cell of that kind is told. -/
import Derived.Test.YtcdghhihfjojaabDoorWWords
import Derived.Test.YtcdghhihfjojaabDoorWLast
import Derived.Test.YtcdghhihfjojaabDoorWFoot
import Derived.Laws.FloatArith
import Derived.Laws.BitsAll
import Derived.Laws.BitsLemmas
import Derived.Laws.Externs
import Derived.Deep.Draws
namespace Go.Proofs.YtcdghhihfjojaabDoorW.PrintFlt
open Go.RowKit Go.Proofs.YtcdghhihfjojaabDoorW.PrintWords Go.Proofs.YtcdghhihfjojaabDoorW.PrintLast
set_option linter.unusedVariables false
set_option linter.unusedSimpArgs false

theorem sqA {α : Type} (l : List α) (i : Nat) (a : α) : l.toArray.setIfInBounds i a = (l.set i a).toArray := List.setIfInBounds_toArray ..
theorem sqZ {α : Type} (x : α) (l : List α) (a : α) : (x :: l).set 0 a = a :: l := List.set_cons_zero ..
theorem sqS {α : Type} (x : α) (l : List α) (n : Nat) (a : α) : (x :: l).set (n + 1) a = x :: l.set n a := List.set_cons_succ ..
/-! short names for what is said most often -/
theorem bN {w : World} {g : Nat} {o : Obj} (h : w.heap[g]? = some o) (n : Nat) : (w.drewN n).heap[g]? = some o := blk_drewN h n
theorem bD {w : World} {g : Nat} {o : Obj} (h : w.heap[g]? = some o) : w.drew.heap[g]? = some o := blk_drew h
theorem bA {w : World} {g : Nat} {o : Obj} (h : w.heap[g]? = some o) (o' : Obj) : (w.alloc o').heap[g]? = some o := blk_alloc h o'
theorem bC {w : World} {g : Nat} {t : TypeId} {cs : Array Value} (h : w.heap[g]? = some (.cells cs t (0, 0))) (i : Nat) {v : Option Value} (e : cs[i]? = v) : w.cell? ⟨g, i, none⟩ = v := (blk_cell h i).trans e
theorem A0 {p : Prop} (h : p) : Aside0 p := Aside0.mk h
theorem bS {w W : World} {g j : Nat} {v : Value} (h : Below w.heap.size w W) (hg : w.heap.size ≤ g) : Below w.heap.size w (W.setCell ⟨g, j, none⟩ v) := below_set h hg
theorem wA {w W : World} (h : Below w.heap.size w W) (o : Obj) : Below w.heap.size w (W.alloc o) := below_alloc h o
theorem wN {B : Nat} {w W : World} (h : Below B w W) (n : Nat) : Below B w (W.drewN n) := pw_below_drewN h n
theorem wD {base : Nat} {w W : World} (h : Below base w W) : Below base w W.drew := below_drew1 h
theorem lM {α β : Type} {f : α → β} {l : List α} : l.toArray.map f = (l.map f).toArray := List.map_toArray ..
theorem lC {α β : Type} {f : α → β} {a : α} {l : List α} : (a :: l).map f = f a :: l.map f := List.map_cons
theorem lN {α β : Type} {f : α → β} : ([] : List α).map f = [] := List.map_nil
theorem lD {α : Type} {i : Nat} {l : List α} : (l.drop i).length = l.length - i := List.length_drop
theorem lT {α : Type} {i : Nat} {l : List α} : (l.take i).length = min i l.length := List.length_take
/-- The one NaN that stands for all. -/
def qnan : Nat := 9221120237041090561
def isn (b : Nat) : Bool := (Ieee.double.read b).isNaN
/-- The float of worth x; where x is the NaN: the NaN of the bits p. -/
def un (p x : Nat) : Nat := if x = qnan then (if isn p then p else qnan) else x
def cn (b : Nat) : Nat := if isn b then qnan else b
theorem isn_qnan : isn qnan = true := by decide +kernel
theorem isn_zero : isn 0 = false := by decide +kernel
theorem un_cn (b : Nat) : un b (cn b) = b := by
  unfold un cn
  by_cases h : isn b = true
  · simp [h]
  · have hb : b ≠ qnan := fun e => h (by rw [e]; exact isn_qnan)
    simp [h, hb]
theorem un_zero (x : Nat) : un 0 x = x := by
  unfold un
  by_cases h : x = qnan
  · simp [h, isn_zero]
  · simp [h]
theorem un_self (x : Nat) : un x x = x := by
  unfold un
  by_cases h : x = qnan
  · simp [h]
  · simp [h]
/-- A NaN is like another one to all that reckons. -/
theorem un_cases (p x : Nat) : un p x = x ∨ (isn x = true ∧ isn (un p x) = true) := by
  unfold un
  by_cases h : x = qnan
  · rw [if_pos h]
    by_cases hp : isn p = true
    · exact .inr ⟨by rw [h]; exact isn_qnan, by simp [hp]⟩
    · exact .inl (by simp [hp, h])
  · exact .inl (if_neg h)
theorem read_nan {b : Nat} (h : isn b = true) : ∃ s f, Ieee.double.read b = .nan s f := by
  unfold isn Ieee.Datum.isNaN at h
  split at h
  · exact ⟨_, _, by assumption⟩
  · cases h
theorem order_nan_l {a : Nat} (h : isn a = true) (b : Nat) : Ieee.double.order a b = none := by
  obtain ⟨s, f, e⟩ := read_nan h
  simp [Ieee.Format.order, e, Ieee.Datum.order]
theorem order_nan_r (a : Nat) {b : Nat} (h : isn b = true) : Ieee.double.order a b = none := by
  obtain ⟨s, f, e⟩ := read_nan h
  unfold Ieee.Format.order
  rw [e]
  cases Ieee.double.read a <;> rfl
theorem order_un_l (p x b : Nat) : Ieee.double.order (un p x) b = Ieee.double.order x b := by
  rcases un_cases p x with h | ⟨h1, h2⟩
  · rw [h]
  · rw [order_nan_l h1, order_nan_l h2]
theorem order_un_r (a q y : Nat) : Ieee.double.order a (un q y) = Ieee.double.order a y := by
  rcases un_cases q y with h | ⟨h1, h2⟩
  · rw [h]
  · rw [order_nan_r a h1, order_nan_r a h2]

/-! ### Comparisons -/
def flt (x y : Nat) : Bool := Ieee.double.order x y == some .lt
def fgt (x y : Nat) : Bool := Ieee.double.order x y == some .gt
def feq (x y : Nat) : Bool := Ieee.double.order x y == some .eq
def fne (x y : Nat) : Bool := Ieee.double.order x y != some .eq
theorem flt_l (p x y : Nat) : flt (un p x) y = flt x y := by simp only [flt, order_un_l]
theorem flt_r (q x y : Nat) : flt x (un q y) = flt x y := by simp only [flt, order_un_r]
theorem fgt_l (p x y : Nat) : fgt (un p x) y = fgt x y := by simp only [fgt, order_un_l]
theorem fgt_r (q x y : Nat) : fgt x (un q y) = fgt x y := by simp only [fgt, order_un_r]
theorem feq_l (p x y : Nat) : feq (un p x) y = feq x y := by simp only [feq, order_un_l]
theorem feq_r (q x y : Nat) : feq x (un q y) = feq x y := by simp only [feq, order_un_r]
theorem fne_l (p x y : Nat) : fne (un p x) y = fne x y := by simp only [fne, order_un_l]
theorem fne_r (q x y : Nat) : fne x (un q y) = fne x y := by simp only [fne, order_un_r]
theorem cmp_lss (t : TypeId) (a b : Nat) : binOp .lss t (.float .f64 a) (.float .f64 b) = pure (.bool (flt a b)) := binOp_float_cmp_lss t .f64 a b
theorem cmp_leq (t : TypeId) (a b : Nat) : binOp .leq t (.float .f64 a) (.float .f64 b) = pure (.bool (flt a b || feq a b)) := binOp_float_cmp_leq t .f64 a b
theorem cmp_gtr (t : TypeId) (a b : Nat) : binOp .gtr t (.float .f64 a) (.float .f64 b) = pure (.bool (fgt a b)) := binOp_float_cmp_gtr t .f64 a b
theorem cmp_geq (t : TypeId) (a b : Nat) : binOp .geq t (.float .f64 a) (.float .f64 b) = pure (.bool (fgt a b || feq a b)) := binOp_float_cmp_geq t .f64 a b
theorem cmp_eql (t : TypeId) (a b : Nat) : binOp .eql t (.float .f64 a) (.float .f64 b) = pure (.bool (feq a b)) := binOp_float_cmp_eql t .f64 a b
theorem cmp_neq (t : TypeId) (a b : Nat) : binOp .neq t (.float .f64 a) (.float .f64 b) = pure (.bool (fne a b)) := binOp_float_cmp_neq t .f64 a b

theorem ord_lt (a b : Nat) : (FloatKind.f64.format.order a b == some .lt) = flt a b := rfl
theorem ord_gt (a b : Nat) : (FloatKind.f64.format.order a b == some .gt) = fgt a b := rfl
theorem ord_eq (a b : Nat) : (FloatKind.f64.format.order a b == some .eq) = feq a b := rfl
theorem ord_ne (a b : Nat) : (FloatKind.f64.format.order a b != some .eq) = fne a b := rfl

/-! ### Reckoning -/
section
variable {P : Program} {ops : Array Oper} {rest : List Oper} {o : Oper} {a : Act} {Q : Exit → Act → World → Prop} {W : World}
end
section
variable {P : Program} {ops : Array Oper} {o : Oper} {a : Act} {Q : Exit → Act → World → Prop} {Kc : Act → World → Prop} {W : World}
end


/-! ### Functions of the library that have no Go text: bits and floats -/
section
variable {P : Program} {ops : Array Oper} {rest : List Oper} {o : Oper} {a : Act} {Q : Exit → Act → World → Prop} {W : World}
end
/-! ### The sign turned -/
section
variable {P : Program} {ops : Array Oper} {o : Oper} {a : Act} {W : World}
end

/-! ### A whole number's float -/
def foi (n : Int) : Nat := floatOfInt .f64 n
theorem conv_int {P : Program} (w : World) (src dst : TypeId) (q : IntKind) (n : Int) (hs : (P.underlying src).isSome = true) (hd : P.underlying dst = some (.float .f64)) :
    (convert src dst (.int q n)).run P w = .ok (.float .f64 (un 0 (foi n))) w := by
  rw [un_zero]
  exact run_convert_int_float w src dst q .f64 n hs hd

/-! ### A float's whole number, cut towards nought, where it is one of int64 -/
def inI (x : Nat) : Bool := (floatToIntVal .f64 x .i64).isSome
def toi (x : Nat) : Int := (floatToIntVal .f64 x .i64).getD 0
theorem inI_qnan : inI qnan = false := by decide +kernel
theorem conv_flt {P : Program} (w : World) (src dst : TypeId) (p x : Nat) (hs : (P.underlying src).isSome = true) (hd : P.underlying dst = some (.int .i64)) (h : inI x = true) :
    (convert src dst (.float .f64 (un p x))).run P w = .ok (.int .i64 (toi x)) w := by
  have hx : x ≠ qnan := fun e => by rw [e, inI_qnan] at h; cases h
  have e : un p x = x := by unfold un; rw [if_neg hx]
  rw [e]
  obtain ⟨n, hn⟩ := Option.isSome_iff_exists.1 h
  have ht : toi x = n := by unfold toi; rw [hn]; rfl
  rw [ht]
  exact run_convert_float_int w src dst .f64 .i64 x n hs hd hn

theorem foi_fold (n : Int) : floatOfInt .f64 n = un 0 (foi n) := (un_zero _).symm
theorem run_store_flt (P : Program) (w : World) (a : Addr) (m : Mode) (k : FloatKind) (b : Nat) : (store a (.float k b) m).run P w = stored P w a (.float k b) m := run_store P w a _ m rfl

/-! ### A call of a function value that is known -/
section
variable {P : Program} {ops : Array Oper} {a : Act} {Q : Exit → Act → World → Prop} {w : World}
end

/-! ### How a cell is told -/
end Go.Proofs.YtcdghhihfjojaabDoorW.PrintFlt
namespace Go.Proofs.YtcdghhihfjojaabDoorW.PrintWords
open Go.Proofs.YtcdghhihfjojaabDoorW.PrintFlt
def Kd.flt : Kd Nat where
  sz := 1
  E := []
  K := fun _ x cs => ∃ p, cs = [.float .f64 (un p x)]
  M := fun _ _ _ x cs => ∃ p, cs = [.float .f64 (un p x)]
  K_len := by
    rintro w x cs ⟨p, rfl⟩
    rfl
  K_one := by
    rintro w x cs ⟨p, rfl⟩ u hu
    rw [List.mem_singleton.1 hu]
    rfl
  K_below := fun _ h => h
  K_of_M := fun h => h
  M_mono := fun _ h => h
  M_bound := fun h => h
  M_move := fun _ h => h
  M_lower := fun _ h => h
end Go.Proofs.YtcdghhihfjojaabDoorW.PrintWords
