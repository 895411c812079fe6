/- Floats, told up to a NaN's bits: a plain number of Nat that stands for what a float64 is worth, and a letter that stands for which NaN it is, where it is one. What the operations give; how a cell of that kind is told. -/
import Derived.Test.YtcdghhihfjojaabWWords
import Derived.Test.YtcdghhihfjojaabWLast
import Derived.Test.YtcdghhihfjojaabWFoot
import Derived.Laws.FloatArith
import Derived.Laws.BitsAll
import Derived.Laws.BitsLemmas
import Derived.Laws.Externs
import Derived.Deep.Draws
namespace Go.Proofs.YtcdghhihfjojaabW.PrintFlt
open Go.RowKit Go.Proofs.YtcdghhihfjojaabW.PrintWords Go.Proofs.YtcdghhihfjojaabW.PrintLast
set_option linter.unusedVariables false
set_option linter.unusedSimpArgs false

theorem sqA {α : Type} (l : List α) (i : Nat) (a : α) : l.toArray.setIfInBounds i a = (l.set i a).toArray := List.setIfInBounds_toArray ..
theorem sqZ {α : Type} (x : α) (l : List α) (a : α) : (x :: l).set 0 a = a :: l := List.set_cons_zero ..
theorem sqS {α : Type} (x : α) (l : List α) (n : Nat) (a : α) : (x :: l).set (n + 1) a = x :: l.set n a := List.set_cons_succ ..
/-! short names for what is said most often -/
theorem bN {w : World} {g : Nat} {o : Obj} (h : w.heap[g]? = some o) (n : Nat) : (w.drewN n).heap[g]? = some o := blk_drewN h n
theorem bD {w : World} {g : Nat} {o : Obj} (h : w.heap[g]? = some o) : w.drew.heap[g]? = some o := blk_drew h
theorem bA {w : World} {g : Nat} {o : Obj} (h : w.heap[g]? = some o) (o' : Obj) : (w.alloc o').heap[g]? = some o := blk_alloc h o'
theorem bC {w : World} {g : Nat} {t : TypeId} {cs : Array Value} (h : w.heap[g]? = some (.cells cs t (0, 0))) (i : Nat) {v : Option Value} (e : cs[i]? = v) : w.cell? ⟨g, i, none⟩ = v := (blk_cell h i).trans e
theorem A0 {p : Prop} (h : p) : Aside0 p := Aside0.mk h
theorem bS {w W : World} {g j : Nat} {v : Value} (h : Below w.heap.size w W) (hg : w.heap.size ≤ g) : Below w.heap.size w (W.setCell ⟨g, j, none⟩ v) := below_set h hg
theorem wA {w W : World} (h : Below w.heap.size w W) (o : Obj) : Below w.heap.size w (W.alloc o) := below_alloc h o
theorem wN {B : Nat} {w W : World} (h : Below B w W) (n : Nat) : Below B w (W.drewN n) := pw_below_drewN h n
theorem wD {base : Nat} {w W : World} (h : Below base w W) : Below base w W.drew := below_drew1 h
theorem lM {α β : Type} {f : α → β} {l : List α} : l.toArray.map f = (l.map f).toArray := List.map_toArray ..
theorem lC {α β : Type} {f : α → β} {a : α} {l : List α} : (a :: l).map f = f a :: l.map f := List.map_cons
theorem lN {α β : Type} {f : α → β} : ([] : List α).map f = [] := List.map_nil
theorem lD {α : Type} {i : Nat} {l : List α} : (l.drop i).length = l.length - i := List.length_drop
theorem lT {α : Type} {i : Nat} {l : List α} : (l.take i).length = min i l.length := List.length_take
/-- The one NaN that stands for all. -/
def qnan : Nat := 9221120237041090561
def isn (b : Nat) : Bool := (Ieee.double.read b).isNaN
/-- The float of worth x; where x is the NaN: the NaN of the bits p. -/
def un (p x : Nat) : Nat := if x = qnan then (if isn p then p else qnan) else x
def cn (b : Nat) : Nat := if isn b then qnan else b
theorem isn_qnan : isn qnan = true := by decide +kernel
theorem isn_zero : isn 0 = false := by decide +kernel
theorem un_cn (b : Nat) : un b (cn b) = b := by
  unfold un cn
  by_cases h : isn b = true
  · simp [h]
  · have hb : b ≠ qnan := fun e => h (by rw [e]; exact isn_qnan)
    simp [h, hb]
theorem un_zero (x : Nat) : un 0 x = x := by
  unfold un
  by_cases h : x = qnan
  · simp [h, isn_zero]
  · simp [h]
theorem un_self (x : Nat) : un x x = x := by
  unfold un
  by_cases h : x = qnan
  · simp [h]
  · simp [h]
/-- A NaN is like another one to all that reckons. -/
theorem un_cases (p x : Nat) : un p x = x ∨ (isn x = true ∧ isn (un p x) = true) := by
  unfold un
  by_cases h : x = qnan
  · rw [if_pos h]
    by_cases hp : isn p = true
    · exact .inr ⟨by rw [h]; exact isn_qnan, by simp [hp]⟩
    · exact .inl (by simp [hp, h])
  · exact .inl (if_neg h)
theorem read_nan {b : Nat} (h : isn b = true) : ∃ s f, Ieee.double.read b = .nan s f := by
  unfold isn Ieee.Datum.isNaN at h
  split at h
  · exact ⟨_, _, by assumption⟩
  · cases h
theorem order_nan_l {a : Nat} (h : isn a = true) (b : Nat) : Ieee.double.order a b = none := by
  obtain ⟨s, f, e⟩ := read_nan h
  simp [Ieee.Format.order, e, Ieee.Datum.order]
theorem order_nan_r (a : Nat) {b : Nat} (h : isn b = true) : Ieee.double.order a b = none := by
  obtain ⟨s, f, e⟩ := read_nan h
  unfold Ieee.Format.order
  rw [e]
  cases Ieee.double.read a <;> rfl
theorem order_un_l (p x b : Nat) : Ieee.double.order (un p x) b = Ieee.double.order x b := by
  rcases un_cases p x with h | ⟨h1, h2⟩
  · rw [h]
  · rw [order_nan_l h1, order_nan_l h2]
theorem order_un_r (a q y : Nat) : Ieee.double.order a (un q y) = Ieee.double.order a y := by
  rcases un_cases q y with h | ⟨h1, h2⟩
  · rw [h]
  · rw [order_nan_r a h1, order_nan_r a h2]

/-! ### Comparisons -/
def flt (x y : Nat) : Bool := Ieee.double.order x y == some .lt
def fgt (x y : Nat) : Bool := Ieee.double.order x y == some .gt
def feq (x y : Nat) : Bool := Ieee.double.order x y == some .eq
def fne (x y : Nat) : Bool := Ieee.double.order x y != some .eq
theorem flt_l (p x y : Nat) : flt (un p x) y = flt x y := by simp only [flt, order_un_l]
theorem flt_r (q x y : Nat) : flt x (un q y) = flt x y := by simp only [flt, order_un_r]
theorem fgt_l (p x y : Nat) : fgt (un p x) y = fgt x y := by simp only [fgt, order_un_l]
theorem fgt_r (q x y : Nat) : fgt x (un q y) = fgt x y := by simp only [fgt, order_un_r]
theorem feq_l (p x y : Nat) : feq (un p x) y = feq x y := by simp only [feq, order_un_l]
theorem feq_r (q x y : Nat) : feq x (un q y) = feq x y := by simp only [feq, order_un_r]
theorem fne_l (p x y : Nat) : fne (un p x) y = fne x y := by simp only [fne, order_un_l]
theorem fne_r (q x y : Nat) : fne x (un q y) = fne x y := by simp only [fne, order_un_r]
theorem cmp_lss (t : TypeId) (a b : Nat) : binOp .lss t (.float .f64 a) (.float .f64 b) = pure (.bool (flt a b)) := binOp_float_cmp_lss t .f64 a b
theorem cmp_leq (t : TypeId) (a b : Nat) : binOp .leq t (.float .f64 a) (.float .f64 b) = pure (.bool (flt a b || feq a b)) := binOp_float_cmp_leq t .f64 a b
theorem cmp_gtr (t : TypeId) (a b : Nat) : binOp .gtr t (.float .f64 a) (.float .f64 b) = pure (.bool (fgt a b)) := binOp_float_cmp_gtr t .f64 a b
theorem cmp_geq (t : TypeId) (a b : Nat) : binOp .geq t (.float .f64 a) (.float .f64 b) = pure (.bool (fgt a b || feq a b)) := binOp_float_cmp_geq t .f64 a b
theorem cmp_eql (t : TypeId) (a b : Nat) : binOp .eql t (.float .f64 a) (.float .f64 b) = pure (.bool (feq a b)) := binOp_float_cmp_eql t .f64 a b
theorem cmp_neq (t : TypeId) (a b : Nat) : binOp .neq t (.float .f64 a) (.float .f64 b) = pure (.bool (fne a b)) := binOp_float_cmp_neq t .f64 a b

theorem ord_lt (a b : Nat) : (FloatKind.f64.format.order a b == some .lt) = flt a b := rfl
theorem ord_gt (a b : Nat) : (FloatKind.f64.format.order a b == some .gt) = fgt a b := rfl
theorem ord_eq (a b : Nat) : (FloatKind.f64.format.order a b == some .eq) = feq a b := rfl
theorem ord_ne (a b : Nat) : (FloatKind.f64.format.order a b != some .eq) = fne a b := rfl

/-! ### Reckoning -/
def ov (r : Option Nat) : Nat := r.getD qnan
def fadd (x y : Nat) : Nat := ov (Ieee.double.add x y)
def fsub (x y : Nat) : Nat := ov (Ieee.double.sub x y)
def fmul (x y : Nat) : Nat := ov (Ieee.double.mul x y)
def fdiv (x y : Nat) : Nat := ov (Ieee.double.div x y)
theorem add_un (p x q y : Nat) : Ieee.double.add (un p x) (un q y) = Ieee.double.add x y := by
  unfold Ieee.Format.add
  rcases un_cases p x with h | ⟨h1, h2⟩
  · rw [h]
    rcases un_cases q y with h' | ⟨h3, h4⟩
    · rw [h']
    · obtain ⟨_, _, e3⟩ := read_nan h3
      obtain ⟨_, _, e4⟩ := read_nan h4
      rw [e3, e4]
      cases Ieee.double.read x <;> rfl
  · obtain ⟨_, _, e1⟩ := read_nan h1
    obtain ⟨_, _, e2⟩ := read_nan h2
    rw [e1, e2]
    rfl
theorem sub_un (p x q y : Nat) : Ieee.double.sub (un p x) (un q y) = Ieee.double.sub x y := by
  unfold Ieee.Format.sub
  rcases un_cases p x with h | ⟨h1, h2⟩
  · rw [h]
    rcases un_cases q y with h' | ⟨h3, h4⟩
    · rw [h']
    · obtain ⟨_, _, e3⟩ := read_nan h3
      obtain ⟨_, _, e4⟩ := read_nan h4
      rw [e3, e4]
      cases Ieee.double.read x <;> rfl
  · obtain ⟨_, _, e1⟩ := read_nan h1
    obtain ⟨_, _, e2⟩ := read_nan h2
    rw [e1, e2]
    rfl
theorem mul_un (p x q y : Nat) : Ieee.double.mul (un p x) (un q y) = Ieee.double.mul x y := by
  unfold Ieee.Format.mul
  rcases un_cases p x with h | ⟨h1, h2⟩
  · rw [h]
    rcases un_cases q y with h' | ⟨h3, h4⟩
    · rw [h']
    · obtain ⟨_, _, e3⟩ := read_nan h3
      obtain ⟨_, _, e4⟩ := read_nan h4
      rw [e3, e4]
      cases Ieee.double.read x <;> rfl
  · obtain ⟨_, _, e1⟩ := read_nan h1
    obtain ⟨_, _, e2⟩ := read_nan h2
    rw [e1, e2]
    rfl
theorem div_un (p x q y : Nat) : Ieee.double.div (un p x) (un q y) = Ieee.double.div x y := by
  unfold Ieee.Format.div
  rcases un_cases p x with h | ⟨h1, h2⟩
  · rw [h]
    rcases un_cases q y with h' | ⟨h3, h4⟩
    · rw [h']
    · obtain ⟨_, _, e3⟩ := read_nan h3
      obtain ⟨_, _, e4⟩ := read_nan h4
      rw [e3, e4]
      cases Ieee.double.read x <;> rfl
  · obtain ⟨_, _, e1⟩ := read_nan h1
    obtain ⟨_, _, e2⟩ := read_nan h2
    rw [e1, e2]
    rfl
def fop : BinOp → Nat → Nat → Nat
  | .add => fadd
  | .sub => fsub
  | .mul => fmul
  | _ => fdiv
def okop : BinOp → Bool
  | .add | .sub | .mul | .quo => true
  | _ => false
theorem ov_some {r : Option Nat} {v : Nat} (h : r = some v) : ∃ q, v = un q (ov r) := by
  subst h
  exact ⟨v, (un_self v).symm⟩
theorem isn_cut (x y t : Nat) : isn (Question.cut (.nanBits .f64 x y) t) = true := by
  have key : ∀ s r : Nat, s < 2 → r < 2 ^ 52 - 1 → isn (s * 2 ^ 63 + 0x7ff0000000000000 + 1 + r) = true := by
    intro s r hs hr
    unfold isn Ieee.Format.read
    have h1 : Ieee.double.signWeight = 2 ^ 63 := by decide
    have h2 : Ieee.double.binade = 2 ^ 52 := by decide
    have h3 : Ieee.double.infRung = 0x7ff0000000000000 := by decide +kernel
    have hm : (s * 2 ^ 63 + 0x7ff0000000000000 + 1 + r) % 2 ^ 63 = 0x7ff0000000000000 + 1 + r := by omega
    simp only [h1, h2, h3, hm]
    rw [if_neg (by omega), if_neg (by omega), if_neg (by omega)]
    rfl
  exact key _ _ (Nat.mod_lt _ (by decide)) (Nat.mod_lt _ (by decide))
theorem nan_of_choose (x y : Nat) (P : Program) (w : World) : ∃ q m, ((choose (.nanBits .f64 x y) >>= fun b => (pure (Value.float .f64 b) : Sem Value)).run P w) = .ok (.float .f64 (un q qnan)) (w.drewN m) := by
  refine ⟨Question.cut (.nanBits .f64 x y) (w.tape w.drawn (.nanBits .f64 x y)), 1, ?_⟩
  have h := isn_cut x y (w.tape w.drawn (.nanBits .f64 x y))
  have e : un (Question.cut (.nanBits .f64 x y) (w.tape w.drawn (.nanBits .f64 x y))) qnan = Question.cut (.nanBits .f64 x y) (w.tape w.drawn (.nanBits .f64 x y)) := by simp [un, h]
  rw [e]
  rfl
def nanOr (x y : Nat) : Option Nat → Sem Value
  | some r => pure (.float .f64 r)
  | none => choose (.nanBits .f64 x y) >>= fun b => pure (.float .f64 b)
theorem run_fop (op : BinOp) (ho : okop op = true) (t : TypeId) (a b x y p q : Nat) (ha : a = un p x) (hb : b = un q y) (P : Program) (w : World) :
    ∃ r m, (binOp op t (.float .f64 a) (.float .f64 b)).run P w = .ok (.float .f64 (un r (fop op x y))) (w.drewN m) := by
  subst ha
  subst hb
  have core : ∀ (o : Option Nat), ∃ r m, Sem.run P (nanOr (un p x) (un q y) o) w = Result.ok (.float .f64 (un r (ov o))) (w.drewN m) := by
    intro o
    cases o with
    | none => exact nan_of_choose _ _ P w
    | some v => exact ⟨v, 0, by show Result.ok _ _ = _; rw [show ov (some v) = v from rfl, un_self]; rfl⟩
  cases op <;> simp only [okop] at ho <;> try (cases ho; done)
  · have h := core (Ieee.double.add x y)
    rw [← add_un p x q y] at h
    obtain ⟨r, m, h⟩ := h
    exact ⟨r, m, by
      have e : binOp .add t (.float .f64 (un p x)) (.float .f64 (un q y)) = nanOr (un p x) (un q y) (Ieee.double.add (un p x) (un q y)) := by
        show (match Ieee.double.add (un p x) (un q y) with | some r => (pure (Value.float .f64 r) : Sem Value) | none => choose (.nanBits .f64 (un p x) (un q y)) >>= fun b => pure (Value.float .f64 b)) = _
        cases Ieee.double.add (un p x) (un q y) <;> rfl
      rw [e, h, add_un]
      rfl⟩
  · have h := core (Ieee.double.sub x y)
    rw [← sub_un p x q y] at h
    obtain ⟨r, m, h⟩ := h
    exact ⟨r, m, by
      have e : binOp .sub t (.float .f64 (un p x)) (.float .f64 (un q y)) = nanOr (un p x) (un q y) (Ieee.double.sub (un p x) (un q y)) := by
        show (match Ieee.double.sub (un p x) (un q y) with | some r => (pure (Value.float .f64 r) : Sem Value) | none => choose (.nanBits .f64 (un p x) (un q y)) >>= fun b => pure (Value.float .f64 b)) = _
        cases Ieee.double.sub (un p x) (un q y) <;> rfl
      rw [e, h, sub_un]
      rfl⟩
  · have h := core (Ieee.double.mul x y)
    rw [← mul_un p x q y] at h
    obtain ⟨r, m, h⟩ := h
    exact ⟨r, m, by
      have e : binOp .mul t (.float .f64 (un p x)) (.float .f64 (un q y)) = nanOr (un p x) (un q y) (Ieee.double.mul (un p x) (un q y)) := by
        show (match Ieee.double.mul (un p x) (un q y) with | some r => (pure (Value.float .f64 r) : Sem Value) | none => choose (.nanBits .f64 (un p x) (un q y)) >>= fun b => pure (Value.float .f64 b)) = _
        cases Ieee.double.mul (un p x) (un q y) <;> rfl
      rw [e, h, mul_un]
      rfl⟩
  · have h := core (Ieee.double.div x y)
    rw [← div_un p x q y] at h
    obtain ⟨r, m, h⟩ := h
    exact ⟨r, m, by
      have e : binOp .quo t (.float .f64 (un p x)) (.float .f64 (un q y)) = nanOr (un p x) (un q y) (Ieee.double.div (un p x) (un q y)) := by
        show (match Ieee.double.div (un p x) (un q y) with | some r => (pure (Value.float .f64 r) : Sem Value) | none => choose (.nanBits .f64 (un p x) (un q y)) >>= fun b => pure (Value.float .f64 b)) = _
        cases Ieee.double.div (un p x) (un q y) <;> rfl
      rw [e, h, div_un]
      rfl⟩

section
variable {P : Program} {ops : Array Oper} {rest : List Oper} {o : Oper} {a : Act} {Q : Exit → Act → World → Prop} {W : World}
theorem run_fopx {op : BinOp} {t t2 : TypeId} {x y : Operand} (ho : o.op = .binOp op t x y t2) (hok : okop op = true) {A B X Y p q : Nat} (hx : a.eval x = .float .f64 A) (hy : a.eval y = .float .f64 B) (hA : A = un p X) (hB : B = un q Y) :
    ∃ r m, (execOp a.eval o).run P W = .ok (.value (.float .f64 (un r (fop op X Y)))) (W.drewN m) := by
  obtain ⟨r, m, h⟩ := run_fop op hok t A B X Y p q hA hB P W
  refine ⟨r, m, ?_⟩
  unfold execOp
  rw [ho]
  have hg : (eqGuard op t x y (a.eval x) (a.eval y)) = pure () := by
    cases op <;> first | rfl | (simp [okop] at hok)
  show ((do eqGuard op t x y (a.eval x) (a.eval y); binOp op t (a.eval x) (a.eval y)) >>= fun z => pure (Next.value z)).run P W = _
  rw [hg, hx, hy]
  show ((pure () >>= fun _ => binOp op t (.float .f64 A) (.float .f64 B)) >>= fun z => pure (Next.value z)).run P W = _
  rw [Sem.run_bind, Sem.run_bind]
  simp only [Sem.run_pure, Result.andThen_ok, h]
theorem fop_event (hgd : o.guard = none) {N : Tmp} (_hd : o.dst = some N) {op : BinOp} {t t2 : TypeId} {x y : Operand} (ho : o.op = .binOp op t x y t2) (hok : okop op = true) {A B : Nat} (p X q Y : Nat) (hx : a.eval x = .float .f64 A) (hy : a.eval y = .float .f64 B) (hA : A = un p X) (hB : B = un q Y) (f : Nat → Nat → Nat) (hf : fop op = f)
    (h : ∀ r w1, Drawn0 W w1 → wpList P ops Q rest (a.put (some N) (.float .f64 (un r (f X Y)))) w1) : wpList P ops Q (o :: rest) a W := by
  subst hf
  obtain ⟨r, m, hr⟩ := run_fopx (P := P) (W := W) ho hok hx hy hA hB
  refine Kd.event_run hgd hr ?_
  rw [_hd]
  exact h r _ ⟨⟨m, rfl⟩⟩
theorem fop_eventB (hgd : o.guard = none) {N : Tmp} (_hd : o.dst = some N) {op : BinOp} {t t2 : TypeId} {x y : Operand} (ho : o.op = .binOp op t x y t2) (hok : okop op = true) {A B : Nat} (p X q Y : Nat) (hx : a.eval x = .float .f64 A) (hy : a.eval y = .float .f64 B) (hA : A = un p X) (hB : B = un q Y) (f : Nat → Nat → Nat) (hf : fop op = f)
    (h : ∀ r w1, Below W.heap.size W w1 → wpList P ops Q rest (a.put (some N) (.float .f64 (un r (f X Y)))) w1) : wpList P ops Q (o :: rest) a W :=
  fop_event hgd _hd ho hok p X q Y hx hy hA hB f hf (fun r w1 hd_ => h r w1 hd_.below)
end
section
variable {P : Program} {ops : Array Oper} {o : Oper} {a : Act} {Q : Exit → Act → World → Prop} {Kc : Act → World → Prop} {W : World}
theorem fop_step (hw : Region.wanted o (yielded ops a.tmps) = true) {N : Tmp} (_hd : o.dst = some N) {op : BinOp} {t t2 : TypeId} {x y : Operand} (ho : o.op = .binOp op t x y t2) (hok : okop op = true) {A B : Nat} (p X q Y : Nat) (hx : a.eval x = .float .f64 A) (hy : a.eval y = .float .f64 B) (hA : A = un p X) (hB : B = un q Y) (f : Nat → Nat → Nat) (hf : fop op = f)
    (h : ∀ r w1, Drawn0 W w1 → Kc (a.put (some N) (.float .f64 (un r (f X Y)))) w1) : if Region.wanted o (yielded ops a.tmps) = true then Oper.wp P o a W Kc Q else Kc (a.put (some N) undef) W := by
  subst hf
  obtain ⟨r, m, hr⟩ := run_fopx (P := P) (W := W) ho hok hx hy hA hB
  have := event_step (Q := Q) (Kc := Kc) hw hr (by rw [_hd]; exact h r _ ⟨⟨m, rfl⟩⟩)
  rwa [_hd] at this
theorem fop_stepB (hw : Region.wanted o (yielded ops a.tmps) = true) {N : Tmp} (_hd : o.dst = some N) {op : BinOp} {t t2 : TypeId} {x y : Operand} (ho : o.op = .binOp op t x y t2) (hok : okop op = true) {A B : Nat} (p X q Y : Nat) (hx : a.eval x = .float .f64 A) (hy : a.eval y = .float .f64 B) (hA : A = un p X) (hB : B = un q Y) (f : Nat → Nat → Nat) (hf : fop op = f)
    (h : ∀ r w1, Below W.heap.size W w1 → Kc (a.put (some N) (.float .f64 (un r (f X Y)))) w1) : if Region.wanted o (yielded ops a.tmps) = true then Oper.wp P o a W Kc Q else Kc (a.put (some N) undef) W :=
  fop_step hw _hd ho hok p X q Y hx hy hA hB f hf (fun r w1 hd_ => h r w1 hd_.below)
end


/-! ### Functions of the library that have no Go text: bits and floats -/
section
variable {P : Program} {ops : Array Oper} {rest : List Oper} {o : Oper} {a : Act} {Q : Exit → Act → World → Prop} {W : World}
theorem run_ext {f : FuncId} {fn : Func} {as : Array Operand} {ts : Array TypeId} {e : Array Value → Sem Value} (hop : o.op = .call { callee := .value (.func f), args := as, argTypes := ts }) (hf : P.funcs[f]? = some fn) (hname : (fn.name == "runtime.NumGoroutine") = false)
    (hb : fn.body.isNone = true) (hn : Extern.findNext fn = none) (he : Extern.find fn = some e) (args : Array Value) (hargs : as.map a.eval = args) {v : Value} (hv : e args = pure v) :
    (execOp a.eval o).run P W = .ok (.value v) W := by
  have h := run_callFunc_extern hf hname hb hn he args W
  rw [hv] at h
  unfold execOp
  simp only [hop]
  simp only [resolve, Deferred.ofValue, invoke, Act.eval, hargs] at h ⊢
  simp [h, hargs]
theorem run_extc {f : FuncId} {fn : Func} {e : Array Value → Sem Value} (hf : P.funcs[f]? = some fn) (hname : (fn.name == "runtime.NumGoroutine") = false)
    (hb : fn.body.isNone = true) (hn : Extern.findNext fn = none) (he : Extern.find fn = some e) (args : Array Value) {v : Value} (hv : e args = pure v) (W : World) :
    (callFunc f args).run P W = .ok (.value v) W := by
  have h := run_callFunc_extern hf hname hb hn he args W
  rw [hv] at h
  rw [h]
  rfl
theorem ext_event (hgd : o.guard = none) {N : Tmp} (_hd : o.dst = some N) {f : FuncId} {fn : Func} {as : Array Operand} {ts : Array TypeId} {e : Array Value → Sem Value} (hop : o.op = .call { callee := .value (.func f), args := as, argTypes := ts }) (hf : P.funcs[f]? = some fn) (hname : (fn.name == "runtime.NumGoroutine") = false)
    (hb : fn.body.isNone = true) (hn : Extern.findNext fn = none) (he : Extern.find fn = some e) (args : Array Value) (hargs : as.map a.eval = args) {v : Value} (hv : e args = pure v)
    (h : wpList P ops Q rest (a.put (some N) v) W) : wpList P ops Q (o :: rest) a W := by
  refine Kd.event_run hgd (run_ext hop hf hname hb hn he args hargs hv) ?_
  rw [_hd]
  exact h
end
theorem abs_bits (x : Nat) : (Go.bits .andNot .u64 (x : Int) 9223372036854775808).toNat = x % 9223372036854775808 := by
  have key : ∀ y : Nat, y < 2^64 → (Go.bits .andNot .u64 (y : Int) 9223372036854775808) = (y : Int) % 9223372036854775808 := by
    intro y h
    go_bits2
  have e : (Go.bits .andNot .u64 (x : Int) 9223372036854775808) = Go.bits .andNot .u64 ((x % 2^64 : Nat) : Int) 9223372036854775808 := by
    unfold Go.bits
    have : BitVec.ofInt IntKind.u64.bits (x : Int) = BitVec.ofInt IntKind.u64.bits ((x % 2^64 : Nat) : Int) := by
      apply BitVec.eq_of_toNat_eq
      simp [IntKind.bits]
      omega
    rw [this]
  rw [e, key _ (Nat.mod_lt _ (by decide))]
  omega
/-- What a float is worth, its sign struck. -/
def fabs (x : Nat) : Nat := if isn x then qnan else x % 9223372036854775808
theorem isn_mod (b : Nat) : isn (b % 9223372036854775808) = isn b := by
  unfold isn Ieee.Format.read
  have h1 : Ieee.double.signWeight = 9223372036854775808 := by decide +kernel
  simp only [h1, Nat.mod_mod]
  repeat' split
  all_goals rfl
theorem fabs_un (p x : Nat) : (un p x) % 9223372036854775808 = un ((un p x) % 9223372036854775808) (fabs x) := by
  unfold fabs
  rcases un_cases p x with h | ⟨h1, h2⟩
  · rw [h]
    by_cases hx : isn x = true
    · rw [if_pos hx]
      have : isn (x % 9223372036854775808) = true := by rw [isn_mod]; exact hx
      simp [un, this]
    · rw [if_neg hx, un_self]
  · rw [if_pos h1]
    have : isn (un p x % 9223372036854775808) = true := by rw [isn_mod]; exact h2
    generalize un p x % 9223372036854775808 = z at this
    simp [un, this]


/-! ### The sign turned -/
def fneg (x : Nat) : Nat := if isn x then qnan else x ^^^ 9223372036854775808
theorem xor_mod (b : Nat) : (b ^^^ 9223372036854775808) % 9223372036854775808 = b % 9223372036854775808 := by
  have h : (9223372036854775808 : Nat) = 2 ^ 63 := by decide
  rw [h]
  apply Nat.eq_of_testBit_eq
  intro i
  simp only [Nat.testBit_mod_two_pow, Nat.testBit_xor, Nat.testBit_two_pow]
  by_cases hi : i < 63
  · have : ¬ (63 = i) := by omega
    simp [hi, this]
  · simp [hi]
theorem isn_of_mod {a b : Nat} (h : a % 9223372036854775808 = b % 9223372036854775808) : isn a = isn b := by
  rw [← isn_mod a, ← isn_mod b, h]
theorem fneg_un (p x : Nat) : (un p x) ^^^ 9223372036854775808 = un ((un p x) ^^^ 9223372036854775808) (fneg x) := by
  have hz : ∀ b, isn (b ^^^ 9223372036854775808) = isn b := fun b => isn_of_mod (xor_mod b)
  unfold fneg
  rcases un_cases p x with h | ⟨h1, h2⟩
  · rw [h]
    by_cases hx : isn x = true
    · rw [if_pos hx]
      have : isn (x ^^^ 9223372036854775808) = true := by rw [hz]; exact hx
      generalize x ^^^ 9223372036854775808 = z at this
      simp [un, this]
    · rw [if_neg hx, un_self]
  · rw [if_pos h1]
    have : isn (un p x ^^^ 9223372036854775808) = true := by rw [hz]; exact h2
    generalize un p x ^^^ 9223372036854775808 = z at this
    simp [un, this]
section
variable {P : Program} {ops : Array Oper} {o : Oper} {a : Act} {W : World}
theorem run_negx {x : Operand} {t : TypeId} (ho : o.op = .unOp .neg t x) {A p X : Nat} (hx : a.eval x = .float .f64 A) (hA : A = un p X) : ∃ r, (execOp a.eval o).run P W = .ok (.value (.float .f64 (un r (fneg X)))) W := by
  subst hA
  refine ⟨(un p X) ^^^ 9223372036854775808, ?_⟩
  unfold execOp
  rw [ho]
  rw [← fneg_un]
  show ((Op.unary .neg (a.eval x)) >>= fun z => pure (Next.value z)).run P W = _
  rw [hx]
  rfl
theorem neg_event {rest : List Oper} {Q : Exit → Act → World → Prop} (hgd : o.guard = none) {N : Tmp} (_hd : o.dst = some N) {t : TypeId} {x : Operand} (ho : o.op = .unOp .neg t x) {A : Nat} (p X : Nat) (hx : a.eval x = .float .f64 A) (hA : A = un p X)
    (h : ∀ r w1, Drawn0 W w1 → wpList P ops Q rest (a.put (some N) (.float .f64 (un r (fneg X)))) w1) : wpList P ops Q (o :: rest) a W := by
  obtain ⟨r, hr⟩ := run_negx (P := P) (W := W) ho hx hA
  refine Kd.event_run hgd hr ?_
  rw [_hd]
  exact h r _ ⟨⟨0, rfl⟩⟩
theorem neg_eventB {rest : List Oper} {Q : Exit → Act → World → Prop} (hgd : o.guard = none) {N : Tmp} (_hd : o.dst = some N) {t : TypeId} {x : Operand} (ho : o.op = .unOp .neg t x) {A : Nat} (p X : Nat) (hx : a.eval x = .float .f64 A) (hA : A = un p X)
    (h : ∀ r w1, Below W.heap.size W w1 → wpList P ops Q rest (a.put (some N) (.float .f64 (un r (fneg X)))) w1) : wpList P ops Q (o :: rest) a W :=
  neg_event hgd _hd ho p X hx hA (fun r w1 hd_ => h r w1 hd_.below)
theorem neg_step {Q : Exit → Act → World → Prop} {Kc : Act → World → Prop} (hw : Region.wanted o (yielded ops a.tmps) = true) {N : Tmp} (_hd : o.dst = some N) {t : TypeId} {x : Operand} (ho : o.op = .unOp .neg t x) {A : Nat} (p X : Nat) (hx : a.eval x = .float .f64 A) (hA : A = un p X)
    (h : ∀ r w1, Drawn0 W w1 → Kc (a.put (some N) (.float .f64 (un r (fneg X)))) w1) : if Region.wanted o (yielded ops a.tmps) = true then Oper.wp P o a W Kc Q else Kc (a.put (some N) undef) W := by
  obtain ⟨r, hr⟩ := run_negx (P := P) (W := W) ho hx hA
  have := event_step (Q := Q) (Kc := Kc) hw hr (by rw [_hd]; exact h r _ ⟨⟨0, rfl⟩⟩)
  rwa [_hd] at this
theorem neg_stepB {Q : Exit → Act → World → Prop} {Kc : Act → World → Prop} (hw : Region.wanted o (yielded ops a.tmps) = true) {N : Tmp} (_hd : o.dst = some N) {t : TypeId} {x : Operand} (ho : o.op = .unOp .neg t x) {A : Nat} (p X : Nat) (hx : a.eval x = .float .f64 A) (hA : A = un p X)
    (h : ∀ r w1, Below W.heap.size W w1 → Kc (a.put (some N) (.float .f64 (un r (fneg X)))) w1) : if Region.wanted o (yielded ops a.tmps) = true then Oper.wp P o a W Kc Q else Kc (a.put (some N) undef) W :=
  neg_step hw _hd ho p X hx hA (fun r w1 hd_ => h r w1 hd_.below)
end

/-! ### A whole number's float -/
def foi (n : Int) : Nat := floatOfInt .f64 n
theorem conv_int {P : Program} (w : World) (src dst : TypeId) (q : IntKind) (n : Int) (hs : (P.underlying src).isSome = true) (hd : P.underlying dst = some (.float .f64)) :
    (convert src dst (.int q n)).run P w = .ok (.float .f64 (un 0 (foi n))) w := by
  rw [un_zero]
  exact run_convert_int_float w src dst q .f64 n hs hd

/-! ### A float's whole number, cut towards nought, where it is one of int64 -/
def inI (x : Nat) : Bool := (floatToIntVal .f64 x .i64).isSome
def toi (x : Nat) : Int := (floatToIntVal .f64 x .i64).getD 0
theorem inI_qnan : inI qnan = false := by decide +kernel
theorem conv_flt {P : Program} (w : World) (src dst : TypeId) (p x : Nat) (hs : (P.underlying src).isSome = true) (hd : P.underlying dst = some (.int .i64)) (h : inI x = true) :
    (convert src dst (.float .f64 (un p x))).run P w = .ok (.int .i64 (toi x)) w := by
  have hx : x ≠ qnan := fun e => by rw [e, inI_qnan] at h; cases h
  have e : un p x = x := by unfold un; rw [if_neg hx]
  rw [e]
  obtain ⟨n, hn⟩ := Option.isSome_iff_exists.1 h
  have ht : toi x = n := by unfold toi; rw [hn]; rfl
  rw [ht]
  exact run_convert_float_int w src dst .f64 .i64 x n hs hd hn

theorem foi_fold (n : Int) : floatOfInt .f64 n = un 0 (foi n) := (un_zero _).symm
theorem run_store_flt (P : Program) (w : World) (a : Addr) (m : Mode) (k : FloatKind) (b : Nat) : (store a (.float k b) m).run P w = stored P w a (.float k b) m := run_store P w a _ m rfl

/-! ### A call of a function value that is known -/
section
variable {P : Program} {ops : Array Oper} {a : Act} {Q : Exit → Act → World → Prop} {w : World}
theorem goesV_ {rest : List Oper} {oi : Oper} (N : Option Tmp) (hd : oi.dst = N) (hg : oi.guard = none) {f : FuncId} {fn : Func} {x : Operand} {as : Array Operand} {ts : Array TypeId} {cap : Array Value} (hf : P.funcs[f]? = some fn) (hname : (fn.name == "runtime.NumGoroutine") = false) (hb : fn.body.isSome = true) (args : Array Value)
    (hop : oi.op = .call { callee := .value x, args := as, argTypes := ts }) (hx : a.eval x = .func (.func f) #[] cap) (hargs : as.map a.eval ++ cap = args)
    (h : Calls P f args w fun e w' => ∃ v, e = .returned v ∧ wpList P ops Q rest (a.put N v) w') : wpList P ops Q (oi :: rest) a w := by
  refine wpList_plain hg fun K hK => ?_
  have he := enters_ hf hname hb args w
  have hrun : (execOp a.eval oi).run P w = .ok (.enter f args) w := by
    unfold execOp
    simp [hop, resolve, Deferred.ofValue, invoke, hx, hargs, he]
  unfold Oper.wp
  rw [hrun, Oper.upon_enter]
  refine h.mono fun e w'' hh => ?_
  obtain ⟨v, rfl, hk⟩ := hh
  subst hd
  exact hK _ _ hk
theorem gate_calleeV {rest : List Oper} {o : Oper} {W : World} {x : Tmp} {as : Array Operand} {ts : Array TypeId} (_ho : o.op = .call { callee := .value (.tmp x), args := as, argTypes := ts }) (h : wpList P ops Q (o :: rest) a W) : wpList P ops Q (o :: rest) a W := h
theorem goesVS_ {oi : Oper} {N : Option Tmp} {K : Act → World → Prop} {f : FuncId} {fn : Func} {x : Operand} {as : Array Operand} {ts : Array TypeId} {cap : Array Value} (hf : P.funcs[f]? = some fn) (hname : (fn.name == "runtime.NumGoroutine") = false) (hb : fn.body.isSome = true) (args : Array Value)
    (hw : Region.wanted oi (yielded ops a.tmps) = true) (hN : oi.dst = N) (hop : oi.op = .call { callee := .value x, args := as, argTypes := ts }) (hx : a.eval x = .func (.func f) #[] cap) (hargs : as.map a.eval ++ cap = args)
    (h : Calls P f args w fun e w' => ∃ v, e = .returned v ∧ K (a.put N v) w') : if Region.wanted oi (yielded ops a.tmps) = true then Oper.wp P oi a w K Q else K (a.put N undef) w := by
  refine call_ f args hw hN ?_ h
  have he := enters_ hf hname hb args w
  unfold execOp
  simp [hop, resolve, Deferred.ofValue, invoke, hx, hargs, he]
end

/-! ### How a cell is told -/
def FV (v : Value) (x : Nat) : Prop := ∃ p, v = .float .f64 (un p x)
theorem fvm {v : Value} {x : Nat} (h : FV v x) : ∃ p, [v] = [.float .f64 (un p x)] := by
  obtain ⟨p, rfl⟩ := h
  exact ⟨p, rfl⟩
end Go.Proofs.YtcdghhihfjojaabW.PrintFlt
namespace Go.Proofs.YtcdghhihfjojaabW.PrintWords
open Go.Proofs.YtcdghhihfjojaabW.PrintFlt
def Kd.flt : Kd Nat where
  sz := 1
  E := []
  K := fun _ x cs => ∃ p, cs = [.float .f64 (un p x)]
  M := fun _ _ _ x cs => ∃ p, cs = [.float .f64 (un p x)]
  K_len := by
    rintro w x cs ⟨p, rfl⟩
    rfl
  K_one := by
    rintro w x cs ⟨p, rfl⟩ u hu
    rw [List.mem_singleton.1 hu]
    rfl
  K_below := fun _ h => h
  K_of_M := fun h => h
  M_mono := fun _ h => h
  M_bound := fun h => h
  M_move := fun _ h => h
  M_lower := fun _ h => h
theorem Kd.heap_flt : Kd.Heap Kd.flt := ⟨fun _ h => h⟩
def rd_F (xs : List Nat) (i : Int) : Nat := xs.getD i.toNat 0
theorem at_F {w : World} {A : Option Addr} {n : Nat} {xs : List Nat} (h : Kd.C Kd.flt w A n xs) (i : Int) (h0 : 0 ≤ i) (h1 : i < n) : ∃ ad p0, A = some ad ∧ w.cell? (ad.add i.toNat) = some (.float .f64 (un p0 (rd_F xs i))) := by
  obtain ⟨ad, c, e, _, hK, hc0⟩ := Kd.C_get h (0 : Nat) i h0 h1
  obtain ⟨p, rfl⟩ := hK
  have hc : w.cell? (ad.add (i.toNat * 1 + 0)) = some (.float .f64 (un p (xs.getD i.toNat 0))) := hc0 0 _ rfl
  rw [Nat.mul_one, Nat.add_zero] at hc
  exact ⟨ad, p, e, hc⟩
end Go.Proofs.YtcdghhihfjojaabW.PrintWords
