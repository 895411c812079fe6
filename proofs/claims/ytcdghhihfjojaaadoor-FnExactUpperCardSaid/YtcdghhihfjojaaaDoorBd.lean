import Derived.Lib.Builder
import Derived.Test.YtcdghhihfjojaaaDoorShelf
import Derived.Test.YtcdghhihfjojaaaDoorProg
import Derived.Below
import Derived.Deep.Draws
import Derived.Deep.AppendLies
import Derived.Maps.AppendAt
import Derived.OwnWalk
import Derived.Laws.BytesArg
import Derived.Laws.MakeOwn
import Derived.Laws.OwnMore
import Derived.Deep.OwnRows
import Derived.Tactics
import Derived.Lib.ConvBytes
import Derived.Laws.Slices
import Derived.WalkKit
import Derived.KernelRfl
import Derived.RowKit3
import Derived.Deep.LoopGhost
import Derived.Deep.QuietTactic
import Derived.BigQuiet
import Derived.WideLaws
import Derived.Deep.DeepCutAuto
import Derived.Deep.CutBlock
import Derived.Deep.RegionHeld3
import Derived.Laws.Rows
import Derived.Lib.AppendStr
import Derived.ArgAppend
import Derived.Laws.IdiomCopy
import Derived.OrdersHeld
import Derived.Laws.BitsLemmas
import Derived.RowKit
import Derived.Test.YtcdghhihfjojaaaDoorFlt
import Derived.Test.YtcdghhihfjojaaaDoorWWords
import Derived.Test.YtcdghhihfjojaaaDoorWLast
import Derived.Test.YtcdghhihfjojaaaDoorWTab
import Derived.Test.YtcdghhihfjojaaaDoorWFour
import Derived.Test.YtcdghhihfjojaaaDoorWQPut
import Derived.Test.YtcdghhihfjojaaaDoorWApart
import Derived.Test.YtcdghhihfjojaaaDoorWArr
import Derived.Test.YtcdghhihfjojaaaDoorWZeros
import Derived.Test.YtcdghhihfjojaaaDoorWFoot
import Derived.Test.YtcdghhihfjojaaaDoorWKept
import Derived.Test.YtcdghhihfjojaaaDoorWShare
import Derived.Test.YtcdghhihfjojaaaDoorWN
import Derived.Test.YtcdghhihfjojaaaDoorWFootNe
import Derived.Test.YtcdghhihfjojaaaDoorWAt
import Derived.Test.YtcdghhihfjojaaaDoorWEqStruct
import Derived.Test.YtcdghhihfjojaaaDoorWRepsOne
import Derived.Test.YtcdghhihfjojaaaDoorWInv
import Derived.Test.YtcdghhihfjojaaaDoorWInvWords
import Derived.Test.YtcdghhihfjojaaaDoorWGuard
import Derived.Test.YtcdghhihfjojaaaDoorWNEv
import Derived.Test.YtcdghhihfjojaaaDoorWMore
namespace Go.Proofs.YtcdghhihfjojaaaDoor.Q
open Go.RowKit Go.Proofs.YtcdghhihfjojaaaDoorW.PrintWords Go.Proofs.YtcdghhihfjojaaaDoorW.PrintLast Go.Proofs.YtcdghhihfjojaaaDoorW.PrintMore Go.Proofs.YtcdghhihfjojaaaDoorW.PrintFlt
set_option linter.unusedVariables false
set_option linter.unusedSimpArgs false

/-- Blocks of other types than a builder's and its buffer's stay. -/
def KT (w w' : World) : Prop := w.heap.size ≤ w'.heap.size ∧ ∀ (k : Nat) (cs : Array Value) (q : TypeId), w.heap[k]? = some (Obj.cells cs q (0, 0)) → q ≠ 37 → q ≠ 5 → w'.heap[k]? = w.heap[k]?
theorem KT.refl (w : World) : KT w w := ⟨Nat.le_refl _, fun _ _ _ _ _ _ => rfl⟩
theorem KT.trans {w w1 w2 : World} (h : KT w w1) (k : KT w1 w2) : KT w w2 := ⟨Nat.le_trans h.1 k.1, fun i cs q hi h1 h2 => by
  have e := h.2 i cs q hi h1 h2
  rw [← e] at hi ⊢
  exact k.2 i cs q hi h1 h2⟩
theorem KT.R {α : Type} {d : Kd α} {e : Nat} {w w1 : World} {base : Nat} {ok : Nat → Prop} {v : Value} {xs : List α} (hk : KT w w1) (h : d.R e w base ok v xs) (he : ∀ q, q ∈ e :: d.E → q ≠ 37 ∧ q ≠ 5) : d.R e w1 base ok v xs :=
  Kd.R_mono (Kd.R_move (Kd.R_bound h) (fun k hk' => by
    obtain ⟨_, _, _, q, hq, cells, hc⟩ := hk'
    exact hk.2 k cells q hc (he q hq).1 (he q hq).2)) (fun _ hk' => hk'.1)
theorem KT.set {w : World} {g : Nat} {cs : Array Value} (h : w.heap[g]? = some (.cells cs 37 (0, 0))) (j : Nat) (u : Value) : KT w (w.setCell ⟨g, j, none⟩ u) := ⟨by simp [World.setCell], fun k cs' q hk h1 h2 => Below.heap_setCell w ⟨g, j, none⟩ u k (by rintro rfl; rw [hk] at h; injection h with h; injection h with _ h; exact h1 h)⟩
/-- A builder (block b, of the call's own) that holds the bytes xs. -/
def BdP (w : World) (base b : Nat) (p : Value) (xs : List Int) : Prop := ∃ v, w.heap[b]? = some (.cells #[p, v] 37 (0, 0)) ∧ (Kd.int .u8).R 5 w base (fun k => k ≠ b) v xs
def Bd (w : World) (base b : Nat) (xs : List Int) : Prop := BdP w base b (.pointer none) xs ∨ BdP w base b (.pointer (some ⟨b, 0, none⟩)) xs
def PostC (w0 w : World) (base b : Nat) (xs : List Int) (e : Ending) (w' : World) : Prop := e = .returned (.tuple #[]) ∧ BdP w' base b (.pointer (some ⟨b, 0, none⟩)) xs ∧ Below w0.heap.size w0 w' ∧ KT w w'
set_option maxHeartbeats 8000000 in
set_option maxRecDepth 100000 in
theorem copyCheck_calls (w0 w : World) (base b : Nat) (xs : List Int) (h : Bd w base b xs) (hB : Below w0.heap.size w0 w) (hb : w0.heap.size ≤ b) : Calls Tryd.prog 19 #[.pointer (some ⟨b, 0, none⟩)] w (PostC w0 w base b xs) := by
  obtain ⟨j, hj, hjs⟩ := Option.map_eq_some_iff.1 (show (Tryd.prog.info? 37).map (fun i => i.size) = some 2 from by kernel_rfl)
  rcases h with ⟨v, hh, hR⟩ | ⟨v, hh, hR⟩
  · have H := Aside0.mk hh
    have HR := Aside0.mk hR
    have HB := Aside0.mk hB
    have h0 := blk_cell hh 0
    have hf := blk_frozen hh 0
    simp only [List.getElem?_toArray, List.getElem?_cons_zero] at h0
    have hsh : w.shape? b = some (37, 2) := by simp [World.shape?, hh]
    clear hh hR hB
    go_enter Tryd.func19, Tryd.ntmps19
    go_wp2
    rw [Lib.run_to_unsafe w ⟨b, 0, none⟩ Tryd.underlying35 Tryd.underlying50 hj (by rw [hjs]; decide) hsh (Nat.zero_lt_succ 1)]
    simp only [Result.andThen]
    rw [Oper.upon_value]
    go_wp2
    rw [run_extc Tryd.func21 (by kernel_rfl) rfl (by kernel_rfl) (e := Extern.AbiNoEscape.same) (by kernel_rfl) _ (v := .pointer (some ⟨b, 0, none⟩)) rfl]
    go_wp2
    rw [Lib.run_from_unsafe w ⟨b, 0, none⟩ Tryd.underlying50 Tryd.underlying35 hj hsh (by kernel_rfl)]
    simp only [Result.andThen]
    rw [Oper.upon_value]
    go_wp2
    have hfar : ∀ k : Nat, k ≠ b → k ≠ (⟨b, 0, none⟩ : Addr).block := fun k h => h
    exact bodyPost_ret (v := .tuple #[]) (by simp [results, Tryd.results19, go_sem]) rfl ⟨rfl, ⟨v, blk_put H.out 0 _ rfl, Kd.R_far HR.out (fun k h => h) _⟩, below_set HB.out hb, KT.set H.out 0 _⟩
  · have H := Aside0.mk hh
    have HR := Aside0.mk hR
    have HB := Aside0.mk hB
    have h0 := blk_cell hh 0
    simp only [List.getElem?_toArray, List.getElem?_cons_zero] at h0
    clear hh hR hB
    go_enter Tryd.func19, Tryd.ntmps19
    go_wp2
    rw [Lib.run_neq_ptr_same w _ Tryd.underlying35 hj]
    go_wp2
    exact bodyPost_ret (v := .tuple #[]) (by simp [results, Tryd.results19, go_sem]) rfl ⟨rfl, ⟨v, H.out, HR.out⟩, HB.out, KT.refl _⟩
theorem KT.grown {w w1 : World} {base : Nat} {ok : Nat → Prop} {v : Value} {xs : List Int} (h : (Kd.int .u8).R 5 w base ok v xs) (hg : w.grownBy w1 v.ownBlock) : KT w w1 := ⟨hg.size, fun k cs q hk h1 h2 => hg.block k (blk_lt hk) (fun e => by
  obtain ⟨inner, ho⟩ := Kd.R_own h
  obtain ⟨cells, hc⟩ := own_typed ho k e.symm
  rw [hk] at hc
  injection hc with hc
  injection hc with _ hc
  exact h2 hc)⟩
theorem info5b : (Tryd.prog.info? 5).map (fun i => (i.zero, i.size, i.bytes)) = some (some (.int .u8 0), 1, 1) := by kernel_rfl
def PostW (w0 w : World) (b : Nat) (xs : List Int) (r : Value) (e : Ending) (w' : World) : Prop := e = .returned r ∧ BdP w' w0.heap.size b (.pointer (some ⟨b, 0, none⟩)) xs ∧ Below w0.heap.size w0 w' ∧ KT w w'
set_option maxHeartbeats 8000000 in
set_option maxRecDepth 100000 in
theorem writeByte_calls (w0 w : World) (b : Nat) (xs : List Int) (c : Int) (h : Bd w w0.heap.size b xs) (hB : Below w0.heap.size w0 w) (hb : w0.heap.size ≤ b) (hl : xs.length < 140737488355328) : Calls Tryd.prog 13 #[.pointer (some ⟨b, 0, none⟩), .int .u8 c] w (PostW w0 w b (xs ++ [c]) .nilIface) := by
  have HL := Aside0.mk hl
  have HG := Aside0.mk hb
  have H0 := Aside0.mk (copyCheck_calls w0 w w0.heap.size b xs h hB hb)
  clear h hB hb hl
  go_enter Tryd.func13, Tryd.ntmps13
  go_wp2_with (first | (go_at_call 19; refine H0.out.mono ?_; rintro e w1 ⟨rfl, ⟨v, hh, hR⟩, hB1, hK1⟩; have H := Aside0.mk hh; have HR := Aside0.mk hR; have HB := Aside0.mk hB1; have HK := Aside0.mk hK1; have h1 := blk_cell hh 1; have hf := blk_frozen hh 1; simp only [List.getElem?_toArray, List.getElem?_cons_zero, List.getElem?_cons_succ] at h1; clear hh hR hB1 hK1) | ((with_reducible refine gate_builtin (b := .append) (xs := #[.tmp 11, .tmp 13]) rfl ?_); at_builtin; refine Kd.R_append (Kd.int .u8) (w0 := w0) w0.heap.size rfl (.tmp 11) (.tmp 13) 22 5 (.int .u8 0) 1 rfl Tryd.underlying22 info5b rfl (by decide) (by omega) v xs c [.int .u8 c] (fun k => k ≠ b) (fun _ => False) rfl rfl ?aP (fun _ hk => hk.elim) ?aF HR.out HB.out HB.out.size ?aL ?_; (case aP => exact rfl); (case aF => exact (fun k hk e => by have := blk_lt H.out; omega)); (case aL => have := HL.out; omega); intro v1 w2 ho hb2 hg hat; have HO := Aside0.mk ho; have HB2 := Aside0.mk hb2; have HK2 := Aside0.mk (HK.out.trans (KT.grown HR.out hg)); have hh2 := blk_grown H.out hg (fun e => HR.out.1 b e.symm rfl); have H2 := Aside0.mk hh2; have g1 := blk_cell hh2 1; have gf := blk_frozen hh2 1; simp only [List.getElem?_toArray, List.getElem?_cons_zero, List.getElem?_cons_succ] at g1; clear ho hb2 hg hat hh2; obtain ⟨Ao, co, eo⟩ := Kd.R_slice HO.out; subst eo))
  go_ret
  have e1 : (xs ++ [c]).length = xs.length + 1 := by simp
  have HO' := HO.out
  rw [e1] at HO'
  exact ⟨rfl, ⟨_, blk_put H2.out 1 _ rfl, Kd.R_far HO' (fun k h => h) _⟩, below_set HB2.out HG.out, HK2.out.trans (KT.set H2.out 1 _)⟩
set_option maxHeartbeats 8000000 in
set_option maxRecDepth 100000 in
theorem writeString_calls (w0 w : World) (b : Nat) (xs : List Int) (y : ByteArray) (h : Bd w w0.heap.size b xs) (hB : Below w0.heap.size w0 w) (hb : w0.heap.size ≤ b) (hl : xs.length + y.size ≤ 140737488355328) : Calls Tryd.prog 14 #[.pointer (some ⟨b, 0, none⟩), .string y] w (PostW w0 w b (xs ++ bytesOf y) (.tuple #[.int .i64 (y.size : Nat), .nilIface])) := by
  have HL := Aside0.mk hl
  have HG := Aside0.mk hb
  have H0 := Aside0.mk (copyCheck_calls w0 w w0.heap.size b xs h hB hb)
  clear h hB hb hl
  go_enter Tryd.func14, Tryd.ntmps14
  go_wp2_with (first | (go_at_call 19; refine H0.out.mono ?_; rintro e w1 ⟨rfl, ⟨v, hh, hR⟩, hB1, hK1⟩; have H := Aside0.mk hh; have HR := Aside0.mk hR; have HB := Aside0.mk hB1; have HK := Aside0.mk hK1; have h1 := blk_cell hh 1; have hf := blk_frozen hh 1; simp only [List.getElem?_toArray, List.getElem?_cons_zero, List.getElem?_cons_succ] at h1; clear hh hR hB1 hK1) | ((with_reducible refine gate_builtin (b := .append) (xs := #[.tmp 12, .tmp 13]) rfl ?_); at_builtin; refine print_append_str (w0 := w0) w0.heap.size rfl (.tmp 12) (.tmp 13) 22 9 5 rfl Tryd.underlying22 Tryd.underlying9 info5b v xs y rfl rfl (Kd.own_of_R HR.out) HB.out HB.out.size HL.out ?_; intro v1 w2 ho hb2 hg; have hh2 := blk_grown H.out hg (fun e => HR.out.1 b e.symm rfl); have HO := Aside0.mk (Kd.R_of_own (h1 := fun _ => rfl) ho (ok := fun k => k ≠ b) (fun k hk e => by obtain ⟨cells, hc⟩ := own_typed ho k hk; rw [e, hh2] at hc; injection hc with hc; injection hc with _ hc; exact absurd hc (by decide))); have HB2 := Aside0.mk hb2; have HK2 := Aside0.mk (HK.out.trans (KT.grown HR.out hg)); have H2 := Aside0.mk hh2; have g1 := blk_cell hh2 1; have gf := blk_frozen hh2 1; simp only [List.getElem?_toArray, List.getElem?_cons_zero, List.getElem?_cons_succ] at g1; clear ho hb2 hg hh2; obtain ⟨Ao, co, eo⟩ := Kd.R_slice HO.out; subst eo))
  go_ret2
  have e1 : (xs ++ bytesOf y).length = xs.length + (bytesOf y).length := List.length_append
  have HO' := HO.out
  first
  | exact ⟨rfl, ⟨_, blk_put H2.out 1 _ rfl, Kd.R_far HO' (fun k h => h) _⟩, below_set HB2.out HG.out, HK2.out.trans (KT.set H2.out 1 _)⟩
  | (rw [e1] at HO'; exact ⟨rfl, ⟨_, blk_put H2.out 1 _ rfl, Kd.R_far HO' (fun k h => h) _⟩, below_set HB2.out HG.out, HK2.out.trans (KT.set H2.out 1 _)⟩)
theorem bd_is {w : World} {base b : Nat} {l : List UInt8} (h : Bd w base b (l.map fun x => (x.toNat : Int))) (hb : base ≤ b) : Lib.IsBuilder 37 5 base b (Lib.byteCells l) w := by
  have key : ∀ p, BdP w base b p (l.map fun x => (x.toNat : Int)) → Lib.BuilderAt 37 5 base b p (Lib.byteCells l) w := by
    rintro p ⟨v, hh, hR⟩
    refine ⟨hb, v, hh, ?_, fun e => hR.1 b e rfl⟩
    have := Kd.own_of_R hR
    have e1 : encs (fun n => Value.int .u8 n) (l.map fun x => (x.toNat : Int)) = Lib.byteCells l := by simp [encs, Lib.byteCells]
    have e2 : (Lib.byteCells l).length = (l.map fun x => (x.toNat : Int)).length := by simp [Lib.byteCells]
    rw [e2, ← e1]
    exact this
  exact h.elim (fun x => .inl (key _ x)) (fun x => .inr (key _ x))
theorem string_calls (w0 w : World) (b : Nat) (l : List UInt8) (h : Bd w w0.heap.size b (l.map fun x => (x.toNat : Int))) (hB : Below w0.heap.size w0 w) (hb : w0.heap.size ≤ b) : Calls Tryd.prog 15 #[.pointer (some ⟨b, 0, none⟩)] w fun e w' => e = .returned (.string ⟨l.toArray⟩) ∧ Below w0.heap.size w0 w' := by
  refine (Tryd.Builder_String_any w0.heap.size b l w (bd_is h hb) hB.size).mono ?_
  rintro e w' ⟨rfl, hB'⟩
  exact ⟨rfl, hB.trans hB'⟩
end Go.Proofs.YtcdghhihfjojaaaDoor.Q
