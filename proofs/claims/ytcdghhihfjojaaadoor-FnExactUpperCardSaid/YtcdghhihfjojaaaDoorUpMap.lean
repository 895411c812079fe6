/- What the listed map of the row FnExactUpper gives: each look-up in it, in every later world; no condition. -/
import Derived.Test.YtcdghhihfjojaaaDoorUp
import Derived.Test.YtcdghhihfjojaaaDoorRows
import Derived.Maps.Keyed
import Derived.WideKeyElems2
import Derived.WalkArith
import Derived.ProofKit
import Derived.FnData
import Derived.LaidHandle
set_option linter.unusedVariables false
namespace Go.Proofs.YtcdghhihfjojaaaDoor.UpMap
open Go.ChangeShapes Go.WideShapes Go.RowKit Go.WideElems Go.Proofs.YtcdghhihfjojaaaDoor.Opens Go.Proofs.YtcdghhihfjojaaaDoor.Q Go.Proofs.YtcdghhihfjojaaaDoorW.PrintWords
theorem elemAt_str {H : Type} {enc : TypeId × Value → H} {P : Program} {base : Nat} {held : Bool} {e : TypeId} (he : P.underlying e = some .string) {W : World} {sp : Nat → Bool} {n : Nat} {v : Value} {z : DataW H × List MemPlace} (h : elemAt enc P W base sp held n e v = some z) : ∃ s : ByteArray, v = .string s ∧ z = (.lit (.string s.data.toList), []) := by
  unfold elemAt at h
  split at h
  · rename_i hf
    obtain ⟨s, hc, hz, _⟩ := DataW.trod_string he h
    cases v <;> simp [Value.formed, he, Value.cells] at hf hc
    subst hc
    exact ⟨_, rfl, hz⟩
  · cases h
theorem datum : (Rows.laid_loop_example_g00051_impl_uppers : DataW Unit) = .map (upTab.map fun p => (.int .i32 p.1, .lit (.string p.2))) := by kernel_rfl
theorem same (a b : Int) : (Lit.int .i32 a).sameKey (.int .i32 b) = (a == b) := by
  unfold Lit.sameKey
  by_cases h : a = b
  · subst h
    simp
  · simp [h]
theorem at_key (r : Int) : (Rows.laid_loop_example_g00051_impl_uppers : DataW Unit).atKey (.int .i32 r) .nil = match upOf r with | some l => .lit (.string l) | none => .nil := by
  rw [datum]
  unfold DataW.atKey upOf
  simp only [List.find?_map, Function.comp_def, same]
  cases upTab.find? fun p => p.1 == r with
  | none => rfl
  | some p => rfl
theorem up_in {W : World} (h : laidMet Tryd.prog Rows.fnExactUpperRow.laid W) : ∃ bm, UpM bm W := by
  obtain ⟨g, t, cs, fuel, p, hg, ht, hv, hd⟩ := laid_rd h (n := "loop.example/g00051/impl.uppers") (d := Rows.laid_loop_example_g00051_impl_uppers) (by simp [Rows.fnExactUpperRow])
  obtain rfl := Option.some.inj ((show Tryd.prog.globalNamed "loop.example/g00051/impl.uppers" = some 0 by kernel_rfl).symm.trans hg)
  obtain rfl := Option.some.inj ((show (Tryd.prog.globals[0]?).map (·.type) = some 46 by kernel_rfl).symm.trans ht)
  rcases open_map Tryd.underlying46 hd with ⟨_, hx⟩ | ⟨bm, es, clock, m, rfl, hcs, hb, _, F, hx⟩
  · simp [Rows.laid_loop_example_g00051_impl_uppers] at hx
  simp only [Prod.mk.injEq] at hx
  have hcell : W.cell? ⟨0, 0, none⟩ = some (.map (some bm)) := by
    have := World.var?_cell hg hv 0
    rw [Array.eq_one_of_toList hcs] at this
    simpa using this
  have h0lt : 0 < W.heap.size := by
    have := lt_of_block hb
    omega
  refine ⟨bm, fun w' hB => ⟨by rw [hB.cell h0lt]; exact hcell, fun r h0 h1 => ?_⟩⟩
  have hk := at_key r
  rcases Maps.fit_look (w := w') (z := .string ⟨#[]⟩) true (Maps.int_keyed Tryd.underlying21) Tryd.underlying46 (by kernel_rfl) (by rw [hB.block bm (lt_of_block hb)]; exact hb) F (Maps.keyOf_int_mk Tryd.underlying21 (WalkArith.wf_i32 ⟨h0, h1⟩)) with ⟨hrun, _, hat⟩ | ⟨e0, y, _, _, hrun, hR, hat, _⟩
  · have e := hat .nil
    rw [← hx.1, hk] at e
    have hn : upOf r = none := by
      cases hu : upOf r with
      | none => rfl
      | some l => rw [hu] at e; cases e
    rw [hrun]
    unfold upS upHas
    rw [hn]
    rfl
  · obtain ⟨s, es_, rfl⟩ := elemAt_str Tryd.underlying9 hR
    have e := hat .nil
    rw [← hx.1, hk] at e
    have hn : upOf r = some s.data.toList := by
      cases hu : upOf r with
      | none => rw [hu] at e; cases e
      | some l =>
        rw [hu] at e
        simp only [DataW.lit.injEq, Lit.string.injEq] at e
        rw [e]
    rw [hrun, es_]
    unfold upS upHas
    rw [hn]
    rfl
end Go.Proofs.YtcdghhihfjojaaaDoor.UpMap
