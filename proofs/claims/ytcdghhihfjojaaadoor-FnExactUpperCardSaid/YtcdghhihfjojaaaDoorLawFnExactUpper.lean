/- The law FnExactUpper of this seat holds for all arguments: the row, out of its plain statement and the contract of its Go function; no condition. -/
import Derived.Test.YtcdghhihfjojaaaDoorRows
import Derived.Test.YtcdghhihfjojaaaDoorUpMap
import Derived.Test.YtcdghhihfjojaaaDoorPureFnExactUpper
import Derived.Test.YtcdghhihfjojaaaDoorOpen
import Derived.Test.YtcdghhihfjojaaaDoorFltO
import Derived.LaidByTextLater
import Derived.SevenTiedAt
import Derived.LaidMore
import Derived.OpenVars
import Derived.Lay
import Derived.Test.YtcdghhihfjojaaaDoorTie
import Derived.Test.YtcdghhihfjojaaaDoorCards
import Derived.Test.YtcdghhihfjojaaaDoorTabsR
import Derived.WalkKit
import Derived.ProofKit
import Derived.OpenShut
import Derived.ShutString
import Derived.ChangeOld
import Derived.Below
import Derived.SizedLaws
import Derived.Laws.Cover2
namespace Go.Proofs.YtcdghhihfjojaaaDoor.fnExactUpper
open Go.ChangeShapes Go.WideShapes Go.ChangeAt Go.RowKit Go.Proofs.YtcdghhihfjojaaaDoor.Opens Go.Proofs.YtcdghhihfjojaaaDoor.Q Go.Proofs.YtcdghhihfjojaaaDoorW.PrintWords Go.Proofs.YtcdghhihfjojaaaDoorW.PrintFlt
open Go.ChangeMaps (open_string shut_string)
set_option linter.unusedVariables false
theorem own : ownKnob Tryd.prog.godebug = none := by kernel_rfl
theorem laidOut : laidOutB Tryd.prog = true := by kernel_rfl
theorem tab1 {W : World} (h : laidMetH Tryd.prog Rows.fnExactUpperRow.laid W) : ((Kd.int .u8)).C W (some ⟨1, 0, none⟩) ((Go.Pinned.utf8FirstZ.map Int.ofNat) : List Int).length (Go.Pinned.utf8FirstZ.map Int.ofNat) ∧ ((Go.Pinned.utf8FirstZ.map Int.ofNat) : List Int).length = 256 := by
  rw [MakeChecks.laidMetH_plain _ _ _ (by kernel_rfl)] at h
  have e : (Rows.laid_unicode_utf8_first : DataW Unit) = .agg (((Go.Pinned.utf8FirstZ.map Int.ofNat) : List Int).map fun x => .lit (.int .u8 x)) := by kernel_rfl
  have h2 := laid_rd h (n := "unicode/utf8.first") (d := Rows.laid_unicode_utf8_first) (by simp [Rows.fnExactUpperRow])
  rw [e] at h2
  exact tab_int (by kernel_rfl) (by kernel_rfl) (t := 52) (e := 5) (n := 256) (by kernel_rfl) (by kernel_rfl) (by kernel_rfl) (by decide +kernel) h2
theorem tab2 {W : World} (h : laidMetH Tryd.prog Rows.fnExactUpperRow.laid W) : Kd.C k55 W (some ⟨2, 0, none⟩) ([⟨128, 191⟩, ⟨160, 191⟩, ⟨128, 159⟩, ⟨144, 191⟩, ⟨128, 143⟩, ⟨0, 0⟩, ⟨0, 0⟩, ⟨0, 0⟩, ⟨0, 0⟩, ⟨0, 0⟩, ⟨0, 0⟩, ⟨0, 0⟩, ⟨0, 0⟩, ⟨0, 0⟩, ⟨0, 0⟩, ⟨0, 0⟩] : List (S55)).length [⟨128, 191⟩, ⟨160, 191⟩, ⟨128, 159⟩, ⟨144, 191⟩, ⟨128, 143⟩, ⟨0, 0⟩, ⟨0, 0⟩, ⟨0, 0⟩, ⟨0, 0⟩, ⟨0, 0⟩, ⟨0, 0⟩, ⟨0, 0⟩, ⟨0, 0⟩, ⟨0, 0⟩, ⟨0, 0⟩, ⟨0, 0⟩] ∧ ([⟨128, 191⟩, ⟨160, 191⟩, ⟨128, 159⟩, ⟨144, 191⟩, ⟨128, 143⟩, ⟨0, 0⟩, ⟨0, 0⟩, ⟨0, 0⟩, ⟨0, 0⟩, ⟨0, 0⟩, ⟨0, 0⟩, ⟨0, 0⟩, ⟨0, 0⟩, ⟨0, 0⟩, ⟨0, 0⟩, ⟨0, 0⟩] : List (S55)).length = 16 := by
  rw [MakeChecks.laidMetH_plain _ _ _ (by kernel_rfl)] at h
  have e : (Rows.laid_unicode_utf8_acceptRanges : DataW Unit) = .agg (([⟨128, 191⟩, ⟨160, 191⟩, ⟨128, 159⟩, ⟨144, 191⟩, ⟨128, 143⟩, ⟨0, 0⟩, ⟨0, 0⟩, ⟨0, 0⟩, ⟨0, 0⟩, ⟨0, 0⟩, ⟨0, 0⟩, ⟨0, 0⟩, ⟨0, 0⟩, ⟨0, 0⟩, ⟨0, 0⟩, ⟨0, 0⟩] : List (S55)).map fun x => .agg [.lit (.int .u8 x.f0), .lit (.int .u8 x.f1)]) := by kernel_rfl
  have h2 := laid_rd h (n := "unicode/utf8.acceptRanges") (d := Rows.laid_unicode_utf8_acceptRanges) (by simp [Rows.fnExactUpperRow])
  rw [e] at h2
  exact tab_Cn (s := 2) rfl (fun fuel cs p x hx => by rw [pair_cells Tryd.underlying55 rfl rfl Tryd.underlying5 Tryd.underlying5 (by kernel_rfl) (by kernel_rfl) (by kernel_rfl) hx]; exact k55_mk _ _) (by kernel_rfl) (by kernel_rfl) (t := 56) (e := 55) (n := 16) (by kernel_rfl) (by kernel_rfl) (by decide) h2
noncomputable def wit (os : Os) : World := (World.doorLaid Tryd.prog 400 os).layVars Tryd.prog [("unicode/utf8.first", Rows.laid_unicode_utf8_first)]
theorem door_met (os : Os) (args : Array Value) : laidMetH Tryd.prog Rows.fnExactUpperRow.laid ((wit os).forCall (fun _ _ => 0) ⟨#[], args, []⟩).memory :=
  laidMetH_of_parts3 (fuel := 8) (laidMet_of_run' 8 (by kernel_rfl) (by kernel_rfl)) (by kernel_rfl) (by kernel_rfl)
set_option maxRecDepth 100000 in
theorem lifted (os : Os) (started : os.Started) (H : Type) (enc : TypeId × Value → H) :
    ReturnsInHanded {} Tryd.checked os 4 .any (fun w args => (Rows.fnExactUpperSpec.pre enc Tryd.prog Tryd.f4 Rows.fnExactUpperRow.domain false w args ∧ laidMetH Tryd.prog Rows.fnExactUpperRow.laid w) ∧ sizedMet enc Tryd.prog Tryd.f4 (OpenSpec.ofChange Rows.fnExactUpperSpec) false w args) (Rows.fnExactUpperSpec.post enc Tryd.prog Tryd.f4 false true false false) := by
  refine returnsInHanded_of_change_and (C := Tryd.checked) (X := fun w _ => laidMetH Tryd.prog Rows.fnExactUpperRow.laid w) (fun _ _ _ hh h => h.of_heap hh) own started (by kernel_rfl) Tryd.func4
    (ChangeSpec.witness_shaped (enc := enc) (C := Tryd.checked) (os := os) (X := fun w _ => laidMetH Tryd.prog Rows.fnExactUpperRow.laid w) false (wit os) #[.string ⟨#[]⟩] 8 (World.layVars_os _ _ _) (World.shaped_of_ZipB (by kernel_rfl) (by kernel_rfl)) (by kernel_rfl) (by kernel_rfl) (by kernel_rfl) (door_met os _)) ?_
  intro W base args ds gs before hval0 hW hcnd hsz0 hL _
  have hval : ∀ (j : Nat) t v, Tryd.f4.params[j]? = some t → args[j]? = some v → Value.okWide Tryd.prog W .any base t v := hval0
  have hW' := hW
  obtain ⟨p, q, hA0, hV, rfl, hfz, hnd⟩ := hW
  have hA : DataW.TrodAll enc Tryd.prog W 0 (fun _ => true) true Tryd.f4.params.toList args.toList ds p := hA0
  rw [Tryd.params4] at hA hval
  obtain ⟨v0, vs0, d0, ds0, p0, q0, hargs, rfl, rfl, h0, r0⟩ := trodAll_cons hA
  obtain ⟨rfl, rfl, rfl⟩ := trodAll_nil r0
  obtain rfl : args = #[v0] := by cases args; simp_all
  obtain ⟨g0_, r0_, rfl⟩ : ∃ g r, gs = g :: r := by
    cases gs with
    | nil => exact (show False from hV).elim
    | cons a b => exact ⟨a, b, rfl⟩
  have hV0_ := hV
  obtain ⟨_, _, _, _, _, _, _, _, _, _, hs0_, _⟩ := hV0_
  obtain rfl : r0_ = [] := by
    cases r0_ with
    | nil => rfl
    | cons a b => exact (show False from hs0_).elim
  obtain ⟨a0, rfl, rfl, rfl, y0⟩ := open_string Tryd.underlying9 (hval 0 9 v0 rfl rfl) h0
  clear hA0 hval0 hsz0
  obtain ⟨tC1, tN1⟩ := tab1 hL
  obtain ⟨tC2, tN2⟩ := tab2 hL
  rw [MakeChecks.laidMetH_plain _ _ _ (by kernel_rfl)] at hL
  obtain ⟨bm, hM⟩ := UpMap.up_in hL
  obtain ⟨k, hk⟩ := Pure.FnExactUpper a0
  refine (laws_FnExactUpper.calls k bm a0 (Go.Pinned.utf8FirstZ.map Int.ofNat) [⟨128, 191⟩, ⟨160, 191⟩, ⟨128, 159⟩, ⟨144, 191⟩, ⟨128, 143⟩, ⟨0, 0⟩, ⟨0, 0⟩, ⟨0, 0⟩, ⟨0, 0⟩, ⟨0, 0⟩, ⟨0, 0⟩, ⟨0, 0⟩, ⟨0, 0⟩, ⟨0, 0⟩, ⟨0, 0⟩, ⟨0, 0⟩] true W hM tC1 tC2 tN1 tN2 hk).mono fun e W' hp_ => ?_
  obtain ⟨rfl, hb_⟩ := hp_
  have bel : Below W.heap.size W W' := hb_
  exact ⟨_, rfl, _, _, _, [], _, q, hW', trodAll_mk1 (shut_bool Tryd.underlying4 _), (trodAll_cons_mk (shut_string Tryd.underlying9 y0) trodAll_mk0), bel.trodVars laidOut (by kernel_rfl) hV, bel.frame _, fun h => by cases h⟩
theorem over : Rows.fnExactUpperRow.holds Tryd.pinned (OpenSpec.ofChange Rows.fnExactUpperSpec) :=
  OpenClaim.holds_of_wide 4 Tryd.f4 rfl rfl rfl rfl rfl rfl rfl ⟨rfl, rfl, rfl, rfl, rfl⟩ rfl rfl rfl rfl rfl (by kernel_rfl) Tryd.func4 (by kernel_rfl)
    (of_decide_eq_true (by kernel_rfl)) (by unfold Func.isWrapper; first | (rw [if_pos (by decide +kernel)]; kernel_rfl) | (rw [if_neg (by decide +kernel)]; exact ⟨rfl, rfl⟩))
    (fun os started H enc _ => lifted os started H enc)
theorem proved : Rows.FnExactUpperSaid := over
theorem card : Rows.FnExactUpperCardSaid :=
  Claim7.holds_tied_plain_at .later [] [.data, .mapped, .pinned] true (true, "a0f2103c5f4a0bc64353cb90476d8883aa8ce4507f5949dcd252285ae2daa14a") false proved (fun _ h => by cases h) (by kernel_rfl) (fun _ h => by cases h) fnExactUpper_row_tie rfl ⟨rfl, rfl⟩ (by kernel_rfl) rfl
    (fun f fn hf hfn => by
      obtain rfl : f = 4 := Option.some.inj ((show Tryd.prog.funcNamed "loop.example/g00051/laws.FnExactUpper" = some 4 by kernel_rfl).symm.trans hf) |>.symm
      obtain rfl : fn = Tryd.f4 := (Option.some.inj (Tryd.func4.symm.trans hfn)).symm
      exact ⟨by kernel_rfl, fun j t ht => by
        rw [Tryd.params4] at ht
        have hm : t ∈ [9] := by simpa using Array.mem_of_getElem? ht
        have hall : ([9].all fun u => !Tryd.prog.wantsStandIn u) = true := by kernel_rfl
        exact (show Tryd.prog.wantsStandIn t = false by simpa using List.all_eq_true.1 hall t hm)⟩)
    (by kernel_rfl)
end Go.Proofs.YtcdghhihfjojaaaDoor.fnExactUpper
namespace Go.Proofs.YtcdghhihfjojaaaDoor
/-- The row, under a short name, for the claim. -/
theorem fnExactUpper_holds : Rows.FnExactUpperCardSaid := fnExactUpper.card
#print axioms fnExactUpper_holds
end Go.Proofs.YtcdghhihfjojaaaDoor
