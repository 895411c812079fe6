/- The law FnExactClosed of this seat holds for all arguments: the row, out of its plain statement and the contract of its Go function; no condition. -/
import Derived.Test.YtmndffnjejgfoabDoorRows
import Derived.Test.YtmndffnjejgfoabDoorQx17
import Derived.Test.YtmndffnjejgfoabDoorPureFnExactClosed
import Derived.Test.YtmndffnjejgfoabDoorOpen
import Derived.LaidByTextLater
import Derived.SevenTiedAt
import Derived.LaidMore
import Derived.OpenVars
import Derived.Test.YtmndffnjejgfoabDoorTie
import Derived.Test.YtmndffnjejgfoabDoorCards
import Derived.Test.YtmndffnjejgfoabDoorTabs
import Derived.WalkKit
import Derived.ProofKit
import Derived.OpenShut
import Derived.ShutString
import Derived.ChangeOld
import Derived.Below
import Derived.SizedLaws
import Derived.Laws.Cover2
namespace Go.Proofs.YtmndffnjejgfoabDoor.fnExactClosed
open Go.ChangeShapes Go.WideShapes Go.ChangeAt Go.RowKit Go.Proofs.YtmndffnjejgfoabDoor.Opens Go.Proofs.YtmndffnjejgfoabDoor.Q Go.Proofs.YtmndffnjejgfoabDoorW.PrintWords
open Go.ChangeMaps (open_string shut_string)
set_option linter.unusedVariables false
theorem own : ownKnob Tryd.prog.godebug = none := by kernel_rfl
theorem laidOut : laidOutB Tryd.prog = true := by kernel_rfl
theorem opn24 {H : Type} {enc : TypeId × Value → H} {w : World} {base : Nat} {spare : Nat → Bool} {held : Bool} : Opn enc Tryd.prog w base spare held 24 k24 := by
  intro fuel cs x h
  obtain ⟨xs, n, _, _, hl, hlen, hf⟩ := DataW.trod_struct Tryd.underlying24 h
  have hs : ∀ i, i < 3 → ∃ z, xs[i]? = some z := fun i hi => ⟨xs[i]'(by rw [hlen]; exact hi), List.getElem?_eq_getElem _⟩
  rw [show Tryd.prog.cellsOf 24 = 3 from by kernel_rfl] at hl
  obtain ⟨a0, h0⟩ := field_at (off := 0) (s := 1) (opn_int Tryd.underlying2) (by kernel_rfl) (hs 0 (by decide)) (hf 0 _ rfl)
  obtain ⟨a1, h1⟩ := field_at (off := 1) (s := 1) (opn_int Tryd.underlying2) (by kernel_rfl) (hs 1 (by decide)) (hf 1 _ rfl)
  obtain ⟨a2, h2⟩ := field_at (off := 2) (s := 1) (opn_slice 0 Tryd.underlying22 (by kernel_rfl) (opn_int Tryd.underlying2)) (by kernel_rfl) (hs 2 (by decide)) (hf 2 _ rfl)
  exact ⟨⟨a0, a1, a2⟩, (pair_at 0 1 h0 (pair_at 1 1 h1 (last_at 2 1 hl h2)))⟩
theorem tab0 {W : World} (h : laidMetH Tryd.prog Rows.fnExactClosedRow.laid W) : ((Kd.int .i64)).C W (some ⟨0, 0, none⟩) ([1, 0, (-1), 0] : List Int).length [1, 0, (-1), 0] ∧ ([1, 0, (-1), 0] : List Int).length = 4 := by
  rw [MakeChecks.laidMetH_plain _ _ _ (by kernel_rfl)] at h
  exact tab_int (by kernel_rfl) (by kernel_rfl) (t := 49) (e := 2) (n := 4) (by kernel_rfl) (by kernel_rfl) (by kernel_rfl) (by decide) (laid_rd h (n := "loop.example/g00051/impl.goX") (d := Rows.laid_loop_example_g00051_impl_goX) (by simp [Rows.fnExactClosedRow]))
theorem tab1 {W : World} (h : laidMetH Tryd.prog Rows.fnExactClosedRow.laid W) : ((Kd.int .i64)).C W (some ⟨1, 0, none⟩) ([0, 1, 0, (-1)] : List Int).length [0, 1, 0, (-1)] ∧ ([0, 1, 0, (-1)] : List Int).length = 4 := by
  rw [MakeChecks.laidMetH_plain _ _ _ (by kernel_rfl)] at h
  exact tab_int (by kernel_rfl) (by kernel_rfl) (t := 49) (e := 2) (n := 4) (by kernel_rfl) (by kernel_rfl) (by kernel_rfl) (by decide) (laid_rd h (n := "loop.example/g00051/impl.goY") (d := Rows.laid_loop_example_g00051_impl_goY) (by simp [Rows.fnExactClosedRow]))
theorem door_met (os : Os) (args : Array Value) : laidMetH Tryd.prog Rows.fnExactClosedRow.laid ((World.doorLaid Tryd.prog 400 os).forCall (fun _ _ => 0) ⟨#[], args, []⟩).memory :=
  laidMetH_of_parts3 (fuel := 8) (laidMet_of_run' 8 (by kernel_rfl) (by kernel_rfl)) (by kernel_rfl) (by kernel_rfl)
set_option maxRecDepth 100000 in
theorem lifted (os : Os) (started : os.Started) (H : Type) (enc : TypeId × Value → H) :
    ReturnsInHanded {} Tryd.checked os 3 .any (fun w args => (Rows.fnExactClosedSpec.pre enc Tryd.prog Tryd.f3 Rows.fnExactClosedRow.domain false w args ∧ laidMetH Tryd.prog Rows.fnExactClosedRow.laid w) ∧ sizedMet enc Tryd.prog Tryd.f3 (OpenSpec.ofChange Rows.fnExactClosedSpec) false w args) (Rows.fnExactClosedSpec.post enc Tryd.prog Tryd.f3 false true false false) := by
  refine returnsInHanded_of_change_and (C := Tryd.checked) (X := fun w _ => laidMetH Tryd.prog Rows.fnExactClosedRow.laid w) (fun _ _ _ hh h => h.of_heap hh) own started (by kernel_rfl) Tryd.func3
    (ChangeSpec.witness_shaped (enc := enc) (C := Tryd.checked) (os := os) (X := fun w _ => laidMetH Tryd.prog Rows.fnExactClosedRow.laid w) false (World.doorLaid Tryd.prog 400 os) #[.agg #[.int .i64 0, .int .i64 0, .slice none 0 0]] 8 rfl (World.shaped_of_RefB (by kernel_rfl) (by kernel_rfl)) (by kernel_rfl) (by kernel_rfl) (by kernel_rfl) (door_met os _)) ?_
  intro W base args ds gs before hval0 hW hcnd hsz0 hL _
  have hsz : (DataW.weightsEach Tryd.prog (Tryd.f3.params.toList ++ Rows.fnExactClosedSpec.plain.varTypes Tryd.prog) (ds ++ gs)).all (· ≤ reachBytes) = true := hsz0
  have hval : ∀ (j : Nat) t v, Tryd.f3.params[j]? = some t → args[j]? = some v → Value.okWide Tryd.prog W .any base t v := hval0
  have hW' := hW
  obtain ⟨p, q, hA0, hV, rfl, hfz, hnd⟩ := hW
  have hA : DataW.TrodAll enc Tryd.prog W 0 (fun _ => true) true Tryd.f3.params.toList args.toList ds p := hA0
  rw [Tryd.params3] at hA hval hsz
  obtain ⟨v0, vs0, d0, ds0, p0, q0, hargs, rfl, rfl, h0, r0⟩ := trodAll_cons hA
  obtain ⟨rfl, rfl, rfl⟩ := trodAll_nil r0
  obtain rfl : args = #[v0] := by cases args; simp_all
  obtain ⟨g0_, r0_, rfl⟩ : ∃ g r, gs = g :: r := by
    cases gs with
    | nil => exact (show False from hV).elim
    | cons a b => exact ⟨a, b, rfl⟩
  have hV0_ := hV
  obtain ⟨_, _, _, _, _, _, _, _, _, _, hs0_, _⟩ := hV0_
  obtain ⟨g1_, r1_, rfl⟩ : ∃ g r, r0_ = g :: r := by
    cases r0_ with
    | nil => exact (show False from hs0_).elim
    | cons a b => exact ⟨a, b, rfl⟩
  have hV1_ := hs0_
  obtain ⟨_, _, _, _, _, _, _, _, _, _, hs1_, _⟩ := hV1_
  obtain rfl : r1_ = [] := by
    cases r1_ with
    | nil => rfl
    | cons a b => exact (show False from hs1_).elim
  obtain ⟨cs0, rfl, _⟩ := okWide_struct Tryd.underlying24 (hval 0 24 v0 rfl rfl)
  have k0 := h0
  have lt0 : ∀ x ∈ p0, x.block < W.heap.size := by obtain ⟨m, hm⟩ := k0; exact DataW.trod_lt m _ _ _ hm
  obtain ⟨x0, hK0⟩ := struct_in opn24 h0
  obtain ⟨A0_2, c0_2, e0, hc0_2, hr0_2⟩ := k24_open hK0
  obtain rfl := agg_of e0
  clear hA0 hval0 hsz0 hsz
  obtain ⟨tC1, tN1⟩ := tab0 hL
  obtain ⟨tC2, tN2⟩ := tab1 hL
  obtain ⟨k, hk⟩ := Pure.FnExactClosed x0.f0 x0.f1 x0.f2 hr0_2.2.1
  refine (laws_FnExactClosed.calls k x0.f0 x0.f1 _ _ x0.f2 [1, 0, (-1), 0] [0, 1, 0, (-1)] true W hr0_2 hc0_2 tC1 (Nat.le_refl _) tC2 (Nat.le_refl _) tN1 tN2 hk).mono fun e W' hp_ => ?_
  obtain ⟨rfl, hb_⟩ := hp_
  have bel : Below W.heap.size W W' := hb_
  exact ⟨_, rfl, _, _, _, [], _, q, hW', trodAll_mk1 (shut_bool Tryd.underlying4 _), (trodAll_cons_mk (Below.trod laidOut (by kernel_rfl) (of_decide_eq_true (by kernel_rfl)) k0 bel lt0) trodAll_mk0), bel.trodVars laidOut (by kernel_rfl) hV, bel.frame _, fun h => by cases h⟩
theorem over : Rows.fnExactClosedRow.holds Tryd.pinned (OpenSpec.ofChange Rows.fnExactClosedSpec) :=
  OpenClaim.holds_of_wide 3 Tryd.f3 rfl rfl rfl rfl rfl rfl rfl ⟨rfl, rfl, rfl, rfl, rfl⟩ rfl rfl rfl rfl rfl (by kernel_rfl) Tryd.func3 (by kernel_rfl)
    (of_decide_eq_true (by kernel_rfl)) (by unfold Func.isWrapper; first | (rw [if_pos (by decide +kernel)]; kernel_rfl) | (rw [if_neg (by decide +kernel)]; exact ⟨rfl, rfl⟩))
    (fun os started H enc _ => lifted os started H enc)
theorem proved : Rows.FnExactClosedSaid := over
theorem card : Rows.FnExactClosedCardSaid :=
  Claim7.holds_tied_plain_at .later [] [.data, .data] true (true, "17ebb3ce1a859ba4771b3957b03397eeb78d277df21b32546541ae40e6d1fd7d") false proved (fun _ h => by cases h) (by kernel_rfl) (fun _ h => by cases h) fnExactClosed_row_tie rfl ⟨rfl, rfl⟩ (by kernel_rfl) rfl
    (fun f fn hf hfn => by
      obtain rfl : f = 3 := Option.some.inj ((show Tryd.prog.funcNamed "loop.example/g00051/laws.FnExactClosed" = some 3 by kernel_rfl).symm.trans hf) |>.symm
      obtain rfl : fn = Tryd.f3 := (Option.some.inj (Tryd.func3.symm.trans hfn)).symm
      exact ⟨by kernel_rfl, fun j t ht => by
        rw [Tryd.params3] at ht
        have hm : t ∈ [24] := by simpa using Array.mem_of_getElem? ht
        have hall : ([24].all fun u => !Tryd.prog.wantsStandIn u) = true := by kernel_rfl
        exact (show Tryd.prog.wantsStandIn t = false by simpa using List.all_eq_true.1 hall t hm)⟩)
    (by kernel_rfl)
end Go.Proofs.YtmndffnjejgfoabDoor.fnExactClosed
namespace Go.Proofs.YtmndffnjejgfoabDoor
/-- The row, under a short name, for the claim. -/
theorem fnExactClosed_holds : Rows.FnExactClosedCardSaid := fnExactClosed.card
#print axioms fnExactClosed_holds
end Go.Proofs.YtmndffnjejgfoabDoor
