/- The law FnExactLaid of this seat holds for all arguments: the row, out of its plain statement and the contract of its Go function; no condition. -/
import Derived.Test.YtcdghhihfjojaabDoorRows
import Derived.Test.YtcdghhihfjojaabDoorQx16
import Derived.Test.YtcdghhihfjojaabDoorPureFnExactLaid
import Derived.Test.YtcdghhihfjojaabDoorOpen
import Derived.Test.YtcdghhihfjojaabDoorFltO
import Derived.LaidByTextLater
import Derived.SevenTiedAt
import Derived.LaidMore
import Derived.OpenVars
import Derived.Test.YtcdghhihfjojaabDoorTie
import Derived.Test.YtcdghhihfjojaabDoorCards
import Derived.Test.YtcdghhihfjojaabDoorTabsS
import Derived.WalkKit
import Derived.ProofKit
import Derived.OpenShut
import Derived.ShutString
import Derived.ChangeOld
import Derived.Below
import Derived.SizedLaws
import Derived.Laws.Cover2
namespace Go.Proofs.YtcdghhihfjojaabDoor.fnExactLaid
open Go.ChangeShapes Go.WideShapes Go.ChangeAt Go.RowKit Go.Proofs.YtcdghhihfjojaabDoor.Opens Go.Proofs.YtcdghhihfjojaabDoor.Q Go.Proofs.YtcdghhihfjojaabDoorW.PrintWords Go.Proofs.YtcdghhihfjojaabDoorW.PrintFlt
open Go.ChangeMaps (open_string shut_string)
set_option linter.unusedVariables false
theorem own : ownKnob Tryd.prog.godebug = none := by kernel_rfl
theorem laidOut : laidOutB Tryd.prog = true := by kernel_rfl
theorem opn23 {H : Type} {enc : TypeId × Value → H} {w : World} {base : Nat} {spare : Nat → Bool} {held : Bool} : Opn enc Tryd.prog w base spare held 23 k23 := by
  intro fuel cs x h
  obtain ⟨xs, n, _, _, hl, hlen, hf⟩ := DataW.trod_struct Tryd.underlying23 h
  have hs : ∀ i, i < 6 → ∃ z, xs[i]? = some z := fun i hi => ⟨xs[i]'(by rw [hlen]; exact hi), List.getElem?_eq_getElem _⟩
  rw [show Tryd.prog.cellsOf 23 = 6 from by kernel_rfl] at hl
  obtain ⟨a0, h0⟩ := field_at (off := 0) (s := 1) (opn_int Tryd.underlying2) (by kernel_rfl) (hs 0 (by decide)) (hf 0 _ rfl)
  obtain ⟨a1, h1⟩ := field_at (off := 1) (s := 1) (opn_int Tryd.underlying2) (by kernel_rfl) (hs 1 (by decide)) (hf 1 _ rfl)
  obtain ⟨a2, h2⟩ := field_at (off := 2) (s := 1) (opn_int Tryd.underlying2) (by kernel_rfl) (hs 2 (by decide)) (hf 2 _ rfl)
  obtain ⟨a3, h3⟩ := field_at (off := 3) (s := 1) (opn_string Tryd.underlying9) (by kernel_rfl) (hs 3 (by decide)) (hf 3 _ rfl)
  obtain ⟨a4, h4⟩ := field_at (off := 4) (s := 1) (opn_string Tryd.underlying9) (by kernel_rfl) (hs 4 (by decide)) (hf 4 _ rfl)
  obtain ⟨a5, h5⟩ := field_at (off := 5) (s := 1) (opn_int Tryd.underlying2) (by kernel_rfl) (hs 5 (by decide)) (hf 5 _ rfl)
  exact ⟨⟨a0, a1, a2, a3, a4, a5⟩, (pair_at 0 1 h0 (pair_at 1 1 h1 (pair_at 2 1 h2 (pair_at 3 1 h3 (pair_at 4 1 h4 (last_at 5 1 hl h5))))))⟩
theorem tab0 {W : World} (h : laidMetH Tryd.prog Rows.fnExactLaidRow.laid W) : ((Kd.slice 9 Kd.string)).C W (some ⟨0, 0, none⟩) ([[(⟨#[78, 83, 87]⟩ : ByteArray), (⟨#[82, 65]⟩ : ByteArray), (⟨#[45, 82, 65]⟩ : ByteArray), (⟨#[43, 82, 65]⟩ : ByteArray), (⟨#[83, 78]⟩ : ByteArray), (⟨#[45, 83, 78]⟩ : ByteArray), (⟨#[43, 83, 78]⟩ : ByteArray), (⟨#[84, 83, 82, 65]⟩ : ByteArray), (⟨#[70, 71]⟩ : ByteArray), (⟨#[66, 82]⟩ : ByteArray)]] : List (List ByteArray)).length [[(⟨#[78, 83, 87]⟩ : ByteArray), (⟨#[82, 65]⟩ : ByteArray), (⟨#[45, 82, 65]⟩ : ByteArray), (⟨#[43, 82, 65]⟩ : ByteArray), (⟨#[83, 78]⟩ : ByteArray), (⟨#[45, 83, 78]⟩ : ByteArray), (⟨#[43, 83, 78]⟩ : ByteArray), (⟨#[84, 83, 82, 65]⟩ : ByteArray), (⟨#[70, 71]⟩ : ByteArray), (⟨#[66, 82]⟩ : ByteArray)]] := by
  rw [MakeChecks.laidMetH_plain _ _ _ (by kernel_rfl)] at h
  exact tab_strs (by kernel_rfl) (by kernel_rfl) (t := 44) (e := 9) (by kernel_rfl) (by kernel_rfl) (by kernel_rfl) (by decide) (laid_rd h (n := "loop.example/g00051/impl.weathers") (d := Rows.laid_loop_example_g00051_impl_weathers) (by simp [Rows.fnExactLaidRow]))
theorem tab1 {W : World} (h : laidMetH Tryd.prog Rows.fnExactLaidRow.laid W) : ((Kd.slice 9 Kd.string)).C W (some ⟨1, 0, none⟩) ([[(⟨#[70, 69, 87]⟩ : ByteArray), (⟨#[83, 67, 84]⟩ : ByteArray), (⟨#[66, 75, 78]⟩ : ByteArray), (⟨#[79, 86, 67]⟩ : ByteArray)]] : List (List ByteArray)).length [[(⟨#[70, 69, 87]⟩ : ByteArray), (⟨#[83, 67, 84]⟩ : ByteArray), (⟨#[66, 75, 78]⟩ : ByteArray), (⟨#[79, 86, 67]⟩ : ByteArray)]] := by
  rw [MakeChecks.laidMetH_plain _ _ _ (by kernel_rfl)] at h
  exact tab_strs (by kernel_rfl) (by kernel_rfl) (t := 44) (e := 9) (by kernel_rfl) (by kernel_rfl) (by kernel_rfl) (by decide) (laid_rd h (n := "loop.example/g00051/impl.covers") (d := Rows.laid_loop_example_g00051_impl_covers) (by simp [Rows.fnExactLaidRow]))
theorem door_met (os : Os) (args : Array Value) : laidMetH Tryd.prog Rows.fnExactLaidRow.laid ((World.doorLaid Tryd.prog 400 os).forCall (fun _ _ => 0) ⟨#[], args, []⟩).memory :=
  laidMetH_of_parts3 (fuel := 8) (laidMet_of_run' 8 (by kernel_rfl) (by kernel_rfl)) (by kernel_rfl) (by kernel_rfl)
set_option maxRecDepth 100000 in
theorem lifted (os : Os) (started : os.Started) (H : Type) (enc : TypeId × Value → H) :
    ReturnsInHanded {} Tryd.checked os 3 .any (fun w args => (Rows.fnExactLaidSpec.pre enc Tryd.prog Tryd.f3 Rows.fnExactLaidRow.domain false w args ∧ laidMetH Tryd.prog Rows.fnExactLaidRow.laid w) ∧ sizedMet enc Tryd.prog Tryd.f3 (OpenSpec.ofChange Rows.fnExactLaidSpec) false w args) (Rows.fnExactLaidSpec.post enc Tryd.prog Tryd.f3 false true false false) := by
  refine returnsInHanded_of_change_and (C := Tryd.checked) (X := fun w _ => laidMetH Tryd.prog Rows.fnExactLaidRow.laid w) (fun _ _ _ hh h => h.of_heap hh) own started (by kernel_rfl) Tryd.func3
    (ChangeSpec.witness_shaped (enc := enc) (C := Tryd.checked) (os := os) (X := fun w _ => laidMetH Tryd.prog Rows.fnExactLaidRow.laid w) false (World.doorLaid Tryd.prog 400 os) #[.agg #[.int .i64 0, .int .i64 0, .int .i64 0, .string ByteArray.empty, .string ByteArray.empty, .int .i64 0], .agg #[.int .i64 0, .int .i64 0, .int .i64 0, .string ByteArray.empty, .string ByteArray.empty, .int .i64 0]] 8 rfl (World.shaped_of_RefB (by kernel_rfl) (by kernel_rfl)) (by kernel_rfl) (by kernel_rfl) (by kernel_rfl) (door_met os _)) ?_
  intro W base args ds gs before hval0 hW hcnd hsz0 hL _
  have hsz : (DataW.weightsEach Tryd.prog (Tryd.f3.params.toList ++ Rows.fnExactLaidSpec.plain.varTypes Tryd.prog) (ds ++ gs)).all (· ≤ reachBytes) = true := hsz0
  have hval : ∀ (j : Nat) t v, Tryd.f3.params[j]? = some t → args[j]? = some v → Value.okWide Tryd.prog W .any base t v := hval0
  have hW' := hW
  obtain ⟨p, q, hA0, hV, rfl, hfz, hnd⟩ := hW
  have hA : DataW.TrodAll enc Tryd.prog W 0 (fun _ => true) true Tryd.f3.params.toList args.toList ds p := hA0
  rw [Tryd.params3] at hA hval hsz
  obtain ⟨v0, vs0, d0, ds0, p0, q0, hargs, rfl, rfl, h0, r0⟩ := trodAll_cons hA
  obtain ⟨v1, vs1, d1, ds1, p1, q1, rfl, rfl, rfl, h1, r1⟩ := trodAll_cons r0
  obtain ⟨rfl, rfl, rfl⟩ := trodAll_nil r1
  obtain rfl : args = #[v0, v1] := by cases args; simp_all
  obtain ⟨g0_, r0_, rfl⟩ : ∃ g r, gs = g :: r := by
    cases gs with
    | nil => exact (show False from hV).elim
    | cons a b => exact ⟨a, b, rfl⟩
  have hV0_ := hV
  obtain ⟨_, _, _, _, _, _, _, _, _, _, hs0_, _⟩ := hV0_
  obtain ⟨g1_, r1_, rfl⟩ : ∃ g r, r0_ = g :: r := by
    cases r0_ with
    | nil => exact (show False from hs0_).elim
    | cons a b => exact ⟨a, b, rfl⟩
  have hV1_ := hs0_
  obtain ⟨_, _, _, _, _, _, _, _, _, _, hs1_, _⟩ := hV1_
  obtain rfl : r1_ = [] := by
    cases r1_ with
    | nil => rfl
    | cons a b => exact (show False from hs1_).elim
  obtain ⟨cs0, rfl, _⟩ := okWide_struct Tryd.underlying23 (hval 0 23 v0 rfl rfl)
  have k0 := h0
  have lt0 : ∀ x ∈ p0, x.block < W.heap.size := by obtain ⟨m, hm⟩ := k0; exact DataW.trod_lt m _ _ _ hm
  obtain ⟨x0, hK0⟩ := struct_in opn23 h0
  have e0 := k23_open hK0
  obtain rfl := agg_of e0
  obtain ⟨cs1, rfl, _⟩ := okWide_struct Tryd.underlying23 (hval 1 23 v1 rfl rfl)
  have k1 := h1
  have lt1 : ∀ x ∈ p1, x.block < W.heap.size := by obtain ⟨m, hm⟩ := k1; exact DataW.trod_lt m _ _ _ hm
  obtain ⟨x1, hK1⟩ := struct_in opn23 h1
  have e1 := k23_open hK1
  obtain rfl := agg_of e1
  clear hA0 hval0 hsz0 hsz
  have tC2 := tab0 hL
  have tC3 := tab1 hL
  obtain ⟨k, hk⟩ := Pure.FnExactLaid x0.f0 x0.f1 x0.f2 x0.f3 x0.f4 x0.f5 x1.f0 x1.f1 x1.f2 x1.f3 x1.f4 x1.f5
  refine (laws_FnExactLaid.calls k x0.f0 x0.f1 x0.f2 x0.f3 x0.f4 x0.f5 x1.f0 x1.f1 x1.f2 x1.f3 x1.f4 x1.f5 [[(⟨#[78, 83, 87]⟩ : ByteArray), (⟨#[82, 65]⟩ : ByteArray), (⟨#[45, 82, 65]⟩ : ByteArray), (⟨#[43, 82, 65]⟩ : ByteArray), (⟨#[83, 78]⟩ : ByteArray), (⟨#[45, 83, 78]⟩ : ByteArray), (⟨#[43, 83, 78]⟩ : ByteArray), (⟨#[84, 83, 82, 65]⟩ : ByteArray), (⟨#[70, 71]⟩ : ByteArray), (⟨#[66, 82]⟩ : ByteArray)]] [[(⟨#[70, 69, 87]⟩ : ByteArray), (⟨#[83, 67, 84]⟩ : ByteArray), (⟨#[66, 75, 78]⟩ : ByteArray), (⟨#[79, 86, 67]⟩ : ByteArray)]] true W tC2 (Nat.le_refl _) tC3 (Nat.le_refl _) hk).mono fun e W' hp_ => ?_
  obtain ⟨rfl, hb_⟩ := hp_
  have bel : Below W.heap.size W W' := hb_
  exact ⟨_, rfl, _, _, _, [], _, q, hW', trodAll_mk1 (shut_bool Tryd.underlying4 _), (trodAll_cons_mk (Below.trod laidOut (by kernel_rfl) (of_decide_eq_true (by kernel_rfl)) k0 bel lt0) (trodAll_cons_mk (Below.trod laidOut (by kernel_rfl) (of_decide_eq_true (by kernel_rfl)) k1 bel lt1) trodAll_mk0)), bel.trodVars laidOut (by kernel_rfl) hV, bel.frame _, fun h => by cases h⟩
theorem over : Rows.fnExactLaidRow.holds Tryd.pinned (OpenSpec.ofChange Rows.fnExactLaidSpec) :=
  OpenClaim.holds_of_wide 3 Tryd.f3 rfl rfl rfl rfl rfl rfl rfl ⟨rfl, rfl, rfl, rfl, rfl⟩ rfl rfl rfl rfl rfl (by kernel_rfl) Tryd.func3 (by kernel_rfl)
    (of_decide_eq_true (by kernel_rfl)) (by unfold Func.isWrapper; first | (rw [if_pos (by decide +kernel)]; kernel_rfl) | (rw [if_neg (by decide +kernel)]; exact ⟨rfl, rfl⟩))
    (fun os started H enc _ => lifted os started H enc)
theorem proved : Rows.FnExactLaidSaid := over
theorem card : Rows.FnExactLaidCardSaid :=
  Claim7.holds_tied_plain_at .later [] [.widerDeep, .widerDeep] true (true, "8228b5d1701f036e2e5089cbc8f9ebd395e89adb8dd09b1c6a491e87c186b89c") false proved (fun _ h => by cases h) (by kernel_rfl) (fun _ h => by cases h) fnExactLaid_row_tie rfl ⟨rfl, rfl⟩ (by kernel_rfl) rfl
    (fun f fn hf hfn => by
      obtain rfl : f = 3 := Option.some.inj ((show Tryd.prog.funcNamed "loop.example/g00051/laws.FnExactLaid" = some 3 by kernel_rfl).symm.trans hf) |>.symm
      obtain rfl : fn = Tryd.f3 := (Option.some.inj (Tryd.func3.symm.trans hfn)).symm
      exact ⟨by kernel_rfl, fun j t ht => by
        rw [Tryd.params3] at ht
        have hm : t ∈ [23, 23] := by simpa using Array.mem_of_getElem? ht
        have hall : ([23, 23].all fun u => !Tryd.prog.wantsStandIn u) = true := by kernel_rfl
        exact (show Tryd.prog.wantsStandIn t = false by simpa using List.all_eq_true.1 hall t hm)⟩)
    (by kernel_rfl)
end Go.Proofs.YtcdghhihfjojaabDoor.fnExactLaid
namespace Go.Proofs.YtcdghhihfjojaabDoor
/-- The row, under a short name, for the claim. -/
theorem fnExactLaid_holds : Rows.FnExactLaidCardSaid := fnExactLaid.card
#print axioms fnExactLaid_holds
end Go.Proofs.YtcdghhihfjojaabDoor
