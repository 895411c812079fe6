/- Plain Lean functions with the same answers as the Go functions of this seat, and a proof for each that the Go code comes to just these answers; no condition. Written by a program of this session (the kit's printer, turned). -/
import Derived.Test.YtmndffnjejgfoabProg
import Derived.Below
import Derived.Deep.Draws
import Derived.Deep.AppendLies
import Derived.Maps.AppendAt
import Derived.OwnWalk
import Derived.Laws.BytesArg
import Derived.Laws.MakeOwn
import Derived.Laws.OwnMore
import Derived.Deep.OwnRows
import Derived.Tactics
import Derived.Lib.ConvBytes
import Derived.Laws.Slices
import Derived.WalkKit
import Derived.KernelRfl
import Derived.RowKit3
import Derived.Deep.LoopGhost
import Derived.Deep.QuietTactic
import Derived.BigQuiet
import Derived.WideLaws
import Derived.Deep.DeepCutAuto
import Derived.Deep.CutBlock
import Derived.Deep.RegionHeld3
import Derived.Laws.Rows
import Derived.Lib.AppendStr
import Derived.ArgAppend
import Derived.Laws.IdiomCopy
import Derived.OrdersHeld
import Derived.Laws.BitsLemmas
import Derived.RowKit
import Derived.Test.YtmndffnjejgfoabFlt
import Derived.Test.YtmndffnjejgfoabWWords
import Derived.Test.YtmndffnjejgfoabWLast
import Derived.Test.YtmndffnjejgfoabWTab
import Derived.Test.YtmndffnjejgfoabWFour
import Derived.Test.YtmndffnjejgfoabWQPut
import Derived.Test.YtmndffnjejgfoabWApart
import Derived.Test.YtmndffnjejgfoabWArr
import Derived.Test.YtmndffnjejgfoabWZeros
import Derived.Test.YtmndffnjejgfoabWFoot
import Derived.Test.YtmndffnjejgfoabWKept
import Derived.Test.YtmndffnjejgfoabWShare
import Derived.Test.YtmndffnjejgfoabWN
import Derived.Test.YtmndffnjejgfoabWFootNe
import Derived.Test.YtmndffnjejgfoabWAt
import Derived.Test.YtmndffnjejgfoabWEqStruct
import Derived.Test.YtmndffnjejgfoabWRepsOne
import Derived.Test.YtmndffnjejgfoabWInv
import Derived.Test.YtmndffnjejgfoabWInvWords
import Derived.Test.YtmndffnjejgfoabWGuard
import Derived.Test.YtmndffnjejgfoabWNEv
import Derived.Test.YtmndffnjejgfoabWMore
namespace Go.Proofs.Ytmndffnjejgfoab.Q
open Go.RowKit Go.Proofs.YtmndffnjejgfoabW.PrintWords Go.Proofs.YtmndffnjejgfoabW.PrintLast Go.Proofs.YtmndffnjejgfoabW.PrintMore Go.Proofs.YtmndffnjejgfoabW.PrintFlt
attribute [local go_sem] cmp_lss cmp_leq cmp_gtr cmp_geq cmp_eql cmp_neq flt_l flt_r fgt_l fgt_r feq_l feq_r fne_l fne_r ord_lt ord_gt ord_eq ord_ne conv_int foi_fold run_store_flt
attribute [local go_sem] max2_int min2_int max_two min_two max_three min_three max_four min_four   -- for this text's walks alone
set_option linter.unusedVariables false
set_option linter.unusedSimpArgs false



def errW : Option Int → Value
  | none => .nilIface
  | some c => .iface 0 (.int .i64 c)
theorem errW_none : errW none = .nilIface := rfl
theorem errW_some (c : Int) : errW (some c) = .iface 0 (.int .i64 c) := rfl

theorem info45 : (Try.prog.info? 45).map (fun i => (i.zero, i.size, i.bytes)) = some (some (.agg #[(.float .f64 0), (.float .f64 0)]), 2, 16) := by kernel_rfl
theorem own_len_ (A : Option Addr) (n m c : Nat) : (Value.slice A n c).ownBlock = (Value.slice A m c).ownBlock := by cases A <;> rfl
theorem own_ne_len {A : Option Addr} {n m c k : Nat} (h : some k ≠ (Value.slice A n c).ownBlock) : some k ≠ (Value.slice A m c).ownBlock := by rwa [own_len_ A m n c]
theorem R_okl {α : Type} {d : Kd α} {e : Nat} {w : World} {base : Nat} {v : Value} {xs : List α} {A : Option Addr} {n m c : Nat} (h : Kd.R d e w base (fun k => some k ≠ (Value.slice A n c).ownBlock) v xs) : Kd.R d e w base (fun k => some k ≠ (Value.slice A m c).ownBlock) v xs := Kd.R_mono h (fun _ hk => own_ne_len hk)
-- the values' own types
/-! #### struct type 47 -/
structure S47 where
  f0 : Nat
  f1 : Nat
def z47 : S47 := ⟨(0 : Nat), (0 : Nat)⟩
def k47 : Kd S47 := Kd.iso (Kd.pair Kd.flt Kd.flt) (fun x : S47 => (x.f0, x.f1))
theorem k47_open {w : World} {x : S47} {cs : List Value} (h : k47.K w x cs) : ∃ p0 p1, cs = [.float .f64 (un p0 x.f0), .float .f64 (un p1 x.f1)] := by
  obtain ⟨_, _, rfl, ⟨p0, rfl⟩, ⟨p1, rfl⟩⟩ := h
  exact ⟨p0, p1, rfl⟩
theorem k47_openM {w : World} {base : Nat} {ok : Nat → Prop} {x : S47} {cs : List Value} (h : k47.M w base ok x cs) : ∃ p0 p1, cs = [.float .f64 (un p0 x.f0), .float .f64 (un p1 x.f1)] := by
  obtain ⟨_, _, rfl, ⟨p0, rfl⟩, ⟨p1, rfl⟩⟩ := h
  exact ⟨p0, p1, rfl⟩
theorem k47_mk (w : World) (x : S47)  {v0 : Value} (h0 : FV v0 x.f0 := by first | assumption | exact ⟨_, rfl⟩ | exact ⟨0, rfl⟩) {v1 : Value} (h1 : FV v1 x.f1 := by first | assumption | exact ⟨_, rfl⟩ | exact ⟨0, rfl⟩) : k47.K w x [v0, v1] := ⟨[v0], [v1], rfl, (fvm h0), (fvm h1)⟩
theorem k47_mkM (w : World) (base : Nat) (ok : Nat → Prop) (x : S47)  {v0 : Value} (h0 : FV v0 x.f0 := by first | assumption | exact ⟨_, rfl⟩ | exact ⟨0, rfl⟩) {v1 : Value} (h1 : FV v1 x.f1 := by first | assumption | exact ⟨_, rfl⟩ | exact ⟨0, rfl⟩) : k47.M w base ok x [v0, v1] := ⟨[v0], [v1], rfl, (fvm h0), (fvm h1)⟩
def rd_T47 (xs : List S47) (i : Int) : S47 := xs.getD i.toNat z47
theorem at_T47 {w : World} {A : Option Addr} {n : Nat} {xs : List S47} (h : Kd.C k47 w A n xs) (i : Int) (h0 : 0 ≤ i) (h1 : i < n) : ∃ ad p0 p1, A = some ad ∧ w.cell? (ad.add (i.toNat * 2)) = some (.float .f64 (un p0 (rd_T47 xs i).f0)) ∧ w.cell? ⟨(ad.add (i.toNat * 2)).block, (ad.add (i.toNat * 2)).off + 1, none⟩ = some (.float .f64 (un p1 (rd_T47 xs i).f1)) := by
  obtain ⟨ad, c, e, _, hK, hc0⟩ := Kd.C_get h z47 i h0 h1
  have hc : ∀ j u, c[j]? = some u → w.cell? (ad.add (i.toNat * 2 + j)) = some u := hc0
  obtain ⟨p0, p1, rfl⟩ := k47_open hK
  exact ⟨ad, p0, p1, e, hc 0 _ rfl, by rw [← add_field _ _ 1 (by omega)]; exact hc 1 _ rfl⟩

/-! #### struct type 45 -/
structure S45 where
  f0 : Nat
  f1 : Nat
def z45 : S45 := ⟨(0 : Nat), (0 : Nat)⟩
def k45 : Kd S45 := Kd.iso (Kd.pair Kd.flt Kd.flt) (fun x : S45 => (x.f0, x.f1))
theorem k45_open {w : World} {x : S45} {cs : List Value} (h : k45.K w x cs) : ∃ p0 p1, cs = [.float .f64 (un p0 x.f0), .float .f64 (un p1 x.f1)] := by
  obtain ⟨_, _, rfl, ⟨p0, rfl⟩, ⟨p1, rfl⟩⟩ := h
  exact ⟨p0, p1, rfl⟩
theorem k45_openM {w : World} {base : Nat} {ok : Nat → Prop} {x : S45} {cs : List Value} (h : k45.M w base ok x cs) : ∃ p0 p1, cs = [.float .f64 (un p0 x.f0), .float .f64 (un p1 x.f1)] := by
  obtain ⟨_, _, rfl, ⟨p0, rfl⟩, ⟨p1, rfl⟩⟩ := h
  exact ⟨p0, p1, rfl⟩
theorem k45_mk (w : World) (x : S45)  {v0 : Value} (h0 : FV v0 x.f0 := by first | assumption | exact ⟨_, rfl⟩ | exact ⟨0, rfl⟩) {v1 : Value} (h1 : FV v1 x.f1 := by first | assumption | exact ⟨_, rfl⟩ | exact ⟨0, rfl⟩) : k45.K w x [v0, v1] := ⟨[v0], [v1], rfl, (fvm h0), (fvm h1)⟩
theorem k45_mkM (w : World) (base : Nat) (ok : Nat → Prop) (x : S45)  {v0 : Value} (h0 : FV v0 x.f0 := by first | assumption | exact ⟨_, rfl⟩ | exact ⟨0, rfl⟩) {v1 : Value} (h1 : FV v1 x.f1 := by first | assumption | exact ⟨_, rfl⟩ | exact ⟨0, rfl⟩) : k45.M w base ok x [v0, v1] := ⟨[v0], [v1], rfl, (fvm h0), (fvm h1)⟩
def rd_T45 (xs : List S45) (i : Int) : S45 := xs.getD i.toNat z45
theorem at_T45 {w : World} {A : Option Addr} {n : Nat} {xs : List S45} (h : Kd.C k45 w A n xs) (i : Int) (h0 : 0 ≤ i) (h1 : i < n) : ∃ ad p0 p1, A = some ad ∧ w.cell? (ad.add (i.toNat * 2)) = some (.float .f64 (un p0 (rd_T45 xs i).f0)) ∧ w.cell? ⟨(ad.add (i.toNat * 2)).block, (ad.add (i.toNat * 2)).off + 1, none⟩ = some (.float .f64 (un p1 (rd_T45 xs i).f1)) := by
  obtain ⟨ad, c, e, _, hK, hc0⟩ := Kd.C_get h z45 i h0 h1
  have hc : ∀ j u, c[j]? = some u → w.cell? (ad.add (i.toNat * 2 + j)) = some u := hc0
  obtain ⟨p0, p1, rfl⟩ := k45_open hK
  exact ⟨ad, p0, p1, e, hc 0 _ rfl, by rw [← add_field _ _ 1 (by omega)]; exact hc 1 _ rfl⟩

end Go.Proofs.Ytmndffnjejgfoab.Q
