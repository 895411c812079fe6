/- Plain Lean functions with the same answers as the Go functions of this seat, and a proof for each that the Go code comes to just these answers; no condition. Written by a program of this session (the kit's printer, turned). -/
import Derived.Test.YtpileeenoocjpaaDoorProg
import Derived.Below
import Derived.Deep.Draws
import Derived.Deep.AppendLies
import Derived.Maps.AppendAt
import Derived.OwnWalk
import Derived.Laws.BytesArg
import Derived.Laws.MakeOwn
import Derived.Laws.OwnMore
import Derived.Deep.OwnRows
import Derived.Tactics
import Derived.Lib.ConvBytes
import Derived.Laws.Slices
import Derived.WalkKit
import Derived.KernelRfl
import Derived.RowKit3
import Derived.Deep.LoopGhost
import Derived.Deep.QuietTactic
import Derived.BigQuiet
import Derived.WideLaws
import Derived.Deep.DeepCutAuto
import Derived.Deep.CutBlock
import Derived.Deep.RegionHeld3
import Derived.Laws.Rows
import Derived.Lib.AppendStr
import Derived.ArgAppend
import Derived.Laws.IdiomCopy
import Derived.OrdersHeld
import Derived.Laws.BitsLemmas
import Derived.RowKit
import Derived.Test.YtpileeenoocjpaaDoorFlt
import Derived.Test.YtpileeenoocjpaaDoorWWords
import Derived.Test.YtpileeenoocjpaaDoorWLast
import Derived.Test.YtpileeenoocjpaaDoorWTab
import Derived.Test.YtpileeenoocjpaaDoorWFour
import Derived.Test.YtpileeenoocjpaaDoorWQPut
import Derived.Test.YtpileeenoocjpaaDoorWApart
import Derived.Test.YtpileeenoocjpaaDoorWArr
import Derived.Test.YtpileeenoocjpaaDoorWZeros
import Derived.Test.YtpileeenoocjpaaDoorWFoot
import Derived.Test.YtpileeenoocjpaaDoorWKept
import Derived.Test.YtpileeenoocjpaaDoorWShare
import Derived.Test.YtpileeenoocjpaaDoorWN
import Derived.Test.YtpileeenoocjpaaDoorWFootNe
import Derived.Test.YtpileeenoocjpaaDoorWAt
import Derived.Test.YtpileeenoocjpaaDoorWEqStruct
import Derived.Test.YtpileeenoocjpaaDoorWRepsOne
import Derived.Test.YtpileeenoocjpaaDoorWInv
import Derived.Test.YtpileeenoocjpaaDoorWInvWords
import Derived.Test.YtpileeenoocjpaaDoorWGuard
import Derived.Test.YtpileeenoocjpaaDoorWNEv
import Derived.Test.YtpileeenoocjpaaDoorWMore
namespace Go.Proofs.YtpileeenoocjpaaDoor.Q
open Go.RowKit Go.Proofs.YtpileeenoocjpaaDoorW.PrintWords Go.Proofs.YtpileeenoocjpaaDoorW.PrintLast Go.Proofs.YtpileeenoocjpaaDoorW.PrintMore Go.Proofs.YtpileeenoocjpaaDoorW.PrintFlt
attribute [local go_sem] cmp_lss cmp_leq cmp_gtr cmp_geq cmp_eql cmp_neq flt_l flt_r fgt_l fgt_r feq_l feq_r fne_l fne_r ord_lt ord_gt ord_eq ord_ne conv_int foi_fold run_store_flt
attribute [local go_sem] max2_int min2_int max_two min_two max_three min_three max_four min_four   -- for this text's walks alone
set_option linter.unusedVariables false
set_option linter.unusedSimpArgs false



def errW : Option Int → Value
 | none => .nilIface
 | some c => .iface 0 (.int .i64 c)
theorem errW_none : errW none = .nilIface := rfl
theorem errW_some (c : Int) : errW (some c) = .iface 0 (.int .i64 c) := rfl

theorem info2 : (Tryd.prog.info? 2).map (fun i => (i.zero, i.size, i.bytes)) = some (some (.int .i64 0), 1, 8) := by kernel_rfl
theorem info24 : (Tryd.prog.info? 24).map (fun i => (i.zero, i.size, i.bytes)) = some (some (.float .f64 0), 1, 8) := by kernel_rfl
theorem info54 : (Tryd.prog.info? 54).map (fun i => (i.zero, i.size, i.bytes)) = some (some (.agg #[(.int .i64 0), (.float .f64 0)]), 2, 16) := by kernel_rfl
theorem C_box_ {α : Type} {d : Kd α} {w : World} {g : Nat} {t : TypeId} {cs : List Value} {x : α} (hb : w.heap[g]? = some (.cells cs.toArray t (0, 0))) (hk : d.K w x cs) : Kd.C d w (some ⟨g, 0, none⟩) [x].length [x] := ⟨rfl, Nat.le_trans (Nat.le_refl 1) (by decide), fun _ => ⟨_, rfl, fun j p hp => by
 have hj : j = 0 := by
  rcases j with _ | j
  ·rfl
  ·exact absurd hp (by simp)
 subst hj
 obtain rfl : x = p := Option.some.inj hp
 exact ⟨cs, d.K_len hk, hk, fun i u hu => by
  have h := blk_cell hb i
  have e : (Addr.add ⟨g, 0, none⟩ (0 * d.sz + i)) = ⟨g, i, none⟩ := by simp [Addr.add]; exact fun h => h.symm
  rw [e, h]
  simpa using hu⟩⟩⟩
theorem own_len_ (A : Option Addr) (n m c : Nat) : (Value.slice A n c).ownBlock = (Value.slice A m c).ownBlock := by cases A <;> rfl
theorem own_ne_len {A : Option Addr} {n m c k : Nat} (h : some k ≠ (Value.slice A n c).ownBlock) : some k ≠ (Value.slice A m c).ownBlock := by rwa [own_len_ A m n c]
theorem R_okl {α : Type} {d : Kd α} {e : Nat} {w : World} {base : Nat} {v : Value} {xs : List α} {A : Option Addr} {n m c : Nat} (h : Kd.R d e w base (fun k => some k ≠ (Value.slice A n c).ownBlock) v xs) : Kd.R d e w base (fun k => some k ≠ (Value.slice A m c).ownBlock) v xs := Kd.R_mono h (fun _ hk => own_ne_len hk)
-- the values' own types
/-! #### struct type 54 -/
structure S54 where
 f0 : Int
 f1 : Nat
def z54 : S54 := ⟨(0 : Int), (0 : Nat)⟩
def k54 : Kd S54 := Kd.iso (Kd.pair (Kd.int .i64) Kd.flt) (fun x : S54 => (x.f0, x.f1))
theorem k54_open {w : World} {x : S54} {cs : List Value} (h : k54.K w x cs) : ∃ p1, cs = [.int .i64 x.f0, .float .f64 (un p1 x.f1)] := by
 obtain ⟨_, _, rfl, rfl, ⟨p1, rfl⟩⟩ := h
 exact ⟨p1, rfl⟩
theorem k54_openM {w : World} {base : Nat} {ok : Nat → Prop} {x : S54} {cs : List Value} (h : k54.M w base ok x cs) : ∃ p1, cs = [.int .i64 x.f0, .float .f64 (un p1 x.f1)] := by
 obtain ⟨_, _, rfl, rfl, ⟨p1, rfl⟩⟩ := h
 exact ⟨p1, rfl⟩
theorem k54_mk (w : World) (x : S54)  {v1 : Value} (h1 : FV v1 x.f1 := by first | assumption | exact ⟨_, rfl⟩ | exact ⟨0, rfl⟩) : k54.K w x [.int .i64 x.f0, v1] := ⟨[.int .i64 x.f0], [v1], rfl, rfl, (fvm h1)⟩
theorem k54_mkM (w : World) (base : Nat) (ok : Nat → Prop) (x : S54)  {v1 : Value} (h1 : FV v1 x.f1 := by first | assumption | exact ⟨_, rfl⟩ | exact ⟨0, rfl⟩) : k54.M w base ok x [.int .i64 x.f0, v1] := ⟨[.int .i64 x.f0], [v1], rfl, rfl, (fvm h1)⟩
def rd_T54 (xs : List S54) (i : Int) : S54 := xs.getD i.toNat z54
theorem at_T54 {w : World} {A : Option Addr} {n : Nat} {xs : List S54} (h : Kd.C k54 w A n xs) (i : Int) (h0 : 0 ≤ i) (h1 : i < n) : ∃ ad p1, A = some ad ∧ w.cell? (ad.add (i.toNat * 2)) = some (.int .i64 (rd_T54 xs i).f0) ∧ w.cell? ⟨(ad.add (i.toNat * 2)).block, (ad.add (i.toNat * 2)).off + 1, none⟩ = some (.float .f64 (un p1 (rd_T54 xs i).f1)) := by
 obtain ⟨ad, c, e, _, hK, hc0⟩ := Kd.C_get h z54 i h0 h1
 have hc : ∀ j u, c[j]? = some u → w.cell? (ad.add (i.toNat * 2 + j)) = some u := hc0
 obtain ⟨p1, rfl⟩ := k54_open hK
 exact ⟨ad, p1, e, hc 0 _ rfl, by rw [← add_field _ _ 1 (by omega)]; exact hc 1 _ rfl⟩

end Go.Proofs.YtpileeenoocjpaaDoor.Q
