/- Plain Lean functions with the same answers as the Go functions of this seat, and a proof for each that the Go code comes to just these answers; no condition. Written by a program of this session (the kit's printer, turned). -/
import Derived.Test.YtaophbkedbphnabProg
import Derived.Below
import Derived.Deep.Draws
import Derived.Deep.AppendLies
import Derived.Maps.AppendAt
import Derived.OwnWalk
import Derived.Laws.BytesArg
import Derived.Laws.MakeOwn
import Derived.Laws.OwnMore
import Derived.Deep.OwnRows
import Derived.Tactics
import Derived.Lib.ConvBytes
import Derived.Laws.Slices
import Derived.WalkKit
import Derived.KernelRfl
import Derived.RowKit3
import Derived.Deep.LoopGhost
import Derived.Deep.QuietTactic
import Derived.BigQuiet
import Derived.WideLaws
import Derived.Deep.DeepCutAuto
import Derived.Deep.CutBlock
import Derived.Deep.RegionHeld3
import Derived.Laws.Rows
import Derived.Lib.AppendStr
import Derived.ArgAppend
import Derived.Laws.IdiomCopy
import Derived.OrdersHeld
import Derived.Laws.BitsLemmas
import Derived.RowKit
import Derived.Test.YtaophbkedbphnabFlt
import Derived.Test.YtaophbkedbphnabWWords
import Derived.Test.YtaophbkedbphnabWLast
import Derived.Test.YtaophbkedbphnabWTab
import Derived.Test.YtaophbkedbphnabWFour
import Derived.Test.YtaophbkedbphnabWQPut
import Derived.Test.YtaophbkedbphnabWApart
import Derived.Test.YtaophbkedbphnabWArr
import Derived.Test.YtaophbkedbphnabWZeros
import Derived.Test.YtaophbkedbphnabWFoot
import Derived.Test.YtaophbkedbphnabWKept
import Derived.Test.YtaophbkedbphnabWShare
import Derived.Test.YtaophbkedbphnabWN
import Derived.Test.YtaophbkedbphnabWFootNe
import Derived.Test.YtaophbkedbphnabWAt
import Derived.Test.YtaophbkedbphnabWEqStruct
import Derived.Test.YtaophbkedbphnabWRepsOne
import Derived.Test.YtaophbkedbphnabWInv
import Derived.Test.YtaophbkedbphnabWInvWords
import Derived.Test.YtaophbkedbphnabWGuard
import Derived.Test.YtaophbkedbphnabWNEv
import Derived.Test.YtaophbkedbphnabWMore
namespace Go.Proofs.Ytaophbkedbphnab.Q
open Go.RowKit Go.Proofs.YtaophbkedbphnabW.PrintWords Go.Proofs.YtaophbkedbphnabW.PrintLast Go.Proofs.YtaophbkedbphnabW.PrintMore Go.Proofs.YtaophbkedbphnabW.PrintFlt
attribute [local go_sem] cmp_lss cmp_leq cmp_gtr cmp_geq cmp_eql cmp_neq flt_l flt_r fgt_l fgt_r feq_l feq_r fne_l fne_r ord_lt ord_gt ord_eq ord_ne conv_int conv_flt foi_fold run_store_flt
attribute [local go_sem] max2_int min2_int max_two min_two max_three min_three max_four min_four   -- for this text's walks alone
set_option linter.unusedVariables false
set_option linter.unusedSimpArgs false



def errW : Option Int → Value
 | none => .nilIface
 | some c => .iface 0 (.int .i64 c)
theorem errW_none : errW none = .nilIface := rfl
theorem errW_some (c : Int) : errW (some c) = .iface 0 (.int .i64 c) := rfl

theorem C_box_ {α : Type} {d : Kd α} {w : World} {g : Nat} {t : TypeId} {cs : List Value} {x : α} (hb : w.heap[g]? = some (.cells cs.toArray t (0, 0))) (hk : d.K w x cs) : Kd.C d w (some ⟨g, 0, none⟩) [x].length [x] := ⟨rfl, Nat.le_trans (Nat.le_refl 1) (by decide), fun _ => ⟨_, rfl, fun j p hp => by
 have hj : j = 0 := by
  rcases j with _ | j
  ·rfl
  ·exact absurd hp (by simp)
 subst hj
 obtain rfl : x = p := Option.some.inj hp
 exact ⟨cs, d.K_len hk, hk, fun i u hu => by
  have h := blk_cell hb i
  have e : (Addr.add ⟨g, 0, none⟩ (0 * d.sz + i)) = ⟨g, i, none⟩ := by simp [Addr.add]; exact fun h => h.symm
  rw [e, h]
  simpa using hu⟩⟩⟩
theorem own_len_ (A : Option Addr) (n m c : Nat) : (Value.slice A n c).ownBlock = (Value.slice A m c).ownBlock := by cases A <;> rfl
theorem own_ne_len {A : Option Addr} {n m c k : Nat} (h : some k ≠ (Value.slice A n c).ownBlock) : some k ≠ (Value.slice A m c).ownBlock := by rwa [own_len_ A m n c]
theorem R_okl {α : Type} {d : Kd α} {e : Nat} {w : World} {base : Nat} {v : Value} {xs : List α} {A : Option Addr} {n m c : Nat} (h : Kd.R d e w base (fun k => some k ≠ (Value.slice A n c).ownBlock) v xs) : Kd.R d e w base (fun k => some k ≠ (Value.slice A m c).ownBlock) v xs := Kd.R_mono h (fun _ hk => own_ne_len hk)
-- the values' own types
/-! #### struct type 58 -/
structure S58 where
 f0 : Int
 f1 : Nat
 f2 : Nat
 f3 : Nat
 f4 : Int
 f5 : Nat
 f6 : Nat
 f7 : Nat
 f8 : Int
 f9 : Int
def z58 : S58 := ⟨(0 : Int), (0 : Nat), (0 : Nat), (0 : Nat), (0 : Int), (0 : Nat), (0 : Nat), (0 : Nat), (0 : Int), (0 : Int)⟩
def k58 : Kd S58 := Kd.iso (Kd.pair (Kd.int .i64) (Kd.pair Kd.flt (Kd.pair Kd.flt (Kd.pair Kd.flt (Kd.pair (Kd.int .i64) (Kd.pair Kd.flt (Kd.pair Kd.flt (Kd.pair Kd.flt (Kd.pair (Kd.int .i64) (Kd.int .i64)))))))))) (fun x : S58 => (x.f0, x.f1, x.f2, x.f3, x.f4, x.f5, x.f6, x.f7, x.f8, x.f9))
theorem k58_open {w : World} {x : S58} {cs : List Value} (h : k58.K w x cs) : ∃ p1 p2 p3 p5 p6 p7, cs = [.int .i64 x.f0, .float .f64 (un p1 x.f1), .float .f64 (un p2 x.f2), .float .f64 (un p3 x.f3), .int .i64 x.f4, .float .f64 (un p5 x.f5), .float .f64 (un p6 x.f6), .float .f64 (un p7 x.f7), .int .i64 x.f8, .int .i64 x.f9] := by
 obtain ⟨_, _, rfl, rfl, ⟨_, _, rfl, ⟨p1, rfl⟩, ⟨_, _, rfl, ⟨p2, rfl⟩, ⟨_, _, rfl, ⟨p3, rfl⟩, ⟨_, _, rfl, rfl, ⟨_, _, rfl, ⟨p5, rfl⟩, ⟨_, _, rfl, ⟨p6, rfl⟩, ⟨_, _, rfl, ⟨p7, rfl⟩, ⟨_, _, rfl, rfl, rfl⟩⟩⟩⟩⟩⟩⟩⟩⟩ := h
 exact ⟨p1, p2, p3, p5, p6, p7, rfl⟩
theorem k58_openM {w : World} {base : Nat} {ok : Nat → Prop} {x : S58} {cs : List Value} (h : k58.M w base ok x cs) : ∃ p1 p2 p3 p5 p6 p7, cs = [.int .i64 x.f0, .float .f64 (un p1 x.f1), .float .f64 (un p2 x.f2), .float .f64 (un p3 x.f3), .int .i64 x.f4, .float .f64 (un p5 x.f5), .float .f64 (un p6 x.f6), .float .f64 (un p7 x.f7), .int .i64 x.f8, .int .i64 x.f9] := by
 obtain ⟨_, _, rfl, rfl, ⟨_, _, rfl, ⟨p1, rfl⟩, ⟨_, _, rfl, ⟨p2, rfl⟩, ⟨_, _, rfl, ⟨p3, rfl⟩, ⟨_, _, rfl, rfl, ⟨_, _, rfl, ⟨p5, rfl⟩, ⟨_, _, rfl, ⟨p6, rfl⟩, ⟨_, _, rfl, ⟨p7, rfl⟩, ⟨_, _, rfl, rfl, rfl⟩⟩⟩⟩⟩⟩⟩⟩⟩ := h
 exact ⟨p1, p2, p3, p5, p6, p7, rfl⟩
theorem k58_mk (w : World) (x : S58)  {v1 : Value} (h1 : FV v1 x.f1 := by first | assumption | exact ⟨_, rfl⟩ | exact ⟨0, rfl⟩) {v2 : Value} (h2 : FV v2 x.f2 := by first | assumption | exact ⟨_, rfl⟩ | exact ⟨0, rfl⟩) {v3 : Value} (h3 : FV v3 x.f3 := by first | assumption | exact ⟨_, rfl⟩ | exact ⟨0, rfl⟩) {v5 : Value} (h5 : FV v5 x.f5 := by first | assumption | exact ⟨_, rfl⟩ | exact ⟨0, rfl⟩) {v6 : Value} (h6 : FV v6 x.f6 := by first | assumption | exact ⟨_, rfl⟩ | exact ⟨0, rfl⟩) {v7 : Value} (h7 : FV v7 x.f7 := by first | assumption | exact ⟨_, rfl⟩ | exact ⟨0, rfl⟩) : k58.K w x [.int .i64 x.f0, v1, v2, v3, .int .i64 x.f4, v5, v6, v7, .int .i64 x.f8, .int .i64 x.f9] := ⟨[.int .i64 x.f0], [v1, v2, v3, .int .i64 x.f4, v5, v6, v7, .int .i64 x.f8, .int .i64 x.f9], rfl, rfl, ⟨[v1], [v2, v3, .int .i64 x.f4, v5, v6, v7, .int .i64 x.f8, .int .i64 x.f9], rfl, (fvm h1), ⟨[v2], [v3, .int .i64 x.f4, v5, v6, v7, .int .i64 x.f8, .int .i64 x.f9], rfl, (fvm h2), ⟨[v3], [.int .i64 x.f4, v5, v6, v7, .int .i64 x.f8, .int .i64 x.f9], rfl, (fvm h3), ⟨[.int .i64 x.f4], [v5, v6, v7, .int .i64 x.f8, .int .i64 x.f9], rfl, rfl, ⟨[v5], [v6, v7, .int .i64 x.f8, .int .i64 x.f9], rfl, (fvm h5), ⟨[v6], [v7, .int .i64 x.f8, .int .i64 x.f9], rfl, (fvm h6), ⟨[v7], [.int .i64 x.f8, .int .i64 x.f9], rfl, (fvm h7), ⟨[.int .i64 x.f8], [.int .i64 x.f9], rfl, rfl, rfl⟩⟩⟩⟩⟩⟩⟩⟩⟩
theorem k58_mkM (w : World) (base : Nat) (ok : Nat → Prop) (x : S58)  {v1 : Value} (h1 : FV v1 x.f1 := by first | assumption | exact ⟨_, rfl⟩ | exact ⟨0, rfl⟩) {v2 : Value} (h2 : FV v2 x.f2 := by first | assumption | exact ⟨_, rfl⟩ | exact ⟨0, rfl⟩) {v3 : Value} (h3 : FV v3 x.f3 := by first | assumption | exact ⟨_, rfl⟩ | exact ⟨0, rfl⟩) {v5 : Value} (h5 : FV v5 x.f5 := by first | assumption | exact ⟨_, rfl⟩ | exact ⟨0, rfl⟩) {v6 : Value} (h6 : FV v6 x.f6 := by first | assumption | exact ⟨_, rfl⟩ | exact ⟨0, rfl⟩) {v7 : Value} (h7 : FV v7 x.f7 := by first | assumption | exact ⟨_, rfl⟩ | exact ⟨0, rfl⟩) : k58.M w base ok x [.int .i64 x.f0, v1, v2, v3, .int .i64 x.f4, v5, v6, v7, .int .i64 x.f8, .int .i64 x.f9] := ⟨[.int .i64 x.f0], [v1, v2, v3, .int .i64 x.f4, v5, v6, v7, .int .i64 x.f8, .int .i64 x.f9], rfl, rfl, ⟨[v1], [v2, v3, .int .i64 x.f4, v5, v6, v7, .int .i64 x.f8, .int .i64 x.f9], rfl, (fvm h1), ⟨[v2], [v3, .int .i64 x.f4, v5, v6, v7, .int .i64 x.f8, .int .i64 x.f9], rfl, (fvm h2), ⟨[v3], [.int .i64 x.f4, v5, v6, v7, .int .i64 x.f8, .int .i64 x.f9], rfl, (fvm h3), ⟨[.int .i64 x.f4], [v5, v6, v7, .int .i64 x.f8, .int .i64 x.f9], rfl, rfl, ⟨[v5], [v6, v7, .int .i64 x.f8, .int .i64 x.f9], rfl, (fvm h5), ⟨[v6], [v7, .int .i64 x.f8, .int .i64 x.f9], rfl, (fvm h6), ⟨[v7], [.int .i64 x.f8, .int .i64 x.f9], rfl, (fvm h7), ⟨[.int .i64 x.f8], [.int .i64 x.f9], rfl, rfl, rfl⟩⟩⟩⟩⟩⟩⟩⟩⟩
def rd_T58 (xs : List S58) (i : Int) : S58 := xs.getD i.toNat z58
theorem at_T58 {w : World} {A : Option Addr} {n : Nat} {xs : List S58} (h : Kd.C k58 w A n xs) (i : Int) (h0 : 0 ≤ i) (h1 : i < n) : ∃ ad p1 p2 p3 p5 p6 p7, A = some ad ∧ w.cell? (ad.add (i.toNat * 10)) = some (.int .i64 (rd_T58 xs i).f0) ∧ w.cell? ⟨(ad.add (i.toNat * 10)).block, (ad.add (i.toNat * 10)).off + 1, none⟩ = some (.float .f64 (un p1 (rd_T58 xs i).f1)) ∧ w.cell? ⟨(ad.add (i.toNat * 10)).block, (ad.add (i.toNat * 10)).off + 2, none⟩ = some (.float .f64 (un p2 (rd_T58 xs i).f2)) ∧ w.cell? ⟨(ad.add (i.toNat * 10)).block, (ad.add (i.toNat * 10)).off + 3, none⟩ = some (.float .f64 (un p3 (rd_T58 xs i).f3)) ∧ w.cell? ⟨(ad.add (i.toNat * 10)).block, (ad.add (i.toNat * 10)).off + 4, none⟩ = some (.int .i64 (rd_T58 xs i).f4) ∧ w.cell? ⟨(ad.add (i.toNat * 10)).block, (ad.add (i.toNat * 10)).off + 5, none⟩ = some (.float .f64 (un p5 (rd_T58 xs i).f5)) ∧ w.cell? ⟨(ad.add (i.toNat * 10)).block, (ad.add (i.toNat * 10)).off + 6, none⟩ = some (.float .f64 (un p6 (rd_T58 xs i).f6)) ∧ w.cell? ⟨(ad.add (i.toNat * 10)).block, (ad.add (i.toNat * 10)).off + 7, none⟩ = some (.float .f64 (un p7 (rd_T58 xs i).f7)) ∧ w.cell? ⟨(ad.add (i.toNat * 10)).block, (ad.add (i.toNat * 10)).off + 8, none⟩ = some (.int .i64 (rd_T58 xs i).f8) ∧ w.cell? ⟨(ad.add (i.toNat * 10)).block, (ad.add (i.toNat * 10)).off + 9, none⟩ = some (.int .i64 (rd_T58 xs i).f9) := by
 obtain ⟨ad, c, e, _, hK, hc0⟩ := Kd.C_get h z58 i h0 h1
 have hc : ∀ j u, c[j]? = some u → w.cell? (ad.add (i.toNat * 10 + j)) = some u := hc0
 obtain ⟨p1, p2, p3, p5, p6, p7, rfl⟩ := k58_open hK
 exact ⟨ad, p1, p2, p3, p5, p6, p7, e, hc 0 _ rfl, by rw [← add_field _ _ 1 (by omega)]; exact hc 1 _ rfl, by rw [← add_field _ _ 2 (by omega)]; exact hc 2 _ rfl, by rw [← add_field _ _ 3 (by omega)]; exact hc 3 _ rfl, by rw [← add_field _ _ 4 (by omega)]; exact hc 4 _ rfl, by rw [← add_field _ _ 5 (by omega)]; exact hc 5 _ rfl, by rw [← add_field _ _ 6 (by omega)]; exact hc 6 _ rfl, by rw [← add_field _ _ 7 (by omega)]; exact hc 7 _ rfl, by rw [← add_field _ _ 8 (by omega)]; exact hc 8 _ rfl, by rw [← add_field _ _ 9 (by omega)]; exact hc 9 _ rfl⟩

end Go.Proofs.Ytaophbkedbphnab.Q
