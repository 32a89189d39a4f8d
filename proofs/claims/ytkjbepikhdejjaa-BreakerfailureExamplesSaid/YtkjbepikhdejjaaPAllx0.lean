-- PRINTED BY print.sh 35421559b90ae4d0a3588c463048766b98c2df88dd9212a6774a882060cdf62d: not written by this session
import Derived.Test.YtkjbepikhdejjaaProg
import Derived.Below
import Derived.Deep.Draws
import Derived.Deep.AppendLies
import Derived.Maps.AppendAt
import Derived.OwnWalk
import Derived.Laws.BytesArg
import Derived.Laws.MakeOwn
import Derived.Laws.OwnMore
import Derived.Deep.OwnRows
import Derived.Tactics
import Derived.Lib.ConvBytes
import Derived.Laws.Slices
import Derived.WalkKit
import Derived.KernelRfl
import Derived.RowKit3
import Derived.Deep.LoopGhost
import Derived.Deep.QuietTactic
import Derived.BigQuiet
import Derived.WideLaws
import Derived.Deep.DeepCutAuto
import Derived.Deep.CutBlock
import Derived.Deep.RegionHeld3
import Derived.Laws.Rows
import Derived.Lib.AppendStr
import Derived.ArgAppend
import Derived.Laws.IdiomCopy
import Derived.OrdersHeld
import Derived.Laws.BitsLemmas
import Derived.RowKit
import Derived.Test.YtkjbepikhdejjaaWWords
import Derived.Test.YtkjbepikhdejjaaWLast
import Derived.Test.YtkjbepikhdejjaaWTab
import Derived.Test.YtkjbepikhdejjaaWFour
import Derived.Test.YtkjbepikhdejjaaWQPut
import Derived.Test.YtkjbepikhdejjaaWApart
import Derived.Test.YtkjbepikhdejjaaWArr
import Derived.Test.YtkjbepikhdejjaaWZeros
import Derived.Test.YtkjbepikhdejjaaWFoot
import Derived.Test.YtkjbepikhdejjaaWKept
import Derived.Test.YtkjbepikhdejjaaWShare
import Derived.Test.YtkjbepikhdejjaaWN
import Derived.Test.YtkjbepikhdejjaaWFootNe
import Derived.Test.YtkjbepikhdejjaaWAt
import Derived.Test.YtkjbepikhdejjaaWEqStruct
import Derived.Test.YtkjbepikhdejjaaWRepsOne
import Derived.Test.YtkjbepikhdejjaaWInv
import Derived.Test.YtkjbepikhdejjaaWInvWords
import Derived.Test.YtkjbepikhdejjaaWGuard
import Derived.Test.YtkjbepikhdejjaaWNEv
import Derived.Test.YtkjbepikhdejjaaWMore
namespace Go.Proofs.Ytkjbepikhdejjaa.PAll
open Go.RowKit Go.Proofs.YtkjbepikhdejjaaW.PrintWords Go.Proofs.YtkjbepikhdejjaaW.PrintLast Go.Proofs.YtkjbepikhdejjaaW.PrintMore
attribute [local go_sem] max2_int min2_int max_two min_two max_three min_three max_four min_four   -- for this text's walks alone
set_option linter.unusedVariables false
set_option linter.unusedSimpArgs false



def errW : Option Int → Value
  | none => .nilIface
  | some c => .iface 0 (.int .i64 c)
theorem errW_none : errW none = .nilIface := rfl
theorem errW_some (c : Int) : errW (some c) = .iface 0 (.int .i64 c) := rfl

theorem info3 : (Try.prog.info? 3).map (fun i => (i.zero, i.size, i.bytes)) = some (some (.int .i64 0), 1, 8) := by kernel_rfl
theorem info4 : (Try.prog.info? 4).map (fun i => (i.zero, i.size, i.bytes)) = some (some (.bool false), 1, 1) := by kernel_rfl
theorem info9 : (Try.prog.info? 9).map (fun i => (i.zero, i.size, i.bytes)) = some (some (.string ⟨#[]⟩), 1, 16) := by kernel_rfl
theorem info47 : (Try.prog.info? 47).map (fun i => (i.zero, i.size, i.bytes)) = some (some (.slice none 0 0), 1, 24) := by kernel_rfl
theorem info50 : (Try.prog.info? 50).map (fun i => (i.zero, i.size, i.bytes)) = some (some (.agg #[(.int .i64 0), (.int .i64 0)]), 2, 16) := by kernel_rfl
theorem info61 : (Try.prog.info? 61).map (fun i => (i.zero, i.size, i.bytes)) = some (some (.agg #[(.int .i64 0), (.int .i64 0)]), 2, 16) := by kernel_rfl
theorem info83 : (Try.prog.info? 83).map (fun i => (i.zero, i.size, i.bytes)) = some (some (.agg #[(.string ⟨#[]⟩), (.int .i64 0), (.int .i64 0), (.int .i64 0), (.int .i64 0), (.int .i64 0), (.slice none 0 0), (.bool false), (.int .i64 0), (.int .i64 0), (.int .i64 0), (.int .i64 0)]), 12, 120) := by kernel_rfl
theorem info103 : (Try.prog.info? 103).map (fun i => (i.zero, i.size, i.bytes)) = some (some (.agg #[(.string ⟨#[]⟩), (.int .i64 0), (.int .i64 0), (.int .i64 0), (.int .i64 0), (.int .i64 0)]), 6, 56) := by kernel_rfl
theorem info105 : (Try.prog.info? 105).map (fun i => (i.zero, i.size, i.bytes)) = some (some (.agg #[(.int .i64 0), (.int .i64 0)]), 2, 16) := by kernel_rfl
theorem info135 : (Try.prog.info? 135).map (fun i => (i.zero, i.size, i.bytes)) = some (some (.agg #[(.int .i64 0), (.int .i64 0)]), 2, 16) := by kernel_rfl
-- the values' own types
/-! #### struct type 80 -/
structure S80 where
  f0 : Int
  f1 : Int
def z80 : S80 := ⟨(0 : Int), (0 : Int)⟩
def k80 : Kd S80 := Kd.iso (Kd.pair (Kd.int .i64) (Kd.int .i64)) (fun x : S80 => (x.f0, x.f1))
theorem k80_open {w : World} {x : S80} {cs : List Value} (h : k80.K w x cs) : cs = [.int .i64 x.f0, .int .i64 x.f1] := by
  obtain ⟨_, _, rfl, rfl, rfl⟩ := h
  exact rfl
theorem k80_openM {w : World} {base : Nat} {ok : Nat → Prop} {x : S80} {cs : List Value} (h : k80.M w base ok x cs) : cs = [.int .i64 x.f0, .int .i64 x.f1] := by
  obtain ⟨_, _, rfl, rfl, rfl⟩ := h
  exact rfl
theorem k80_mk (w : World) (x : S80)  : k80.K w x [.int .i64 x.f0, .int .i64 x.f1] := ⟨[.int .i64 x.f0], [.int .i64 x.f1], rfl, rfl, rfl⟩
theorem k80_mkM (w : World) (base : Nat) (ok : Nat → Prop) (x : S80)  : k80.M w base ok x [.int .i64 x.f0, .int .i64 x.f1] := ⟨[.int .i64 x.f0], [.int .i64 x.f1], rfl, rfl, rfl⟩
theorem k80_mkF (W : World) (ok : Nat → Prop) (x : S80) : Kd.FK k80 W ok x [.int .i64 x.f0, .int .i64 x.f1] := fun W2 _ => k80_mk W2 x
def rd_T80 (xs : List S80) (i : Int) : S80 := xs.getD i.toNat z80
theorem at_T80 {w : World} {A : Option Addr} {n : Nat} {xs : List S80} (h : Kd.C k80 w A n xs) (i : Int) (h0 : 0 ≤ i) (h1 : i < n) : ∃ ad , A = some ad ∧ w.cell? (ad.add (i.toNat * 2)) = some (.int .i64 (rd_T80 xs i).f0) ∧ w.cell? ⟨(ad.add (i.toNat * 2)).block, (ad.add (i.toNat * 2)).off + 1, none⟩ = some (.int .i64 (rd_T80 xs i).f1) := by
  obtain ⟨ad, c, e, _, hK, hc0⟩ := Kd.C_get h z80 i h0 h1
  have hc : ∀ j u, c[j]? = some u → w.cell? (ad.add (i.toNat * 2 + j)) = some u := hc0
  obtain rfl := k80_open hK
  exact ⟨ad, e, hc 0 _ rfl, by rw [← add_field _ _ 1 (by omega)]; exact hc 1 _ rfl⟩

/-! #### struct type 105 -/
structure S105 where
  f0 : Int
  f1 : Int
def z105 : S105 := ⟨(0 : Int), (0 : Int)⟩
def k105 : Kd S105 := Kd.iso (Kd.pair (Kd.int .i64) (Kd.int .i64)) (fun x : S105 => (x.f0, x.f1))
theorem k105_open {w : World} {x : S105} {cs : List Value} (h : k105.K w x cs) : cs = [.int .i64 x.f0, .int .i64 x.f1] := by
  obtain ⟨_, _, rfl, rfl, rfl⟩ := h
  exact rfl
theorem k105_openM {w : World} {base : Nat} {ok : Nat → Prop} {x : S105} {cs : List Value} (h : k105.M w base ok x cs) : cs = [.int .i64 x.f0, .int .i64 x.f1] := by
  obtain ⟨_, _, rfl, rfl, rfl⟩ := h
  exact rfl
theorem k105_mk (w : World) (x : S105)  : k105.K w x [.int .i64 x.f0, .int .i64 x.f1] := ⟨[.int .i64 x.f0], [.int .i64 x.f1], rfl, rfl, rfl⟩
theorem k105_mkM (w : World) (base : Nat) (ok : Nat → Prop) (x : S105)  : k105.M w base ok x [.int .i64 x.f0, .int .i64 x.f1] := ⟨[.int .i64 x.f0], [.int .i64 x.f1], rfl, rfl, rfl⟩
theorem k105_mkF (W : World) (ok : Nat → Prop) (x : S105) : Kd.FK k105 W ok x [.int .i64 x.f0, .int .i64 x.f1] := fun W2 _ => k105_mk W2 x
def rd_T105 (xs : List S105) (i : Int) : S105 := xs.getD i.toNat z105
theorem at_T105 {w : World} {A : Option Addr} {n : Nat} {xs : List S105} (h : Kd.C k105 w A n xs) (i : Int) (h0 : 0 ≤ i) (h1 : i < n) : ∃ ad , A = some ad ∧ w.cell? (ad.add (i.toNat * 2)) = some (.int .i64 (rd_T105 xs i).f0) ∧ w.cell? ⟨(ad.add (i.toNat * 2)).block, (ad.add (i.toNat * 2)).off + 1, none⟩ = some (.int .i64 (rd_T105 xs i).f1) := by
  obtain ⟨ad, c, e, _, hK, hc0⟩ := Kd.C_get h z105 i h0 h1
  have hc : ∀ j u, c[j]? = some u → w.cell? (ad.add (i.toNat * 2 + j)) = some u := hc0
  obtain rfl := k105_open hK
  exact ⟨ad, e, hc 0 _ rfl, by rw [← add_field _ _ 1 (by omega)]; exact hc 1 _ rfl⟩

def rd_L4 (xs : List (List S105)) (i : Int) : (List S105) := xs.getD i.toNat ([] : List S105)
theorem at_L4 {w : World} {A : Option Addr} {n : Nat} {xs : List (List S105)} (h : Kd.C (Kd.slice 105 k105) w A n xs) (i : Int) (h0 : 0 ≤ i) (h1 : i < n) : ∃ ad A0 c0, A = some ad ∧ w.cell? (ad.add i.toNat) = some (.slice A0 (rd_L4 xs i).length c0) ∧ (rd_L4 xs i).length ≤ c0 ∧ k105.C w A0 (rd_L4 xs i).length (rd_L4 xs i) := by
  obtain ⟨ad, c, e, _, hK, hc0⟩ := Kd.C_get h ([] : List S105) i h0 h1
  have hc : ∀ j u, c[j]? = some u → w.cell? (ad.add (i.toNat * 1 + j)) = some u := hc0
  obtain ⟨A0, c0, rfl, l0, g0⟩ := hK
  exact ⟨ad, A0, c0, e, by have hq := hc 0 _ rfl; rwa [Nat.mul_one, Nat.add_zero] at hq, l0, g0⟩

/-! #### struct type 83 -/
structure S83 where
  f0 : ByteArray
  f1 : Int
  f2 : Int
  f3 : Int
  f4 : S80
  f5 : (List S105)
  f6 : Bool
  f7 : Int
  f8 : Int
  f9 : Int
  f10 : Int
def z83 : S83 := ⟨(⟨#[]⟩ : ByteArray), (0 : Int), (0 : Int), (0 : Int), z80, ([] : List S105), false, (0 : Int), (0 : Int), (0 : Int), (0 : Int)⟩
def k83 : Kd S83 := Kd.iso (Kd.pair Kd.string (Kd.pair (Kd.int .i64) (Kd.pair (Kd.int .i64) (Kd.pair (Kd.int .i64) (Kd.pair k80 (Kd.pair (Kd.slice 105 k105) (Kd.pair Kd.bool (Kd.pair (Kd.int .i64) (Kd.pair (Kd.int .i64) (Kd.pair (Kd.int .i64) (Kd.int .i64))))))))))) (fun x : S83 => (x.f0, x.f1, x.f2, x.f3, x.f4, x.f5, x.f6, x.f7, x.f8, x.f9, x.f10))
theorem k83_open {w : World} {x : S83} {cs : List Value} (h : k83.K w x cs) : ∃ A6 c6, cs = [.string x.f0, .int .i64 x.f1, .int .i64 x.f2, .int .i64 x.f3, .int .i64 x.f4.f0, .int .i64 x.f4.f1, .slice A6 x.f5.length c6, .bool x.f6, .int .i64 x.f7, .int .i64 x.f8, .int .i64 x.f9, .int .i64 x.f10] ∧ x.f5.length ≤ c6 ∧ k105.C w A6 x.f5.length x.f5 := by
  obtain ⟨_, _, rfl, rfl, ⟨_, _, rfl, rfl, ⟨_, _, rfl, rfl, ⟨_, _, rfl, rfl, ⟨_, _, rfl, s4, ⟨_, _, rfl, ⟨A6, c6, rfl, l6, g6⟩, ⟨_, _, rfl, rfl, ⟨_, _, rfl, rfl, ⟨_, _, rfl, rfl, ⟨_, _, rfl, rfl, rfl⟩⟩⟩⟩⟩⟩⟩⟩⟩⟩ := h
  obtain rfl := k80_open s4
  exact ⟨A6, c6, rfl, l6, g6⟩
theorem k83_openM {w : World} {base : Nat} {ok : Nat → Prop} {x : S83} {cs : List Value} (h : k83.M w base ok x cs) : ∃ v6, cs = [.string x.f0, .int .i64 x.f1, .int .i64 x.f2, .int .i64 x.f3, .int .i64 x.f4.f0, .int .i64 x.f4.f1, v6, .bool x.f6, .int .i64 x.f7, .int .i64 x.f8, .int .i64 x.f9, .int .i64 x.f10] ∧ k105.R 105 w base ok v6 x.f5 := by
  obtain ⟨_, _, rfl, rfl, ⟨_, _, rfl, rfl, ⟨_, _, rfl, rfl, ⟨_, _, rfl, rfl, ⟨_, _, rfl, s4, ⟨_, _, rfl, ⟨v6, rfl, g6⟩, ⟨_, _, rfl, rfl, ⟨_, _, rfl, rfl, ⟨_, _, rfl, rfl, ⟨_, _, rfl, rfl, rfl⟩⟩⟩⟩⟩⟩⟩⟩⟩⟩ := h
  obtain rfl := k80_openM s4
  exact ⟨v6, rfl, g6⟩
theorem k83_mk (w : World) (x : S83) {A6 : Option Addr} {c6 : Nat} (l6 : x.f5.length ≤ c6) (g6 : k105.C w A6 x.f5.length x.f5) : k83.K w x [.string x.f0, .int .i64 x.f1, .int .i64 x.f2, .int .i64 x.f3, .int .i64 x.f4.f0, .int .i64 x.f4.f1, .slice A6 x.f5.length c6, .bool x.f6, .int .i64 x.f7, .int .i64 x.f8, .int .i64 x.f9, .int .i64 x.f10] := ⟨[.string x.f0], [.int .i64 x.f1, .int .i64 x.f2, .int .i64 x.f3, .int .i64 x.f4.f0, .int .i64 x.f4.f1, .slice A6 x.f5.length c6, .bool x.f6, .int .i64 x.f7, .int .i64 x.f8, .int .i64 x.f9, .int .i64 x.f10], rfl, rfl, ⟨[.int .i64 x.f1], [.int .i64 x.f2, .int .i64 x.f3, .int .i64 x.f4.f0, .int .i64 x.f4.f1, .slice A6 x.f5.length c6, .bool x.f6, .int .i64 x.f7, .int .i64 x.f8, .int .i64 x.f9, .int .i64 x.f10], rfl, rfl, ⟨[.int .i64 x.f2], [.int .i64 x.f3, .int .i64 x.f4.f0, .int .i64 x.f4.f1, .slice A6 x.f5.length c6, .bool x.f6, .int .i64 x.f7, .int .i64 x.f8, .int .i64 x.f9, .int .i64 x.f10], rfl, rfl, ⟨[.int .i64 x.f3], [.int .i64 x.f4.f0, .int .i64 x.f4.f1, .slice A6 x.f5.length c6, .bool x.f6, .int .i64 x.f7, .int .i64 x.f8, .int .i64 x.f9, .int .i64 x.f10], rfl, rfl, ⟨[.int .i64 x.f4.f0, .int .i64 x.f4.f1], [.slice A6 x.f5.length c6, .bool x.f6, .int .i64 x.f7, .int .i64 x.f8, .int .i64 x.f9, .int .i64 x.f10], rfl, (k80_mk w x.f4 ), ⟨[.slice A6 x.f5.length c6], [.bool x.f6, .int .i64 x.f7, .int .i64 x.f8, .int .i64 x.f9, .int .i64 x.f10], rfl, ⟨A6, c6, rfl, l6, g6⟩, ⟨[.bool x.f6], [.int .i64 x.f7, .int .i64 x.f8, .int .i64 x.f9, .int .i64 x.f10], rfl, rfl, ⟨[.int .i64 x.f7], [.int .i64 x.f8, .int .i64 x.f9, .int .i64 x.f10], rfl, rfl, ⟨[.int .i64 x.f8], [.int .i64 x.f9, .int .i64 x.f10], rfl, rfl, ⟨[.int .i64 x.f9], [.int .i64 x.f10], rfl, rfl, rfl⟩⟩⟩⟩⟩⟩⟩⟩⟩⟩
theorem k83_mkM (w : World) (base : Nat) (ok : Nat → Prop) (x : S83) {v6 : Value} (g6 : k105.R 105 w base ok v6 x.f5) : k83.M w base ok x [.string x.f0, .int .i64 x.f1, .int .i64 x.f2, .int .i64 x.f3, .int .i64 x.f4.f0, .int .i64 x.f4.f1, v6, .bool x.f6, .int .i64 x.f7, .int .i64 x.f8, .int .i64 x.f9, .int .i64 x.f10] := ⟨[.string x.f0], [.int .i64 x.f1, .int .i64 x.f2, .int .i64 x.f3, .int .i64 x.f4.f0, .int .i64 x.f4.f1, v6, .bool x.f6, .int .i64 x.f7, .int .i64 x.f8, .int .i64 x.f9, .int .i64 x.f10], rfl, rfl, ⟨[.int .i64 x.f1], [.int .i64 x.f2, .int .i64 x.f3, .int .i64 x.f4.f0, .int .i64 x.f4.f1, v6, .bool x.f6, .int .i64 x.f7, .int .i64 x.f8, .int .i64 x.f9, .int .i64 x.f10], rfl, rfl, ⟨[.int .i64 x.f2], [.int .i64 x.f3, .int .i64 x.f4.f0, .int .i64 x.f4.f1, v6, .bool x.f6, .int .i64 x.f7, .int .i64 x.f8, .int .i64 x.f9, .int .i64 x.f10], rfl, rfl, ⟨[.int .i64 x.f3], [.int .i64 x.f4.f0, .int .i64 x.f4.f1, v6, .bool x.f6, .int .i64 x.f7, .int .i64 x.f8, .int .i64 x.f9, .int .i64 x.f10], rfl, rfl, ⟨[.int .i64 x.f4.f0, .int .i64 x.f4.f1], [v6, .bool x.f6, .int .i64 x.f7, .int .i64 x.f8, .int .i64 x.f9, .int .i64 x.f10], rfl, (k80_mkM w base ok x.f4 ), ⟨[v6], [.bool x.f6, .int .i64 x.f7, .int .i64 x.f8, .int .i64 x.f9, .int .i64 x.f10], rfl, ⟨v6, rfl, g6⟩, ⟨[.bool x.f6], [.int .i64 x.f7, .int .i64 x.f8, .int .i64 x.f9, .int .i64 x.f10], rfl, rfl, ⟨[.int .i64 x.f7], [.int .i64 x.f8, .int .i64 x.f9, .int .i64 x.f10], rfl, rfl, ⟨[.int .i64 x.f8], [.int .i64 x.f9, .int .i64 x.f10], rfl, rfl, ⟨[.int .i64 x.f9], [.int .i64 x.f10], rfl, rfl, rfl⟩⟩⟩⟩⟩⟩⟩⟩⟩⟩
theorem k83_openF {W : World} {ok : Nat → Prop} {x : S83} {cs : List Value} (h : Kd.FK k83 W ok x cs) : ∃ A6 c6, cs = [.string x.f0, .int .i64 x.f1, .int .i64 x.f2, .int .i64 x.f3, .int .i64 x.f4.f0, .int .i64 x.f4.f1, .slice A6 x.f5.length c6, .bool x.f6, .int .i64 x.f7, .int .i64 x.f8, .int .i64 x.f9, .int .i64 x.f10] ∧ x.f5.length ≤ c6 ∧ Kd.F k105 W ok A6 x.f5.length x.f5 := by
  obtain ⟨A6, c6, rfl, l6, _⟩ := k83_open (Kd.FK_now h)
  exact ⟨A6, c6, rfl, l6, (fun W' hW => by obtain ⟨A6_, c6_, he, l6_, g6_⟩ := k83_open (h W' hW); injection (Option.some.inj (show some (Value.slice A6 x.f5.length c6) = some (Value.slice A6_ x.f5.length c6_) from congrArg (fun l => l[6]?) he)) with ha_ _ _; rw [ha_]; exact g6_)⟩
theorem k83_mkF (W : World) (ok : Nat → Prop) (x : S83) {A6 : Option Addr} {c6 : Nat} (l6 : x.f5.length ≤ c6) (g6 : Kd.F k105 W ok A6 x.f5.length x.f5) : Kd.FK k83 W ok x [.string x.f0, .int .i64 x.f1, .int .i64 x.f2, .int .i64 x.f3, .int .i64 x.f4.f0, .int .i64 x.f4.f1, .slice A6 x.f5.length c6, .bool x.f6, .int .i64 x.f7, .int .i64 x.f8, .int .i64 x.f9, .int .i64 x.f10] := fun W2 hW => k83_mk W2 x l6 (g6 W2 hW)
def rd_T83 (xs : List S83) (i : Int) : S83 := xs.getD i.toNat z83
theorem at_T83 {w : World} {A : Option Addr} {n : Nat} {xs : List S83} (h : Kd.C k83 w A n xs) (i : Int) (h0 : 0 ≤ i) (h1 : i < n) : ∃ ad A6 c6, A = some ad ∧ w.cell? (ad.add (i.toNat * 12)) = some (.string (rd_T83 xs i).f0) ∧ w.cell? ⟨(ad.add (i.toNat * 12)).block, (ad.add (i.toNat * 12)).off + 1, none⟩ = some (.int .i64 (rd_T83 xs i).f1) ∧ w.cell? ⟨(ad.add (i.toNat * 12)).block, (ad.add (i.toNat * 12)).off + 2, none⟩ = some (.int .i64 (rd_T83 xs i).f2) ∧ w.cell? ⟨(ad.add (i.toNat * 12)).block, (ad.add (i.toNat * 12)).off + 3, none⟩ = some (.int .i64 (rd_T83 xs i).f3) ∧ w.cell? ⟨(ad.add (i.toNat * 12)).block, (ad.add (i.toNat * 12)).off + 4, none⟩ = some (.int .i64 (rd_T83 xs i).f4.f0) ∧ w.cell? ⟨(ad.add (i.toNat * 12)).block, (ad.add (i.toNat * 12)).off + 5, none⟩ = some (.int .i64 (rd_T83 xs i).f4.f1) ∧ w.cell? ⟨(ad.add (i.toNat * 12)).block, (ad.add (i.toNat * 12)).off + 6, none⟩ = some (.slice A6 (rd_T83 xs i).f5.length c6) ∧ w.cell? ⟨(ad.add (i.toNat * 12)).block, (ad.add (i.toNat * 12)).off + 7, none⟩ = some (.bool (rd_T83 xs i).f6) ∧ w.cell? ⟨(ad.add (i.toNat * 12)).block, (ad.add (i.toNat * 12)).off + 8, none⟩ = some (.int .i64 (rd_T83 xs i).f7) ∧ w.cell? ⟨(ad.add (i.toNat * 12)).block, (ad.add (i.toNat * 12)).off + 9, none⟩ = some (.int .i64 (rd_T83 xs i).f8) ∧ w.cell? ⟨(ad.add (i.toNat * 12)).block, (ad.add (i.toNat * 12)).off + 10, none⟩ = some (.int .i64 (rd_T83 xs i).f9) ∧ w.cell? ⟨(ad.add (i.toNat * 12)).block, (ad.add (i.toNat * 12)).off + 11, none⟩ = some (.int .i64 (rd_T83 xs i).f10) ∧ (rd_T83 xs i).f5.length ≤ c6 ∧ k105.C w A6 (rd_T83 xs i).f5.length (rd_T83 xs i).f5 := by
  obtain ⟨ad, c, e, _, hK, hc0⟩ := Kd.C_get h z83 i h0 h1
  have hc : ∀ j u, c[j]? = some u → w.cell? (ad.add (i.toNat * 12 + j)) = some u := hc0
  obtain ⟨A6, c6, rfl, l6, g6⟩ := k83_open hK
  exact ⟨ad, A6, c6, e, hc 0 _ rfl, by rw [← add_field _ _ 1 (by omega)]; exact hc 1 _ rfl, by rw [← add_field _ _ 2 (by omega)]; exact hc 2 _ rfl, by rw [← add_field _ _ 3 (by omega)]; exact hc 3 _ rfl, by rw [← add_field _ _ 4 (by omega)]; exact hc 4 _ rfl, by rw [← add_field _ _ 5 (by omega)]; exact hc 5 _ rfl, by rw [← add_field _ _ 6 (by omega)]; exact hc 6 _ rfl, by rw [← add_field _ _ 7 (by omega)]; exact hc 7 _ rfl, by rw [← add_field _ _ 8 (by omega)]; exact hc 8 _ rfl, by rw [← add_field _ _ 9 (by omega)]; exact hc 9 _ rfl, by rw [← add_field _ _ 10 (by omega)]; exact hc 10 _ rfl, by rw [← add_field _ _ 11 (by omega)]; exact hc 11 _ rfl, l6, g6⟩

def rd_L7 (xs : List (List Int)) (i : Int) : (List Int) := xs.getD i.toNat ([] : List Int)
theorem at_L7 {w : World} {A : Option Addr} {n : Nat} {xs : List (List Int)} (h : Kd.C (Kd.slice 3 (Kd.int .i64)) w A n xs) (i : Int) (h0 : 0 ≤ i) (h1 : i < n) : ∃ ad A0 c0, A = some ad ∧ w.cell? (ad.add i.toNat) = some (.slice A0 (rd_L7 xs i).length c0) ∧ (rd_L7 xs i).length ≤ c0 ∧ (Kd.int .i64).C w A0 (rd_L7 xs i).length (rd_L7 xs i) := by
  obtain ⟨ad, c, e, _, hK, hc0⟩ := Kd.C_get h ([] : List Int) i h0 h1
  have hc : ∀ j u, c[j]? = some u → w.cell? (ad.add (i.toNat * 1 + j)) = some u := hc0
  obtain ⟨A0, c0, rfl, l0, g0⟩ := hK
  exact ⟨ad, A0, c0, e, by have hq := hc 0 _ rfl; rwa [Nat.mul_one, Nat.add_zero] at hq, l0, g0⟩

/-! #### struct type 142 -/
structure S142 where
  f0 : ByteArray
  f1 : S80
  f2 : S80
def z142 : S142 := ⟨(⟨#[]⟩ : ByteArray), z80, z80⟩
def k142 : Kd S142 := Kd.iso (Kd.pair Kd.string (Kd.pair k80 k80)) (fun x : S142 => (x.f0, x.f1, x.f2))
theorem k142_open {w : World} {x : S142} {cs : List Value} (h : k142.K w x cs) : cs = [.string x.f0, .int .i64 x.f1.f0, .int .i64 x.f1.f1, .int .i64 x.f2.f0, .int .i64 x.f2.f1] := by
  obtain ⟨_, _, rfl, rfl, ⟨_, _, rfl, s1, s3⟩⟩ := h
  obtain rfl := k80_open s1
  obtain rfl := k80_open s3
  exact rfl
theorem k142_openM {w : World} {base : Nat} {ok : Nat → Prop} {x : S142} {cs : List Value} (h : k142.M w base ok x cs) : cs = [.string x.f0, .int .i64 x.f1.f0, .int .i64 x.f1.f1, .int .i64 x.f2.f0, .int .i64 x.f2.f1] := by
  obtain ⟨_, _, rfl, rfl, ⟨_, _, rfl, s1, s3⟩⟩ := h
  obtain rfl := k80_openM s1
  obtain rfl := k80_openM s3
  exact rfl
theorem k142_mk (w : World) (x : S142)  : k142.K w x [.string x.f0, .int .i64 x.f1.f0, .int .i64 x.f1.f1, .int .i64 x.f2.f0, .int .i64 x.f2.f1] := ⟨[.string x.f0], [.int .i64 x.f1.f0, .int .i64 x.f1.f1, .int .i64 x.f2.f0, .int .i64 x.f2.f1], rfl, rfl, ⟨[.int .i64 x.f1.f0, .int .i64 x.f1.f1], [.int .i64 x.f2.f0, .int .i64 x.f2.f1], rfl, (k80_mk w x.f1 ), (k80_mk w x.f2 )⟩⟩
theorem k142_mkM (w : World) (base : Nat) (ok : Nat → Prop) (x : S142)  : k142.M w base ok x [.string x.f0, .int .i64 x.f1.f0, .int .i64 x.f1.f1, .int .i64 x.f2.f0, .int .i64 x.f2.f1] := ⟨[.string x.f0], [.int .i64 x.f1.f0, .int .i64 x.f1.f1, .int .i64 x.f2.f0, .int .i64 x.f2.f1], rfl, rfl, ⟨[.int .i64 x.f1.f0, .int .i64 x.f1.f1], [.int .i64 x.f2.f0, .int .i64 x.f2.f1], rfl, (k80_mkM w base ok x.f1 ), (k80_mkM w base ok x.f2 )⟩⟩
theorem k142_mkF (W : World) (ok : Nat → Prop) (x : S142) : Kd.FK k142 W ok x [.string x.f0, .int .i64 x.f1.f0, .int .i64 x.f1.f1, .int .i64 x.f2.f0, .int .i64 x.f2.f1] := fun W2 _ => k142_mk W2 x
def rd_T142 (xs : List S142) (i : Int) : S142 := xs.getD i.toNat z142
theorem at_T142 {w : World} {A : Option Addr} {n : Nat} {xs : List S142} (h : Kd.C k142 w A n xs) (i : Int) (h0 : 0 ≤ i) (h1 : i < n) : ∃ ad , A = some ad ∧ w.cell? (ad.add (i.toNat * 5)) = some (.string (rd_T142 xs i).f0) ∧ w.cell? ⟨(ad.add (i.toNat * 5)).block, (ad.add (i.toNat * 5)).off + 1, none⟩ = some (.int .i64 (rd_T142 xs i).f1.f0) ∧ w.cell? ⟨(ad.add (i.toNat * 5)).block, (ad.add (i.toNat * 5)).off + 2, none⟩ = some (.int .i64 (rd_T142 xs i).f1.f1) ∧ w.cell? ⟨(ad.add (i.toNat * 5)).block, (ad.add (i.toNat * 5)).off + 3, none⟩ = some (.int .i64 (rd_T142 xs i).f2.f0) ∧ w.cell? ⟨(ad.add (i.toNat * 5)).block, (ad.add (i.toNat * 5)).off + 4, none⟩ = some (.int .i64 (rd_T142 xs i).f2.f1) := by
  obtain ⟨ad, c, e, _, hK, hc0⟩ := Kd.C_get h z142 i h0 h1
  have hc : ∀ j u, c[j]? = some u → w.cell? (ad.add (i.toNat * 5 + j)) = some u := hc0
  obtain rfl := k142_open hK
  exact ⟨ad, e, hc 0 _ rfl, by rw [← add_field _ _ 1 (by omega)]; exact hc 1 _ rfl, by rw [← add_field _ _ 2 (by omega)]; exact hc 2 _ rfl, by rw [← add_field _ _ 3 (by omega)]; exact hc 3 _ rfl, by rw [← add_field _ _ 4 (by omega)]; exact hc 4 _ rfl⟩

/-! #### struct type 103 -/
structure S103 where
  f0 : ByteArray
  f1 : Int
  f2 : S80
  f3 : S80
def z103 : S103 := ⟨(⟨#[]⟩ : ByteArray), (0 : Int), z80, z80⟩
def k103 : Kd S103 := Kd.iso (Kd.pair Kd.string (Kd.pair (Kd.int .i64) (Kd.pair k80 k80))) (fun x : S103 => (x.f0, x.f1, x.f2, x.f3))
theorem k103_open {w : World} {x : S103} {cs : List Value} (h : k103.K w x cs) : cs = [.string x.f0, .int .i64 x.f1, .int .i64 x.f2.f0, .int .i64 x.f2.f1, .int .i64 x.f3.f0, .int .i64 x.f3.f1] := by
  obtain ⟨_, _, rfl, rfl, ⟨_, _, rfl, rfl, ⟨_, _, rfl, s2, s4⟩⟩⟩ := h
  obtain rfl := k80_open s2
  obtain rfl := k80_open s4
  exact rfl
theorem k103_openM {w : World} {base : Nat} {ok : Nat → Prop} {x : S103} {cs : List Value} (h : k103.M w base ok x cs) : cs = [.string x.f0, .int .i64 x.f1, .int .i64 x.f2.f0, .int .i64 x.f2.f1, .int .i64 x.f3.f0, .int .i64 x.f3.f1] := by
  obtain ⟨_, _, rfl, rfl, ⟨_, _, rfl, rfl, ⟨_, _, rfl, s2, s4⟩⟩⟩ := h
  obtain rfl := k80_openM s2
  obtain rfl := k80_openM s4
  exact rfl
theorem k103_mk (w : World) (x : S103)  : k103.K w x [.string x.f0, .int .i64 x.f1, .int .i64 x.f2.f0, .int .i64 x.f2.f1, .int .i64 x.f3.f0, .int .i64 x.f3.f1] := ⟨[.string x.f0], [.int .i64 x.f1, .int .i64 x.f2.f0, .int .i64 x.f2.f1, .int .i64 x.f3.f0, .int .i64 x.f3.f1], rfl, rfl, ⟨[.int .i64 x.f1], [.int .i64 x.f2.f0, .int .i64 x.f2.f1, .int .i64 x.f3.f0, .int .i64 x.f3.f1], rfl, rfl, ⟨[.int .i64 x.f2.f0, .int .i64 x.f2.f1], [.int .i64 x.f3.f0, .int .i64 x.f3.f1], rfl, (k80_mk w x.f2 ), (k80_mk w x.f3 )⟩⟩⟩
theorem k103_mkM (w : World) (base : Nat) (ok : Nat → Prop) (x : S103)  : k103.M w base ok x [.string x.f0, .int .i64 x.f1, .int .i64 x.f2.f0, .int .i64 x.f2.f1, .int .i64 x.f3.f0, .int .i64 x.f3.f1] := ⟨[.string x.f0], [.int .i64 x.f1, .int .i64 x.f2.f0, .int .i64 x.f2.f1, .int .i64 x.f3.f0, .int .i64 x.f3.f1], rfl, rfl, ⟨[.int .i64 x.f1], [.int .i64 x.f2.f0, .int .i64 x.f2.f1, .int .i64 x.f3.f0, .int .i64 x.f3.f1], rfl, rfl, ⟨[.int .i64 x.f2.f0, .int .i64 x.f2.f1], [.int .i64 x.f3.f0, .int .i64 x.f3.f1], rfl, (k80_mkM w base ok x.f2 ), (k80_mkM w base ok x.f3 )⟩⟩⟩
theorem k103_mkF (W : World) (ok : Nat → Prop) (x : S103) : Kd.FK k103 W ok x [.string x.f0, .int .i64 x.f1, .int .i64 x.f2.f0, .int .i64 x.f2.f1, .int .i64 x.f3.f0, .int .i64 x.f3.f1] := fun W2 _ => k103_mk W2 x
def rd_T103 (xs : List S103) (i : Int) : S103 := xs.getD i.toNat z103
theorem at_T103 {w : World} {A : Option Addr} {n : Nat} {xs : List S103} (h : Kd.C k103 w A n xs) (i : Int) (h0 : 0 ≤ i) (h1 : i < n) : ∃ ad , A = some ad ∧ w.cell? (ad.add (i.toNat * 6)) = some (.string (rd_T103 xs i).f0) ∧ w.cell? ⟨(ad.add (i.toNat * 6)).block, (ad.add (i.toNat * 6)).off + 1, none⟩ = some (.int .i64 (rd_T103 xs i).f1) ∧ w.cell? ⟨(ad.add (i.toNat * 6)).block, (ad.add (i.toNat * 6)).off + 2, none⟩ = some (.int .i64 (rd_T103 xs i).f2.f0) ∧ w.cell? ⟨(ad.add (i.toNat * 6)).block, (ad.add (i.toNat * 6)).off + 3, none⟩ = some (.int .i64 (rd_T103 xs i).f2.f1) ∧ w.cell? ⟨(ad.add (i.toNat * 6)).block, (ad.add (i.toNat * 6)).off + 4, none⟩ = some (.int .i64 (rd_T103 xs i).f3.f0) ∧ w.cell? ⟨(ad.add (i.toNat * 6)).block, (ad.add (i.toNat * 6)).off + 5, none⟩ = some (.int .i64 (rd_T103 xs i).f3.f1) := by
  obtain ⟨ad, c, e, _, hK, hc0⟩ := Kd.C_get h z103 i h0 h1
  have hc : ∀ j u, c[j]? = some u → w.cell? (ad.add (i.toNat * 6 + j)) = some u := hc0
  obtain rfl := k103_open hK
  exact ⟨ad, e, hc 0 _ rfl, by rw [← add_field _ _ 1 (by omega)]; exact hc 1 _ rfl, by rw [← add_field _ _ 2 (by omega)]; exact hc 2 _ rfl, by rw [← add_field _ _ 3 (by omega)]; exact hc 3 _ rfl, by rw [← add_field _ _ 4 (by omega)]; exact hc 4 _ rfl, by rw [← add_field _ _ 5 (by omega)]; exact hc 5 _ rfl⟩

/-! #### struct type 50 -/
structure S50 where
  f0 : Int
  f1 : Int
def z50 : S50 := ⟨(0 : Int), (0 : Int)⟩
def k50 : Kd S50 := Kd.iso (Kd.pair (Kd.int .i64) (Kd.int .i64)) (fun x : S50 => (x.f0, x.f1))
theorem k50_open {w : World} {x : S50} {cs : List Value} (h : k50.K w x cs) : cs = [.int .i64 x.f0, .int .i64 x.f1] := by
  obtain ⟨_, _, rfl, rfl, rfl⟩ := h
  exact rfl
theorem k50_openM {w : World} {base : Nat} {ok : Nat → Prop} {x : S50} {cs : List Value} (h : k50.M w base ok x cs) : cs = [.int .i64 x.f0, .int .i64 x.f1] := by
  obtain ⟨_, _, rfl, rfl, rfl⟩ := h
  exact rfl
theorem k50_mk (w : World) (x : S50)  : k50.K w x [.int .i64 x.f0, .int .i64 x.f1] := ⟨[.int .i64 x.f0], [.int .i64 x.f1], rfl, rfl, rfl⟩
theorem k50_mkM (w : World) (base : Nat) (ok : Nat → Prop) (x : S50)  : k50.M w base ok x [.int .i64 x.f0, .int .i64 x.f1] := ⟨[.int .i64 x.f0], [.int .i64 x.f1], rfl, rfl, rfl⟩
theorem k50_mkF (W : World) (ok : Nat → Prop) (x : S50) : Kd.FK k50 W ok x [.int .i64 x.f0, .int .i64 x.f1] := fun W2 _ => k50_mk W2 x
def rd_T50 (xs : List S50) (i : Int) : S50 := xs.getD i.toNat z50
theorem at_T50 {w : World} {A : Option Addr} {n : Nat} {xs : List S50} (h : Kd.C k50 w A n xs) (i : Int) (h0 : 0 ≤ i) (h1 : i < n) : ∃ ad , A = some ad ∧ w.cell? (ad.add (i.toNat * 2)) = some (.int .i64 (rd_T50 xs i).f0) ∧ w.cell? ⟨(ad.add (i.toNat * 2)).block, (ad.add (i.toNat * 2)).off + 1, none⟩ = some (.int .i64 (rd_T50 xs i).f1) := by
  obtain ⟨ad, c, e, _, hK, hc0⟩ := Kd.C_get h z50 i h0 h1
  have hc : ∀ j u, c[j]? = some u → w.cell? (ad.add (i.toNat * 2 + j)) = some u := hc0
  obtain rfl := k50_open hK
  exact ⟨ad, e, hc 0 _ rfl, by rw [← add_field _ _ 1 (by omega)]; exact hc 1 _ rfl⟩

/-! #### struct type 61 -/
structure S61 where
  f0 : Int
  f1 : Int
def z61 : S61 := ⟨(0 : Int), (0 : Int)⟩
def k61 : Kd S61 := Kd.iso (Kd.pair (Kd.int .i64) (Kd.int .i64)) (fun x : S61 => (x.f0, x.f1))
theorem k61_open {w : World} {x : S61} {cs : List Value} (h : k61.K w x cs) : cs = [.int .i64 x.f0, .int .i64 x.f1] := by
  obtain ⟨_, _, rfl, rfl, rfl⟩ := h
  exact rfl
theorem k61_openM {w : World} {base : Nat} {ok : Nat → Prop} {x : S61} {cs : List Value} (h : k61.M w base ok x cs) : cs = [.int .i64 x.f0, .int .i64 x.f1] := by
  obtain ⟨_, _, rfl, rfl, rfl⟩ := h
  exact rfl
theorem k61_mk (w : World) (x : S61)  : k61.K w x [.int .i64 x.f0, .int .i64 x.f1] := ⟨[.int .i64 x.f0], [.int .i64 x.f1], rfl, rfl, rfl⟩
theorem k61_mkM (w : World) (base : Nat) (ok : Nat → Prop) (x : S61)  : k61.M w base ok x [.int .i64 x.f0, .int .i64 x.f1] := ⟨[.int .i64 x.f0], [.int .i64 x.f1], rfl, rfl, rfl⟩
theorem k61_mkF (W : World) (ok : Nat → Prop) (x : S61) : Kd.FK k61 W ok x [.int .i64 x.f0, .int .i64 x.f1] := fun W2 _ => k61_mk W2 x
def rd_T61 (xs : List S61) (i : Int) : S61 := xs.getD i.toNat z61
theorem at_T61 {w : World} {A : Option Addr} {n : Nat} {xs : List S61} (h : Kd.C k61 w A n xs) (i : Int) (h0 : 0 ≤ i) (h1 : i < n) : ∃ ad , A = some ad ∧ w.cell? (ad.add (i.toNat * 2)) = some (.int .i64 (rd_T61 xs i).f0) ∧ w.cell? ⟨(ad.add (i.toNat * 2)).block, (ad.add (i.toNat * 2)).off + 1, none⟩ = some (.int .i64 (rd_T61 xs i).f1) := by
  obtain ⟨ad, c, e, _, hK, hc0⟩ := Kd.C_get h z61 i h0 h1
  have hc : ∀ j u, c[j]? = some u → w.cell? (ad.add (i.toNat * 2 + j)) = some u := hc0
  obtain rfl := k61_open hK
  exact ⟨ad, e, hc 0 _ rfl, by rw [← add_field _ _ 1 (by omega)]; exact hc 1 _ rfl⟩

/-! #### struct type 135 -/
structure S135 where
  f0 : Int
  f1 : Int
def z135 : S135 := ⟨(0 : Int), (0 : Int)⟩
def k135 : Kd S135 := Kd.iso (Kd.pair (Kd.int .i64) (Kd.int .i64)) (fun x : S135 => (x.f0, x.f1))
theorem k135_open {w : World} {x : S135} {cs : List Value} (h : k135.K w x cs) : cs = [.int .i64 x.f0, .int .i64 x.f1] := by
  obtain ⟨_, _, rfl, rfl, rfl⟩ := h
  exact rfl
theorem k135_openM {w : World} {base : Nat} {ok : Nat → Prop} {x : S135} {cs : List Value} (h : k135.M w base ok x cs) : cs = [.int .i64 x.f0, .int .i64 x.f1] := by
  obtain ⟨_, _, rfl, rfl, rfl⟩ := h
  exact rfl
theorem k135_mk (w : World) (x : S135)  : k135.K w x [.int .i64 x.f0, .int .i64 x.f1] := ⟨[.int .i64 x.f0], [.int .i64 x.f1], rfl, rfl, rfl⟩
theorem k135_mkM (w : World) (base : Nat) (ok : Nat → Prop) (x : S135)  : k135.M w base ok x [.int .i64 x.f0, .int .i64 x.f1] := ⟨[.int .i64 x.f0], [.int .i64 x.f1], rfl, rfl, rfl⟩
theorem k135_mkF (W : World) (ok : Nat → Prop) (x : S135) : Kd.FK k135 W ok x [.int .i64 x.f0, .int .i64 x.f1] := fun W2 _ => k135_mk W2 x
def rd_T135 (xs : List S135) (i : Int) : S135 := xs.getD i.toNat z135
theorem at_T135 {w : World} {A : Option Addr} {n : Nat} {xs : List S135} (h : Kd.C k135 w A n xs) (i : Int) (h0 : 0 ≤ i) (h1 : i < n) : ∃ ad , A = some ad ∧ w.cell? (ad.add (i.toNat * 2)) = some (.int .i64 (rd_T135 xs i).f0) ∧ w.cell? ⟨(ad.add (i.toNat * 2)).block, (ad.add (i.toNat * 2)).off + 1, none⟩ = some (.int .i64 (rd_T135 xs i).f1) := by
  obtain ⟨ad, c, e, _, hK, hc0⟩ := Kd.C_get h z135 i h0 h1
  have hc : ∀ j u, c[j]? = some u → w.cell? (ad.add (i.toNat * 2 + j)) = some u := hc0
  obtain rfl := k135_open hK
  exact ⟨ad, e, hc 0 _ rfl, by rw [← add_field _ _ 1 (by omega)]; exact hc 1 _ rfl⟩

def rd_L13 (xs : List (List S135)) (i : Int) : (List S135) := xs.getD i.toNat ([] : List S135)
theorem at_L13 {w : World} {A : Option Addr} {n : Nat} {xs : List (List S135)} (h : Kd.C (Kd.slice 135 k135) w A n xs) (i : Int) (h0 : 0 ≤ i) (h1 : i < n) : ∃ ad A0 c0, A = some ad ∧ w.cell? (ad.add i.toNat) = some (.slice A0 (rd_L13 xs i).length c0) ∧ (rd_L13 xs i).length ≤ c0 ∧ k135.C w A0 (rd_L13 xs i).length (rd_L13 xs i) := by
  obtain ⟨ad, c, e, _, hK, hc0⟩ := Kd.C_get h ([] : List S135) i h0 h1
  have hc : ∀ j u, c[j]? = some u → w.cell? (ad.add (i.toNat * 1 + j)) = some u := hc0
  obtain ⟨A0, c0, rfl, l0, g0⟩ := hK
  exact ⟨ad, A0, c0, e, by have hq := hc 0 _ rfl; rwa [Nat.mul_one, Nat.add_zero] at hq, l0, g0⟩

/-! #### struct type 75 -/
structure S75 where
  f0 : (List Int)
  f1 : (List S135)
  f2 : Bool
def z75 : S75 := ⟨([] : List Int), ([] : List S135), false⟩
def k75 : Kd S75 := Kd.iso (Kd.pair (Kd.slice 3 (Kd.int .i64)) (Kd.pair (Kd.slice 135 k135) Kd.bool)) (fun x : S75 => (x.f0, x.f1, x.f2))
theorem k75_open {w : World} {x : S75} {cs : List Value} (h : k75.K w x cs) : ∃ A0 c0 A1 c1, cs = [.slice A0 x.f0.length c0, .slice A1 x.f1.length c1, .bool x.f2] ∧ x.f0.length ≤ c0 ∧ (Kd.int .i64).C w A0 x.f0.length x.f0 ∧ x.f1.length ≤ c1 ∧ k135.C w A1 x.f1.length x.f1 := by
  obtain ⟨_, _, rfl, ⟨A0, c0, rfl, l0, g0⟩, ⟨_, _, rfl, ⟨A1, c1, rfl, l1, g1⟩, rfl⟩⟩ := h
  exact ⟨A0, c0, A1, c1, rfl, l0, g0, l1, g1⟩
theorem k75_openM {w : World} {base : Nat} {ok : Nat → Prop} {x : S75} {cs : List Value} (h : k75.M w base ok x cs) : ∃ v0 v1, cs = [v0, v1, .bool x.f2] ∧ (Kd.int .i64).R 3 w base ok v0 x.f0 ∧ k135.R 135 w base ok v1 x.f1 := by
  obtain ⟨_, _, rfl, ⟨v0, rfl, g0⟩, ⟨_, _, rfl, ⟨v1, rfl, g1⟩, rfl⟩⟩ := h
  exact ⟨v0, v1, rfl, g0, g1⟩
theorem k75_mk (w : World) (x : S75) {A0 : Option Addr} {c0 : Nat} (l0 : x.f0.length ≤ c0) (g0 : (Kd.int .i64).C w A0 x.f0.length x.f0) {A1 : Option Addr} {c1 : Nat} (l1 : x.f1.length ≤ c1) (g1 : k135.C w A1 x.f1.length x.f1) : k75.K w x [.slice A0 x.f0.length c0, .slice A1 x.f1.length c1, .bool x.f2] := ⟨[.slice A0 x.f0.length c0], [.slice A1 x.f1.length c1, .bool x.f2], rfl, ⟨A0, c0, rfl, l0, g0⟩, ⟨[.slice A1 x.f1.length c1], [.bool x.f2], rfl, ⟨A1, c1, rfl, l1, g1⟩, rfl⟩⟩
theorem k75_mkM (w : World) (base : Nat) (ok : Nat → Prop) (x : S75) {v0 : Value} (g0 : (Kd.int .i64).R 3 w base ok v0 x.f0) {v1 : Value} (g1 : k135.R 135 w base ok v1 x.f1) : k75.M w base ok x [v0, v1, .bool x.f2] := ⟨[v0], [v1, .bool x.f2], rfl, ⟨v0, rfl, g0⟩, ⟨[v1], [.bool x.f2], rfl, ⟨v1, rfl, g1⟩, rfl⟩⟩
theorem k75_openF {W : World} {ok : Nat → Prop} {x : S75} {cs : List Value} (h : Kd.FK k75 W ok x cs) : ∃ A0 c0 A1 c1, cs = [.slice A0 x.f0.length c0, .slice A1 x.f1.length c1, .bool x.f2] ∧ x.f0.length ≤ c0 ∧ Kd.F (Kd.int .i64) W ok A0 x.f0.length x.f0 ∧ x.f1.length ≤ c1 ∧ Kd.F k135 W ok A1 x.f1.length x.f1 := by
  obtain ⟨A0, c0, A1, c1, rfl, l0, _, l1, _⟩ := k75_open (Kd.FK_now h)
  exact ⟨A0, c0, A1, c1, rfl, l0, (fun W' hW => by obtain ⟨A0_, c0_, A1_, c1_, he, l0_, g0_, l1_, g1_⟩ := k75_open (h W' hW); injection (Option.some.inj (show some (Value.slice A0 x.f0.length c0) = some (Value.slice A0_ x.f0.length c0_) from congrArg (fun l => l[0]?) he)) with ha_ _ _; rw [ha_]; exact g0_), l1, (fun W' hW => by obtain ⟨A0_, c0_, A1_, c1_, he, l0_, g0_, l1_, g1_⟩ := k75_open (h W' hW); injection (Option.some.inj (show some (Value.slice A1 x.f1.length c1) = some (Value.slice A1_ x.f1.length c1_) from congrArg (fun l => l[1]?) he)) with ha_ _ _; rw [ha_]; exact g1_)⟩
theorem k75_mkF (W : World) (ok : Nat → Prop) (x : S75) {A0 : Option Addr} {c0 : Nat} (l0 : x.f0.length ≤ c0) (g0 : Kd.F (Kd.int .i64) W ok A0 x.f0.length x.f0) {A1 : Option Addr} {c1 : Nat} (l1 : x.f1.length ≤ c1) (g1 : Kd.F k135 W ok A1 x.f1.length x.f1) : Kd.FK k75 W ok x [.slice A0 x.f0.length c0, .slice A1 x.f1.length c1, .bool x.f2] := fun W2 hW => k75_mk W2 x l0 (g0 W2 hW) l1 (g1 W2 hW)
def rd_T75 (xs : List S75) (i : Int) : S75 := xs.getD i.toNat z75
theorem at_T75 {w : World} {A : Option Addr} {n : Nat} {xs : List S75} (h : Kd.C k75 w A n xs) (i : Int) (h0 : 0 ≤ i) (h1 : i < n) : ∃ ad A0 c0 A1 c1, A = some ad ∧ w.cell? (ad.add (i.toNat * 3)) = some (.slice A0 (rd_T75 xs i).f0.length c0) ∧ w.cell? ⟨(ad.add (i.toNat * 3)).block, (ad.add (i.toNat * 3)).off + 1, none⟩ = some (.slice A1 (rd_T75 xs i).f1.length c1) ∧ w.cell? ⟨(ad.add (i.toNat * 3)).block, (ad.add (i.toNat * 3)).off + 2, none⟩ = some (.bool (rd_T75 xs i).f2) ∧ (rd_T75 xs i).f0.length ≤ c0 ∧ (Kd.int .i64).C w A0 (rd_T75 xs i).f0.length (rd_T75 xs i).f0 ∧ (rd_T75 xs i).f1.length ≤ c1 ∧ k135.C w A1 (rd_T75 xs i).f1.length (rd_T75 xs i).f1 := by
  obtain ⟨ad, c, e, _, hK, hc0⟩ := Kd.C_get h z75 i h0 h1
  have hc : ∀ j u, c[j]? = some u → w.cell? (ad.add (i.toNat * 3 + j)) = some u := hc0
  obtain ⟨A0, c0, A1, c1, rfl, l0, g0, l1, g1⟩ := k75_open hK
  exact ⟨ad, A0, c0, A1, c1, e, hc 0 _ rfl, by rw [← add_field _ _ 1 (by omega)]; exact hc 1 _ rfl, by rw [← add_field _ _ 2 (by omega)]; exact hc 2 _ rfl, l0, g0, l1, g1⟩

end Go.Proofs.Ytkjbepikhdejjaa.PAll
