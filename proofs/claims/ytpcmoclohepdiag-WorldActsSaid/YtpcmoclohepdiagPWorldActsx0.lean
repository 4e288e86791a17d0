-- Written by a program of this session: a variant of the print that takes proofs by hand (wip/tools/mkprint.py)
import Derived.Test.YtpcmoclohepdiagProg
import Derived.Below
import Derived.Deep.Draws
import Derived.Deep.AppendLies
import Derived.Maps.AppendAt
import Derived.OwnWalk
import Derived.Laws.BytesArg
import Derived.Laws.MakeOwn
import Derived.Laws.OwnMore
import Derived.Deep.OwnRows
import Derived.Tactics
import Derived.Lib.ConvBytes
import Derived.Laws.Slices
import Derived.WalkKit
import Derived.KernelRfl
import Derived.RowKit3
import Derived.Deep.LoopGhost
import Derived.Deep.QuietTactic
import Derived.BigQuiet
import Derived.WideLaws
import Derived.Deep.DeepCutAuto
import Derived.Deep.CutBlock
import Derived.Deep.RegionHeld3
import Derived.Laws.Rows
import Derived.Lib.AppendStr
import Derived.ArgAppend
import Derived.Laws.IdiomCopy
import Derived.OrdersHeld
import Derived.Laws.BitsLemmas
import Derived.RowKit
import Derived.Maps.OwnSet
import Derived.Maps.OwnOps
import Derived.Maps.Views
import Derived.WideKeyArgs2
import Derived.Carry
import Derived.Test.YtpcmoclohepdiagWWords
import Derived.Test.YtpcmoclohepdiagWLast
import Derived.Test.YtpcmoclohepdiagWTab
import Derived.Test.YtpcmoclohepdiagWArr
import Derived.Test.YtpcmoclohepdiagWFoot
import Derived.Test.YtpcmoclohepdiagWKept
import Derived.Test.YtpcmoclohepdiagWEqStruct
import Derived.Test.YtpcmoclohepdiagWRepsOne
import Derived.Test.YtpcmoclohepdiagWGuard
namespace Go.Proofs.Ytpcmoclohepdiag.PWorldActs
open Go.RowKit Go.Proofs.YtpcmoclohepdiagW.PrintWords Go.Proofs.YtpcmoclohepdiagW.PrintLast
set_option linter.unusedVariables false
set_option linter.unusedSimpArgs false



def errW : Option Int → Value
 | none => .nilIface
 | some c => .iface 0 (.int .i64 c)
theorem errW_none : errW none = .nilIface := rfl
theorem errW_some (c : Int) : errW (some c) = .iface 0 (.int .i64 c) := rfl

theorem info25 : (Try.prog.info? 25).map (fun i => (i.zero, i.size, i.bytes)) = some (some (.int .u64 0), 1, 8) := by kernel_rfl
-- the values' own types
/-! #### struct type 23 -/
structure S23 where
 f0 : Int
 f1 : Int
 f2 : Int
 f3 : Int
 f4 : Int
def z23 : S23 := ⟨(0 : Int), (0 : Int), (0 : Int), (0 : Int), (0 : Int)⟩
def k23 : Kd S23 := Kd.iso (Kd.pair (Kd.int .i64) (Kd.pair (Kd.int .i64) (Kd.pair (Kd.int .i64) (Kd.pair (Kd.int .i64) (Kd.int .i64))))) (fun x : S23 => (x.f0, x.f1, x.f2, x.f3, x.f4))
theorem k23_open {w : World} {x : S23} {cs : List Value} (h : k23.K w x cs) : cs = [.int .i64 x.f0, .int .i64 x.f1, .int .i64 x.f2, .int .i64 x.f3, .int .i64 x.f4] := by
 obtain ⟨_, _, rfl, rfl, ⟨_, _, rfl, rfl, ⟨_, _, rfl, rfl, ⟨_, _, rfl, rfl, rfl⟩⟩⟩⟩ := h
 exact rfl
theorem k23_openM {w : World} {base : Nat} {ok : Nat → Prop} {x : S23} {cs : List Value} (h : k23.M w base ok x cs) : cs = [.int .i64 x.f0, .int .i64 x.f1, .int .i64 x.f2, .int .i64 x.f3, .int .i64 x.f4] := by
 obtain ⟨_, _, rfl, rfl, ⟨_, _, rfl, rfl, ⟨_, _, rfl, rfl, ⟨_, _, rfl, rfl, rfl⟩⟩⟩⟩ := h
 exact rfl
theorem k23_mk (w : World) (x : S23)  : k23.K w x [.int .i64 x.f0, .int .i64 x.f1, .int .i64 x.f2, .int .i64 x.f3, .int .i64 x.f4] := ⟨[.int .i64 x.f0], [.int .i64 x.f1, .int .i64 x.f2, .int .i64 x.f3, .int .i64 x.f4], rfl, rfl, ⟨[.int .i64 x.f1], [.int .i64 x.f2, .int .i64 x.f3, .int .i64 x.f4], rfl, rfl, ⟨[.int .i64 x.f2], [.int .i64 x.f3, .int .i64 x.f4], rfl, rfl, ⟨[.int .i64 x.f3], [.int .i64 x.f4], rfl, rfl, rfl⟩⟩⟩⟩
theorem k23_mkM (w : World) (base : Nat) (ok : Nat → Prop) (x : S23)  : k23.M w base ok x [.int .i64 x.f0, .int .i64 x.f1, .int .i64 x.f2, .int .i64 x.f3, .int .i64 x.f4] := ⟨[.int .i64 x.f0], [.int .i64 x.f1, .int .i64 x.f2, .int .i64 x.f3, .int .i64 x.f4], rfl, rfl, ⟨[.int .i64 x.f1], [.int .i64 x.f2, .int .i64 x.f3, .int .i64 x.f4], rfl, rfl, ⟨[.int .i64 x.f2], [.int .i64 x.f3, .int .i64 x.f4], rfl, rfl, ⟨[.int .i64 x.f3], [.int .i64 x.f4], rfl, rfl, rfl⟩⟩⟩⟩
def rd_T23 (xs : List S23) (i : Int) : S23 := xs.getD i.toNat z23
theorem at_T23 {w : World} {A : Option Addr} {n : Nat} {xs : List S23} (h : Kd.C k23 w A n xs) (i : Int) (h0 : 0 ≤ i) (h1 : i < n) : ∃ ad , A = some ad ∧ w.cell? (ad.add (i.toNat * 5)) = some (.int .i64 (rd_T23 xs i).f0) ∧ w.cell? ⟨(ad.add (i.toNat * 5)).block, (ad.add (i.toNat * 5)).off + 1, none⟩ = some (.int .i64 (rd_T23 xs i).f1) ∧ w.cell? ⟨(ad.add (i.toNat * 5)).block, (ad.add (i.toNat * 5)).off + 2, none⟩ = some (.int .i64 (rd_T23 xs i).f2) ∧ w.cell? ⟨(ad.add (i.toNat * 5)).block, (ad.add (i.toNat * 5)).off + 3, none⟩ = some (.int .i64 (rd_T23 xs i).f3) ∧ w.cell? ⟨(ad.add (i.toNat * 5)).block, (ad.add (i.toNat * 5)).off + 4, none⟩ = some (.int .i64 (rd_T23 xs i).f4) := by
 obtain ⟨ad, c, e, _, hK, hc0⟩ := Kd.C_get h z23 i h0 h1
 have hc : ∀ j u, c[j]? = some u → w.cell? (ad.add (i.toNat * 5 + j)) = some u := hc0
 obtain rfl := k23_open hK
 exact ⟨ad, e, hc 0 _ rfl, by rw [← add_field _ _ 1 (by omega)]; exact hc 1 _ rfl, by rw [← add_field _ _ 2 (by omega)]; exact hc 2 _ rfl, by rw [← add_field _ _ 3 (by omega)]; exact hc 3 _ rfl, by rw [← add_field _ _ 4 (by omega)]; exact hc 4 _ rfl⟩

/-! #### struct type 159 -/
structure S159 where
 f0 : Int
 f1 : Int
 f2 : Int
 f3 : Int
def z159 : S159 := ⟨(0 : Int), (0 : Int), (0 : Int), (0 : Int)⟩
def k159 : Kd S159 := Kd.iso (Kd.pair (Kd.int .i64) (Kd.pair (Kd.int .u64) (Kd.pair (Kd.int .u64) (Kd.int .i64)))) (fun x : S159 => (x.f0, x.f1, x.f2, x.f3))
theorem k159_open {w : World} {x : S159} {cs : List Value} (h : k159.K w x cs) : cs = [.int .i64 x.f0, .int .u64 x.f1, .int .u64 x.f2, .int .i64 x.f3] := by
 obtain ⟨_, _, rfl, rfl, ⟨_, _, rfl, rfl, ⟨_, _, rfl, rfl, rfl⟩⟩⟩ := h
 exact rfl
theorem k159_openM {w : World} {base : Nat} {ok : Nat → Prop} {x : S159} {cs : List Value} (h : k159.M w base ok x cs) : cs = [.int .i64 x.f0, .int .u64 x.f1, .int .u64 x.f2, .int .i64 x.f3] := by
 obtain ⟨_, _, rfl, rfl, ⟨_, _, rfl, rfl, ⟨_, _, rfl, rfl, rfl⟩⟩⟩ := h
 exact rfl
theorem k159_mk (w : World) (x : S159)  : k159.K w x [.int .i64 x.f0, .int .u64 x.f1, .int .u64 x.f2, .int .i64 x.f3] := ⟨[.int .i64 x.f0], [.int .u64 x.f1, .int .u64 x.f2, .int .i64 x.f3], rfl, rfl, ⟨[.int .u64 x.f1], [.int .u64 x.f2, .int .i64 x.f3], rfl, rfl, ⟨[.int .u64 x.f2], [.int .i64 x.f3], rfl, rfl, rfl⟩⟩⟩
theorem k159_mkM (w : World) (base : Nat) (ok : Nat → Prop) (x : S159)  : k159.M w base ok x [.int .i64 x.f0, .int .u64 x.f1, .int .u64 x.f2, .int .i64 x.f3] := ⟨[.int .i64 x.f0], [.int .u64 x.f1, .int .u64 x.f2, .int .i64 x.f3], rfl, rfl, ⟨[.int .u64 x.f1], [.int .u64 x.f2, .int .i64 x.f3], rfl, rfl, ⟨[.int .u64 x.f2], [.int .i64 x.f3], rfl, rfl, rfl⟩⟩⟩
def rd_T159 (xs : List S159) (i : Int) : S159 := xs.getD i.toNat z159
theorem at_T159 {w : World} {A : Option Addr} {n : Nat} {xs : List S159} (h : Kd.C k159 w A n xs) (i : Int) (h0 : 0 ≤ i) (h1 : i < n) : ∃ ad , A = some ad ∧ w.cell? (ad.add (i.toNat * 4)) = some (.int .i64 (rd_T159 xs i).f0) ∧ w.cell? ⟨(ad.add (i.toNat * 4)).block, (ad.add (i.toNat * 4)).off + 1, none⟩ = some (.int .u64 (rd_T159 xs i).f1) ∧ w.cell? ⟨(ad.add (i.toNat * 4)).block, (ad.add (i.toNat * 4)).off + 2, none⟩ = some (.int .u64 (rd_T159 xs i).f2) ∧ w.cell? ⟨(ad.add (i.toNat * 4)).block, (ad.add (i.toNat * 4)).off + 3, none⟩ = some (.int .i64 (rd_T159 xs i).f3) := by
 obtain ⟨ad, c, e, _, hK, hc0⟩ := Kd.C_get h z159 i h0 h1
 have hc : ∀ j u, c[j]? = some u → w.cell? (ad.add (i.toNat * 4 + j)) = some u := hc0
 obtain rfl := k159_open hK
 exact ⟨ad, e, hc 0 _ rfl, by rw [← add_field _ _ 1 (by omega)]; exact hc 1 _ rfl, by rw [← add_field _ _ 2 (by omega)]; exact hc 2 _ rfl, by rw [← add_field _ _ 3 (by omega)]; exact hc 3 _ rfl⟩

/-! #### struct type 161 -/
structure S161 where
 f0 : Int
 f1 : S159
def z161 : S161 := ⟨(0 : Int), z159⟩
def k161 : Kd S161 := Kd.iso (Kd.pair (Kd.int .i64) k159) (fun x : S161 => (x.f0, x.f1))
theorem k161_open {w : World} {x : S161} {cs : List Value} (h : k161.K w x cs) : cs = [.int .i64 x.f0, .int .i64 x.f1.f0, .int .u64 x.f1.f1, .int .u64 x.f1.f2, .int .i64 x.f1.f3] := by
 obtain ⟨_, _, rfl, rfl, s1⟩ := h
 obtain rfl := k159_open s1
 exact rfl
theorem k161_openM {w : World} {base : Nat} {ok : Nat → Prop} {x : S161} {cs : List Value} (h : k161.M w base ok x cs) : cs = [.int .i64 x.f0, .int .i64 x.f1.f0, .int .u64 x.f1.f1, .int .u64 x.f1.f2, .int .i64 x.f1.f3] := by
 obtain ⟨_, _, rfl, rfl, s1⟩ := h
 obtain rfl := k159_openM s1
 exact rfl
theorem k161_mk (w : World) (x : S161)  : k161.K w x [.int .i64 x.f0, .int .i64 x.f1.f0, .int .u64 x.f1.f1, .int .u64 x.f1.f2, .int .i64 x.f1.f3] := ⟨[.int .i64 x.f0], [.int .i64 x.f1.f0, .int .u64 x.f1.f1, .int .u64 x.f1.f2, .int .i64 x.f1.f3], rfl, rfl, (k159_mk w x.f1 )⟩
theorem k161_mkM (w : World) (base : Nat) (ok : Nat → Prop) (x : S161)  : k161.M w base ok x [.int .i64 x.f0, .int .i64 x.f1.f0, .int .u64 x.f1.f1, .int .u64 x.f1.f2, .int .i64 x.f1.f3] := ⟨[.int .i64 x.f0], [.int .i64 x.f1.f0, .int .u64 x.f1.f1, .int .u64 x.f1.f2, .int .i64 x.f1.f3], rfl, rfl, (k159_mkM w base ok x.f1 )⟩
def rd_T161 (xs : List S161) (i : Int) : S161 := xs.getD i.toNat z161
theorem at_T161 {w : World} {A : Option Addr} {n : Nat} {xs : List S161} (h : Kd.C k161 w A n xs) (i : Int) (h0 : 0 ≤ i) (h1 : i < n) : ∃ ad , A = some ad ∧ w.cell? (ad.add (i.toNat * 5)) = some (.int .i64 (rd_T161 xs i).f0) ∧ w.cell? ⟨(ad.add (i.toNat * 5)).block, (ad.add (i.toNat * 5)).off + 1, none⟩ = some (.int .i64 (rd_T161 xs i).f1.f0) ∧ w.cell? ⟨(ad.add (i.toNat * 5)).block, (ad.add (i.toNat * 5)).off + 2, none⟩ = some (.int .u64 (rd_T161 xs i).f1.f1) ∧ w.cell? ⟨(ad.add (i.toNat * 5)).block, (ad.add (i.toNat * 5)).off + 3, none⟩ = some (.int .u64 (rd_T161 xs i).f1.f2) ∧ w.cell? ⟨(ad.add (i.toNat * 5)).block, (ad.add (i.toNat * 5)).off + 4, none⟩ = some (.int .i64 (rd_T161 xs i).f1.f3) := by
 obtain ⟨ad, c, e, _, hK, hc0⟩ := Kd.C_get h z161 i h0 h1
 have hc : ∀ j u, c[j]? = some u → w.cell? (ad.add (i.toNat * 5 + j)) = some u := hc0
 obtain rfl := k161_open hK
 exact ⟨ad, e, hc 0 _ rfl, by rw [← add_field _ _ 1 (by omega)]; exact hc 1 _ rfl, by rw [← add_field _ _ 2 (by omega)]; exact hc 2 _ rfl, by rw [← add_field _ _ 3 (by omega)]; exact hc 3 _ rfl, by rw [← add_field _ _ 4 (by omega)]; exact hc 4 _ rfl⟩

def rd_L6 (xs : List (List S161)) (i : Int) : (List S161) := xs.getD i.toNat ([] : List S161)
theorem at_L6 {w : World} {A : Option Addr} {n : Nat} {xs : List (List S161)} (h : Kd.C (Kd.slice 161 k161) w A n xs) (i : Int) (h0 : 0 ≤ i) (h1 : i < n) : ∃ ad A0 c0, A = some ad ∧ w.cell? (ad.add i.toNat) = some (.slice A0 (rd_L6 xs i).length c0) ∧ (rd_L6 xs i).length ≤ c0 ∧ k161.C w A0 (rd_L6 xs i).length (rd_L6 xs i) := by
 obtain ⟨ad, c, e, _, hK, hc0⟩ := Kd.C_get h ([] : List S161) i h0 h1
 have hc : ∀ j u, c[j]? = some u → w.cell? (ad.add (i.toNat * 1 + j)) = some u := hc0
 obtain ⟨A0, c0, rfl, l0, g0⟩ := hK
 exact ⟨ad, A0, c0, e, by have hq := hc 0 _ rfl; rwa [Nat.mul_one, Nat.add_zero] at hq, l0, g0⟩

/-! #### struct type 163 -/
structure S163 where
 f0 : Int
 f1 : Int
def z163 : S163 := ⟨(0 : Int), (0 : Int)⟩
def k163 : Kd S163 := Kd.iso (Kd.pair (Kd.int .i64) (Kd.int .i64)) (fun x : S163 => (x.f0, x.f1))
theorem k163_open {w : World} {x : S163} {cs : List Value} (h : k163.K w x cs) : cs = [.int .i64 x.f0, .int .i64 x.f1] := by
 obtain ⟨_, _, rfl, rfl, rfl⟩ := h
 exact rfl
theorem k163_openM {w : World} {base : Nat} {ok : Nat → Prop} {x : S163} {cs : List Value} (h : k163.M w base ok x cs) : cs = [.int .i64 x.f0, .int .i64 x.f1] := by
 obtain ⟨_, _, rfl, rfl, rfl⟩ := h
 exact rfl
theorem k163_mk (w : World) (x : S163)  : k163.K w x [.int .i64 x.f0, .int .i64 x.f1] := ⟨[.int .i64 x.f0], [.int .i64 x.f1], rfl, rfl, rfl⟩
theorem k163_mkM (w : World) (base : Nat) (ok : Nat → Prop) (x : S163)  : k163.M w base ok x [.int .i64 x.f0, .int .i64 x.f1] := ⟨[.int .i64 x.f0], [.int .i64 x.f1], rfl, rfl, rfl⟩
def rd_T163 (xs : List S163) (i : Int) : S163 := xs.getD i.toNat z163
theorem at_T163 {w : World} {A : Option Addr} {n : Nat} {xs : List S163} (h : Kd.C k163 w A n xs) (i : Int) (h0 : 0 ≤ i) (h1 : i < n) : ∃ ad , A = some ad ∧ w.cell? (ad.add (i.toNat * 2)) = some (.int .i64 (rd_T163 xs i).f0) ∧ w.cell? ⟨(ad.add (i.toNat * 2)).block, (ad.add (i.toNat * 2)).off + 1, none⟩ = some (.int .i64 (rd_T163 xs i).f1) := by
 obtain ⟨ad, c, e, _, hK, hc0⟩ := Kd.C_get h z163 i h0 h1
 have hc : ∀ j u, c[j]? = some u → w.cell? (ad.add (i.toNat * 2 + j)) = some u := hc0
 obtain rfl := k163_open hK
 exact ⟨ad, e, hc 0 _ rfl, by rw [← add_field _ _ 1 (by omega)]; exact hc 1 _ rfl⟩

def rd_L8 (xs : List (List S163)) (i : Int) : (List S163) := xs.getD i.toNat ([] : List S163)
theorem at_L8 {w : World} {A : Option Addr} {n : Nat} {xs : List (List S163)} (h : Kd.C (Kd.slice 163 k163) w A n xs) (i : Int) (h0 : 0 ≤ i) (h1 : i < n) : ∃ ad A0 c0, A = some ad ∧ w.cell? (ad.add i.toNat) = some (.slice A0 (rd_L8 xs i).length c0) ∧ (rd_L8 xs i).length ≤ c0 ∧ k163.C w A0 (rd_L8 xs i).length (rd_L8 xs i) := by
 obtain ⟨ad, c, e, _, hK, hc0⟩ := Kd.C_get h ([] : List S163) i h0 h1
 have hc : ∀ j u, c[j]? = some u → w.cell? (ad.add (i.toNat * 1 + j)) = some u := hc0
 obtain ⟨A0, c0, rfl, l0, g0⟩ := hK
 exact ⟨ad, A0, c0, e, by have hq := hc 0 _ rfl; rwa [Nat.mul_one, Nat.add_zero] at hq, l0, g0⟩

/-! #### struct type 27 -/
structure S27 where
 f0 : Int
 f1 : Int
 f2 : Int
 f3 : Int
 f4 : Int
def z27 : S27 := ⟨(0 : Int), (0 : Int), (0 : Int), (0 : Int), (0 : Int)⟩
def k27 : Kd S27 := Kd.iso (Kd.pair (Kd.int .u8) (Kd.pair (Kd.int .i64) (Kd.pair (Kd.int .u16) (Kd.pair (Kd.int .u64) (Kd.int .u64))))) (fun x : S27 => (x.f0, x.f1, x.f2, x.f3, x.f4))
theorem k27_open {w : World} {x : S27} {cs : List Value} (h : k27.K w x cs) : cs = [.int .u8 x.f0, .int .i64 x.f1, .int .u16 x.f2, .int .u64 x.f3, .int .u64 x.f4] := by
 obtain ⟨_, _, rfl, rfl, ⟨_, _, rfl, rfl, ⟨_, _, rfl, rfl, ⟨_, _, rfl, rfl, rfl⟩⟩⟩⟩ := h
 exact rfl
theorem k27_openM {w : World} {base : Nat} {ok : Nat → Prop} {x : S27} {cs : List Value} (h : k27.M w base ok x cs) : cs = [.int .u8 x.f0, .int .i64 x.f1, .int .u16 x.f2, .int .u64 x.f3, .int .u64 x.f4] := by
 obtain ⟨_, _, rfl, rfl, ⟨_, _, rfl, rfl, ⟨_, _, rfl, rfl, ⟨_, _, rfl, rfl, rfl⟩⟩⟩⟩ := h
 exact rfl
theorem k27_mk (w : World) (x : S27)  : k27.K w x [.int .u8 x.f0, .int .i64 x.f1, .int .u16 x.f2, .int .u64 x.f3, .int .u64 x.f4] := ⟨[.int .u8 x.f0], [.int .i64 x.f1, .int .u16 x.f2, .int .u64 x.f3, .int .u64 x.f4], rfl, rfl, ⟨[.int .i64 x.f1], [.int .u16 x.f2, .int .u64 x.f3, .int .u64 x.f4], rfl, rfl, ⟨[.int .u16 x.f2], [.int .u64 x.f3, .int .u64 x.f4], rfl, rfl, ⟨[.int .u64 x.f3], [.int .u64 x.f4], rfl, rfl, rfl⟩⟩⟩⟩
theorem k27_mkM (w : World) (base : Nat) (ok : Nat → Prop) (x : S27)  : k27.M w base ok x [.int .u8 x.f0, .int .i64 x.f1, .int .u16 x.f2, .int .u64 x.f3, .int .u64 x.f4] := ⟨[.int .u8 x.f0], [.int .i64 x.f1, .int .u16 x.f2, .int .u64 x.f3, .int .u64 x.f4], rfl, rfl, ⟨[.int .i64 x.f1], [.int .u16 x.f2, .int .u64 x.f3, .int .u64 x.f4], rfl, rfl, ⟨[.int .u16 x.f2], [.int .u64 x.f3, .int .u64 x.f4], rfl, rfl, ⟨[.int .u64 x.f3], [.int .u64 x.f4], rfl, rfl, rfl⟩⟩⟩⟩
def rd_T27 (xs : List S27) (i : Int) : S27 := xs.getD i.toNat z27
theorem at_T27 {w : World} {A : Option Addr} {n : Nat} {xs : List S27} (h : Kd.C k27 w A n xs) (i : Int) (h0 : 0 ≤ i) (h1 : i < n) : ∃ ad , A = some ad ∧ w.cell? (ad.add (i.toNat * 5)) = some (.int .u8 (rd_T27 xs i).f0) ∧ w.cell? ⟨(ad.add (i.toNat * 5)).block, (ad.add (i.toNat * 5)).off + 1, none⟩ = some (.int .i64 (rd_T27 xs i).f1) ∧ w.cell? ⟨(ad.add (i.toNat * 5)).block, (ad.add (i.toNat * 5)).off + 2, none⟩ = some (.int .u16 (rd_T27 xs i).f2) ∧ w.cell? ⟨(ad.add (i.toNat * 5)).block, (ad.add (i.toNat * 5)).off + 3, none⟩ = some (.int .u64 (rd_T27 xs i).f3) ∧ w.cell? ⟨(ad.add (i.toNat * 5)).block, (ad.add (i.toNat * 5)).off + 4, none⟩ = some (.int .u64 (rd_T27 xs i).f4) := by
 obtain ⟨ad, c, e, _, hK, hc0⟩ := Kd.C_get h z27 i h0 h1
 have hc : ∀ j u, c[j]? = some u → w.cell? (ad.add (i.toNat * 5 + j)) = some u := hc0
 obtain rfl := k27_open hK
 exact ⟨ad, e, hc 0 _ rfl, by rw [← add_field _ _ 1 (by omega)]; exact hc 1 _ rfl, by rw [← add_field _ _ 2 (by omega)]; exact hc 2 _ rfl, by rw [← add_field _ _ 3 (by omega)]; exact hc 3 _ rfl, by rw [← add_field _ _ 4 (by omega)]; exact hc 4 _ rfl⟩

def rd_L12 (xs : List (List Int)) (i : Int) : (List Int) := xs.getD i.toNat ([] : List Int)
theorem at_L12 {w : World} {A : Option Addr} {n : Nat} {xs : List (List Int)} (h : Kd.C (Kd.slice 3 (Kd.int .i64)) w A n xs) (i : Int) (h0 : 0 ≤ i) (h1 : i < n) : ∃ ad A0 c0, A = some ad ∧ w.cell? (ad.add i.toNat) = some (.slice A0 (rd_L12 xs i).length c0) ∧ (rd_L12 xs i).length ≤ c0 ∧ (Kd.int .i64).C w A0 (rd_L12 xs i).length (rd_L12 xs i) := by
 obtain ⟨ad, c, e, _, hK, hc0⟩ := Kd.C_get h ([] : List Int) i h0 h1
 have hc : ∀ j u, c[j]? = some u → w.cell? (ad.add (i.toNat * 1 + j)) = some u := hc0
 obtain ⟨A0, c0, rfl, l0, g0⟩ := hK
 exact ⟨ad, A0, c0, e, by have hq := hc 0 _ rfl; rwa [Nat.mul_one, Nat.add_zero] at hq, l0, g0⟩

def rd_L13 (xs : List (List Int)) (i : Int) : (List Int) := xs.getD i.toNat ([] : List Int)
theorem at_L13 {w : World} {A : Option Addr} {n : Nat} {xs : List (List Int)} (h : Kd.C (Kd.slice 25 (Kd.int .u64)) w A n xs) (i : Int) (h0 : 0 ≤ i) (h1 : i < n) : ∃ ad A0 c0, A = some ad ∧ w.cell? (ad.add i.toNat) = some (.slice A0 (rd_L13 xs i).length c0) ∧ (rd_L13 xs i).length ≤ c0 ∧ (Kd.int .u64).C w A0 (rd_L13 xs i).length (rd_L13 xs i) := by
 obtain ⟨ad, c, e, _, hK, hc0⟩ := Kd.C_get h ([] : List Int) i h0 h1
 have hc : ∀ j u, c[j]? = some u → w.cell? (ad.add (i.toNat * 1 + j)) = some u := hc0
 obtain ⟨A0, c0, rfl, l0, g0⟩ := hK
 exact ⟨ad, A0, c0, e, by have hq := hc 0 _ rfl; rwa [Nat.mul_one, Nat.add_zero] at hq, l0, g0⟩

/-! #### struct type 53 -/
structure S53 where
 f0 : (List Int)
 f1 : Int
def z53 : S53 := ⟨([] : List Int), (0 : Int)⟩
def k53 : Kd S53 := Kd.iso (Kd.pair (Kd.slice 25 (Kd.int .u64)) (Kd.int .i64)) (fun x : S53 => (x.f0, x.f1))
theorem k53_open {w : World} {x : S53} {cs : List Value} (h : k53.K w x cs) : ∃ A0 c0, cs = [.slice A0 x.f0.length c0, .int .i64 x.f1] ∧ x.f0.length ≤ c0 ∧ (Kd.int .u64).C w A0 x.f0.length x.f0 := by
 obtain ⟨_, _, rfl, ⟨A0, c0, rfl, l0, g0⟩, rfl⟩ := h
 exact ⟨A0, c0, rfl, l0, g0⟩
theorem k53_openM {w : World} {base : Nat} {ok : Nat → Prop} {x : S53} {cs : List Value} (h : k53.M w base ok x cs) : ∃ v0, cs = [v0, .int .i64 x.f1] ∧ (Kd.int .u64).R 25 w base ok v0 x.f0 := by
 obtain ⟨_, _, rfl, ⟨v0, rfl, g0⟩, rfl⟩ := h
 exact ⟨v0, rfl, g0⟩
theorem k53_mk (w : World) (x : S53) {A0 : Option Addr} {c0 : Nat} (l0 : x.f0.length ≤ c0) (g0 : (Kd.int .u64).C w A0 x.f0.length x.f0) : k53.K w x [.slice A0 x.f0.length c0, .int .i64 x.f1] := ⟨[.slice A0 x.f0.length c0], [.int .i64 x.f1], rfl, ⟨A0, c0, rfl, l0, g0⟩, rfl⟩
theorem k53_mkM (w : World) (base : Nat) (ok : Nat → Prop) (x : S53) {v0 : Value} (g0 : (Kd.int .u64).R 25 w base ok v0 x.f0) : k53.M w base ok x [v0, .int .i64 x.f1] := ⟨[v0], [.int .i64 x.f1], rfl, ⟨v0, rfl, g0⟩, rfl⟩
def rd_T53 (xs : List S53) (i : Int) : S53 := xs.getD i.toNat z53
theorem at_T53 {w : World} {A : Option Addr} {n : Nat} {xs : List S53} (h : Kd.C k53 w A n xs) (i : Int) (h0 : 0 ≤ i) (h1 : i < n) : ∃ ad A0 c0, A = some ad ∧ w.cell? (ad.add (i.toNat * 2)) = some (.slice A0 (rd_T53 xs i).f0.length c0) ∧ w.cell? ⟨(ad.add (i.toNat * 2)).block, (ad.add (i.toNat * 2)).off + 1, none⟩ = some (.int .i64 (rd_T53 xs i).f1) ∧ (rd_T53 xs i).f0.length ≤ c0 ∧ (Kd.int .u64).C w A0 (rd_T53 xs i).f0.length (rd_T53 xs i).f0 := by
 obtain ⟨ad, c, e, _, hK, hc0⟩ := Kd.C_get h z53 i h0 h1
 have hc : ∀ j u, c[j]? = some u → w.cell? (ad.add (i.toNat * 2 + j)) = some u := hc0
 obtain ⟨A0, c0, rfl, l0, g0⟩ := k53_open hK
 exact ⟨ad, A0, c0, e, hc 0 _ rfl, by rw [← add_field _ _ 1 (by omega)]; exact hc 1 _ rfl, l0, g0⟩

/-! #### struct type 58 -/
structure S58 where
 f0 : S23
 f1 : (List Int)
 f2 : (List Int)
 f3 : (List Int)
 f4 : (List S161)
 f5 : (List S163)
def z58 : S58 := ⟨z23, ([] : List Int), ([] : List Int), ([] : List Int), ([] : List S161), ([] : List S163)⟩
def k58 : Kd S58 := Kd.iso (Kd.pair k23 (Kd.pair (Kd.slice 3 (Kd.int .i64)) (Kd.pair (Kd.slice 3 (Kd.int .i64)) (Kd.pair (Kd.slice 3 (Kd.int .i64)) (Kd.pair (Kd.slice 161 k161) (Kd.slice 163 k163)))))) (fun x : S58 => (x.f0, x.f1, x.f2, x.f3, x.f4, x.f5))
theorem k58_open {w : World} {x : S58} {cs : List Value} (h : k58.K w x cs) : ∃ A5 c5 A6 c6 A7 c7 A8 c8 A9 c9, cs = [.int .i64 x.f0.f0, .int .i64 x.f0.f1, .int .i64 x.f0.f2, .int .i64 x.f0.f3, .int .i64 x.f0.f4, .slice A5 x.f1.length c5, .slice A6 x.f2.length c6, .slice A7 x.f3.length c7, .slice A8 x.f4.length c8, .slice A9 x.f5.length c9] ∧ x.f1.length ≤ c5 ∧ (Kd.int .i64).C w A5 x.f1.length x.f1 ∧ x.f2.length ≤ c6 ∧ (Kd.int .i64).C w A6 x.f2.length x.f2 ∧ x.f3.length ≤ c7 ∧ (Kd.int .i64).C w A7 x.f3.length x.f3 ∧ x.f4.length ≤ c8 ∧ k161.C w A8 x.f4.length x.f4 ∧ x.f5.length ≤ c9 ∧ k163.C w A9 x.f5.length x.f5 := by
 obtain ⟨_, _, rfl, s0, ⟨_, _, rfl, ⟨A5, c5, rfl, l5, g5⟩, ⟨_, _, rfl, ⟨A6, c6, rfl, l6, g6⟩, ⟨_, _, rfl, ⟨A7, c7, rfl, l7, g7⟩, ⟨_, _, rfl, ⟨A8, c8, rfl, l8, g8⟩, ⟨A9, c9, rfl, l9, g9⟩⟩⟩⟩⟩⟩ := h
 obtain rfl := k23_open s0
 exact ⟨A5, c5, A6, c6, A7, c7, A8, c8, A9, c9, rfl, l5, g5, l6, g6, l7, g7, l8, g8, l9, g9⟩
theorem k58_openM {w : World} {base : Nat} {ok : Nat → Prop} {x : S58} {cs : List Value} (h : k58.M w base ok x cs) : ∃ v5 v6 v7 v8 v9, cs = [.int .i64 x.f0.f0, .int .i64 x.f0.f1, .int .i64 x.f0.f2, .int .i64 x.f0.f3, .int .i64 x.f0.f4, v5, v6, v7, v8, v9] ∧ (Kd.int .i64).R 3 w base ok v5 x.f1 ∧ (Kd.int .i64).R 3 w base ok v6 x.f2 ∧ (Kd.int .i64).R 3 w base ok v7 x.f3 ∧ k161.R 161 w base ok v8 x.f4 ∧ k163.R 163 w base ok v9 x.f5 := by
 obtain ⟨_, _, rfl, s0, ⟨_, _, rfl, ⟨v5, rfl, g5⟩, ⟨_, _, rfl, ⟨v6, rfl, g6⟩, ⟨_, _, rfl, ⟨v7, rfl, g7⟩, ⟨_, _, rfl, ⟨v8, rfl, g8⟩, ⟨v9, rfl, g9⟩⟩⟩⟩⟩⟩ := h
 obtain rfl := k23_openM s0
 exact ⟨v5, v6, v7, v8, v9, rfl, g5, g6, g7, g8, g9⟩
theorem k58_mk (w : World) (x : S58) {A5 : Option Addr} {c5 : Nat} (l5 : x.f1.length ≤ c5) (g5 : (Kd.int .i64).C w A5 x.f1.length x.f1) {A6 : Option Addr} {c6 : Nat} (l6 : x.f2.length ≤ c6) (g6 : (Kd.int .i64).C w A6 x.f2.length x.f2) {A7 : Option Addr} {c7 : Nat} (l7 : x.f3.length ≤ c7) (g7 : (Kd.int .i64).C w A7 x.f3.length x.f3) {A8 : Option Addr} {c8 : Nat} (l8 : x.f4.length ≤ c8) (g8 : k161.C w A8 x.f4.length x.f4) {A9 : Option Addr} {c9 : Nat} (l9 : x.f5.length ≤ c9) (g9 : k163.C w A9 x.f5.length x.f5) : k58.K w x [.int .i64 x.f0.f0, .int .i64 x.f0.f1, .int .i64 x.f0.f2, .int .i64 x.f0.f3, .int .i64 x.f0.f4, .slice A5 x.f1.length c5, .slice A6 x.f2.length c6, .slice A7 x.f3.length c7, .slice A8 x.f4.length c8, .slice A9 x.f5.length c9] := ⟨[.int .i64 x.f0.f0, .int .i64 x.f0.f1, .int .i64 x.f0.f2, .int .i64 x.f0.f3, .int .i64 x.f0.f4], [.slice A5 x.f1.length c5, .slice A6 x.f2.length c6, .slice A7 x.f3.length c7, .slice A8 x.f4.length c8, .slice A9 x.f5.length c9], rfl, (k23_mk w x.f0 ), ⟨[.slice A5 x.f1.length c5], [.slice A6 x.f2.length c6, .slice A7 x.f3.length c7, .slice A8 x.f4.length c8, .slice A9 x.f5.length c9], rfl, ⟨A5, c5, rfl, l5, g5⟩, ⟨[.slice A6 x.f2.length c6], [.slice A7 x.f3.length c7, .slice A8 x.f4.length c8, .slice A9 x.f5.length c9], rfl, ⟨A6, c6, rfl, l6, g6⟩, ⟨[.slice A7 x.f3.length c7], [.slice A8 x.f4.length c8, .slice A9 x.f5.length c9], rfl, ⟨A7, c7, rfl, l7, g7⟩, ⟨[.slice A8 x.f4.length c8], [.slice A9 x.f5.length c9], rfl, ⟨A8, c8, rfl, l8, g8⟩, ⟨A9, c9, rfl, l9, g9⟩⟩⟩⟩⟩⟩
theorem k58_mkM (w : World) (base : Nat) (ok : Nat → Prop) (x : S58) {v5 : Value} (g5 : (Kd.int .i64).R 3 w base ok v5 x.f1) {v6 : Value} (g6 : (Kd.int .i64).R 3 w base ok v6 x.f2) {v7 : Value} (g7 : (Kd.int .i64).R 3 w base ok v7 x.f3) {v8 : Value} (g8 : k161.R 161 w base ok v8 x.f4) {v9 : Value} (g9 : k163.R 163 w base ok v9 x.f5) : k58.M w base ok x [.int .i64 x.f0.f0, .int .i64 x.f0.f1, .int .i64 x.f0.f2, .int .i64 x.f0.f3, .int .i64 x.f0.f4, v5, v6, v7, v8, v9] := ⟨[.int .i64 x.f0.f0, .int .i64 x.f0.f1, .int .i64 x.f0.f2, .int .i64 x.f0.f3, .int .i64 x.f0.f4], [v5, v6, v7, v8, v9], rfl, (k23_mkM w base ok x.f0 ), ⟨[v5], [v6, v7, v8, v9], rfl, ⟨v5, rfl, g5⟩, ⟨[v6], [v7, v8, v9], rfl, ⟨v6, rfl, g6⟩, ⟨[v7], [v8, v9], rfl, ⟨v7, rfl, g7⟩, ⟨[v8], [v9], rfl, ⟨v8, rfl, g8⟩, ⟨v9, rfl, g9⟩⟩⟩⟩⟩⟩
def rd_T58 (xs : List S58) (i : Int) : S58 := xs.getD i.toNat z58
theorem at_T58 {w : World} {A : Option Addr} {n : Nat} {xs : List S58} (h : Kd.C k58 w A n xs) (i : Int) (h0 : 0 ≤ i) (h1 : i < n) : ∃ ad A5 c5 A6 c6 A7 c7 A8 c8 A9 c9, A = some ad ∧ w.cell? (ad.add (i.toNat * 10)) = some (.int .i64 (rd_T58 xs i).f0.f0) ∧ w.cell? ⟨(ad.add (i.toNat * 10)).block, (ad.add (i.toNat * 10)).off + 1, none⟩ = some (.int .i64 (rd_T58 xs i).f0.f1) ∧ w.cell? ⟨(ad.add (i.toNat * 10)).block, (ad.add (i.toNat * 10)).off + 2, none⟩ = some (.int .i64 (rd_T58 xs i).f0.f2) ∧ w.cell? ⟨(ad.add (i.toNat * 10)).block, (ad.add (i.toNat * 10)).off + 3, none⟩ = some (.int .i64 (rd_T58 xs i).f0.f3) ∧ w.cell? ⟨(ad.add (i.toNat * 10)).block, (ad.add (i.toNat * 10)).off + 4, none⟩ = some (.int .i64 (rd_T58 xs i).f0.f4) ∧ w.cell? ⟨(ad.add (i.toNat * 10)).block, (ad.add (i.toNat * 10)).off + 5, none⟩ = some (.slice A5 (rd_T58 xs i).f1.length c5) ∧ w.cell? ⟨(ad.add (i.toNat * 10)).block, (ad.add (i.toNat * 10)).off + 6, none⟩ = some (.slice A6 (rd_T58 xs i).f2.length c6) ∧ w.cell? ⟨(ad.add (i.toNat * 10)).block, (ad.add (i.toNat * 10)).off + 7, none⟩ = some (.slice A7 (rd_T58 xs i).f3.length c7) ∧ w.cell? ⟨(ad.add (i.toNat * 10)).block, (ad.add (i.toNat * 10)).off + 8, none⟩ = some (.slice A8 (rd_T58 xs i).f4.length c8) ∧ w.cell? ⟨(ad.add (i.toNat * 10)).block, (ad.add (i.toNat * 10)).off + 9, none⟩ = some (.slice A9 (rd_T58 xs i).f5.length c9) ∧ (rd_T58 xs i).f1.length ≤ c5 ∧ (Kd.int .i64).C w A5 (rd_T58 xs i).f1.length (rd_T58 xs i).f1 ∧ (rd_T58 xs i).f2.length ≤ c6 ∧ (Kd.int .i64).C w A6 (rd_T58 xs i).f2.length (rd_T58 xs i).f2 ∧ (rd_T58 xs i).f3.length ≤ c7 ∧ (Kd.int .i64).C w A7 (rd_T58 xs i).f3.length (rd_T58 xs i).f3 ∧ (rd_T58 xs i).f4.length ≤ c8 ∧ k161.C w A8 (rd_T58 xs i).f4.length (rd_T58 xs i).f4 ∧ (rd_T58 xs i).f5.length ≤ c9 ∧ k163.C w A9 (rd_T58 xs i).f5.length (rd_T58 xs i).f5 := by
 obtain ⟨ad, c, e, _, hK, hc0⟩ := Kd.C_get h z58 i h0 h1
 have hc : ∀ j u, c[j]? = some u → w.cell? (ad.add (i.toNat * 10 + j)) = some u := hc0
 obtain ⟨A5, c5, A6, c6, A7, c7, A8, c8, A9, c9, rfl, l5, g5, l6, g6, l7, g7, l8, g8, l9, g9⟩ := k58_open hK
 exact ⟨ad, A5, c5, A6, c6, A7, c7, A8, c8, A9, c9, e, hc 0 _ rfl, by rw [← add_field _ _ 1 (by omega)]; exact hc 1 _ rfl, by rw [← add_field _ _ 2 (by omega)]; exact hc 2 _ rfl, by rw [← add_field _ _ 3 (by omega)]; exact hc 3 _ rfl, by rw [← add_field _ _ 4 (by omega)]; exact hc 4 _ rfl, by rw [← add_field _ _ 5 (by omega)]; exact hc 5 _ rfl, by rw [← add_field _ _ 6 (by omega)]; exact hc 6 _ rfl, by rw [← add_field _ _ 7 (by omega)]; exact hc 7 _ rfl, by rw [← add_field _ _ 8 (by omega)]; exact hc 8 _ rfl, by rw [← add_field _ _ 9 (by omega)]; exact hc 9 _ rfl, l5, g5, l6, g6, l7, g7, l8, g8, l9, g9⟩

/-! #### struct type 60 -/
structure S60 where
 f0 : S23
 f1 : S53
 f2 : S58
def z60 : S60 := ⟨z23, z53, z58⟩
def k60 : Kd S60 := Kd.iso (Kd.pair k23 (Kd.pair k53 k58)) (fun x : S60 => (x.f0, x.f1, x.f2))
theorem k60_open {w : World} {x : S60} {cs : List Value} (h : k60.K w x cs) : ∃ A5 c5 A12 c12 A13 c13 A14 c14 A15 c15 A16 c16, cs = [.int .i64 x.f0.f0, .int .i64 x.f0.f1, .int .i64 x.f0.f2, .int .i64 x.f0.f3, .int .i64 x.f0.f4, .slice A5 x.f1.f0.length c5, .int .i64 x.f1.f1, .int .i64 x.f2.f0.f0, .int .i64 x.f2.f0.f1, .int .i64 x.f2.f0.f2, .int .i64 x.f2.f0.f3, .int .i64 x.f2.f0.f4, .slice A12 x.f2.f1.length c12, .slice A13 x.f2.f2.length c13, .slice A14 x.f2.f3.length c14, .slice A15 x.f2.f4.length c15, .slice A16 x.f2.f5.length c16] ∧ x.f1.f0.length ≤ c5 ∧ (Kd.int .u64).C w A5 x.f1.f0.length x.f1.f0 ∧ x.f2.f1.length ≤ c12 ∧ (Kd.int .i64).C w A12 x.f2.f1.length x.f2.f1 ∧ x.f2.f2.length ≤ c13 ∧ (Kd.int .i64).C w A13 x.f2.f2.length x.f2.f2 ∧ x.f2.f3.length ≤ c14 ∧ (Kd.int .i64).C w A14 x.f2.f3.length x.f2.f3 ∧ x.f2.f4.length ≤ c15 ∧ k161.C w A15 x.f2.f4.length x.f2.f4 ∧ x.f2.f5.length ≤ c16 ∧ k163.C w A16 x.f2.f5.length x.f2.f5 := by
 obtain ⟨_, _, rfl, s0, ⟨_, _, rfl, s5, s7⟩⟩ := h
 obtain rfl := k23_open s0
 obtain ⟨A5, c5, rfl, l5, g5⟩ := k53_open s5
 obtain ⟨A12, c12, A13, c13, A14, c14, A15, c15, A16, c16, rfl, l12, g12, l13, g13, l14, g14, l15, g15, l16, g16⟩ := k58_open s7
 exact ⟨A5, c5, A12, c12, A13, c13, A14, c14, A15, c15, A16, c16, rfl, l5, g5, l12, g12, l13, g13, l14, g14, l15, g15, l16, g16⟩
theorem k60_openM {w : World} {base : Nat} {ok : Nat → Prop} {x : S60} {cs : List Value} (h : k60.M w base ok x cs) : ∃ v5 v12 v13 v14 v15 v16, cs = [.int .i64 x.f0.f0, .int .i64 x.f0.f1, .int .i64 x.f0.f2, .int .i64 x.f0.f3, .int .i64 x.f0.f4, v5, .int .i64 x.f1.f1, .int .i64 x.f2.f0.f0, .int .i64 x.f2.f0.f1, .int .i64 x.f2.f0.f2, .int .i64 x.f2.f0.f3, .int .i64 x.f2.f0.f4, v12, v13, v14, v15, v16] ∧ (Kd.int .u64).R 25 w base ok v5 x.f1.f0 ∧ (Kd.int .i64).R 3 w base ok v12 x.f2.f1 ∧ (Kd.int .i64).R 3 w base ok v13 x.f2.f2 ∧ (Kd.int .i64).R 3 w base ok v14 x.f2.f3 ∧ k161.R 161 w base ok v15 x.f2.f4 ∧ k163.R 163 w base ok v16 x.f2.f5 := by
 obtain ⟨_, _, rfl, s0, ⟨_, _, rfl, s5, s7⟩⟩ := h
 obtain rfl := k23_openM s0
 obtain ⟨v5, rfl, g5⟩ := k53_openM s5
 obtain ⟨v12, v13, v14, v15, v16, rfl, g12, g13, g14, g15, g16⟩ := k58_openM s7
 exact ⟨v5, v12, v13, v14, v15, v16, rfl, g5, g12, g13, g14, g15, g16⟩
theorem k60_mk (w : World) (x : S60) {A5 : Option Addr} {c5 : Nat} (l5 : x.f1.f0.length ≤ c5) (g5 : (Kd.int .u64).C w A5 x.f1.f0.length x.f1.f0) {A12 : Option Addr} {c12 : Nat} (l12 : x.f2.f1.length ≤ c12) (g12 : (Kd.int .i64).C w A12 x.f2.f1.length x.f2.f1) {A13 : Option Addr} {c13 : Nat} (l13 : x.f2.f2.length ≤ c13) (g13 : (Kd.int .i64).C w A13 x.f2.f2.length x.f2.f2) {A14 : Option Addr} {c14 : Nat} (l14 : x.f2.f3.length ≤ c14) (g14 : (Kd.int .i64).C w A14 x.f2.f3.length x.f2.f3) {A15 : Option Addr} {c15 : Nat} (l15 : x.f2.f4.length ≤ c15) (g15 : k161.C w A15 x.f2.f4.length x.f2.f4) {A16 : Option Addr} {c16 : Nat} (l16 : x.f2.f5.length ≤ c16) (g16 : k163.C w A16 x.f2.f5.length x.f2.f5) : k60.K w x [.int .i64 x.f0.f0, .int .i64 x.f0.f1, .int .i64 x.f0.f2, .int .i64 x.f0.f3, .int .i64 x.f0.f4, .slice A5 x.f1.f0.length c5, .int .i64 x.f1.f1, .int .i64 x.f2.f0.f0, .int .i64 x.f2.f0.f1, .int .i64 x.f2.f0.f2, .int .i64 x.f2.f0.f3, .int .i64 x.f2.f0.f4, .slice A12 x.f2.f1.length c12, .slice A13 x.f2.f2.length c13, .slice A14 x.f2.f3.length c14, .slice A15 x.f2.f4.length c15, .slice A16 x.f2.f5.length c16] := ⟨[.int .i64 x.f0.f0, .int .i64 x.f0.f1, .int .i64 x.f0.f2, .int .i64 x.f0.f3, .int .i64 x.f0.f4], [.slice A5 x.f1.f0.length c5, .int .i64 x.f1.f1, .int .i64 x.f2.f0.f0, .int .i64 x.f2.f0.f1, .int .i64 x.f2.f0.f2, .int .i64 x.f2.f0.f3, .int .i64 x.f2.f0.f4, .slice A12 x.f2.f1.length c12, .slice A13 x.f2.f2.length c13, .slice A14 x.f2.f3.length c14, .slice A15 x.f2.f4.length c15, .slice A16 x.f2.f5.length c16], rfl, (k23_mk w x.f0 ), ⟨[.slice A5 x.f1.f0.length c5, .int .i64 x.f1.f1], [.int .i64 x.f2.f0.f0, .int .i64 x.f2.f0.f1, .int .i64 x.f2.f0.f2, .int .i64 x.f2.f0.f3, .int .i64 x.f2.f0.f4, .slice A12 x.f2.f1.length c12, .slice A13 x.f2.f2.length c13, .slice A14 x.f2.f3.length c14, .slice A15 x.f2.f4.length c15, .slice A16 x.f2.f5.length c16], rfl, (k53_mk w x.f1 l5 g5), (k58_mk w x.f2 l12 g12 l13 g13 l14 g14 l15 g15 l16 g16)⟩⟩
theorem k60_mkM (w : World) (base : Nat) (ok : Nat → Prop) (x : S60) {v5 : Value} (g5 : (Kd.int .u64).R 25 w base ok v5 x.f1.f0) {v12 : Value} (g12 : (Kd.int .i64).R 3 w base ok v12 x.f2.f1) {v13 : Value} (g13 : (Kd.int .i64).R 3 w base ok v13 x.f2.f2) {v14 : Value} (g14 : (Kd.int .i64).R 3 w base ok v14 x.f2.f3) {v15 : Value} (g15 : k161.R 161 w base ok v15 x.f2.f4) {v16 : Value} (g16 : k163.R 163 w base ok v16 x.f2.f5) : k60.M w base ok x [.int .i64 x.f0.f0, .int .i64 x.f0.f1, .int .i64 x.f0.f2, .int .i64 x.f0.f3, .int .i64 x.f0.f4, v5, .int .i64 x.f1.f1, .int .i64 x.f2.f0.f0, .int .i64 x.f2.f0.f1, .int .i64 x.f2.f0.f2, .int .i64 x.f2.f0.f3, .int .i64 x.f2.f0.f4, v12, v13, v14, v15, v16] := ⟨[.int .i64 x.f0.f0, .int .i64 x.f0.f1, .int .i64 x.f0.f2, .int .i64 x.f0.f3, .int .i64 x.f0.f4], [v5, .int .i64 x.f1.f1, .int .i64 x.f2.f0.f0, .int .i64 x.f2.f0.f1, .int .i64 x.f2.f0.f2, .int .i64 x.f2.f0.f3, .int .i64 x.f2.f0.f4, v12, v13, v14, v15, v16], rfl, (k23_mkM w base ok x.f0 ), ⟨[v5, .int .i64 x.f1.f1], [.int .i64 x.f2.f0.f0, .int .i64 x.f2.f0.f1, .int .i64 x.f2.f0.f2, .int .i64 x.f2.f0.f3, .int .i64 x.f2.f0.f4, v12, v13, v14, v15, v16], rfl, (k53_mkM w base ok x.f1 g5), (k58_mkM w base ok x.f2 g12 g13 g14 g15 g16)⟩⟩
def rd_T60 (xs : List S60) (i : Int) : S60 := xs.getD i.toNat z60
theorem at_T60 {w : World} {A : Option Addr} {n : Nat} {xs : List S60} (h : Kd.C k60 w A n xs) (i : Int) (h0 : 0 ≤ i) (h1 : i < n) : ∃ ad A5 c5 A12 c12 A13 c13 A14 c14 A15 c15 A16 c16, A = some ad ∧ w.cell? (ad.add (i.toNat * 17)) = some (.int .i64 (rd_T60 xs i).f0.f0) ∧ w.cell? ⟨(ad.add (i.toNat * 17)).block, (ad.add (i.toNat * 17)).off + 1, none⟩ = some (.int .i64 (rd_T60 xs i).f0.f1) ∧ w.cell? ⟨(ad.add (i.toNat * 17)).block, (ad.add (i.toNat * 17)).off + 2, none⟩ = some (.int .i64 (rd_T60 xs i).f0.f2) ∧ w.cell? ⟨(ad.add (i.toNat * 17)).block, (ad.add (i.toNat * 17)).off + 3, none⟩ = some (.int .i64 (rd_T60 xs i).f0.f3) ∧ w.cell? ⟨(ad.add (i.toNat * 17)).block, (ad.add (i.toNat * 17)).off + 4, none⟩ = some (.int .i64 (rd_T60 xs i).f0.f4) ∧ w.cell? ⟨(ad.add (i.toNat * 17)).block, (ad.add (i.toNat * 17)).off + 5, none⟩ = some (.slice A5 (rd_T60 xs i).f1.f0.length c5) ∧ w.cell? ⟨(ad.add (i.toNat * 17)).block, (ad.add (i.toNat * 17)).off + 6, none⟩ = some (.int .i64 (rd_T60 xs i).f1.f1) ∧ w.cell? ⟨(ad.add (i.toNat * 17)).block, (ad.add (i.toNat * 17)).off + 7, none⟩ = some (.int .i64 (rd_T60 xs i).f2.f0.f0) ∧ w.cell? ⟨(ad.add (i.toNat * 17)).block, (ad.add (i.toNat * 17)).off + 8, none⟩ = some (.int .i64 (rd_T60 xs i).f2.f0.f1) ∧ w.cell? ⟨(ad.add (i.toNat * 17)).block, (ad.add (i.toNat * 17)).off + 9, none⟩ = some (.int .i64 (rd_T60 xs i).f2.f0.f2) ∧ w.cell? ⟨(ad.add (i.toNat * 17)).block, (ad.add (i.toNat * 17)).off + 10, none⟩ = some (.int .i64 (rd_T60 xs i).f2.f0.f3) ∧ w.cell? ⟨(ad.add (i.toNat * 17)).block, (ad.add (i.toNat * 17)).off + 11, none⟩ = some (.int .i64 (rd_T60 xs i).f2.f0.f4) ∧ w.cell? ⟨(ad.add (i.toNat * 17)).block, (ad.add (i.toNat * 17)).off + 12, none⟩ = some (.slice A12 (rd_T60 xs i).f2.f1.length c12) ∧ w.cell? ⟨(ad.add (i.toNat * 17)).block, (ad.add (i.toNat * 17)).off + 13, none⟩ = some (.slice A13 (rd_T60 xs i).f2.f2.length c13) ∧ w.cell? ⟨(ad.add (i.toNat * 17)).block, (ad.add (i.toNat * 17)).off + 14, none⟩ = some (.slice A14 (rd_T60 xs i).f2.f3.length c14) ∧ w.cell? ⟨(ad.add (i.toNat * 17)).block, (ad.add (i.toNat * 17)).off + 15, none⟩ = some (.slice A15 (rd_T60 xs i).f2.f4.length c15) ∧ w.cell? ⟨(ad.add (i.toNat * 17)).block, (ad.add (i.toNat * 17)).off + 16, none⟩ = some (.slice A16 (rd_T60 xs i).f2.f5.length c16) ∧ (rd_T60 xs i).f1.f0.length ≤ c5 ∧ (Kd.int .u64).C w A5 (rd_T60 xs i).f1.f0.length (rd_T60 xs i).f1.f0 ∧ (rd_T60 xs i).f2.f1.length ≤ c12 ∧ (Kd.int .i64).C w A12 (rd_T60 xs i).f2.f1.length (rd_T60 xs i).f2.f1 ∧ (rd_T60 xs i).f2.f2.length ≤ c13 ∧ (Kd.int .i64).C w A13 (rd_T60 xs i).f2.f2.length (rd_T60 xs i).f2.f2 ∧ (rd_T60 xs i).f2.f3.length ≤ c14 ∧ (Kd.int .i64).C w A14 (rd_T60 xs i).f2.f3.length (rd_T60 xs i).f2.f3 ∧ (rd_T60 xs i).f2.f4.length ≤ c15 ∧ k161.C w A15 (rd_T60 xs i).f2.f4.length (rd_T60 xs i).f2.f4 ∧ (rd_T60 xs i).f2.f5.length ≤ c16 ∧ k163.C w A16 (rd_T60 xs i).f2.f5.length (rd_T60 xs i).f2.f5 := by
 obtain ⟨ad, c, e, _, hK, hc0⟩ := Kd.C_get h z60 i h0 h1
 have hc : ∀ j u, c[j]? = some u → w.cell? (ad.add (i.toNat * 17 + j)) = some u := hc0
 obtain ⟨A5, c5, A12, c12, A13, c13, A14, c14, A15, c15, A16, c16, rfl, l5, g5, l12, g12, l13, g13, l14, g14, l15, g15, l16, g16⟩ := k60_open hK
 exact ⟨ad, A5, c5, A12, c12, A13, c13, A14, c14, A15, c15, A16, c16, e, hc 0 _ rfl, by rw [← add_field _ _ 1 (by omega)]; exact hc 1 _ rfl, by rw [← add_field _ _ 2 (by omega)]; exact hc 2 _ rfl, by rw [← add_field _ _ 3 (by omega)]; exact hc 3 _ rfl, by rw [← add_field _ _ 4 (by omega)]; exact hc 4 _ rfl, by rw [← add_field _ _ 5 (by omega)]; exact hc 5 _ rfl, by rw [← add_field _ _ 6 (by omega)]; exact hc 6 _ rfl, by rw [← add_field _ _ 7 (by omega)]; exact hc 7 _ rfl, by rw [← add_field _ _ 8 (by omega)]; exact hc 8 _ rfl, by rw [← add_field _ _ 9 (by omega)]; exact hc 9 _ rfl, by rw [← add_field _ _ 10 (by omega)]; exact hc 10 _ rfl, by rw [← add_field _ _ 11 (by omega)]; exact hc 11 _ rfl, by rw [← add_field _ _ 12 (by omega)]; exact hc 12 _ rfl, by rw [← add_field _ _ 13 (by omega)]; exact hc 13 _ rfl, by rw [← add_field _ _ 14 (by omega)]; exact hc 14 _ rfl, by rw [← add_field _ _ 15 (by omega)]; exact hc 15 _ rfl, by rw [← add_field _ _ 16 (by omega)]; exact hc 16 _ rfl, l5, g5, l12, g12, l13, g13, l14, g14, l15, g15, l16, g16⟩

def rd_L17 (xs : List (List S27)) (i : Int) : (List S27) := xs.getD i.toNat ([] : List S27)
theorem at_L17 {w : World} {A : Option Addr} {n : Nat} {xs : List (List S27)} (h : Kd.C (Kd.slice 27 k27) w A n xs) (i : Int) (h0 : 0 ≤ i) (h1 : i < n) : ∃ ad A0 c0, A = some ad ∧ w.cell? (ad.add i.toNat) = some (.slice A0 (rd_L17 xs i).length c0) ∧ (rd_L17 xs i).length ≤ c0 ∧ k27.C w A0 (rd_L17 xs i).length (rd_L17 xs i) := by
 obtain ⟨ad, c, e, _, hK, hc0⟩ := Kd.C_get h ([] : List S27) i h0 h1
 have hc : ∀ j u, c[j]? = some u → w.cell? (ad.add (i.toNat * 1 + j)) = some u := hc0
 obtain ⟨A0, c0, rfl, l0, g0⟩ := hK
 exact ⟨ad, A0, c0, e, by have hq := hc 0 _ rfl; rwa [Nat.mul_one, Nat.add_zero] at hq, l0, g0⟩

section
variable {P : Program} {ops : Array Oper} {rest : List Oper} {o : Oper} {a : Act} {Q : Exit → Act → World → Prop} {W : World}
theorem gate_callee {f : FuncId} {xs_ : Array Operand} {ts : Array TypeId} (_ho : o.op = .call { callee := .value (.func f), args := xs_, argTypes := ts }) (h : wpList P ops Q (o :: rest) a W) : wpList P ops Q (o :: rest) a W := h
theorem gate_builtin {b : Builtin} {xs : Array Operand} {ts : Array TypeId} (_ho : o.op = .call { callee := .builtin b, args := xs, argTypes := ts }) (h : wpList P ops Q (o :: rest) a W) : wpList P ops Q (o :: rest) a W := h
end
theorem calls_of_args {P : Program} {f : FuncId} {args args' : Array Value} {w : World} {Q : Ending → World → Prop} (h : args = args') (hc : Calls P f args' w Q) : Calls P f args w Q := h ▸ hc
def mx (a b : Int) : Int := if a < b then b else a
def mn (a b : Int) : Int := if b < a then b else a
def shl (k : IntKind) (x y : Int) : Int := k.wrap (x * 2 ^ min y.toNat k.bits)
def shr (k : IntKind) (x y : Int) : Int := x / 2 ^ min y.toNat k.bits
theorem shl_small {k : IntKind} {x y j : Int} (h : shl k x y = j) (hy : y ≤ k.bits) : k.wrap (x * 2 ^ y.toNat) = j := by rw [← h]; unfold shl; rw [Nat.min_eq_left (by omega)]
theorem shr_small {k : IntKind} {x y j : Int} (h : shr k x y = j) (hy : y ≤ k.bits) : x / 2 ^ y.toNat = j := by rw [← h]; unfold shr; rw [Nat.min_eq_left (by omega)]
theorem drewN_self (w : World) (n : Nat) : w.drewN n = w.drewN n := rfl
theorem cell_unalloc {W : World} {o : Obj} {a : Addr} {v : Value} (h : (W.alloc o).cell? a = some v) (hlt : a.block < W.heap.size) : W.cell? a = some v := (World.cell?_alloc_lt _ _ _ hlt).symm.trans h
theorem cell_grown {W w1 : World} {row : Option Nat} (hg : W.grownBy w1 row) {a : Addr} {v : Value} (h : W.cell? a = some v) (hne : some a.block ≠ row) : w1.cell? a = some v := by
  have := hg.block a.block (World.block_lt_of_cell? W a h) hne
  simpa [World.cell?, this] using h
namespace Kd
theorem R_newM {α : Type} {d : Kd α} {e : Nat} {ok : Nat → Prop} {w W w1 : World} {v : Value} {xs : List α} {M : Nat → Prop} (h : d.R e w1 W.heap.size ok v xs) (hle : w.heap.size ≤ W.heap.size) (hM : ∀ k, w.heap.size ≤ k → M k) : d.R e w1 W.heap.size (fun k => M k ∧ ok k) v xs :=
  Kd.R_mono (Kd.R_bound h) (fun k hk => ⟨hM k (Nat.le_trans hle hk.2.1), hk.1⟩)
end Kd
end Go.Proofs.Ytpcmoclohepdiag.PWorldActs
