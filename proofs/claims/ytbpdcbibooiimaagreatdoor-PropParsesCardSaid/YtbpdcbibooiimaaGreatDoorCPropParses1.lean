/- Part 1 of 4 of the proof of PropParses: prop.Parse of any file and of any values tells the document's table, or the first error and its line, and the file stays as it is: for every input For every input; no condition. -/
import Derived.Test.YtbpdcbibooiimaaGreatDoorProg
import Derived.Below
import Derived.Deep.Draws
import Derived.Deep.AppendLies
import Derived.Maps.AppendAt
import Derived.OwnWalk
import Derived.Laws.BytesArg
import Derived.Laws.MakeOwn
import Derived.Laws.OwnMore
import Derived.Deep.OwnRows
import Derived.Tactics
import Derived.Lib.ConvBytes
import Derived.Laws.Slices
import Derived.WalkKit
import Derived.KernelRfl
import Derived.RowKit3
import Derived.Deep.LoopGhost
import Derived.Deep.QuietTactic
import Derived.BigQuiet
import Derived.WideLaws
import Derived.Deep.DeepCutAuto
import Derived.Deep.CutBlock
import Derived.Deep.RegionHeld3
import Derived.Laws.Rows
import Derived.Lib.AppendStr
import Derived.ArgAppend
import Derived.Laws.IdiomCopy
import Derived.OrdersHeld
import Derived.Laws.BitsLemmas
import Derived.RowKit
import Derived.Test.YtbpdcbibooiimaaGreatDoorWWords
import Derived.Test.YtbpdcbibooiimaaGreatDoorWLast
import Derived.Test.YtbpdcbibooiimaaGreatDoorWTab
import Derived.Test.YtbpdcbibooiimaaGreatDoorWQPut
import Derived.Test.YtbpdcbibooiimaaGreatDoorWApart
import Derived.Test.YtbpdcbibooiimaaGreatDoorWArr
import Derived.Test.YtbpdcbibooiimaaGreatDoorWZeros
import Derived.Test.YtbpdcbibooiimaaGreatDoorWFoot
import Derived.Test.YtbpdcbibooiimaaGreatDoorWKept
import Derived.Test.YtbpdcbibooiimaaGreatDoorWShare
import Derived.Test.YtbpdcbibooiimaaGreatDoorWN
import Derived.Test.YtbpdcbibooiimaaGreatDoorWRepsOne
import Derived.Test.YtbpdcbibooiimaaGreatDoorWGuard
import Derived.Test.YtbpdcbibooiimaaGreatDoorWNEv
import Derived.Test.YtbpdcbibooiimaaGreatDoorWMore
import Derived.Ground.NamesProg
import Derived.Shelf.Lay
import Derived.Shelf.Strings.SlTrimAscii
import Derived.Shelf.Strings.Cut
import Derived.Shelf.Strings.Split
import Derived.Shelf.Strings.Prefix
import Derived.Shelf.Strings.Repeat
import Derived.Shelf.Strings.OnBuilder
import Derived.Lib.Bytes
import Derived.IntWalk
import Derived.WalkSmall
import Derived.Lib.Split
import Derived.Lib.CountLaws
import Derived.Lib.SlTrimSet
import Derived.Lib.Case
import Derived.Lib.Repeat
import Derived.Lib.IndexMore
import Derived.Test.YtbpdcbibooiimaaGreatDoorRows
import Derived.Shelf.Vars
import Derived.Handed
import Derived.LaidSub
import Derived.ProofKit
import Derived.OpenShut
import Derived.ShutString
import Derived.LaidMore
import Derived.ChangeOld
import Derived.DataElems
import Derived.Deep.Strs
import Derived.Lib.Strings
import Derived.Lib.Slices
import Derived.Lib.Walk
import Derived.Lib.Bytealg
import Derived.Laws.Bits64b
set_option linter.unusedVariables false
set_option linter.unusedSimpArgs false

namespace Go.Proofs.YtbpdcbibooiimaaGreatDoor.Q
open Go.RowKit Go.Proofs.YtbpdcbibooiimaaGreatDoorW.PrintWords Go.Proofs.YtbpdcbibooiimaaGreatDoorW.PrintLast Go.Proofs.YtbpdcbibooiimaaGreatDoorW.PrintMore
attribute [local go_sem] max2_int min2_int max_two min_two max_three min_three max_four min_four   -- for this text's walks alone
def errW : Option Int → Value
  | none => .nilIface
  | some c => .iface 241 (.int .i64 c)
theorem errW_none : errW none = .nilIface := rfl
theorem errW_some (c : Int) : errW (some c) = .iface 241 (.int .i64 c) := rfl
theorem info3 : (Tryz.prog.info? 3).map (fun i => (i.zero, i.size, i.bytes)) = some (some (.int .i64 0), 1, 8) := by kernel_rfl
theorem info5 : (Tryz.prog.info? 5).map (fun i => (i.zero, i.size, i.bytes)) = some (some (.int .u8 0), 1, 1) := by kernel_rfl
theorem info9 : (Tryz.prog.info? 9).map (fun i => (i.zero, i.size, i.bytes)) = some (some (.string ⟨#[]⟩), 1, 16) := by kernel_rfl
theorem info56 : (Tryz.prog.info? 56).map (fun i => (i.zero, i.size, i.bytes)) = some (some (.agg #[(.int .i64 0), (.slice none 0 0)]), 2, 32) := by kernel_rfl
theorem info90 : (Tryz.prog.info? 90).map (fun i => (i.zero, i.size, i.bytes)) = some (some (.agg #[(.int .i64 0), (.slice none 0 0)]), 2, 32) := by kernel_rfl
theorem info93 : (Tryz.prog.info? 93).map (fun i => (i.zero, i.size, i.bytes)) = some (some (.agg #[(.int .i64 0), (.int .i64 0), (.string ⟨#[]⟩)]), 3, 32) := by kernel_rfl
/-! #### struct type 83 -/
structure S83 where
  f0 : Int
  f1 : Int
  f2 : ByteArray
def z83 : S83 := ⟨(0 : Int), (0 : Int), (⟨#[]⟩ : ByteArray)⟩
def k83 : Kd S83 := Kd.iso (Kd.pair (Kd.int .i64) (Kd.pair (Kd.int .i64) Kd.string)) (fun x : S83 => (x.f0, x.f1, x.f2))
theorem k83_open {w : World} {x : S83} {cs : List Value} (h : k83.K w x cs) : cs = [.int .i64 x.f0, .int .i64 x.f1, .string x.f2] := by
  obtain ⟨_, _, rfl, rfl, ⟨_, _, rfl, rfl, rfl⟩⟩ := h
  exact rfl
theorem k83_openM {w : World} {base : Nat} {ok : Nat → Prop} {x : S83} {cs : List Value} (h : k83.M w base ok x cs) : cs = [.int .i64 x.f0, .int .i64 x.f1, .string x.f2] := by
  obtain ⟨_, _, rfl, rfl, ⟨_, _, rfl, rfl, rfl⟩⟩ := h
  exact rfl
theorem k83_mk (w : World) (x : S83)  : k83.K w x [.int .i64 x.f0, .int .i64 x.f1, .string x.f2] := ⟨[.int .i64 x.f0], [.int .i64 x.f1, .string x.f2], rfl, rfl, ⟨[.int .i64 x.f1], [.string x.f2], rfl, rfl, rfl⟩⟩
theorem k83_mkM (w : World) (base : Nat) (ok : Nat → Prop) (x : S83)  : k83.M w base ok x [.int .i64 x.f0, .int .i64 x.f1, .string x.f2] := ⟨[.int .i64 x.f0], [.int .i64 x.f1, .string x.f2], rfl, rfl, ⟨[.int .i64 x.f1], [.string x.f2], rfl, rfl, rfl⟩⟩
theorem k83_mkF (W : World) (ok : Nat → Prop) (x : S83) : Kd.FK k83 W ok x [.int .i64 x.f0, .int .i64 x.f1, .string x.f2] := fun W2 _ => k83_mk W2 x
def rd_T83 (xs : List S83) (i : Int) : S83 := xs.getD i.toNat z83
theorem at_T83 {w : World} {A : Option Addr} {n : Nat} {xs : List S83} (h : Kd.C k83 w A n xs) (i : Int) (h0 : 0 ≤ i) (h1 : i < n) : ∃ ad , A = some ad ∧ w.cell? (ad.add (i.toNat * 3)) = some (.int .i64 (rd_T83 xs i).f0) ∧ w.cell? ⟨(ad.add (i.toNat * 3)).block, (ad.add (i.toNat * 3)).off + 1, none⟩ = some (.int .i64 (rd_T83 xs i).f1) ∧ w.cell? ⟨(ad.add (i.toNat * 3)).block, (ad.add (i.toNat * 3)).off + 2, none⟩ = some (.string (rd_T83 xs i).f2) := by
  obtain ⟨ad, c, e, _, hK, hc0⟩ := Kd.C_get h z83 i h0 h1
  have hc : ∀ j u, c[j]? = some u → w.cell? (ad.add (i.toNat * 3 + j)) = some u := hc0
  obtain rfl := k83_open hK
  exact ⟨ad, e, hc 0 _ rfl, by rw [← add_field _ _ 1 (by omega)]; exact hc 1 _ rfl, by rw [← add_field _ _ 2 (by omega)]; exact hc 2 _ rfl⟩
def rd_L4 (xs : List (List ByteArray)) (i : Int) : (List ByteArray) := xs.getD i.toNat ([] : List ByteArray)
theorem at_L4 {w : World} {A : Option Addr} {n : Nat} {xs : List (List ByteArray)} (h : Kd.C (Kd.slice 9 Kd.string) w A n xs) (i : Int) (h0 : 0 ≤ i) (h1 : i < n) : ∃ ad A0 c0, A = some ad ∧ w.cell? (ad.add i.toNat) = some (.slice A0 (rd_L4 xs i).length c0) ∧ (rd_L4 xs i).length ≤ c0 ∧ Kd.string.C w A0 (rd_L4 xs i).length (rd_L4 xs i) := by
  obtain ⟨ad, c, e, _, hK, hc0⟩ := Kd.C_get h ([] : List ByteArray) i h0 h1
  have hc : ∀ j u, c[j]? = some u → w.cell? (ad.add (i.toNat * 1 + j)) = some u := hc0
  obtain ⟨A0, c0, rfl, l0, g0⟩ := hK
  exact ⟨ad, A0, c0, e, by have hq := hc 0 _ rfl; rwa [Nat.mul_one, Nat.add_zero] at hq, l0, g0⟩
/-! #### struct type 90 -/
structure S90 where
  f0 : Int
  f1 : (List ByteArray)
def z90 : S90 := ⟨(0 : Int), ([] : List ByteArray)⟩
def k90 : Kd S90 := Kd.iso (Kd.pair (Kd.int .i64) (Kd.slice 9 Kd.string)) (fun x : S90 => (x.f0, x.f1))
theorem k90_open {w : World} {x : S90} {cs : List Value} (h : k90.K w x cs) : ∃ A1 c1, cs = [.int .i64 x.f0, .slice A1 x.f1.length c1] ∧ x.f1.length ≤ c1 ∧ Kd.string.C w A1 x.f1.length x.f1 := by
  obtain ⟨_, _, rfl, rfl, ⟨A1, c1, rfl, l1, g1⟩⟩ := h
  exact ⟨A1, c1, rfl, l1, g1⟩
theorem k90_openM {w : World} {base : Nat} {ok : Nat → Prop} {x : S90} {cs : List Value} (h : k90.M w base ok x cs) : ∃ v1, cs = [.int .i64 x.f0, v1] ∧ Kd.string.R 9 w base ok v1 x.f1 := by
  obtain ⟨_, _, rfl, rfl, ⟨v1, rfl, g1⟩⟩ := h
  exact ⟨v1, rfl, g1⟩
theorem k90_mk (w : World) (x : S90) {A1 : Option Addr} {c1 : Nat} (l1 : x.f1.length ≤ c1) (g1 : Kd.string.C w A1 x.f1.length x.f1) : k90.K w x [.int .i64 x.f0, .slice A1 x.f1.length c1] := ⟨[.int .i64 x.f0], [.slice A1 x.f1.length c1], rfl, rfl, ⟨A1, c1, rfl, l1, g1⟩⟩
theorem k90_mkM (w : World) (base : Nat) (ok : Nat → Prop) (x : S90) {v1 : Value} (g1 : Kd.string.R 9 w base ok v1 x.f1) : k90.M w base ok x [.int .i64 x.f0, v1] := ⟨[.int .i64 x.f0], [v1], rfl, rfl, ⟨v1, rfl, g1⟩⟩
theorem k90_openF {W : World} {ok : Nat → Prop} {x : S90} {cs : List Value} (h : Kd.FK k90 W ok x cs) : ∃ A1 c1, cs = [.int .i64 x.f0, .slice A1 x.f1.length c1] ∧ x.f1.length ≤ c1 ∧ Kd.F Kd.string W ok A1 x.f1.length x.f1 := by
  obtain ⟨A1, c1, rfl, l1, _⟩ := k90_open (Kd.FK_now h)
  exact ⟨A1, c1, rfl, l1, (fun W' hW => by obtain ⟨A1_, c1_, he, l1_, g1_⟩ := k90_open (h W' hW); injection (Option.some.inj (show some (Value.slice A1 x.f1.length c1) = some (Value.slice A1_ x.f1.length c1_) from congrArg (fun l => l[1]?) he)) with ha_ _ _; rw [ha_]; exact g1_)⟩
theorem k90_mkF (W : World) (ok : Nat → Prop) (x : S90) {A1 : Option Addr} {c1 : Nat} (l1 : x.f1.length ≤ c1) (g1 : Kd.F Kd.string W ok A1 x.f1.length x.f1) : Kd.FK k90 W ok x [.int .i64 x.f0, .slice A1 x.f1.length c1] := fun W2 hW => k90_mk W2 x l1 (g1 W2 hW)
def rd_T90 (xs : List S90) (i : Int) : S90 := xs.getD i.toNat z90
theorem at_T90 {w : World} {A : Option Addr} {n : Nat} {xs : List S90} (h : Kd.C k90 w A n xs) (i : Int) (h0 : 0 ≤ i) (h1 : i < n) : ∃ ad A1 c1, A = some ad ∧ w.cell? (ad.add (i.toNat * 2)) = some (.int .i64 (rd_T90 xs i).f0) ∧ w.cell? ⟨(ad.add (i.toNat * 2)).block, (ad.add (i.toNat * 2)).off + 1, none⟩ = some (.slice A1 (rd_T90 xs i).f1.length c1) ∧ (rd_T90 xs i).f1.length ≤ c1 ∧ Kd.string.C w A1 (rd_T90 xs i).f1.length (rd_T90 xs i).f1 := by
  obtain ⟨ad, c, e, _, hK, hc0⟩ := Kd.C_get h z90 i h0 h1
  have hc : ∀ j u, c[j]? = some u → w.cell? (ad.add (i.toNat * 2 + j)) = some u := hc0
  obtain ⟨A1, c1, rfl, l1, g1⟩ := k90_open hK
  exact ⟨ad, A1, c1, e, hc 0 _ rfl, by rw [← add_field _ _ 1 (by omega)]; exact hc 1 _ rfl, l1, g1⟩
/-! #### struct type 93 -/
structure S93 where
  f0 : Int
  f1 : Int
  f2 : ByteArray
def z93 : S93 := ⟨(0 : Int), (0 : Int), (⟨#[]⟩ : ByteArray)⟩
def k93 : Kd S93 := Kd.iso (Kd.pair (Kd.int .i64) (Kd.pair (Kd.int .i64) Kd.string)) (fun x : S93 => (x.f0, x.f1, x.f2))
theorem k93_open {w : World} {x : S93} {cs : List Value} (h : k93.K w x cs) : cs = [.int .i64 x.f0, .int .i64 x.f1, .string x.f2] := by
  obtain ⟨_, _, rfl, rfl, ⟨_, _, rfl, rfl, rfl⟩⟩ := h
  exact rfl
theorem k93_openM {w : World} {base : Nat} {ok : Nat → Prop} {x : S93} {cs : List Value} (h : k93.M w base ok x cs) : cs = [.int .i64 x.f0, .int .i64 x.f1, .string x.f2] := by
  obtain ⟨_, _, rfl, rfl, ⟨_, _, rfl, rfl, rfl⟩⟩ := h
  exact rfl
theorem k93_mk (w : World) (x : S93)  : k93.K w x [.int .i64 x.f0, .int .i64 x.f1, .string x.f2] := ⟨[.int .i64 x.f0], [.int .i64 x.f1, .string x.f2], rfl, rfl, ⟨[.int .i64 x.f1], [.string x.f2], rfl, rfl, rfl⟩⟩
theorem k93_mkM (w : World) (base : Nat) (ok : Nat → Prop) (x : S93)  : k93.M w base ok x [.int .i64 x.f0, .int .i64 x.f1, .string x.f2] := ⟨[.int .i64 x.f0], [.int .i64 x.f1, .string x.f2], rfl, rfl, ⟨[.int .i64 x.f1], [.string x.f2], rfl, rfl, rfl⟩⟩
theorem k93_mkF (W : World) (ok : Nat → Prop) (x : S93) : Kd.FK k93 W ok x [.int .i64 x.f0, .int .i64 x.f1, .string x.f2] := fun W2 _ => k93_mk W2 x
def rd_T93 (xs : List S93) (i : Int) : S93 := xs.getD i.toNat z93
theorem at_T93 {w : World} {A : Option Addr} {n : Nat} {xs : List S93} (h : Kd.C k93 w A n xs) (i : Int) (h0 : 0 ≤ i) (h1 : i < n) : ∃ ad , A = some ad ∧ w.cell? (ad.add (i.toNat * 3)) = some (.int .i64 (rd_T93 xs i).f0) ∧ w.cell? ⟨(ad.add (i.toNat * 3)).block, (ad.add (i.toNat * 3)).off + 1, none⟩ = some (.int .i64 (rd_T93 xs i).f1) ∧ w.cell? ⟨(ad.add (i.toNat * 3)).block, (ad.add (i.toNat * 3)).off + 2, none⟩ = some (.string (rd_T93 xs i).f2) := by
  obtain ⟨ad, c, e, _, hK, hc0⟩ := Kd.C_get h z93 i h0 h1
  have hc : ∀ j u, c[j]? = some u → w.cell? (ad.add (i.toNat * 3 + j)) = some u := hc0
  obtain rfl := k93_open hK
  exact ⟨ad, e, hc 0 _ rfl, by rw [← add_field _ _ 1 (by omega)]; exact hc 1 _ rfl, by rw [← add_field _ _ 2 (by omega)]; exact hc 2 _ rfl⟩
def rd_L7 (xs : List (List Int)) (i : Int) : (List Int) := xs.getD i.toNat ([] : List Int)
theorem at_L7 {w : World} {A : Option Addr} {n : Nat} {xs : List (List Int)} (h : Kd.C (Kd.slice 3 (Kd.int .i64)) w A n xs) (i : Int) (h0 : 0 ≤ i) (h1 : i < n) : ∃ ad A0 c0, A = some ad ∧ w.cell? (ad.add i.toNat) = some (.slice A0 (rd_L7 xs i).length c0) ∧ (rd_L7 xs i).length ≤ c0 ∧ (Kd.int .i64).C w A0 (rd_L7 xs i).length (rd_L7 xs i) := by
  obtain ⟨ad, c, e, _, hK, hc0⟩ := Kd.C_get h ([] : List Int) i h0 h1
  have hc : ∀ j u, c[j]? = some u → w.cell? (ad.add (i.toNat * 1 + j)) = some u := hc0
  obtain ⟨A0, c0, rfl, l0, g0⟩ := hK
  exact ⟨ad, A0, c0, e, by have hq := hc 0 _ rfl; rwa [Nat.mul_one, Nat.add_zero] at hq, l0, g0⟩
/-! #### struct type 56 -/
structure S56 where
  f0 : Int
  f1 : (List Int)
def z56 : S56 := ⟨(0 : Int), ([] : List Int)⟩
def k56 : Kd S56 := Kd.iso (Kd.pair (Kd.int .i64) (Kd.slice 3 (Kd.int .i64))) (fun x : S56 => (x.f0, x.f1))
theorem k56_open {w : World} {x : S56} {cs : List Value} (h : k56.K w x cs) : ∃ A1 c1, cs = [.int .i64 x.f0, .slice A1 x.f1.length c1] ∧ x.f1.length ≤ c1 ∧ (Kd.int .i64).C w A1 x.f1.length x.f1 := by
  obtain ⟨_, _, rfl, rfl, ⟨A1, c1, rfl, l1, g1⟩⟩ := h
  exact ⟨A1, c1, rfl, l1, g1⟩
theorem k56_openM {w : World} {base : Nat} {ok : Nat → Prop} {x : S56} {cs : List Value} (h : k56.M w base ok x cs) : ∃ v1, cs = [.int .i64 x.f0, v1] ∧ (Kd.int .i64).R 3 w base ok v1 x.f1 := by
  obtain ⟨_, _, rfl, rfl, ⟨v1, rfl, g1⟩⟩ := h
  exact ⟨v1, rfl, g1⟩
theorem k56_mk (w : World) (x : S56) {A1 : Option Addr} {c1 : Nat} (l1 : x.f1.length ≤ c1) (g1 : (Kd.int .i64).C w A1 x.f1.length x.f1) : k56.K w x [.int .i64 x.f0, .slice A1 x.f1.length c1] := ⟨[.int .i64 x.f0], [.slice A1 x.f1.length c1], rfl, rfl, ⟨A1, c1, rfl, l1, g1⟩⟩
theorem k56_mkM (w : World) (base : Nat) (ok : Nat → Prop) (x : S56) {v1 : Value} (g1 : (Kd.int .i64).R 3 w base ok v1 x.f1) : k56.M w base ok x [.int .i64 x.f0, v1] := ⟨[.int .i64 x.f0], [v1], rfl, rfl, ⟨v1, rfl, g1⟩⟩
theorem k56_openF {W : World} {ok : Nat → Prop} {x : S56} {cs : List Value} (h : Kd.FK k56 W ok x cs) : ∃ A1 c1, cs = [.int .i64 x.f0, .slice A1 x.f1.length c1] ∧ x.f1.length ≤ c1 ∧ Kd.F (Kd.int .i64) W ok A1 x.f1.length x.f1 := by
  obtain ⟨A1, c1, rfl, l1, _⟩ := k56_open (Kd.FK_now h)
  exact ⟨A1, c1, rfl, l1, (fun W' hW => by obtain ⟨A1_, c1_, he, l1_, g1_⟩ := k56_open (h W' hW); injection (Option.some.inj (show some (Value.slice A1 x.f1.length c1) = some (Value.slice A1_ x.f1.length c1_) from congrArg (fun l => l[1]?) he)) with ha_ _ _; rw [ha_]; exact g1_)⟩
theorem k56_mkF (W : World) (ok : Nat → Prop) (x : S56) {A1 : Option Addr} {c1 : Nat} (l1 : x.f1.length ≤ c1) (g1 : Kd.F (Kd.int .i64) W ok A1 x.f1.length x.f1) : Kd.FK k56 W ok x [.int .i64 x.f0, .slice A1 x.f1.length c1] := fun W2 hW => k56_mk W2 x l1 (g1 W2 hW)
def rd_T56 (xs : List S56) (i : Int) : S56 := xs.getD i.toNat z56
theorem at_T56 {w : World} {A : Option Addr} {n : Nat} {xs : List S56} (h : Kd.C k56 w A n xs) (i : Int) (h0 : 0 ≤ i) (h1 : i < n) : ∃ ad A1 c1, A = some ad ∧ w.cell? (ad.add (i.toNat * 2)) = some (.int .i64 (rd_T56 xs i).f0) ∧ w.cell? ⟨(ad.add (i.toNat * 2)).block, (ad.add (i.toNat * 2)).off + 1, none⟩ = some (.slice A1 (rd_T56 xs i).f1.length c1) ∧ (rd_T56 xs i).f1.length ≤ c1 ∧ (Kd.int .i64).C w A1 (rd_T56 xs i).f1.length (rd_T56 xs i).f1 := by
  obtain ⟨ad, c, e, _, hK, hc0⟩ := Kd.C_get h z56 i h0 h1
  have hc : ∀ j u, c[j]? = some u → w.cell? (ad.add (i.toNat * 2 + j)) = some u := hc0
  obtain ⟨A1, c1, rfl, l1, g1⟩ := k56_open hK
  exact ⟨ad, A1, c1, e, hc 0 _ rfl, by rw [← add_field _ _ 1 (by omega)]; exact hc 1 _ rfl, l1, g1⟩
/-! #### struct type 65 -/
structure S65 where
  f0 : Int
  f1 : Int
  f2 : ByteArray
  f3 : Int
  f4 : ByteArray
  f5 : (List Int)
def z65 : S65 := ⟨(0 : Int), (0 : Int), (⟨#[]⟩ : ByteArray), (0 : Int), (⟨#[]⟩ : ByteArray), ([] : List Int)⟩
def k65 : Kd S65 := Kd.iso (Kd.pair (Kd.int .i64) (Kd.pair (Kd.int .i64) (Kd.pair Kd.string (Kd.pair (Kd.int .i64) (Kd.pair Kd.string (Kd.slice 3 (Kd.int .i64))))))) (fun x : S65 => (x.f0, x.f1, x.f2, x.f3, x.f4, x.f5))
theorem k65_open {w : World} {x : S65} {cs : List Value} (h : k65.K w x cs) : ∃ A5 c5, cs = [.int .i64 x.f0, .int .i64 x.f1, .string x.f2, .int .i64 x.f3, .string x.f4, .slice A5 x.f5.length c5] ∧ x.f5.length ≤ c5 ∧ (Kd.int .i64).C w A5 x.f5.length x.f5 := by
  obtain ⟨_, _, rfl, rfl, ⟨_, _, rfl, rfl, ⟨_, _, rfl, rfl, ⟨_, _, rfl, rfl, ⟨_, _, rfl, rfl, ⟨A5, c5, rfl, l5, g5⟩⟩⟩⟩⟩⟩ := h
  exact ⟨A5, c5, rfl, l5, g5⟩
theorem k65_openM {w : World} {base : Nat} {ok : Nat → Prop} {x : S65} {cs : List Value} (h : k65.M w base ok x cs) : ∃ v5, cs = [.int .i64 x.f0, .int .i64 x.f1, .string x.f2, .int .i64 x.f3, .string x.f4, v5] ∧ (Kd.int .i64).R 3 w base ok v5 x.f5 := by
  obtain ⟨_, _, rfl, rfl, ⟨_, _, rfl, rfl, ⟨_, _, rfl, rfl, ⟨_, _, rfl, rfl, ⟨_, _, rfl, rfl, ⟨v5, rfl, g5⟩⟩⟩⟩⟩⟩ := h
  exact ⟨v5, rfl, g5⟩
theorem k65_mk (w : World) (x : S65) {A5 : Option Addr} {c5 : Nat} (l5 : x.f5.length ≤ c5) (g5 : (Kd.int .i64).C w A5 x.f5.length x.f5) : k65.K w x [.int .i64 x.f0, .int .i64 x.f1, .string x.f2, .int .i64 x.f3, .string x.f4, .slice A5 x.f5.length c5] := ⟨[.int .i64 x.f0], [.int .i64 x.f1, .string x.f2, .int .i64 x.f3, .string x.f4, .slice A5 x.f5.length c5], rfl, rfl, ⟨[.int .i64 x.f1], [.string x.f2, .int .i64 x.f3, .string x.f4, .slice A5 x.f5.length c5], rfl, rfl, ⟨[.string x.f2], [.int .i64 x.f3, .string x.f4, .slice A5 x.f5.length c5], rfl, rfl, ⟨[.int .i64 x.f3], [.string x.f4, .slice A5 x.f5.length c5], rfl, rfl, ⟨[.string x.f4], [.slice A5 x.f5.length c5], rfl, rfl, ⟨A5, c5, rfl, l5, g5⟩⟩⟩⟩⟩⟩
theorem k65_mkM (w : World) (base : Nat) (ok : Nat → Prop) (x : S65) {v5 : Value} (g5 : (Kd.int .i64).R 3 w base ok v5 x.f5) : k65.M w base ok x [.int .i64 x.f0, .int .i64 x.f1, .string x.f2, .int .i64 x.f3, .string x.f4, v5] := ⟨[.int .i64 x.f0], [.int .i64 x.f1, .string x.f2, .int .i64 x.f3, .string x.f4, v5], rfl, rfl, ⟨[.int .i64 x.f1], [.string x.f2, .int .i64 x.f3, .string x.f4, v5], rfl, rfl, ⟨[.string x.f2], [.int .i64 x.f3, .string x.f4, v5], rfl, rfl, ⟨[.int .i64 x.f3], [.string x.f4, v5], rfl, rfl, ⟨[.string x.f4], [v5], rfl, rfl, ⟨v5, rfl, g5⟩⟩⟩⟩⟩⟩
theorem k65_openF {W : World} {ok : Nat → Prop} {x : S65} {cs : List Value} (h : Kd.FK k65 W ok x cs) : ∃ A5 c5, cs = [.int .i64 x.f0, .int .i64 x.f1, .string x.f2, .int .i64 x.f3, .string x.f4, .slice A5 x.f5.length c5] ∧ x.f5.length ≤ c5 ∧ Kd.F (Kd.int .i64) W ok A5 x.f5.length x.f5 := by
  obtain ⟨A5, c5, rfl, l5, _⟩ := k65_open (Kd.FK_now h)
  exact ⟨A5, c5, rfl, l5, (fun W' hW => by obtain ⟨A5_, c5_, he, l5_, g5_⟩ := k65_open (h W' hW); injection (Option.some.inj (show some (Value.slice A5 x.f5.length c5) = some (Value.slice A5_ x.f5.length c5_) from congrArg (fun l => l[5]?) he)) with ha_ _ _; rw [ha_]; exact g5_)⟩
theorem k65_mkF (W : World) (ok : Nat → Prop) (x : S65) {A5 : Option Addr} {c5 : Nat} (l5 : x.f5.length ≤ c5) (g5 : Kd.F (Kd.int .i64) W ok A5 x.f5.length x.f5) : Kd.FK k65 W ok x [.int .i64 x.f0, .int .i64 x.f1, .string x.f2, .int .i64 x.f3, .string x.f4, .slice A5 x.f5.length c5] := fun W2 hW => k65_mk W2 x l5 (g5 W2 hW)
def rd_T65 (xs : List S65) (i : Int) : S65 := xs.getD i.toNat z65
theorem at_T65 {w : World} {A : Option Addr} {n : Nat} {xs : List S65} (h : Kd.C k65 w A n xs) (i : Int) (h0 : 0 ≤ i) (h1 : i < n) : ∃ ad A5 c5, A = some ad ∧ w.cell? (ad.add (i.toNat * 6)) = some (.int .i64 (rd_T65 xs i).f0) ∧ w.cell? ⟨(ad.add (i.toNat * 6)).block, (ad.add (i.toNat * 6)).off + 1, none⟩ = some (.int .i64 (rd_T65 xs i).f1) ∧ w.cell? ⟨(ad.add (i.toNat * 6)).block, (ad.add (i.toNat * 6)).off + 2, none⟩ = some (.string (rd_T65 xs i).f2) ∧ w.cell? ⟨(ad.add (i.toNat * 6)).block, (ad.add (i.toNat * 6)).off + 3, none⟩ = some (.int .i64 (rd_T65 xs i).f3) ∧ w.cell? ⟨(ad.add (i.toNat * 6)).block, (ad.add (i.toNat * 6)).off + 4, none⟩ = some (.string (rd_T65 xs i).f4) ∧ w.cell? ⟨(ad.add (i.toNat * 6)).block, (ad.add (i.toNat * 6)).off + 5, none⟩ = some (.slice A5 (rd_T65 xs i).f5.length c5) ∧ (rd_T65 xs i).f5.length ≤ c5 ∧ (Kd.int .i64).C w A5 (rd_T65 xs i).f5.length (rd_T65 xs i).f5 := by
  obtain ⟨ad, c, e, _, hK, hc0⟩ := Kd.C_get h z65 i h0 h1
  have hc : ∀ j u, c[j]? = some u → w.cell? (ad.add (i.toNat * 6 + j)) = some u := hc0
  obtain ⟨A5, c5, rfl, l5, g5⟩ := k65_open hK
  exact ⟨ad, A5, c5, e, hc 0 _ rfl, by rw [← add_field _ _ 1 (by omega)]; exact hc 1 _ rfl, by rw [← add_field _ _ 2 (by omega)]; exact hc 2 _ rfl, by rw [← add_field _ _ 3 (by omega)]; exact hc 3 _ rfl, by rw [← add_field _ _ 4 (by omega)]; exact hc 4 _ rfl, by rw [← add_field _ _ 5 (by omega)]; exact hc 5 _ rfl, l5, g5⟩
end Go.Proofs.YtbpdcbibooiimaaGreatDoor.Q
/- The shelf's walks that layer 2 wants (Join apart), laid for this program. -/
namespace Go.Proofs
open Go.Shelf
def Tryz.lays160_ren : Go.Shelf.Ren := ⟨fun | 160 => 96 | 232 => 118 | 231 => 117 | 227 => 119 | 234 => 121 | 233 => 120 | 236 => 123 | 235 => 122 | 228 => 141 | 271 => 143 | 151 => 142 | 197 => 138 | 120 => 175 | 152 => 174 | 260 => 170 | 137 => 101 | 119 => 200 | 224 => 172 | 225 => 171 | 217 => 126 | 266 => 145 | n => n, fun | 9 => 9 | 4 => 4 | 3 => 3 | 5 => 5 | 117 => 180 | 116 => 179 | 0 => 0 | 124 => 183 | 21 => 21 | 105 => 194 | 46 => 167 | 119 => 247 | 139 => 250 | 138 => 249 | n => n, fun | 3 => 1 | 4 => 2 | n => n⟩
theorem Tryz.lays160 : Go.Proofs.Lays.n160 Tryz.prog Tryz.lays160_ren := {
  mixed := by kernel_rfl
  f119 := Tryz.func200.trans (congrArg some (by kernel_rfl))
  f120 := Tryz.func175.trans (congrArg some (by kernel_rfl))
  f137 := Tryz.func101.trans (congrArg some (by kernel_rfl))
  f151 := Tryz.func142.trans (congrArg some (by kernel_rfl))
  f152 := Tryz.func174.trans (congrArg some (by kernel_rfl))
  f160 := Tryz.func96.trans (congrArg some (by kernel_rfl))
  f197 := Tryz.func138.trans (congrArg some (by kernel_rfl))
  f217 := Tryz.func126.trans (congrArg some (by kernel_rfl))
  f224 := Tryz.func172.trans (congrArg some (by kernel_rfl))
  f225 := Tryz.func171.trans (congrArg some (by kernel_rfl))
  f227 := Tryz.func119.trans (congrArg some (by kernel_rfl))
  f228 := Tryz.func141.trans (congrArg some (by kernel_rfl))
  f231 := Tryz.func117.trans (congrArg some (by kernel_rfl))
  f232 := Tryz.func118.trans (congrArg some (by kernel_rfl))
  f233 := Tryz.func120.trans (congrArg some (by kernel_rfl))
  f234 := Tryz.func121.trans (congrArg some (by kernel_rfl))
  f235 := Tryz.func122.trans (congrArg some (by kernel_rfl))
  f236 := Tryz.func123.trans (congrArg some (by kernel_rfl))
  f260 := Tryz.func170.trans (congrArg some (by kernel_rfl))
  f266 := Tryz.func145.trans (congrArg some (by kernel_rfl))
  f271 := Tryz.func143.trans (congrArg some (by kernel_rfl))
  t0 := Tryz.underlying0
  a0 := Tryz.isAgg0
  z0 := Tryz.sizeOf0
  v0 := Tryz.zeroValue0
  t3 := Tryz.underlying3
  a3 := Tryz.isAgg3
  z3 := Tryz.sizeOf3
  v3 := Tryz.zeroValue3
  t4 := Tryz.underlying4
  a4 := Tryz.isAgg4
  z4 := Tryz.sizeOf4
  v4 := Tryz.zeroValue4
  t5 := Tryz.underlying5
  a5 := Tryz.isAgg5
  z5 := Tryz.sizeOf5
  v5 := Tryz.zeroValue5
  t9 := Tryz.underlying9
  a9 := Tryz.isAgg9
  z9 := Tryz.sizeOf9
  v9 := Tryz.zeroValue9
  t21 := Tryz.underlying21
  a21 := Tryz.isAgg21
  z21 := Tryz.sizeOf21
  v21 := Tryz.zeroValue21
  t46 := Tryz.underlying167
  a46 := Tryz.isAgg167
  z46 := Tryz.sizeOf167
  v46 := Tryz.zeroValue167
  t105 := Tryz.underlying194
  a105 := Tryz.isAgg194
  z105 := Tryz.sizeOf194
  v105 := Tryz.zeroValue194
  t116 := Tryz.underlying179
  a116 := Tryz.isAgg179
  z116 := Tryz.sizeOf179
  t117 := Tryz.underlying180
  a117 := Tryz.isAgg180
  z117 := Tryz.sizeOf180
  v117 := Tryz.zeroValue180
  t119 := Tryz.underlying247
  a119 := Tryz.isAgg247
  z119 := Tryz.sizeOf247
  t124 := Tryz.underlying183
  a124 := Tryz.isAgg183
  z124 := Tryz.sizeOf183
  v124 := Tryz.zeroValue183
  t138 := Tryz.underlying249
  a138 := Tryz.isAgg249
  z138 := Tryz.sizeOf249
  v138 := Tryz.zeroValue249
  t139 := Tryz.underlying250
  a139 := Tryz.isAgg250
  z139 := Tryz.sizeOf250
  v139 := Tryz.zeroValue250
  g3 := by kernel_rfl
  g4 := by kernel_rfl }
def Tryz.lays145_ren : Go.Shelf.Ren := ⟨fun | 145 => 95 | 220 => 116 | 219 => 140 | 217 => 126 | 225 => 171 | 224 => 172 | 267 => 173 | 266 => 145 | 314 => 199 | n => n, fun | 9 => 9 | 4 => 4 | 59 => 161 | 3 => 3 | 5 => 5 | 46 => 167 | 146 => 231 | 51 => 218 | n => n, fun | 1 => 0 | n => n⟩
theorem Tryz.lays145 : Go.Proofs.Lays.n145 Tryz.prog Tryz.lays145_ren := {
  mixed := by kernel_rfl
  f145 := Tryz.func95.trans (congrArg some (by kernel_rfl))
  f217 := Tryz.func126.trans (congrArg some (by kernel_rfl))
  f219 := Tryz.func140.trans (congrArg some (by kernel_rfl))
  f220 := Tryz.func116.trans (congrArg some (by kernel_rfl))
  f224 := Tryz.func172.trans (congrArg some (by kernel_rfl))
  f225 := Tryz.func171.trans (congrArg some (by kernel_rfl))
  f266 := Tryz.func145.trans (congrArg some (by kernel_rfl))
  f267 := Tryz.func173.trans (congrArg some (by kernel_rfl))
  f314 := Tryz.func199.trans (congrArg some (by kernel_rfl))
  t3 := Tryz.underlying3
  a3 := Tryz.isAgg3
  z3 := Tryz.sizeOf3
  v3 := Tryz.zeroValue3
  t4 := Tryz.underlying4
  a4 := Tryz.isAgg4
  z4 := Tryz.sizeOf4
  v4 := Tryz.zeroValue4
  t5 := Tryz.underlying5
  a5 := Tryz.isAgg5
  z5 := Tryz.sizeOf5
  v5 := Tryz.zeroValue5
  t9 := Tryz.underlying9
  a9 := Tryz.isAgg9
  z9 := Tryz.sizeOf9
  v9 := Tryz.zeroValue9
  t46 := Tryz.underlying167
  a46 := Tryz.isAgg167
  z46 := Tryz.sizeOf167
  v46 := Tryz.zeroValue167
  t51 := Tryz.underlying218
  a51 := Tryz.isAgg218
  z51 := Tryz.sizeOf218
  v51 := Tryz.zeroValue218
  t59 := Tryz.underlying161
  a59 := Tryz.isAgg161
  z59 := Tryz.sizeOf161
  v59 := Tryz.zeroValue161
  t146 := Tryz.underlying231
  a146 := Tryz.isAgg231
  z146 := Tryz.sizeOf231
  v146 := Tryz.zeroValue231
  g1 := by kernel_rfl }
def Tryz.lays146_ren : Go.Shelf.Ren := ⟨fun | 146 => 67 | 221 => 94 | 268 => 113 | 138 => 114 | 143 => 115 | 195 => 137 | 197 => 138 | 218 => 139 | 219 => 140 | 260 => 170 | 217 => 126 | 225 => 171 | 224 => 172 | 267 => 173 | 266 => 145 | 314 => 199 | n => n, fun | 9 => 9 | 31 => 23 | 3 => 3 | 4 => 4 | 0 => 0 | 105 => 194 | 21 => 21 | 5 => 5 | 46 => 167 | 119 => 247 | 139 => 250 | 138 => 249 | 146 => 231 | 51 => 218 | n => n, fun | 1 => 0 | 3 => 1 | 4 => 2 | n => n⟩
theorem Tryz.lays146 : Go.Proofs.Lays.n146 Tryz.prog Tryz.lays146_ren := {
  mixed := by kernel_rfl
  f138 := Tryz.func114.trans (congrArg some (by kernel_rfl))
  f143 := Tryz.func115.trans (congrArg some (by kernel_rfl))
  f146 := Tryz.func67.trans (congrArg some (by kernel_rfl))
  f195 := Tryz.func137.trans (congrArg some (by kernel_rfl))
  f197 := Tryz.func138.trans (congrArg some (by kernel_rfl))
  f217 := Tryz.func126.trans (congrArg some (by kernel_rfl))
  f218 := Tryz.func139.trans (congrArg some (by kernel_rfl))
  f219 := Tryz.func140.trans (congrArg some (by kernel_rfl))
  f221 := Tryz.func94.trans (congrArg some (by kernel_rfl))
  f224 := Tryz.func172.trans (congrArg some (by kernel_rfl))
  f225 := Tryz.func171.trans (congrArg some (by kernel_rfl))
  f260 := Tryz.func170.trans (congrArg some (by kernel_rfl))
  f266 := Tryz.func145.trans (congrArg some (by kernel_rfl))
  f267 := Tryz.func173.trans (congrArg some (by kernel_rfl))
  f268 := Tryz.func113.trans (congrArg some (by kernel_rfl))
  f314 := Tryz.func199.trans (congrArg some (by kernel_rfl))
  t0 := Tryz.underlying0
  a0 := Tryz.isAgg0
  z0 := Tryz.sizeOf0
  v0 := Tryz.zeroValue0
  t3 := Tryz.underlying3
  a3 := Tryz.isAgg3
  z3 := Tryz.sizeOf3
  v3 := Tryz.zeroValue3
  t4 := Tryz.underlying4
  a4 := Tryz.isAgg4
  z4 := Tryz.sizeOf4
  v4 := Tryz.zeroValue4
  t5 := Tryz.underlying5
  a5 := Tryz.isAgg5
  z5 := Tryz.sizeOf5
  v5 := Tryz.zeroValue5
  t9 := Tryz.underlying9
  a9 := Tryz.isAgg9
  z9 := Tryz.sizeOf9
  v9 := Tryz.zeroValue9
  t21 := Tryz.underlying21
  a21 := Tryz.isAgg21
  z21 := Tryz.sizeOf21
  v21 := Tryz.zeroValue21
  t31 := Tryz.underlying23
  a31 := Tryz.isAgg23
  z31 := Tryz.sizeOf23
  v31 := Tryz.zeroValue23
  t46 := Tryz.underlying167
  a46 := Tryz.isAgg167
  z46 := Tryz.sizeOf167
  v46 := Tryz.zeroValue167
  t51 := Tryz.underlying218
  a51 := Tryz.isAgg218
  z51 := Tryz.sizeOf218
  v51 := Tryz.zeroValue218
  t105 := Tryz.underlying194
  a105 := Tryz.isAgg194
  z105 := Tryz.sizeOf194
  v105 := Tryz.zeroValue194
  t119 := Tryz.underlying247
  a119 := Tryz.isAgg247
  z119 := Tryz.sizeOf247
  t138 := Tryz.underlying249
  a138 := Tryz.isAgg249
  z138 := Tryz.sizeOf249
  v138 := Tryz.zeroValue249
  t139 := Tryz.underlying250
  a139 := Tryz.isAgg250
  z139 := Tryz.sizeOf250
  v139 := Tryz.zeroValue250
  t146 := Tryz.underlying231
  a146 := Tryz.isAgg231
  z146 := Tryz.sizeOf231
  v146 := Tryz.zeroValue231
  g1 := by kernel_rfl
  g3 := by kernel_rfl
  g4 := by kernel_rfl }
def Tryz.lays102_ren : Go.Shelf.Ren := ⟨fun | 102 => 71 | 209 => 97 | 207 => 124 | n => n, fun | 9 => 9 | 4 => 4 | 3 => 3 | n => n, fun | n => n⟩
theorem Tryz.lays102 : Go.Proofs.Lays.n102 Tryz.prog Tryz.lays102_ren := {
  mixed := by kernel_rfl
  f102 := Tryz.func71.trans (congrArg some (by kernel_rfl))
  f207 := Tryz.func124.trans (congrArg some (by kernel_rfl))
  f209 := Tryz.func97.trans (congrArg some (by kernel_rfl))
  t3 := Tryz.underlying3
  a3 := Tryz.isAgg3
  z3 := Tryz.sizeOf3
  v3 := Tryz.zeroValue3
  t4 := Tryz.underlying4
  a4 := Tryz.isAgg4
  z4 := Tryz.sizeOf4
  v4 := Tryz.zeroValue4
  t9 := Tryz.underlying9
  a9 := Tryz.isAgg9
  z9 := Tryz.sizeOf9
  v9 := Tryz.zeroValue9 }
def Tryz.lays105_ren : Go.Shelf.Ren := ⟨fun | 105 => 129 | 212 => 153 | 99 => 111 | 165 => 146 | 166 => 147 | 170 => 154 | 169 => 149 | 263 => 186 | 264 => 187 | 206 => 136 | 240 => 176 | 241 => 177 | 276 => 201 | 277 => 202 | n => n, fun | 9 => 9 | 3 => 3 | 4 => 4 | 20 => 20 | 0 => 0 | 46 => 167 | 109 => 207 | 5 => 5 | 72 => 201 | 76 => 192 | 51 => 218 | 146 => 231 | 53 => 220 | 148 => 233 | 70 => 199 | 37 => 22 | 75 => 191 | 127 => 223 | 164 => 253 | 80 => 204 | n => n, fun | n => n⟩
theorem Tryz.lays105 : Go.Proofs.Lays.n105 Tryz.prog Tryz.lays105_ren := {
  mixed := by kernel_rfl
  f99 := Tryz.func111.trans (congrArg some (by kernel_rfl))
  f105 := Tryz.func129.trans (congrArg some (by kernel_rfl))
  f165 := Tryz.func146.trans (congrArg some (by kernel_rfl))
  f166 := Tryz.func147.trans (congrArg some (by kernel_rfl))
  f169 := Tryz.func149.trans (congrArg some (by kernel_rfl))
  f170 := Tryz.func154.trans (congrArg some (by kernel_rfl))
  f206 := Tryz.func136.trans (congrArg some (by kernel_rfl))
  f212 := Tryz.func153.trans (congrArg some (by kernel_rfl))
  f240 := Tryz.func176.trans (congrArg some (by kernel_rfl))
  f241 := Tryz.func177.trans (congrArg some (by kernel_rfl))
  f263 := Tryz.func186.trans (congrArg some (by kernel_rfl))
  f264 := Tryz.func187.trans (congrArg some (by kernel_rfl))
  f276 := Tryz.func201.trans (congrArg some (by kernel_rfl))
  f277 := Tryz.func202.trans (congrArg some (by kernel_rfl))
  t0 := Tryz.underlying0
  a0 := Tryz.isAgg0
  z0 := Tryz.sizeOf0
  v0 := Tryz.zeroValue0
  t3 := Tryz.underlying3
  a3 := Tryz.isAgg3
  z3 := Tryz.sizeOf3
  v3 := Tryz.zeroValue3
  t4 := Tryz.underlying4
  a4 := Tryz.isAgg4
  z4 := Tryz.sizeOf4
  v4 := Tryz.zeroValue4
  t5 := Tryz.underlying5
  a5 := Tryz.isAgg5
  z5 := Tryz.sizeOf5
  v5 := Tryz.zeroValue5
  t9 := Tryz.underlying9
  a9 := Tryz.isAgg9
  z9 := Tryz.sizeOf9
  v9 := Tryz.zeroValue9
  t20 := Tryz.underlying20
  a20 := Tryz.isAgg20
  z20 := Tryz.sizeOf20
  v20 := Tryz.zeroValue20
  t37 := Tryz.underlying22
  a37 := Tryz.isAgg22
  z37 := Tryz.sizeOf22
  v37 := Tryz.zeroValue22
  t46 := Tryz.underlying167
  a46 := Tryz.isAgg167
  z46 := Tryz.sizeOf167
  v46 := Tryz.zeroValue167
  t51 := Tryz.underlying218
  a51 := Tryz.isAgg218
  z51 := Tryz.sizeOf218
  v51 := Tryz.zeroValue218
  t53 := Tryz.underlying220
  a53 := Tryz.isAgg220
  z53 := Tryz.sizeOf220
  v53 := Tryz.zeroValue220
  t70 := Tryz.underlying199
  a70 := Tryz.isAgg199
  z70 := Tryz.sizeOf199
  v70 := Tryz.zeroValue199
  t72 := Tryz.underlying201
  a72 := Tryz.isAgg201
  z72 := Tryz.sizeOf201
  v72 := Tryz.zeroValue201
  t75 := Tryz.underlying191
  a75 := Tryz.isAgg191
  z75 := Tryz.sizeOf191
  v75 := Tryz.zeroValue191
  t76 := Tryz.underlying192
  a76 := Tryz.isAgg192
  z76 := Tryz.sizeOf192
  v76 := Tryz.zeroValue192
  t109 := Tryz.underlying207
  a109 := Tryz.isAgg207
  z109 := Tryz.sizeOf207
  v109 := Tryz.zeroValue207
  t127 := Tryz.underlying223
  a127 := Tryz.isAgg223
  z127 := Tryz.sizeOf223
  v127 := Tryz.zeroValue223
  t146 := Tryz.underlying231
  a146 := Tryz.isAgg231
  z146 := Tryz.sizeOf231
  v146 := Tryz.zeroValue231
  t148 := Tryz.underlying233
  a148 := Tryz.isAgg233
  z148 := Tryz.sizeOf233
  v148 := Tryz.zeroValue233
  t164 := Tryz.underlying253
  a164 := Tryz.isAgg253
  z164 := Tryz.sizeOf253
  v164 := Tryz.zeroValue253 }
def Tryz.lays158_ren : Go.Shelf.Ren := ⟨fun | 158 => 127 | 165 => 146 | 166 => 147 | 167 => 148 | 169 => 149 | 230 => 150 | 203 => 151 | 240 => 176 | 241 => 177 | 197 => 138 | 118 => 178 | 168 => 179 | 270 => 180 | 262 => 181 | 276 => 201 | 277 => 202 | 260 => 170 | 242 => 203 | 313 => 204 | 278 => 213 | 274 => 214 | 275 => 215 | n => n, fun | 9 => 9 | 4 => 4 | 3 => 3 | 5 => 5 | 72 => 201 | 0 => 0 | 76 => 192 | 75 => 191 | 107 => 206 | 70 => 199 | 20 => 20 | 37 => 22 | 127 => 223 | 21 => 21 | 105 => 194 | 164 => 253 | 162 => 259 | 203 => 257 | 119 => 247 | 46 => 167 | 139 => 250 | 138 => 249 | 51 => 218 | 160 => 271 | 208 => 281 | 206 => 279 | 80 => 204 | n => n, fun | 13 => 3 | 3 => 1 | 4 => 2 | n => n⟩
theorem Tryz.lays158 : Go.Proofs.Lays.n158 Tryz.prog Tryz.lays158_ren := {
  mixed := by kernel_rfl
  f118 := Tryz.func178.trans (congrArg some (by kernel_rfl))
  f158 := Tryz.func127.trans (congrArg some (by kernel_rfl))
  f165 := Tryz.func146.trans (congrArg some (by kernel_rfl))
  f166 := Tryz.func147.trans (congrArg some (by kernel_rfl))
  f167 := Tryz.func148.trans (congrArg some (by kernel_rfl))
  f168 := Tryz.func179.trans (congrArg some (by kernel_rfl))
  f169 := Tryz.func149.trans (congrArg some (by kernel_rfl))
  f197 := Tryz.func138.trans (congrArg some (by kernel_rfl))
  f203 := Tryz.func151.trans (congrArg some (by kernel_rfl))
  f230 := Tryz.func150.trans (congrArg some (by kernel_rfl))
  f240 := Tryz.func176.trans (congrArg some (by kernel_rfl))
  f241 := Tryz.func177.trans (congrArg some (by kernel_rfl))
  f242 := Tryz.func203.trans (congrArg some (by kernel_rfl))
  f260 := Tryz.func170.trans (congrArg some (by kernel_rfl))
  f262 := Tryz.func181.trans (congrArg some (by kernel_rfl))
  f270 := Tryz.func180.trans (congrArg some (by kernel_rfl))
  f274 := Tryz.func214.trans (congrArg some (by kernel_rfl))
  f275 := Tryz.func215.trans (congrArg some (by kernel_rfl))
  f276 := Tryz.func201.trans (congrArg some (by kernel_rfl))
  f277 := Tryz.func202.trans (congrArg some (by kernel_rfl))
  f278 := Tryz.func213.trans (congrArg some (by kernel_rfl))
  f313 := Tryz.func204.trans (congrArg some (by kernel_rfl))
  t0 := Tryz.underlying0
  a0 := Tryz.isAgg0
  z0 := Tryz.sizeOf0
  v0 := Tryz.zeroValue0
  t3 := Tryz.underlying3
  a3 := Tryz.isAgg3
  z3 := Tryz.sizeOf3
  v3 := Tryz.zeroValue3
  t4 := Tryz.underlying4
  a4 := Tryz.isAgg4
  z4 := Tryz.sizeOf4
  v4 := Tryz.zeroValue4
  t5 := Tryz.underlying5
  a5 := Tryz.isAgg5
  z5 := Tryz.sizeOf5
  v5 := Tryz.zeroValue5
  t9 := Tryz.underlying9
  a9 := Tryz.isAgg9
  z9 := Tryz.sizeOf9
  v9 := Tryz.zeroValue9
  t20 := Tryz.underlying20
  a20 := Tryz.isAgg20
  z20 := Tryz.sizeOf20
  v20 := Tryz.zeroValue20
  t21 := Tryz.underlying21
  a21 := Tryz.isAgg21
  z21 := Tryz.sizeOf21
  v21 := Tryz.zeroValue21
  t37 := Tryz.underlying22
  a37 := Tryz.isAgg22
  z37 := Tryz.sizeOf22
  v37 := Tryz.zeroValue22
  t46 := Tryz.underlying167
  a46 := Tryz.isAgg167
  z46 := Tryz.sizeOf167
  v46 := Tryz.zeroValue167
  t51 := Tryz.underlying218
  a51 := Tryz.isAgg218
  z51 := Tryz.sizeOf218
  v51 := Tryz.zeroValue218
  t70 := Tryz.underlying199
  a70 := Tryz.isAgg199
  z70 := Tryz.sizeOf199
  v70 := Tryz.zeroValue199
  t72 := Tryz.underlying201
  a72 := Tryz.isAgg201
  z72 := Tryz.sizeOf201
  v72 := Tryz.zeroValue201
  t75 := Tryz.underlying191
  a75 := Tryz.isAgg191
  z75 := Tryz.sizeOf191
  v75 := Tryz.zeroValue191
  t76 := Tryz.underlying192
  a76 := Tryz.isAgg192
  z76 := Tryz.sizeOf192
  v76 := Tryz.zeroValue192
  t105 := Tryz.underlying194
  a105 := Tryz.isAgg194
  z105 := Tryz.sizeOf194
  v105 := Tryz.zeroValue194
  t107 := Tryz.underlying206
  a107 := Tryz.isAgg206
  z107 := Tryz.sizeOf206
  v107 := Tryz.zeroValue206
  t119 := Tryz.underlying247
  a119 := Tryz.isAgg247
  z119 := Tryz.sizeOf247
  t127 := Tryz.underlying223
  a127 := Tryz.isAgg223
  z127 := Tryz.sizeOf223
  v127 := Tryz.zeroValue223
  t138 := Tryz.underlying249
  a138 := Tryz.isAgg249
  z138 := Tryz.sizeOf249
  v138 := Tryz.zeroValue249
  t139 := Tryz.underlying250
  a139 := Tryz.isAgg250
  z139 := Tryz.sizeOf250
  v139 := Tryz.zeroValue250
  t160 := Tryz.underlying271
  a160 := Tryz.isAgg271
  z160 := Tryz.sizeOf271
  v160 := Tryz.zeroValue271
  t162 := Tryz.underlying259
  a162 := Tryz.isAgg259
  z162 := Tryz.sizeOf259
  v162 := Tryz.zeroValue259
  t164 := Tryz.underlying253
  a164 := Tryz.isAgg253
  z164 := Tryz.sizeOf253
  v164 := Tryz.zeroValue253
  t203 := Tryz.underlying257
  a203 := Tryz.isAgg257
  z203 := Tryz.sizeOf257
  v203 := Tryz.zeroValue257
  t206 := Tryz.underlying279
  a206 := Tryz.isAgg279
  z206 := Tryz.sizeOf279
  v206 := Tryz.zeroValue279
  t208 := Tryz.underlying281
  a208 := Tryz.isAgg281
  z208 := Tryz.sizeOf281
  v208 := Tryz.zeroValue281
  g3 := by kernel_rfl
  g4 := by kernel_rfl
  g13 := by kernel_rfl }
theorem Tryz.bldX105 : Builder.Extra Tryz.prog Tryz.lays105_ren := {
  sizeBuilder := by kernel_rfl
  liesBuilder := by kernel_rfl
  t5 := Tryz.underlying5
  a5 := Tryz.isAgg5
  z5 := Tryz.sizeOf5
  v5 := Tryz.zeroValue5
  infoByte := by kernel_rfl
  cellsByte := by kernel_rfl
  sizeByte := by kernel_rfl
  neB5 := by decide }
theorem Tryz.bldX158 : Builder.Extra Tryz.prog Tryz.lays158_ren := {
  sizeBuilder := by kernel_rfl
  liesBuilder := by kernel_rfl
  t5 := Tryz.underlying5
  a5 := Tryz.isAgg5
  z5 := Tryz.sizeOf5
  v5 := Tryz.zeroValue5
  infoByte := by kernel_rfl
  cellsByte := by kernel_rfl
  sizeByte := by kernel_rfl
  neB5 := by decide }
end Go.Proofs
/- Small lemmas on lists, octets and rounds, for the plain laws of this seat. No condition. -/
namespace Go.Proofs.YtbpdcbibooiimaaGreatDoor.K
open Go.RowKit Go.Proofs.YtbpdcbibooiimaaGreatDoorW.PrintWords
theorem w64 {n : Int} (h0 : -9223372036854775808 ≤ n) (h1 : n ≤ 9223372036854775807) : wrap64 n = n := by unfold wrap64; omega
theorem rd_nat (l : List Int) (i : Nat) (h : i < l.length) : rd l (i : Int) = l[i] := by
  unfold rd; simp [List.getD_eq_getElem?_getD, List.getElem?_eq_getElem h]
theorem rd_mem {l : List Int} {i : Int} (h0 : 0 ≤ i) (h1 : i < (l.length : Int)) : rd l i ∈ l := by
  obtain ⟨n, rfl⟩ := Int.eq_ofNat_of_zero_le h0
  rw [rd_nat l n (by omega)]
  exact List.getElem_mem _
theorem rd_append_left {l m : List Int} {i : Int} (h0 : 0 ≤ i) (h1 : i < (l.length : Int)) : rd (l ++ m) i = rd l i := by
  unfold rd
  simp only [List.getD_eq_getElem?_getD]
  rw [List.getElem?_append_left (by omega)]
theorem rd_append_right {l m : List Int} {i : Int} (h0 : (l.length : Int) ≤ i) : rd (l ++ m) i = rd m (i - l.length) := by
  unfold rd
  simp only [List.getD_eq_getElem?_getD]
  rw [List.getElem?_append_right (by omega)]
  congr 2
  omega
theorem rd_map {f : Int → Int} {l : List Int} {i : Int} (h0 : 0 ≤ i) (h1 : i < (l.length : Int)) : rd (l.map f) i = f (rd l i) := by
  obtain ⟨n, rfl⟩ := Int.eq_ofNat_of_zero_le h0
  rw [rd_nat _ n (by simpa using h1), rd_nat l n (by omega)]
  simp
theorem rd_cons_zero (x : Int) (l : List Int) : rd (x :: l) 0 = x := rfl
theorem rd_drop {l : List Int} {n : Nat} {i : Int} (h0 : 0 ≤ i) : rd (l.drop n) i = rd l (n + i) := by
  unfold rd
  simp only [List.getD_eq_getElem?_getD, List.getElem?_drop]
  congr 2
  omega
theorem rd_take {l : List Int} {n : Nat} {i : Int} (h0 : 0 ≤ i) (h1 : i < (n : Int)) : rd (l.take n) i = rd l i := by
  unfold rd
  simp only [List.getD_eq_getElem?_getD]
  rw [List.getElem?_take_of_lt (by omega)]
theorem take_snoc (l : List Int) (i : Nat) (h : i < l.length) : l.take (i + 1) = l.take i ++ [rd l (i : Int)] := by
  rw [rd_nat l i h, List.take_succ_eq_append_getElem h]
theorem drop_cons (l : List Int) (i : Nat) (h : i < l.length) : l.drop i = rd l (i : Int) :: l.drop (i + 1) := by
  rw [rd_nat l i h, List.drop_eq_getElem_cons h]
/-! octets -/
def Oct (l : List Int) : Prop := ∀ x ∈ l, 0 ≤ x ∧ x ≤ 255
theorem oct_of_wf {l : List Int} (h : ∀ x ∈ l, (Lit.int .u8 x).wf = true) : Oct l := fun x hx => by
  have := h x hx
  simp only [Lit.wf, Bool.and_eq_true, decide_eq_true_eq] at this
  have e1 : IntKind.u8.min = 0 := rfl
  have e2 : IntKind.u8.max = 255 := rfl
  omega
theorem i64_of_wf {x : Int} (h : (Lit.int .i64 x).wf = true) : -9223372036854775808 ≤ x ∧ x ≤ 9223372036854775807 := by
  simp only [Lit.wf, Bool.and_eq_true, decide_eq_true_eq] at h
  have e1 : IntKind.i64.min = -9223372036854775808 := rfl
  have e2 : IntKind.i64.max = 9223372036854775807 := rfl
  omega
theorem u8_of_wf {x : Int} (h : (Lit.int .u8 x).wf = true) : 0 ≤ x ∧ x ≤ 255 := by
  simp only [Lit.wf, Bool.and_eq_true, decide_eq_true_eq] at h
  have e1 : IntKind.u8.min = 0 := rfl
  have e2 : IntKind.u8.max = 255 := rfl
  omega
theorem Oct.map {l : List Int} {f : Int → Int} (h : ∀ x, 0 ≤ x → x ≤ 255 → 0 ≤ f x ∧ f x ≤ 255) (hl : Oct l) : Oct (l.map f) := fun y hy => by
  obtain ⟨x, hx, rfl⟩ := List.mem_map.1 hy
  exact h x (hl x hx).1 (hl x hx).2
theorem Oct.append {l m : List Int} (h : Oct l) (k : Oct m) : Oct (l ++ m) := fun x hx => by
  rcases List.mem_append.1 hx with hx | hx
  · exact h x hx
  · exact k x hx
theorem Oct.take {l : List Int} (h : Oct l) (n : Nat) : Oct (l.take n) := fun x hx => h x (List.mem_of_mem_take hx)
theorem Oct.drop {l : List Int} (h : Oct l) (n : Nat) : Oct (l.drop n) := fun x hx => h x (List.mem_of_mem_drop hx)
theorem Oct.rd {l : List Int} (h : Oct l) {i : Int} (h0 : 0 ≤ i) (h1 : i < (l.length : Int)) : 0 ≤ rd l i ∧ rd l i ≤ 255 := h _ (rd_mem h0 h1)
theorem u8_back {x : Int} (h : 0 ≤ x ∧ x ≤ 255) : ((UInt8.ofNat x.toNat).toNat : Int) = x := by
  simp only [UInt8.toNat_ofNat']
  omega
theorem bt_str {l : List Int} (h : Oct l) {i : Int} (h0 : 0 ≤ i) (h1 : i < (l.length : Int)) : bt (strOfNums l) i = rd l i := by
  obtain ⟨n, rfl⟩ := Int.eq_ofNat_of_zero_le h0
  have hn : n < l.length := by omega
  have hs : n < (strOfNums l).size := by rw [strOfNums_size]; exact hn
  have hb := h.rd h0 h1
  rw [rd_nat l n hn] at hb ⊢
  unfold bt
  simp only [Int.toNat_natCast, hs, dif_pos]
  have : (strOfNums l)[n] = UInt8.ofNat (l[n]).toNat := by
    show (strOfNums l).data[n] = _
    simp [strOfNums]
  rw [this]
  exact u8_back hb
theorem size_str (l : List Int) : (strOfNums l).size = l.length := strOfNums_size l
theorem str_inj {l m : List Int} (hl : Oct l) (hm : Oct m) (h : strOfNums l = strOfNums m) : l = m := by
  have hlen : l.length = m.length := by rw [← size_str l, ← size_str m, h]
  apply List.ext_getElem hlen
  intro i h1 h2
  have a := bt_str hl (i := (i : Int)) (by omega) (by omega)
  have b := bt_str hm (i := (i : Int)) (by omega) (by omega)
  rw [rd_nat l i h1] at a
  rw [rd_nat m i h2] at b
  rw [← a, ← b, h]
theorem ba_toList (s : ByteArray) : s.toList = s.data.toList := ByteArray.toList_eq s
theorem toList_inj {s t : ByteArray} (h : s.toList = t.toList) : s = t := by
  rw [ba_toList, ba_toList] at h
  cases s; cases t
  simp at h
  exact congrArg _ h
theorem toList_eq_iff {s t : ByteArray} : s.toList = t.toList ↔ s = t := ⟨toList_inj, fun h => by rw [h]⟩
theorem str_append (l m : List Int) : strOfNums l ++ strOfNums m = strOfNums (l ++ m) := by
  apply toList_inj
  rw [ba_toList, ba_toList]
  simp [strOfNums]
theorem bytesOf_str {l : List Int} (h : Oct l) : Go.Proofs.YtbpdcbibooiimaaGreatDoorW.PrintWords.bytesOf (strOfNums l) = l := by
  unfold Go.Proofs.YtbpdcbibooiimaaGreatDoorW.PrintWords.bytesOf
  rw [strOfNums_data, List.map_map]
  conv => rhs; rw [← List.map_id l]
  apply List.map_congr_left
  intro x hx
  exact u8_back (h x hx)
theorem oct_bytesOf (s : ByteArray) : Oct (Go.Proofs.YtbpdcbibooiimaaGreatDoorW.PrintWords.bytesOf s) := fun x hx => by
  unfold Go.Proofs.YtbpdcbibooiimaaGreatDoorW.PrintWords.bytesOf at hx
  obtain ⟨b, _, rfl⟩ := List.mem_map.1 hx
  have := b.toNat_lt
  omega
theorem str_bytesOf (s : ByteArray) : strOfNums (Go.Proofs.YtbpdcbibooiimaaGreatDoorW.PrintWords.bytesOf s) = s := by
  unfold Go.Proofs.YtbpdcbibooiimaaGreatDoorW.PrintWords.bytesOf strOfNums
  cases s with
  | mk a =>
    congr 1
    apply Array.ext'
    simp [Function.comp_def]
theorem extract_str {l : List Int} {a b : Nat} : (strOfNums l).extract a b = strOfNums ((l.take b).drop a) := by
  apply toList_inj
  rw [ba_toList, ba_toList]
  rw [ByteArray.data_extract]
  simp [strOfNums, List.map_drop, List.map_take, List.drop_take]
/-! rounds -/
theorem Ev.pos {α : Type} {c : Prop} [Decidable c] {f g : Nat → Option α} {r : α} (h : c) (k : Ev f r) : Ev (fun n => if c then f n else g n) r := Ev.congr (fun _ => if_pos h) k
theorem Ev.neg {α : Type} {c : Prop} [Decidable c] {f g : Nat → Option α} {r : α} (h : ¬ c) (k : Ev g r) : Ev (fun n => if c then f n else g n) r := Ev.congr (fun _ => if_neg h) k
theorem Ev.bindS {α β : Type} {o : Option α} {f : Nat → α → Option β} {a : α} {r : β} (h : o = some a) (k : Ev (fun n => f n a) r) : Ev (fun n => o.bind (f n)) r := by
  subst h; exact k
theorem Ev.ret {α : Type} {a r : α} (h : a = r) : Ev (fun _ => some a) r := by subst h; exact Ev.now _
theorem Ev.val {α : Type} {o : Option α} {r : α} (h : o = some r) : Ev (fun _ => o) r := ⟨0, fun _ _ => h⟩
def firstAt (q : Int → Bool) : List Int → Int → Int
  | [], _ => -1
  | x :: l, i => if q x = true then i else firstAt q l (i + 1)
theorem index_loop {p : Int → Option Bool} {q : Int → Bool} {l : Nat → List Int → Int → Int → Option Int}
    (hl : ∀ k x n i, l (k + 1) x n i = if i < n then (if 0 ≤ i then (if i < (x.length : Int) then ((p (rd x i)).bind fun t => (if t = true then (some i) else (l k x n (wrap64 (i + 1))))) else none) else none) else some (-1))
    (x : List Int) (hx : x.length ≤ 9223372036854775806) (hp : ∀ y ∈ x, p y = some (q y)) : ∀ (d i : Nat), x.length - i = d → i ≤ x.length → Ev (fun k => l k x (x.length : Int) (i : Int)) (firstAt q (x.drop i) i) := by
  intro d
  induction d with
  | zero =>
    intro i h1 h2
    have : i = x.length := by omega
    subst this
    refine Ev.step (fun k => hl k _ _ _) (Ev.neg (by omega) ?_)
    simp only [List.drop_length, firstAt]
    exact Ev.now _
  | succ d ih =>
    intro i h1 h2
    have hi : i < x.length := by omega
    refine Ev.step (fun k => hl k _ _ _) (Ev.pos (by omega) (Ev.pos (by omega) (Ev.pos (by omega) (Ev.bindS (hp _ (rd_mem (by omega) (by omega))) ?_))))
    rw [drop_cons x i hi]
    simp only [firstAt]
    by_cases hq : q (rd x i) = true
    · rw [if_pos hq]
      exact Ev.pos hq (Ev.now _)
    · rw [if_neg hq]
      refine Ev.neg hq ?_
      have := ih (i + 1) (by omega) (by omega)
      rw [w64 (by omega) (by omega)]
      exact this
theorem firstAt_any (q : Int → Bool) : ∀ (l : List Int) (i : Int), 0 ≤ i → decide (firstAt q l i ≥ 0) = l.any q
  | [], _, _ => by simp [firstAt]
  | x :: l, i, h => by
    by_cases hq : q x = true
    · simp [firstAt, hq, h]
    · have ih := firstAt_any q l (i + 1) (by omega)
      simp only [Bool.not_eq_true] at hq
      simp [firstAt, hq]
      simpa using ih
theorem contains_ev {p : Int → Option Bool} {q : Int → Bool} {l : Nat → List Int → Int → Int → Option Int}
    (hl : ∀ k x n i, l (k + 1) x n i = if i < n then (if 0 ≤ i then (if i < (x.length : Int) then ((p (rd x i)).bind fun t => (if t = true then (some i) else (l k x n (wrap64 (i + 1))))) else none) else none) else some (-1))
    (x : List Int) (hx : x.length ≤ 9223372036854775806) (hp : ∀ y ∈ x, p y = some (q y)) : Ev (fun k => (l k x (x.length : Int) 0).bind fun t => some (decide (t ≥ 0))) (x.any q) := by
  have h := index_loop hl x hx hp x.length 0 (by omega) (by omega)
  refine Ev.bind h (Ev.ret ?_)
  rw [firstAt_any q _ _ (by simp)]
  simp
end Go.Proofs.YtbpdcbibooiimaaGreatDoor.K
/- internal/strconv.formatBits at base 16; strconv.FormatInt. -/
namespace Go.Proofs.YtbpdcbibooiimaaGreatDoor.Q
open Go.RowKit Go.Shelf Go.Proofs.YtbpdcbibooiimaaGreatDoorW.PrintWords Go.Proofs.YtbpdcbibooiimaaGreatDoorW.PrintLast Go.Proofs.YtbpdcbibooiimaaGreatDoorW.PrintMore Go.Proofs.YtbpdcbibooiimaaGreatDoor.K
theorem tz16.calls (w : World) (h : w.cell? ⟨8, 15, none⟩ = some (.int .u8 4)) : Calls Tryz.prog 208 #[.int .u64 16] w fun e w' => e = .returned (.int .i64 4) ∧ w' = w := by
  have n1 : IntKind.u64.wrap (-16) = 18446744073709551600 := by kernel_rfl
  have n2 : bits BinOp.and IntKind.u64 16 18446744073709551600 = 16 := by kernel_rfl
  have n3 : IntKind.u64.wrap (16 * 285870213051353865) = 4573923408821661840 := by kernel_rfl
  have n4 : (4573923408821661840 : Int) / 288230376151711744 = 15 := by decide
  have n5 : IntKind.u64.wrap 4573923408821661840 = 4573923408821661840 := by kernel_rfl
  go_enter Tryz.func208, Tryz.ntmps208
  go_wp2
  go_ret
  exact ⟨rfl, rfl⟩
def hexD (d : Nat) : Int := if d < 10 then 48 + (d : Int) else 87 + (d : Int)
def hexL (u : Nat) : List Int := if h : u < 16 then [hexD u] else hexL (u / 16) ++ [hexD (u % 16)]
termination_by u
abbrev digs : ByteArray := ⟨#[48, 49, 50, 51, 52, 53, 54, 55, 56, 57, 97, 98, 99, 100, 101, 102, 103, 104, 105, 106, 107, 108, 109, 110, 111, 112, 113, 114, 115, 116, 117, 118, 119, 120, 121, 122]⟩
theorem hexAt : ∀ (d : Nat) (h : d < 16) (hb : d < digs.size), ((digs[d]'hb).toNat : Int) = hexD d := by
  have key : ∀ d : Fin 16, ((digs[d.val]'(Nat.lt_trans d.isLt (by decide))).toNat : Int) = hexD d.val := by decide
  exact fun d h hb => key ⟨d, h⟩
theorem hexL_step {v : Nat} (h : 16 ≤ v) : hexL v = hexL (v / 16) ++ [hexD (v % 16)] := by
  conv => lhs; unfold hexL
  rw [dif_neg (by omega)]
theorem hexL_one {v : Nat} (h : v < 16) : hexL v = [hexD v] := by unfold hexL; rw [dif_pos h]
theorem hexD_oct {d : Nat} (h : d < 16) : 0 ≤ hexD d ∧ hexD d ≤ 255 := by unfold hexD; split <;> omega
theorem row_at {W : World} {g p : Nat} {arr : Array Value} {T : TypeId} {l : List Int} (h : W.heap[g]? = some (.cells arr T (0, 0))) (hl : l.length ≤ 1000) (ha : ∀ j, j < l.length → arr[p + j]? = some (.int .u8 (l.getD j 0))) : Kd.C (Kd.int .u8) W (some ⟨g, p, none⟩) l.length l := by
  refine Kd.C_of_reads (d := (0 : Int)) ⟨rfl, by omega, fun _ => ⟨_, rfl, fun j hj => ?_⟩⟩
  rw [Addr.add_lit]
  unfold World.cell?
  rw [h]
  exact ha j hj
theorem digs_put {arr : Array Value} {p : Nat} {ds : List Int} {x : Int} (hp : p ≤ 64) (hs : arr.size = 65) (hl : ds.length = 65 - (p + 1)) (h : ∀ j, j < ds.length → arr[p + 1 + j]? = some (.int .u8 (ds.getD j 0))) :
    (x :: ds).length = 65 - p ∧ (arr.setIfInBounds p (.int .u8 x)).size = 65 ∧ ∀ j, j < (x :: ds).length → (arr.setIfInBounds p (.int .u8 x))[p + j]? = some (.int .u8 ((x :: ds).getD j 0)) := by
  refine ⟨by rw [List.length_cons]; omega, by rw [Array.size_setIfInBounds]; exact hs, fun j hj => ?_⟩
  cases j with
  | zero => rw [Nat.add_zero, Array.getElem?_setIfInBounds_self_of_lt (by omega)]; rfl
  | succ j =>
    rw [Array.getElem?_setIfInBounds_ne (by omega), show p + (j + 1) = p + 1 + j by omega]
    rw [List.length_cons] at hj
    have := h j (by omega)
    rw [this]; simp
set_option maxHeartbeats 4000000 in
set_option maxRecDepth 100000 in
theorem fmtBits.calls (u : Nat) (hu : u < 4294967296) (w : World) (ht : w.cell? ⟨8, 15, none⟩ = some (.int .u8 4)) (h6 : 8 < w.heap.size) :
    Calls Tryz.prog 185 #[.slice none 0 0, .int .u64 (u : Int), .int .i64 16, .bool false, .bool false] w fun e w' => e = .returned (.tuple #[.slice none 0 0, .string (strOfNums (hexL u))]) ∧ Below w.heap.size w w' := by
  have HT := Aside0.mk ht
  have HU := Aside0.mk hu
  have H6 := Aside0.mk h6
  clear ht hu h6
  have n5 : IntKind.u64.wrap 16 = 16 := by kernel_rfl
  go_enter Tryz.func185, Tryz.ntmps185
  go_wp2_with (first
    | (go_at_call 208; refine (tz16.calls _ ((World.cell?_alloc_lt _ _ _ (World.block_lt_of_cell? w _ HT.out)).trans HT.out)).mono ?_; rintro e w1 ⟨rfl, rfl⟩)
    | go_in)
  have hz : (Tryz.zeroCells262 : Array Value).size = 65 := by kernel_rfl
  have hg0 := heap_alloc_new w (.cells Tryz.zeroCells262 262)
  obtain ⟨g, hg⟩ : ∃ g, g = w.heap.size := ⟨_, rfl⟩
  rw [← hg] at hg0 ⊢
  have HG := Aside0.mk hg
  go_loopg [1, 13] (u + 1) (fun kq s1 s13 wr => ∃ (i v : Nat) (arr : Array Value) (ds : List Int), s13 = .int .i64 (i : Int) ∧ s1 = .int .u64 (v : Int) ∧ Aside0 (v < kq ∧ 58 ≤ i ∧ i ≤ 65 ∧ v * 16 ^ (65 - i) ≤ u ∧ v ≤ u) ∧
    Aside0 (hexL u = hexL v ++ ds ∧ ds.length = 65 - i ∧ arr.size = 65 ∧ ∀ j, j < ds.length → arr[i + j]? = some (.int .u8 (ds.getD j 0))) ∧ Aside0 (wr.heap[g]? = some (.cells arr 262 (0, 0))) ∧ Aside0 (Below g w wr))
  case atStart => exact ⟨65, u, _, [], rfl, rfl, ⟨by omega, by omega, by omega, by simp, by omega⟩, ⟨by simp, rfl, hz, fun j h => by simp at h⟩, ⟨hg0⟩, ⟨by rw [hg]; exact (Below.refl _ w).alloc (Nat.le_refl _) _⟩⟩
  case round =>
    clear hz hg0 hg
    obtain ⟨i, v, arr, ds, rfl, rfl, HI, HD, HH, HB⟩ := hrel
    by_cases c1 : (16 : Int) ≤ (v : Int)
    · have e0 := eq_true c1
      have e1 : decide ((16 : Int) ≤ (v : Int)) = true := decide_eq_true c1
      have hv : v < 4294967296 := by have := HI.out; have := HU.out; omega
      have hi : 59 ≤ i := by
        have := HI.out
        have := HU.out
        rcases Nat.lt_or_ge i 59 with h | h
        · have h58 : i = 58 := by omega
          subst h58
          omega
        · exact h
      obtain ⟨p, rfl⟩ : ∃ p, i = p + 1 := ⟨i - 1, by omega⟩
      have hgl : g < wr.heap.size := (Array.getElem?_eq_some_iff.1 HH.out).1
      have hp64 : p ≤ 64 := by have := HI.out; omega
      have hx0 : ∃ x, wr.cell? ⟨g, p, none⟩ = some x := by
        have h1 : p < arr.size := by have := HD.out.2.2.1; omega
        exact ⟨arr[p], by unfold World.cell?; rw [HH.out]; simp [h1]⟩
      obtain ⟨x0, hx0⟩ := hx0
      have hf0 : wr.frozen? ⟨g, p, none⟩ = false := by unfold World.frozen?; rw [HH.out]; rfl
      have HP := Aside0.mk (And.intro hi hp64)
      obtain ⟨d, hd⟩ : ∃ d, d = v % 16 := ⟨_, rfl⟩
      have hd16 : d < 16 := by omega
      have HDD := Aside0.mk (And.intro hd hd16)
      have nA : bits BinOp.and IntKind.u64 (v : Int) 15 = (d : Int) := by
        have h := bits_and_u64_nat v 15 (by omega) (by omega)
        rw [show (15 : Nat) = 2 ^ 4 - 1 from rfl, Nat.and_two_pow_sub_one_eq_mod, ← hd] at h
        exact h
      have m1 : IntKind.i64.wrap (p : Int) = (p : Int) := Go.IntWalk.i64_in _ (by omega)
      have m2 : wrap64 (p : Int) = (p : Int) := w64 (by omega) (by omega)
      have m5 : ((p : Int) < 65) = True := eq_true (by omega)
      have m6 : ((d : Int) < 36) = True := eq_true (by omega)
      have m7 : (d < 36) = True := eq_true (by omega)
      have m8 : (p < 65) = True := eq_true (by omega)
      clear c1 hd hd16 hp64 hi hgl hv
      have HX := Aside0.mk (hexAt d HDD.out.2 (Nat.lt_trans HDD.out.2 (by decide)))
      have HV := Aside0.mk e1
      go_wp2
      go_roundg v
      case measure => exact HI.out.1
      case rel =>
        have h16 : 16 ≤ v := by have := of_decide_eq_true HV.out; omega
        obtain ⟨g1, g2, g3, g4⟩ := HD.out
        obtain ⟨q1, q2, q3⟩ := digs_put (x := hexD d) HP.out.2 g3 g2 g4
        refine ⟨p, v / 16, arr.setIfInBounds p (.int .u8 (hexD d)), hexD d :: ds, rfl, by simp, ⟨by omega, by have := HP.out; omega, by have := HP.out; omega, ?_, by have := HI.out; omega⟩, ⟨?_, q1, q2, q3⟩, ⟨?_⟩, ⟨HB.out.setCell (Nat.le_refl _) _⟩⟩
        · have h1 := HI.out.2.2.2.1
          rw [show 65 - p = (65 - (p + 1)) + 1 by have := HP.out; omega, Nat.pow_succ, Nat.mul_comm (16 ^ _) 16, ← Nat.mul_assoc]
          exact Nat.le_trans (Nat.mul_le_mul_right _ (Nat.div_mul_le_self v 16)) h1
        · rw [g1, hexL_step h16, HDD.out.1, List.append_assoc]; rfl
        · have := heap_setCell_same wr g p arr 262 (.int .u8 (hexD d)) HH.out
          rw [← HX.out] at this ⊢
          exact this
    · have e0 := eq_false c1
      have e1 : decide ((16 : Int) ≤ (v : Int)) = false := decide_eq_false c1
      obtain ⟨p, rfl⟩ : ∃ p, i = p + 1 := ⟨i - 1, by have := HI.out; omega⟩
      have hp64 : p ≤ 64 := by have := HI.out; omega
      have hx0 : ∃ x, wr.cell? ⟨g, p, none⟩ = some x := by
        have h1 : p < arr.size := by have := HD.out.2.2.1; omega
        exact ⟨arr[p], by unfold World.cell?; rw [HH.out]; simp [h1]⟩
      obtain ⟨x0, hx0⟩ := hx0
      have hf0 : wr.frozen? ⟨g, p, none⟩ = false := by unfold World.frozen?; rw [HH.out]; rfl
      have hv16 : v < 16 := by omega
      have HP := Aside0.mk hp64
      have HV := Aside0.mk hv16
      have HX := Aside0.mk (hexAt v HV.out (Nat.lt_trans HV.out (by decide)))
      have m1 : IntKind.i64.wrap (p : Int) = (p : Int) := Go.IntWalk.i64_in _ (by omega)
      have m2 : wrap64 (p : Int) = (p : Int) := w64 (by omega) (by omega)
      have m5 : ((p : Int) < 65) = True := eq_true (by omega)
      have m6 : ((v : Int) < 36) = True := eq_true (by omega)
      have m7 : (v < 36) = True := eq_true (by omega)
      have m8 : (p < 65) = True := eq_true (by omega)
      have m9 : ((p : Int) ≤ 65) = True := eq_true (by omega)
      have m10 : (65 = p) = False := eq_false (by omega)
      obtain ⟨g1, g2, g3, g4⟩ := HD.out
      obtain ⟨q1, q2, q3⟩ := digs_put (x := hexD v) hp64 g3 g2 g4
      have hh : (wr.setCell ⟨g, p, none⟩ (.int .u8 ((digs[v]'(Nat.lt_trans HV.out (by decide))).toNat : Int))).heap[g]? = some (.cells (arr.setIfInBounds p (.int .u8 (hexD v))) 262 (0, 0)) := by
        rw [HX.out]; exact heap_setCell_same wr g p arr 262 (.int .u8 (hexD v)) HH.out
      have hC := row_at hh (by rw [q1]; omega) q3
      rw [q1] at hC
      have hcv := Kd.C_string (P := Tryz.prog) (c := 65 - p) Tryz.underlying22 Tryz.underlying5 Tryz.underlying9 hC
      clear c1 hp64 hv16 g1 g2 g3 g4 q1 q2 q3 hC hh
      go_wp2
      go_ret2
      refine ⟨?_, by rw [← HG.out]; exact HB.out.setCell (p := ⟨g, p, none⟩) (Nat.le_refl _) _⟩
      rw [HD.out.1, hexL_one HV.out]
      rfl
theorem fmt16.calls (u : Nat) (hu : u < 4294967296) (w : World) (ht : w.cell? ⟨8, 15, none⟩ = some (.int .u8 4)) :
    Calls Tryz.prog 128 #[.int .i64 (u : Int), .int .i64 16] w fun e w' => e = .returned (.string (strOfNums (hexL u))) ∧ Below w.heap.size w w' := by
  have HT := Aside0.mk ht
  have HU := Aside0.mk hu
  have n1 : IntKind.u64.wrap (u : Int) = (u : Int) := by
    show (u : Int) % 18446744073709551616 = u
    omega
  have n2 : ((u : Int) < 0) = False := eq_false (by omega)
  have n3 : decide ((u : Int) < 0) = false := decide_eq_false (by omega)
  clear ht hu
  go_enter Tryz.func128, Tryz.ntmps128
  go_wp2_with (first
    | (go_at_call 185; refine (fmtBits.calls u HU.out _ HT.out (World.block_lt_of_cell? w _ HT.out)).mono ?_; rintro e w1 ⟨rfl, hb⟩; have HB := Aside0.mk hb; clear hb)
    | go_in)
  go_ret
  exact ⟨rfl, HB.out⟩
end Go.Proofs.YtbpdcbibooiimaaGreatDoor.Q
/- Texts parted by an octet. -/
namespace Go.Proofs.YtbpdcbibooiimaaGreatDoor.K
open Go.RowKit Go.Proofs.YtbpdcbibooiimaaGreatDoorW.PrintWords Go.Proofs.YtbpdcbibooiimaaGreatDoorW.PrintMore Go.Proofs.YtbpdcbibooiimaaGreatDoor.Q
def splP {α : Type} (p : α → Bool) : List α → List (List α)
  | [] => [[]]
  | x :: l => if p x then [] :: splP p l else match splP p l with
    | [] => [[x]]
    | q :: r => (x :: q) :: r
theorem splP_cons {α : Type} (p : α → Bool) (x : α) (l : List α) : splP p (x :: l) = if p x then [] :: splP p l else match splP p l with
    | [] => [[x]]
    | q :: r => (x :: q) :: r := rfl
theorem splP_ne {α : Type} (p : α → Bool) : ∀ l, splP p l ≠ []
  | [] => by simp [splP]
  | x :: l => by
    unfold splP
    split
    · simp
    · split <;> simp
theorem splP_hit {α : Type} {p : α → Bool} : ∀ {l a b : List α} {x : α}, l = a ++ x :: b → (∀ y ∈ a, p y = false) → p x = true → splP p l = a :: splP p b
  | _, [], b, x, rfl, _, hx => by simp [splP, hx]
  | _, y :: a, b, x, rfl, ha, hx => by
    have hy := ha y (by simp)
    have ih := splP_hit (l := a ++ x :: b) (a := a) rfl (fun z hz => ha z (by simp [hz])) hx
    rw [List.cons_append, splP_cons, hy, ih]
    rfl
theorem splP_miss {α : Type} {p : α → Bool} : ∀ {l : List α}, (∀ y ∈ l, p y = false) → splP p l = [l]
  | [], _ => rfl
  | y :: l, h => by
    have ih := splP_miss (l := l) (fun z hz => h z (by simp [hz]))
    rw [splP_cons, h y (by simp), ih]
    rfl
theorem splP_map {α β : Type} (f : α → β) {p : α → Bool} {q : β → Bool} : ∀ {l : List α}, (∀ x ∈ l, q (f x) = p x) → splP q (l.map f) = (splP p l).map (List.map f)
  | [], _ => rfl
  | x :: l, h => by
    have ih := splP_map f (l := l) (fun z hz => h z (by simp [hz]))
    rw [List.map_cons, splP_cons, splP_cons, h x (by simp), ih]
    cases hp : p x with
    | true => simp
    | false =>
      cases hs : splP p l with
      | nil => exact absurd hs (splP_ne p l)
      | cons a r => simp
theorem index_one {b : UInt8} : ∀ (l : List UInt8), (Lib.index l [b] = -1 ∧ ∀ y ∈ l, (y == b) = false) ∨ ∃ i : Nat, Lib.index l [b] = i ∧ i < l.length ∧ l = l.take i ++ b :: l.drop (i + 1) ∧ ∀ y ∈ l.take i, (y == b) = false
  | [] => .inl ⟨rfl, fun y h => by cases h⟩
  | x :: l => by
    by_cases hx : b = x
    · subst hx
      exact .inr ⟨0, by simp [Lib.index], by simp, by simp, by simp⟩
    · have hp : [b].isPrefixOf (x :: l) = false := by simp [List.isPrefixOf, hx]
      have hxb : (x == b) = false := beq_eq_false_iff_ne.mpr (fun e => hx e.symm)
      rcases index_one l with ⟨h1, h2⟩ | ⟨i, h1, h2, h3, h4⟩
      · refine .inl ⟨?_, fun y hy => ?_⟩
        · unfold Lib.index
          rw [hp, h1]
          rfl
        · rcases List.mem_cons.1 hy with rfl | hy
          · exact hxb
          · exact h2 y hy
      · refine .inr ⟨i + 1, ?_, by simpa using h2, by rw [List.take_succ_cons, List.drop_succ_cons, List.cons_append, ← h3], fun y hy => ?_⟩
        · unfold Lib.index
          rw [hp, h1]
          have : ((i : Int) == -1) = false := beq_eq_false_iff_ne.mpr (by omega)
          simp [this]
        · rw [List.take_succ_cons] at hy
          rcases List.mem_cons.1 hy with rfl | hy
          · exact hxb
          · exact h4 y hy
theorem split_one (b : UInt8) : ∀ (n : Nat) (l : List UInt8), l.length ≤ n → Lib.splitK [b] 0 (Lib.count l [b]) l = splP (· == b) l ∧ Lib.count l [b] + 1 = (splP (· == b) l).length := by
  intro n
  induction n with
  | zero =>
    intro l hl
    obtain rfl : l = [] := List.length_eq_zero_iff.1 (by omega)
    exact ⟨rfl, rfl⟩
  | succ n ih =>
    intro l hl
    rcases index_one (b := b) l with ⟨h1, h2⟩ | ⟨i, h1, h2, h3, h4⟩
    · rw [Lib.count_miss h1, splP_miss (p := (· == b)) h2]
      exact ⟨rfl, rfl⟩
    · rw [Lib.count_hit (by simp) h1, splP_hit (p := (· == b)) h3 h4 (by simp)]
      have hd : (l.drop (i + 1)).length ≤ n := by rw [List.length_drop]; omega
      obtain ⟨g1, g2⟩ := ih _ hd
      constructor
      · rw [show [b].length = 1 from rfl, Nat.add_comm 1]
        unfold Lib.splitK
        have hm : (Lib.index l [b] == -1) = false := by rw [h1]; exact beq_eq_false_iff_ne.mpr (by omega)
        rw [hm, h1]
        simp only [Bool.false_eq_true, if_false, Int.toNat_natCast, Nat.add_zero, List.length_cons, List.length_nil, Nat.zero_add]
        rw [g1]
      · show 1 + Lib.count (l.drop (i + 1)) [b] + 1 = _
        rw [List.length_cons, ← g2]; omega
def spl (c : Int) (l : List Int) : List (List Int) := splP (fun x => decide (x = c)) l
theorem spl_ne (c : Int) (l : List Int) : spl c l ≠ [] := splP_ne _ _
theorem spl_flat {α : Type} (p : α → Bool) : ∀ (l q : List α), q ∈ splP p l → ∀ x ∈ q, x ∈ l
  | [], q, h, x, hx => by
    have : q = [] := by simpa [splP] using h
    subst this
    cases hx
  | y :: l, q, h, x, hx => by
    unfold splP at h
    split at h
    · rcases List.mem_cons.1 h with rfl | h
      · cases hx
      · exact List.mem_cons_of_mem _ (spl_flat p l q h x hx)
    · split at h
      · rename_i e
        exact absurd e (splP_ne p l)
      · rename_i a r e
        rcases List.mem_cons.1 h with rfl | h
        · rcases List.mem_cons.1 hx with rfl | hx
          · simp
          · exact List.mem_cons_of_mem _ (spl_flat p l a (by rw [e]; simp) x hx)
        · exact List.mem_cons_of_mem _ (spl_flat p l q (by rw [e]; simp [h]) x hx)
theorem splP_sum {α : Type} (p : α → Bool) : ∀ l : List α, ((splP p l).map List.length).sum + (splP p l).length = l.length + 1
  | [] => rfl
  | x :: l => by
    have ih := splP_sum p l
    unfold splP
    split
    · simp at ih ⊢; omega
    · split
      · rename_i e
        exact absurd e (splP_ne p l)
      · rename_i a r e
        rw [e] at ih
        simp at ih ⊢; omega
theorem sum_mem : ∀ (L : List Nat) (n : Nat), n ∈ L → n ≤ L.sum
  | x :: L, n, h => by
    rw [List.sum_cons]
    rcases List.mem_cons.1 h with rfl | h
    · omega
    · have := sum_mem L n h; omega
theorem splP_len {α : Type} (p : α → Bool) (l q : List α) (h : q ∈ splP p l) : q.length ≤ l.length := by
  have h1 := splP_sum p l
  have h2 := sum_mem _ _ (List.mem_map_of_mem (f := List.length) h)
  have h3 := List.length_pos_iff.2 (splP_ne p l)
  omega
theorem splP_count {α : Type} (p : α → Bool) (l : List α) : (splP p l).length ≤ l.length + 1 := by
  have := splP_sum p l
  omega
end Go.Proofs.YtbpdcbibooiimaaGreatDoor.K
/- Lines and what is trimmed of them: words and small laws. -/
namespace Go.Proofs.YtbpdcbibooiimaaGreatDoor.K
open Go.RowKit Go.Proofs.YtbpdcbibooiimaaGreatDoorW.PrintWords Go.Proofs.YtbpdcbibooiimaaGreatDoorW.PrintMore Go.Proofs.YtbpdcbibooiimaaGreatDoor.Q
def blk (c : Int) : Bool := decide (c = 32 ∨ c = 9)
def trimR (l : List Int) : List Int := (l.reverse.dropWhile blk).reverse
def trimL (l : List Int) : List Int := trimR (l.dropWhile blk)
theorem trimR_snoc (l : List Int) (x : Int) : trimR (l ++ [x]) = if blk x then trimR l else l ++ [x] := by
  unfold trimR
  rw [List.reverse_append, List.reverse_singleton, List.singleton_append, List.dropWhile_cons]
  split
  · rfl
  · simp
def stripCR (l : List Int) : List Int := if l.getLast? = some 13 then l.dropLast else l
def bodyL (l : List Int) : List Int := (spl 35 l).headD []
theorem str_nilU {L : List Int} : (strOfNums L).toList = ([] : List UInt8) ↔ L = [] := by
  rw [ba_toList]
  constructor
  · intro h
    have h1 : (strOfNums L).data.toList.length = 0 := by rw [h]; rfl
    have h2 := size_str L
    have h3 : (strOfNums L).size = (strOfNums L).data.toList.length := by rw [Array.length_toList]; rfl
    exact List.length_eq_zero_iff.1 (by omega)
  · rintro rfl; rfl
theorem oct_spl {c : Int} {l q : List Int} (ho : Oct l) (h : q ∈ spl c l) : Oct q := fun x hx => ho x (spl_flat _ l q h x hx)
theorem len_spl {c : Int} {l q : List Int} (h : q ∈ spl c l) : q.length ≤ l.length := splP_len _ l q h
theorem oct_strip {l : List Int} (ho : Oct l) : Oct (stripCR l) := by
  unfold stripCR
  split
  · exact fun x hx => ho x (List.dropLast_subset l hx)
  · exact ho
theorem len_strip (l : List Int) : (stripCR l).length ≤ l.length := by
  unfold stripCR
  split
  · rw [List.length_dropLast]; omega
  · exact Nat.le_refl _
theorem body_mem (l : List Int) : bodyL l ∈ spl 35 l := by
  unfold bodyL
  cases h : spl 35 l with
  | nil => exact absurd h (spl_ne _ _)
  | cons a r => simp
theorem body_cons (l : List Int) : ∃ r, spl 35 l = bodyL l :: r := by
  unfold bodyL
  cases h : spl 35 l with
  | nil => exact absurd h (spl_ne _ _)
  | cons a r => exact ⟨r, rfl⟩
theorem rdOf_map2 (X : List (List Int)) (i : Nat) (h : i < X.length) : rdOf ByteArray.empty (X.map strOfNums) (i : Int) = strOfNums X[i] := by
  unfold rdOf
  rw [Int.toNat_natCast, List.getD_eq_getElem?_getD, List.getElem?_map, List.getElem?_eq_getElem h]; rfl
end Go.Proofs.YtbpdcbibooiimaaGreatDoor.K
/- The library's words on texts of octets. -/
namespace Go.Proofs.YtbpdcbibooiimaaGreatDoor.K
open Go.RowKit Go.Proofs.YtbpdcbibooiimaaGreatDoorW.PrintWords Go.Proofs.YtbpdcbibooiimaaGreatDoorW.PrintMore Go.Proofs.YtbpdcbibooiimaaGreatDoor.Q
theorem str_data (L : List Int) : (strOfNums L).data.toList = Lib.bytesOf L := by simp [strOfNums, Lib.bytesOf]
theorem str_of_bytes (L : List Int) : (⟨(Lib.bytesOf L).toArray⟩ : ByteArray) = strOfNums L := by simp [strOfNums, Lib.bytesOf]
theorem u8_lt {x : Int} (h : 0 ≤ x ∧ x ≤ 255) : (UInt8.ofNat x.toNat).toNat = x.toNat := by
  simp only [UInt8.toNat_ofNat']; omega
theorem u8_eq {x y : Int} (h : 0 ≤ x ∧ x ≤ 255) (k : 0 ≤ y ∧ y ≤ 255) : (UInt8.ofNat x.toNat == UInt8.ofNat y.toNat) = decide (x = y) := by
  rw [Bool.eq_iff_iff, beq_iff_eq, decide_eq_true_iff]
  constructor
  · intro e
    have := congrArg UInt8.toNat e
    rw [u8_lt h, u8_lt k] at this
    omega
  · rintro rfl; rfl
theorem dropWhile_bytes {p : UInt8 → Bool} {q : Int → Bool} : ∀ {L : List Int}, (∀ x ∈ L, p (UInt8.ofNat x.toNat) = q x) → (Lib.bytesOf L).dropWhile p = Lib.bytesOf (L.dropWhile q)
  | [], _ => rfl
  | x :: L, h => by
    show (UInt8.ofNat x.toNat :: Lib.bytesOf L).dropWhile p = _
    rw [List.dropWhile_cons, List.dropWhile_cons, h x (by simp)]
    split
    · exact dropWhile_bytes (fun y hy => h y (by simp [hy]))
    · rfl
theorem blk_bytes {x : Int} (h : 0 ≤ x ∧ x ≤ 255) : (([32, 9] : List UInt8).contains (UInt8.ofNat x.toNat)) = blk x := by
  have e1 := u8_eq h (y := 32) (by decide)
  have e2 := u8_eq h (y := 9) (by decide)
  have h1 : (([32, 9] : List UInt8).contains (UInt8.ofNat x.toNat)) = ((UInt8.ofNat x.toNat == UInt8.ofNat (32 : Int).toNat) || (UInt8.ofNat x.toNat == UInt8.ofNat (9 : Int).toNat)) := by
    show (List.elem _ [32, 9]) = _
    unfold List.elem
    split
    · rename_i e; rw [show UInt8.ofNat (32 : Int).toNat = 32 from rfl, e]; rfl
    · rename_i e
      rw [show UInt8.ofNat (32 : Int).toNat = 32 from rfl, e, show UInt8.ofNat (9 : Int).toNat = 9 from rfl]
      unfold List.elem
      split
      · rename_i e2; rw [e2]; rfl
      · rename_i e2; rw [e2]; rfl
  rw [h1, e1, e2]
  unfold blk
  simp
theorem bytes_rev (L : List Int) : Lib.bytesOf L.reverse = (Lib.bytesOf L).reverse := by unfold Lib.bytesOf; rw [List.map_reverse]
theorem trim_swap {α : Type} (p : α → Bool) (l : List α) : ((l.reverse.dropWhile p).reverse).dropWhile p = ((l.dropWhile p).reverse.dropWhile p).reverse := by
  induction l with
  | nil => rfl
  | cons x l ih =>
    by_cases hx : p x = true
    · rw [List.dropWhile_cons, if_pos hx, ← ih, List.reverse_cons, List.dropWhile_append]
      split
      · rename_i e
        have e' : l.reverse.dropWhile p = [] := by simpa using e
        rw [e', List.dropWhile_cons, if_pos hx]
        simp
      · rw [List.reverse_append, List.reverse_singleton, List.singleton_append, List.dropWhile_cons, if_pos hx]
    · rw [List.dropWhile_cons (xs := l), if_neg hx, List.reverse_cons, List.dropWhile_append]
      split
      · rename_i e
        have e' : l.reverse.dropWhile p = [] := by simpa using e
        rw [List.dropWhile_cons, if_neg hx, List.reverse_singleton, List.dropWhile_cons, if_neg hx]
      · rw [List.reverse_append, List.reverse_singleton, List.singleton_append, List.dropWhile_cons, if_neg hx]
theorem trim_lib {L : List Int} (ho : Oct L) : (⟨(Lib.trimS (strOfNums L).data.toList [32, 9]).toArray⟩ : ByteArray) = strOfNums (trimL L) := by
  rw [str_data]
  unfold Lib.trimS Lib.trimLeftS Lib.trimRightS
  rw [trim_swap]
  have h1 : (Lib.bytesOf L).dropWhile (([32, 9] : List UInt8).contains ·) = Lib.bytesOf (L.dropWhile blk) := dropWhile_bytes fun x hx => blk_bytes (ho x hx)
  rw [h1, ← bytes_rev]
  have h2 : (Lib.bytesOf (L.dropWhile blk).reverse).dropWhile (([32, 9] : List UInt8).contains ·) = Lib.bytesOf ((L.dropWhile blk).reverse.dropWhile blk) := dropWhile_bytes fun x hx => blk_bytes (ho x (List.dropWhile_subset _ (List.mem_reverse.1 hx)))
  rw [h2, ← bytes_rev, str_of_bytes]
  rfl
theorem spl_bytes {c : Int} (hc : 0 ≤ c ∧ c ≤ 255) {L : List Int} (ho : Oct L) : splP (· == UInt8.ofNat c.toNat) (Lib.bytesOf L) = (spl c L).map Lib.bytesOf :=
  splP_map (fun n : Int => UInt8.ofNat n.toNat) (p := fun x => decide (x = c)) (q := (· == UInt8.ofNat c.toNat)) fun x hx => u8_eq (ho x hx) hc
theorem cut_body {L : List Int} (ho : Oct L) : (⟨(Lib.cut (strOfNums L).data.toList [35]).1.toArray⟩ : ByteArray) = strOfNums (bodyL L) := by
  rw [str_data]
  have hs := spl_bytes (c := 35) (by decide) ho
  rw [show UInt8.ofNat (35 : Int).toNat = 35 from rfl] at hs
  have hb : Lib.bytesOf (bodyL L) = ((spl 35 L).map Lib.bytesOf).headD [] := by
    obtain ⟨r, hr⟩ := body_cons L
    rw [hr]; rfl
  unfold Lib.cut
  rcases index_one (b := 35) (Lib.bytesOf L) with ⟨h1, h2⟩ | ⟨i, h1, h2, h3, h4⟩
  · rw [if_neg (by rw [h1]; decide)]
    rw [splP_miss (p := (· == (35 : UInt8))) h2] at hs
    rw [← hs] at hb
    rw [← str_of_bytes, hb]; rfl
  · rw [if_pos (by rw [h1]; omega), h1, Int.toNat_natCast]
    rw [splP_hit (p := (· == (35 : UInt8))) h3 h4 rfl] at hs
    rw [← hs] at hb
    rw [← str_of_bytes, hb]; rfl
theorem strip_lib {L : List Int} (ho : Oct L) : (⟨(Lib.trimSuffix (strOfNums L).data.toList [13]).toArray⟩ : ByteArray) = strOfNums (stripCR L) := by
  rw [str_data]
  unfold Lib.trimSuffix Lib.hasSuffix stripCR
  rcases List.eq_nil_or_concat L with rfl | ⟨l, x, rfl⟩
  · rfl
  · rw [List.concat_eq_append] at ho ⊢
    have hb : Lib.bytesOf (l ++ [x]) = Lib.bytesOf l ++ [UInt8.ofNat x.toNat] := by simp [Lib.bytesOf]
    have hx := ho x (by simp)
    have e := u8_eq hx (y := 13) (by decide)
    rw [show UInt8.ofNat (13 : Int).toNat = 13 from rfl] at e
    have hsuf : ([13] : List UInt8).isSuffixOf (Lib.bytesOf (l ++ [x])) = decide (x = 13) := by
      rw [hb, ← e, Bool.eq_iff_iff, List.isSuffixOf_iff_suffix, beq_iff_eq]
      constructor
      · rintro ⟨t, ht⟩
        have := List.append_inj_right' ht rfl
        simpa using this.symm
      · intro h; exact ⟨_, by rw [h]⟩
    rw [hsuf]
    by_cases h13 : x = 13
    · rw [if_pos (decide_eq_true h13), if_pos (by simp [h13]), ← str_of_bytes, hb]
      simp
    · rw [if_neg (by simpa using h13), if_neg (by simpa using h13), str_of_bytes]
theorem data_inj {s t : ByteArray} (h : s.data.toList = t.data.toList) : s = t := toList_inj (by rw [ba_toList, ba_toList, h])
theorem splitB_is (c : Nat) (hc : c ≤ 255) {L : List Int} (ho : Oct L) : Lib.splitB ⟨#[UInt8.ofNat c]⟩ 0 (Lib.countB (strOfNums L) ⟨#[UInt8.ofNat c]⟩) (strOfNums L) = (spl (c : Int) L).map strOfNums ∧ Lib.countB (strOfNums L) ⟨#[UInt8.ofNat c]⟩ + 1 = (spl (c : Int) L).length := by
  have hcb : Lib.countB (strOfNums L) ⟨#[UInt8.ofNat c]⟩ = Lib.count (Lib.bytesOf L) [UInt8.ofNat c] := by
    show Lib.count (strOfNums L).data.toList [UInt8.ofNat c] = _
    rw [str_data]
  obtain ⟨h1, h2⟩ := split_one (UInt8.ofNat c) _ (Lib.bytesOf L) (Nat.le_refl _)
  have hs := spl_bytes (c := (c : Int)) (by omega) ho
  rw [Int.toNat_natCast] at hs
  constructor
  · have hd := Lib.splitB_data ⟨#[UInt8.ofNat c]⟩ 0 (Lib.countB (strOfNums L) ⟨#[UInt8.ofNat c]⟩) (strOfNums L)
    rw [hcb, str_data] at hd
    rw [hcb]
    rw [show (⟨#[UInt8.ofNat c]⟩ : ByteArray).data.toList = [UInt8.ofNat c] from rfl, h1, hs] at hd
    have : (spl (c : Int) L).map Lib.bytesOf = ((spl (c : Int) L).map strOfNums).map (·.data.toList) := by
      rw [List.map_map]; exact List.map_congr_left fun x _ => (str_data x).symm
    rw [this] at hd
    exact List.map_inj_right (f := fun (s : ByteArray) => s.data.toList) (fun a b h => data_inj h) |>.1 hd
  · rw [hcb, h2, hs, List.length_map]
def upI (x : Int) : Int := if 97 ≤ x ∧ x ≤ 122 then x - 32 else x
theorem upper_lib {L : List Int} (ho : ∀ x ∈ L, 0 ≤ x ∧ x ≤ 127) : (⟨(Lib.toUpperA (strOfNums L).data.toList).toArray⟩ : ByteArray) = strOfNums (L.map upI) := by
  rw [str_data, ← str_of_bytes]
  have : Lib.toUpperA (Lib.bytesOf L) = Lib.bytesOf (L.map upI) := by
    unfold Lib.toUpperA Lib.bytesOf
    rw [List.map_map, List.map_map]
    refine List.map_congr_left fun x hx => ?_
    obtain ⟨n, rfl⟩ := Int.eq_ofNat_of_zero_le (ho x hx).1
    have hn : n < 128 := by have := (ho _ hx).2; omega
    have key : ∀ k : Fin 128, Lib.upperB (UInt8.ofNat ((k.val : Int)).toNat) = UInt8.ofNat (upI (k.val : Int)).toNat := by decide +kernel
    exact key ⟨n, hn⟩
  rw [this]
theorem repeat_lib (n : Nat) : (⟨(Lib.repeatL (⟨#[48]⟩ : ByteArray).data.toList n).toArray⟩ : ByteArray) = strOfNums (List.replicate n 48) := by
  rw [← str_of_bytes]
  have : Lib.repeatL (⟨#[48]⟩ : ByteArray).data.toList n = Lib.bytesOf (List.replicate n 48) := by
    induction n with
    | zero => rfl
    | succ n ih => rw [List.replicate_succ]; show _ ++ Lib.repeatL _ n = _ :: Lib.bytesOf _; rw [ih]; rfl
  rw [this]
end Go.Proofs.YtbpdcbibooiimaaGreatDoor.K
/- Layer 2: what the library's functions tell of texts of octets; text. -/
namespace Go.Proofs.YtbpdcbibooiimaaGreatDoor.Q
open Go.RowKit Go.Shelf Go.Proofs.YtbpdcbibooiimaaGreatDoorW.PrintWords Go.Proofs.YtbpdcbibooiimaaGreatDoorW.PrintLast Go.Proofs.YtbpdcbibooiimaaGreatDoorW.PrintMore Go.Proofs.YtbpdcbibooiimaaGreatDoor.K
def EnvF (w : World) : Prop := (∃ m : Int, w.cell? ⟨0, 0, none⟩ = some (.int .i64 m)) ∧ w.cell? ⟨8, 15, none⟩ = some (.int .u8 4)
theorem EnvF.below {w w' : World} (h : EnvF w) (hb : Below w.heap.size w w') : EnvF w' := by
  obtain ⟨⟨m, h1⟩, h2⟩ := h
  exact ⟨⟨m, (hb.cell (World.block_lt_of_cell? w _ h1)).trans h1⟩, (hb.cell (World.block_lt_of_cell? w _ h2)).trans h2⟩
theorem sTrim.calls (L : List Int) (ho : Oct L) (hl : L.length ≤ 1000000) (w : World) : Calls Tryz.prog 96 #[.string (strOfNums L), .string ⟨#[32, 9]⟩] w fun e w' => e = .returned (.string (strOfNums (trimL L))) ∧ Below w.heap.size w w' := by
  refine (Any.strings_Trim_laid Tryz.lays160 (by kernel_rfl) (strOfNums L) ⟨#[32, 9]⟩ w (by rw [size_str]; omega) (by decide) (fun j b hj => ?_)).mono ?_
  · have : b ∈ ([32, 9] : List UInt8) := List.mem_of_getElem? hj
    simp only [List.mem_cons, List.not_mem_nil, or_false] at this
    rcases this with rfl | rfl <;> decide
  · rintro e w' ⟨rfl, hb⟩
    exact ⟨by rw [← trim_lib ho], hb⟩
theorem sStrip.calls (L : List Int) (ho : Oct L) (hl : L.length ≤ 1000000) (w : World) : Calls Tryz.prog 71 #[.string (strOfNums L), .string ⟨#[13]⟩] w fun e w' => e = .returned (.string (strOfNums (stripCR L))) ∧ w' = w := by
  refine (Any.strings_TrimSuffix Tryz.lays102 (strOfNums L) ⟨#[13]⟩ w (by rw [size_str]; omega)).mono ?_
  rintro e w' ⟨rfl, rfl⟩
  exact ⟨by rw [← strip_lib ho], rfl⟩
theorem sCut.calls (L : List Int) (ho : Oct L) (hl : L.length ≤ 1000000) (w : World) (hE : EnvF w) : Calls Tryz.prog 95 #[.string (strOfNums L), .string ⟨#[35]⟩] w fun e w' => ∃ s b, e = .returned (.tuple #[.string (strOfNums (bodyL L)), .string s, .bool b]) ∧ Below w.heap.size w w' := by
  obtain ⟨⟨m, hm⟩, _⟩ := hE
  refine (Any.strings_Cut Tryz.lays145 (strOfNums L) ⟨#[35]⟩ m w (by rw [size_str]; omega) hm).mono ?_
  rintro e w' ⟨rfl, n, rfl⟩
  exact ⟨_, _, by rw [← cut_body ho], pw_below_drewN (Below.refl _ _) n⟩
theorem sSplit.calls (c : Nat) (hc : c ≤ 255) (L : List Int) (ho : Oct L) (hl : L.length ≤ 1000000) (w : World) (hE : EnvF w) : Calls Tryz.prog 67 #[.string (strOfNums L), .string ⟨#[UInt8.ofNat c]⟩] w fun e w' => e = .returned (.slice (some ⟨w.heap.size, 0, none⟩) (spl (c : Int) L).length (spl (c : Int) L).length) ∧ w' = w.alloc (.cells ((spl (c : Int) L).map (fun p => .string (strOfNums p))).toArray 9) := by
  obtain ⟨⟨m, hm⟩, _⟩ := hE
  refine (Any.strings_Split Tryz.lays146 (by kernel_rfl) (strOfNums L) ⟨#[UInt8.ofNat c]⟩ m w (by rw [size_str]; omega) hm (Nat.le_refl 1)).mono ?_
  obtain ⟨h1, h2⟩ := splitB_is c hc ho
  rintro e w' ⟨rfl, rfl⟩
  rw [h1, h2, List.map_map]
  exact ⟨rfl, rfl⟩
def hexT (c : Nat) : List Int := List.replicate (4 - (hexL c).length) 48 ++ (hexL c).map upI
theorem hexL_small : ∀ (n v : Nat), v < 16 ^ n → 1 ≤ n → 1 ≤ (hexL v).length ∧ (hexL v).length ≤ n ∧ ∀ x ∈ hexL v, 0 ≤ x ∧ x ≤ 127
  | 0, v, _, h => by omega
  | n + 1, v, hv, _ => by
    by_cases h : v < 16
    · rw [hexL_one h]
      refine ⟨by simp, by simp, fun x hx => ?_⟩
      obtain rfl : x = hexD v := by simpa using hx
      unfold hexD
      split <;> omega
    · have hn : 1 ≤ n := by
        rcases Nat.eq_zero_or_pos n with rfl | hn
        · simp at hv; omega
        · exact hn
      have h2 : v / 16 < 16 ^ n := by rw [Nat.pow_succ] at hv; omega
      obtain ⟨g1, g2, g3⟩ := hexL_small n (v / 16) h2 hn
      rw [hexL_step (by omega)]
      refine ⟨by simp, by simp; omega, fun x hx => ?_⟩
      rcases List.mem_append.1 hx with hx | hx
      · exact g3 x hx
      · obtain rfl : x = hexD (v % 16) := by simpa using hx
        unfold hexD
        split <;> omega
set_option maxHeartbeats 2000000 in
set_option maxRecDepth 100000 in
theorem text.calls (c : Nat) (hc : c ≤ 1114111) (w : World) (hE : EnvF w) : Calls Tryz.prog 102 #[.int .i64 (c : Int)] w fun e w' => e = .returned (.string (strOfNums (hexT c))) ∧ Below w.heap.size w w' := by
  obtain ⟨h1, h2, h3⟩ := hexL_small 6 c (by omega) (by omega)
  obtain ⟨n, hn⟩ : ∃ n, n = (hexL c).length := ⟨_, rfl⟩
  have hsz : (strOfNums ((hexL c).map upI)).size = n := by rw [size_str, List.length_map, hn]
  have HE := Aside0.mk hE
  have HC := Aside0.mk hc
  have HL := Aside0.mk (And.intro h1 (And.intro h2 h3))
  have HN := Aside0.mk hn
  have m1 : IntKind.i64.wrap (4 - (n : Int)) = 4 - (n : Int) := Go.IntWalk.i64_in _ (by omega)
  have m2 : wrap64 (4 - (n : Int)) = 4 - (n : Int) := w64 (by omega) (by omega)
  have m3 : max 0 (4 - (n : Int)) = ((4 - n : Nat) : Int) := by omega
  have m4 : (strOfNums (List.replicate (4 - n) 48)).size = 4 - n := by rw [size_str, List.length_replicate]
  have m5 : (9223372036854775807 < 4 - n + n) = False := eq_false (by omega)
  clear hE hc h1 h2 h3 hn
  go_enter Tryz.func102, Tryz.ntmps102
  go_wp2_with (first
    | (go_at_call 128; refine (fmt16.calls c (by have := HC.out; omega) _ HE.out.2).mono ?_; rintro e w1 ⟨rfl, hb⟩; have HB := Aside0.mk hb; clear hb)
    | (go_at_call 127; refine (Any.strings_ToUpper_ascii Tryz.lays158 Tryz.bldX158 (strOfNums (hexL c)) _ (by rw [size_str]; have := HL.out; omega) (fun j b hj => by rw [str_data] at hj; obtain ⟨x, hx, rfl⟩ := List.mem_map.1 (List.mem_of_getElem? hj); have := HL.out.2.2 x hx; rw [u8_lt (by omega)]; omega)).mono ?_; rintro e w2 ⟨rfl, hb⟩; rw [upper_lib HL.out.2.2]; have HB2 := Aside0.mk hb; clear hb)
    | (go_at_call 129; refine (Any.strings_Repeat Tryz.lays105 Tryz.bldX105 ⟨#[48]⟩ (4 - n) _ (by omega) (by show 1 * (4 - n) ≤ _; omega)).mono ?_; rintro e w3 ⟨rfl, hb⟩; rw [repeat_lib]; have HB3 := Aside0.mk hb; clear hb))
  go_ret
  refine ⟨?_, HB.out.trans ((HB2.out.mono HB.out.size).trans (HB3.out.mono (Nat.le_trans HB.out.size HB2.out.size)))⟩
  rw [str_append, HN.out]
  rfl
end Go.Proofs.YtbpdcbibooiimaaGreatDoor.Q
/- What a row gives of the world: the program's variables (the shape: bytealg.MaxLen holds some int; the laid table of math/bits). -/
namespace Go.Proofs.YtbpdcbibooiimaaGreatDoor.Q
open Go.RowKit
theorem mapM_at2 {α β : Type} {f : α → Option β} : ∀ {l : List α} {ys : List β}, l.mapM f = some ys → ∀ (i : Nat) (a : α), l[i]? = some a → ∃ y, f a = some y ∧ ys[i]? = some y
  | [], ys, h, i, a, ha => by simp at ha
  | x :: l, ys, h, i, a, ha => by
    simp only [List.mapM_cons, Option.bind_eq_bind, Option.bind_eq_some_iff, Option.pure_def, Option.some.injEq] at h
    obtain ⟨y, hy, zs, hz, rfl⟩ := h
    cases i with
    | zero => simp only [List.getElem?_cons_zero, Option.some.injEq] at ha; subst ha; exact ⟨y, hy, rfl⟩
    | succ i => simp only [List.getElem?_cons_succ] at ha ⊢; exact mapM_at2 hz i a ha
theorem array_int_at {H : Type} {enc : TypeId × Value → H} {P : Program} {w : World} {base : Nat} {sp : Nat → Bool} {held : Bool} {fuel : Nat} {t e : TypeId} {n : Nat} {k : IntKind} {cs : List Value} {ds : List (DataW H)} {p : List MemPlace}
    (ht : P.underlying t = some (.array n e)) (he : P.underlying e = some (.int k)) (hc : P.cellsOf e = 1) (hd : DataW.trod enc P w base sp held fuel t cs = some (.agg ds, p)) (i : Nat) (m : Int) (hi : i < n) (hm : ds[i]? = some (.lit (.int k m))) : cs[i]? = some (.int k m) := by
  cases fuel with
  | zero => simp [DataW.trod] at hd
  | succ fuel =>
    simp only [DataW.trod, ht, hc] at hd
    split at hd
    · rw [Option.map_eq_some_iff] at hd
      obtain ⟨xs, hx, hxe⟩ := hd
      simp only [Prod.mk.injEq, DataW.agg.injEq] at hxe
      obtain ⟨rfl, rfl⟩ := hxe
      obtain ⟨y, hy, hyi⟩ := mapM_at2 hx i i (by simp [hi])
      rw [List.getElem?_map, hyi] at hm
      simp only [Option.map_some, Option.some.injEq] at hm
      rw [Nat.mul_one] at hy
      cases hcs : cs[i]? with
      | none =>
        rw [List.getElem?_eq_none_iff] at hcs
        rw [List.drop_eq_nil_of_le hcs] at hy
        cases fuel <;> simp [DataW.trod, he] at hy
      | some c =>
        have hlt := (List.getElem?_eq_some_iff.1 hcs).1
        have hdr : (cs.drop i).take 1 = [c] := by
          rw [List.drop_eq_getElem_cons hlt, List.take_succ_cons, List.take_zero, (List.getElem?_eq_some_iff.1 hcs).2]
        rw [hdr] at hy
        cases fuel with
        | zero => simp [DataW.trod] at hy
        | succ fuel =>
          cases c <;> simp [DataW.trod, he] at hy
          obtain ⟨⟨rfl, _⟩, rfl⟩ := hy
          simp only [DataW.lit.injEq, Lit.int.injEq] at hm
          rw [hm.2]
    · cases hd
theorem laidVars_mem {P : Program} {w : World} {n : String} {d : DataW Unit} : ∀ {l : List (String × DataW Unit)} {ps : List MemPlace}, DataW.LaidVars P w l ps → (n, d) ∈ l →
    ∃ g t cs fuel p, P.globalNamed n = some g ∧ (P.globals[g]?).map (·.type) = some t ∧ w.var? P n = some cs ∧ DataW.trod (fun _ => ()) P w 0 (fun _ => true) false fuel t cs.toList = some (d, p)
  | [], ps, h, hm => by cases hm
  | (n', d') :: l, ps, h, hm => by
    obtain ⟨g, t, cs, fuel, p, q, h1, h2, h3, h4, h5, h6⟩ := h
    rcases List.mem_cons.1 hm with e | hm
    · simp only [Prod.mk.injEq] at e
      obtain ⟨rfl, rfl⟩ := e
      exact ⟨g, t, cs, fuel, p, h1, h2, h3, h4⟩
    · exact laidVars_mem h5 hm
theorem env_of_laid {W : World} {l : List (String × DataW Unit)} (hm : ("math/bits.deBruijn64tab", Rows.laid_math_bits_deBruijn64tab) ∈ l.filter (fun x => x.2.handleName?.isNone)) (hsh : W.ShapedOpen Tryz.prog) (hL : laidMetH Tryz.prog l W) : EnvF W := by
  refine ⟨?_, ?_⟩
  · exact cell_of_shapedOpen_int (t := 3) (zero := #[.int .i64 0]) hsh (of_decide_eq_true (by kernel_rfl)) (by kernel_rfl) (by kernel_rfl) (by kernel_rfl) (by kernel_rfl) Tryz.underlying3
  · have hL' := (laidMetH_iff.1 hL).1
    obtain ⟨ps, hv, -, -⟩ := hL'
    obtain ⟨g, t, cs, fuel, p, h1, h2, h3, h4⟩ := laidVars_mem hv hm
    obtain rfl : 8 = g := Option.some.inj ((show Tryz.prog.globalNamed "math/bits.deBruijn64tab" = some 8 by kernel_rfl).symm.trans h1)
    obtain rfl : 283 = t := Option.some.inj ((show (Tryz.prog.globals[8]?).map (·.type) = some 283 by kernel_rfl).symm.trans h2)
    have hd15 : ∀ ds : List (DataW Unit), Rows.laid_math_bits_deBruijn64tab = .agg ds → ds[15]? = some (.lit (.int .u8 4)) := fun ds h => by
      unfold Rows.laid_math_bits_deBruijn64tab at h
      injection h with h
      subst h
      rfl
    obtain ⟨ds, hds⟩ : ∃ ds : List (DataW Unit), Rows.laid_math_bits_deBruijn64tab = .agg ds := ⟨_, rfl⟩
    rw [hds] at h4
    have h5 := array_int_at (n := 64) (e := 5) (k := .u8) Tryz.underlying283 Tryz.underlying5 (by kernel_rfl) h4 15 4 (by omega) (hd15 ds hds)
    unfold World.var? at h3
    rw [h1] at h3
    simp only [Option.bind_some] at h3
    unfold World.cell?
    split at h3
    · rename_i cs' ty fr hh
      obtain rfl := Option.some.inj h3
      simp only [hh]
      rw [Array.getElem?_toList] at h5
      exact h5
    · cases h3
theorem returns_shaped_and {H : Type} {enc : TypeId × Value → H} {C : Checked} {os : Os} {f : FuncId} {fn : Func} {s : ChangeSpec} {conds : List PathCond} {apart fresh handsOn again : Bool} {X : World → Prop}
    (hX : ∀ w w' : World, w.heap = w'.heap → X w → X w') (own : ownKnob C.prog.godebug = none) (started : os.Started) (noInit : C.prog.inits.idxOf? f = none) (hfn : C.prog.funcs[f]? = some fn)
    (witness : ∃ (w : World) (tape : Tape) (i : Input), w.os = os ∧ (w.forCall tape i).Shaped C.prog ∧ i.vars = [] ∧ Input.okWide C.prog (w.forCall tape i) .any w.heap.size f i ∧
      ((s.pre enc C.prog fn conds apart (w.forCall tape i).memory i.args ∧ X (w.forCall tape i).memory) ∧ sizedMet enc C.prog fn (OpenSpec.ofChange s) apart (w.forCall tape i).memory i.args) ∧ ({} : Assume).holds C.prog (lone (Frame.enter C.prog f i.args .normal) [] (w.forCall tape i)))
    (walk : ∀ (W : World) (base : Nat) (args : Array Value) (ds gs : List (DataW H)) (before : List MemPlace), W.ShapedOpen C.prog → X W →
      (∀ (j : Nat) t v, fn.params[j]? = some t → args[j]? = some v → Value.okWide C.prog W .any base t v) → DataW.Whole enc C.prog fn.params.toList s.vars apart W args.toList ds gs before →
      (DataW.weightsEach C.prog (fn.params.toList ++ s.plain.varTypes C.prog) (ds ++ gs)).all (· ≤ reachBytes) = true →
      Calls C.prog f args W fun e W' => ∃ v, e = .returned v ∧ s.post enc C.prog fn apart fresh handsOn again W args v W') :
    ReturnsInHanded {} C os f .any (fun w args => (s.pre enc C.prog fn conds apart w args ∧ X w) ∧ sizedMet enc C.prog fn (OpenSpec.ofChange s) apart w args) (s.post enc C.prog fn apart fresh handsOn again) := by
  refine returnsInHanded_of_calls own started noInit witness fun w tape i _ hs _ hok hp _ => ?_
  have hf := hok.2.2.2
  obtain ⟨fn', e1, hrest⟩ := hf
  have e2 : fn' = fn := Option.some.inj (e1.symm.trans hfn)
  subst e2
  have hv := hrest.2.2.2.2
  obtain ⟨⟨⟨ds, gs, bf, hw, -⟩, hx⟩, hz⟩ := hp
  have h := walk (w.forCall tape i) w.heap.size i.args ds gs bf hs (hX _ _ (by rfl) hx) hv (DataW.Whole.of_heap (w' := w.forCall tape i) (by rfl) hw) (hz.weights hw)
  exact h.mono fun e W' hq => by
    obtain ⟨v, rfl, hpost⟩ := hq
    exact ChangeSpec.post_blind hpost
section
open Go.ChangeShapes Go.WideShapes Go.Proofs.YtbpdcbibooiimaaGreatDoorW.PrintWords Go.Proofs.YtbpdcbibooiimaaGreatDoorW.PrintLast Go.Proofs.YtbpdcbibooiimaaGreatDoorW.PrintMore
theorem ints_of_trod1 {H : Type} {enc : TypeId × Value → H} {P : Program} {w : World} {sp : Nat → Bool} {held : Bool} {t e : TypeId} {k : IntKind} {fuel : Nat} {cs : List Value} {x : DataW H × List MemPlace} (ht : P.underlying t = some (.slice e)) (he : P.underlying e = some (.int k)) (hc : P.cellsOf e = 1)
    (h : DataW.trod enc P w 0 sp held fuel t cs = some x) : ∃ (A : Option Addr) (c : Nat) (l : List Int), cs = [.slice A l.length c] ∧ l.length ≤ c ∧ Kd.C (Kd.int k) w A l.length l ∧ ∀ n ∈ l, (Lit.int k n).wf = true := by
  rcases open_ints ht he hc h with ⟨rfl, _⟩ | ⟨a, len, cap, zs, rfl, _, hl, hm, hz, _, hcell, hwf⟩
  · exact ⟨none, 0, [], rfl, Nat.le_refl _, ⟨rfl, by simp, fun h => by simp at h⟩, fun n hn => by cases hn⟩
  · have hlen : (zs.take len).length = len := by
      rw [List.length_take]
      split at hz <;> omega
    refine ⟨some a, cap, zs.take len, by rw [hlen], by rw [hlen]; exact hl, ?_, fun n hn => hwf n (List.mem_of_mem_take hn)⟩
    rw [hlen]
    refine Kd.C_of_reads (d := (0 : Int)) ⟨hlen, by unfold maxLen at hm; omega, fun _ => ⟨a, rfl, fun j hj => ?_⟩⟩
    have hj2 : j < zs.length := by split at hz <;> omega
    rw [hcell j hj2]
    simp [List.getD_eq_getElem?_getD, hj]
end
end Go.Proofs.YtbpdcbibooiimaaGreatDoor.Q
/- What an argument reads as, by kinds: rows of anything. -/
namespace Go.Proofs.YtbpdcbibooiimaaGreatDoor.Q
open Go.ChangeShapes Go.WideShapes Go.RowKit Go.Proofs.YtbpdcbibooiimaaGreatDoorW.PrintWords Go.Proofs.YtbpdcbibooiimaaGreatDoorW.PrintLast Go.Proofs.YtbpdcbibooiimaaGreatDoorW.PrintMore
def Opens {H α : Type} (enc : TypeId × Value → H) (P : Program) (w : World) (t : TypeId) (d : Kd α) (q : α → Prop) : Prop :=
  ∀ (sp : Nat → Bool) (held : Bool) (fuel : Nat) (cs : List Value) (x : DataW H × List MemPlace), DataW.trod enc P w 0 sp held fuel t cs = some x → ∃ a, d.K w a cs ∧ q a
section
variable {H : Type} {enc : TypeId × Value → H} {P : Program} {w : World}
theorem opens_int {t : TypeId} {k : IntKind} (ht : P.underlying t = some (.int k)) : Opens enc P w t (Kd.int k) (fun n => (Lit.int k n).wf = true) := fun sp held fuel cs x h => by
  obtain ⟨n, rfl, _, hw⟩ := DataW.trod_int ht h
  exact ⟨n, rfl, hw⟩
theorem opens_bool {t : TypeId} (ht : P.underlying t = some .bool) : Opens enc P w t Kd.bool (fun _ => True) := fun sp held fuel cs x h => by
  obtain ⟨n, rfl, _⟩ := DataW.trod_bool ht h
  exact ⟨n, rfl, trivial⟩
theorem opens_string {t : TypeId} (ht : P.underlying t = some .string) : Opens enc P w t Kd.string (fun s => s.size ≤ 9223372036854775807) := fun sp held fuel cs x h => by
  obtain ⟨s, rfl, _, hs⟩ := DataW.trod_string ht h
  exact ⟨s, rfl, by unfold maxLen at hs; omega⟩
theorem opens_slice {α : Type} {t e : TypeId} {d : Kd α} {q : α → Prop} (ht : P.underlying t = some (.slice e)) (hc : P.cellsOf e = d.sz) (he : Opens enc P w e d q) : Opens enc P w t (Kd.slice e d) (fun l => ∀ a ∈ l, q a) := fun sp held fuel cs x h => by
  rcases DataW.trod_slice ht h with ⟨rfl, _⟩ | ⟨a, len, cap, elems, rest, m, _, rfl, _, _, hl, hm, hlen, hel, _⟩
  · exact ⟨[], ⟨none, 0, rfl, Nat.le_refl _, ⟨rfl, by simp, fun h => by simp at h⟩⟩, fun a ha => by cases ha⟩
  · have each : ∀ i, i < len → ∃ (y : α) (c : List Value), c.length = d.sz ∧ d.K w y c ∧ q y ∧ ∀ j u, c[j]? = some u → w.cell? (a.add (i * d.sz + j)) = some u := by
      intro i hi
      have hE := hel i hi
      rw [List.getElem?_eq_getElem (by omega : i < elems.length), Option.bind_eq_some_iff] at hE
      obtain ⟨cs', hcs', hy⟩ := hE
      obtain ⟨y, h1, h2⟩ := he _ _ _ _ _ hy
      obtain ⟨_, h3, h4⟩ := World.cells?_some hcs'
      rw [hc] at h3 h4
      refine ⟨y, cs', h3, h1, h2, fun j u hj => ?_⟩
      have hjl : j < d.sz := by rw [← h3]; exact (List.getElem?_eq_some_iff.1 hj).1
      have := h4 j hjl
      rw [Addr.add_add] at this
      rw [this, hj]
    have pick : ∀ m, m ≤ len → ∃ ls : List α, ls.length = m ∧ (∀ i y, ls[i]? = some y → ∃ c : List Value, c.length = d.sz ∧ d.K w y c ∧ q y ∧ ∀ j u, c[j]? = some u → w.cell? (a.add (i * d.sz + j)) = some u) := by
      intro m
      induction m with
      | zero => intro _; exact ⟨[], rfl, fun i l h => by simp at h⟩
      | succ m ih =>
        intro hm'
        obtain ⟨ls, g1, g2⟩ := ih (by omega)
        obtain ⟨y, c, q1, q2, q3, q4⟩ := each m (by omega)
        refine ⟨ls ++ [y], by simp [g1], fun i l' hi => ?_⟩
        by_cases hlt : i < ls.length
        · rw [List.getElem?_append_left hlt] at hi
          exact g2 i l' hi
        · have him : i = m := by
            have := (List.getElem?_eq_some_iff.1 hi).1
            simp at this
            omega
          subst him
          rw [List.getElem?_append_right (by omega), g1, Nat.sub_self] at hi
          simp at hi
          subst hi
          exact ⟨c, q1, q2, q3, q4⟩
    obtain ⟨ls, g1, g2⟩ := pick len (Nat.le_refl _)
    refine ⟨ls, ⟨some a, cap, by rw [g1], by omega, ⟨rfl, by unfold maxLen at hm; omega, fun _ => ⟨a, rfl, fun j p hj => ?_⟩⟩⟩, fun y hy => ?_⟩
    · obtain ⟨c, q1, q2, _, q4⟩ := g2 j p hj
      exact ⟨c, q1, q2, q4⟩
    · obtain ⟨i, hi⟩ := List.getElem?_of_mem hy
      exact (g2 i y hi).choose_spec.2.2.1
theorem opens_arg {α : Type} {t e : TypeId} {d : Kd α} {q : α → Prop} (ht : P.underlying t = some (.slice e)) (hc : P.cellsOf e = d.sz) (he : Opens enc P w e d q) {sp : Nat → Bool} {held : Bool} {A : Option Addr} {n c : Nat} {x : DataW H} {ps : List MemPlace} (h : DataW.Trod enc P w 0 sp held t (.slice A n c) x ps) :
    ∃ ls : List α, ls.length = n ∧ n ≤ c ∧ Kd.C d w A n ls ∧ ∀ a ∈ ls, q a := by
  obtain ⟨fuel, hf⟩ := h
  obtain ⟨ls, ⟨B, c', h1, h2, h3⟩, h4⟩ := opens_slice ht hc he _ _ _ _ _ hf
  simp only [Value.cells, List.cons.injEq, Value.slice.injEq, and_true] at h1
  obtain ⟨rfl, rfl, rfl⟩ := h1
  exact ⟨ls, rfl, h2, h3, h4⟩
theorem opens_one {α : Type} {t : TypeId} {d : Kd α} {q : α → Prop} (he : Opens enc P w t d q) {sp : Nat → Bool} {held : Bool} {v : Value} {x : DataW H} {ps : List MemPlace} (h : DataW.Trod enc P w 0 sp held t v x ps) :
    ∃ a, d.K w a v.cells.toList ∧ q a := by
  obtain ⟨fuel, hf⟩ := h
  exact he _ _ _ _ _ hf
end
end Go.Proofs.YtbpdcbibooiimaaGreatDoor.Q
/- strings.IndexByte. The walk is the shelf's, laid for this program. -/
namespace Go.Proofs.YtbpdcbibooiimaaGreatDoor.Q
open Go.RowKit Go.Proofs.YtbpdcbibooiimaaGreatDoorW.PrintWords Go.Proofs.YtbpdcbibooiimaaGreatDoorW.PrintLast Go.Proofs.YtbpdcbibooiimaaGreatDoorW.PrintMore
set_option maxHeartbeats 1000000 in
set_option maxRecDepth 100000 in
theorem stringslite_IndexByte (s : ByteArray) (c : Int) (w : World) :
    Calls Tryz.prog 126 #[.string s, .int .u8 c] w fun e w' => e = .returned (.int .i64 (Lib.indexByte s.data.toList c.toNat.toUInt8)) ∧ w' = w := by
  go_enter Tryz.func126, Tryz.ntmps126
  go_wp2
  rw [run_callFunc_extern Tryz.func145 (by kernel_rfl) (by kernel_rfl) (by kernel_rfl) (e := Extern.BytealgIndexByte.indexByte) (by kernel_rfl), Lib.run_indexByteString]
  simp only [Result.andThen]
  rw [Oper.upon_value]
  go_wp2
  go_ret
  exact ⟨rfl, rfl⟩
def strings_IndexByte.f (s : ByteArray) (c : Int) : Option Int := some (Lib.indexByte s.data.toList c.toNat.toUInt8)
set_option maxHeartbeats 1000000 in
theorem strings_IndexByte.calls (s : ByteArray) (c : Int) (r : Int) (w : World) (h : strings_IndexByte.f s c = some r) :
    Calls Tryz.prog 101 #[.string s, .int .u8 c] w fun e w' => e = .returned (.int .i64 r) ∧ Drawn0 w w' := by
  unfold strings_IndexByte.f at h
  obtain rfl := Option.some.inj h
  go_enter Tryz.func101, Tryz.ntmps101
  go_wp2_with (go_at_call 126; refine (stringslite_IndexByte _ _ _).mono ?_; rintro e w' ⟨rfl, rfl⟩)
  go_ret
  exact ⟨rfl, Drawn0.refl _⟩
end Go.Proofs.YtbpdcbibooiimaaGreatDoor.Q
namespace Go.Proofs.YtbpdcbibooiimaaGreatDoor.Q
open Go.RowKit Go.Proofs.YtbpdcbibooiimaaGreatDoorW.PrintWords Go.Proofs.YtbpdcbibooiimaaGreatDoorW.PrintLast Go.Proofs.YtbpdcbibooiimaaGreatDoorW.PrintMore
attribute [local go_sem] max2_int min2_int max_two min_two max_three min_three max_four min_four   -- for this text's walks alone
/-! ### paronymref02_Hex: function 81 -/
mutual
def paronymref02_Hex.l0 : Nat → ByteArray → Int → Option (ByteArray)
  | 0, _, _ => none
  | k + 1, x3, x4 => if x4 > 0 then (paronymref02_Hex.j1 k x3 x4 true) else (paronymref02_Hex.j1 k x3 x4 (decide ((x3.size : Int) < 4)))
def paronymref02_Hex.j1 : Nat → ByteArray → Int → Bool → Option (ByteArray)
  | 0, _, _, _ => none
  | k + 1, x3, x4, x13 => if x13 = true then (if (Int.tmod x4 16) < 10 then ((some (([(wrap64 (48 + (Int.tmod x4 16))) % 256] : List Int) : List Int)).bind fun y101 => (if (strOfNums y101).size + x3.size ≤ 9223372036854775807 then (paronymref02_Hex.l0 k ((strOfNums y101) ++ x3) (wrap64 (Int.tdiv x4 16))) else (none))) else ((some (([(wrap64 (55 + (Int.tmod x4 16))) % 256] : List Int) : List Int)).bind fun y104 => (if (strOfNums y104).size + x3.size ≤ 9223372036854775807 then (paronymref02_Hex.l0 k ((strOfNums y104) ++ x3) (wrap64 (Int.tdiv x4 16))) else (none)))) else (some x3)
end
def paronymref02_Hex.f (k : Nat) (a0 : Int) : Option (ByteArray) := paronymref02_Hex.l0 k (⟨#[]⟩ : ByteArray) a0
theorem paronymref02_Hex.mono_l : ∀ k, (∀ y0 y1, LeO (paronymref02_Hex.l0 k y0 y1) (paronymref02_Hex.l0 (k + 1) y0 y1)) ∧ (∀ y0 y1 y2, LeO (paronymref02_Hex.j1 k y0 y1 y2) (paronymref02_Hex.j1 (k + 1) y0 y1 y2))
  | 0 => ⟨fun _ _ r h => by simp [paronymref02_Hex.l0] at h, fun _ _ _ r h => by simp [paronymref02_Hex.j1] at h⟩
  | k + 1 => by
    obtain ⟨ih0, ih1⟩ := paronymref02_Hex.mono_l k
    refine ⟨?_, ?_⟩
    · intro y0 y1
      unfold paronymref02_Hex.l0
      repeat' first
      | (with_reducible exact ih0 _ _)
      | (with_reducible exact ih1 _ _ _)
      | (with_reducible exact LeO.refl _)
      | (with_reducible exact LeO.none _)
      | (with_reducible refine LeO.ite ?_ ?_)
      | (with_reducible refine LeO.bind ?_ (fun _ => ?_))
      | exact ih0 _ _
      | exact ih1 _ _ _
      | exact LeO.none _
      | refine LeO.ite ?_ ?_
      | refine LeO.bind ?_ (fun _ => ?_)
    · intro y0 y1 y2
      unfold paronymref02_Hex.j1
      repeat' first
      | (with_reducible exact ih0 _ _)
      | (with_reducible exact ih1 _ _ _)
      | (with_reducible exact LeO.refl _)
      | (with_reducible exact LeO.none _)
      | (with_reducible refine LeO.ite ?_ ?_)
      | (with_reducible refine LeO.bind ?_ (fun _ => ?_))
      | exact ih0 _ _
      | exact ih1 _ _ _
      | exact LeO.none _
      | refine LeO.ite ?_ ?_
      | refine LeO.bind ?_ (fun _ => ?_)
theorem paronymref02_Hex.mono : ∀ a0 k, LeO (paronymref02_Hex.f k a0) (paronymref02_Hex.f (k + 1) a0) := by
  intro a0 k
  obtain ⟨ih0, ih1⟩ := paronymref02_Hex.mono_l k
  unfold paronymref02_Hex.f
  repeat' first
      | (with_reducible exact ih0 _ _)
      | (with_reducible exact ih1 _ _ _)
      | (with_reducible exact LeO.refl _)
      | (with_reducible exact LeO.none _)
      | (with_reducible refine LeO.ite ?_ ?_)
      | (with_reducible refine LeO.bind ?_ (fun _ => ?_))
      | exact ih0 _ _
      | exact ih1 _ _ _
      | exact LeO.none _
      | refine LeO.ite ?_ ?_
      | refine LeO.bind ?_ (fun _ => ?_)
set_option maxHeartbeats 8000000 in
set_option maxRecDepth 100000 in
theorem paronymref02_Hex.calls (k : Nat) (a0 : Int) (r : ByteArray) (w : World) (h : paronymref02_Hex.f k a0 = some r) :
    Calls Tryz.prog 81 #[.int .i64 a0] w fun e w' => e = .returned (.string r) ∧ Below w.heap.size w w' := by
  have HB := Aside0.mk (Below.refl w.heap.size w)
  have H : (paronymref02_Hex.l0 k (⟨#[]⟩ : ByteArray) a0) = some r := h
  clear h
  have H' := Aside0.mk H
  clear H
  go_enter Tryz.func81, Tryz.ntmps81
  go_wp2
  go_loopg [3, 4] k (fun kq v3 v4 w' => ∃ (x3_1 : ByteArray) (x4_1 : Int), v3 = .string x3_1 ∧ v4 = .int .i64 x4_1 ∧ Aside0 (paronymref02_Hex.l0 kq x3_1 x4_1 = some r) ∧ Aside0 (kq ≤ k) ∧ Aside0 (Below w.heap.size w w'))
  case atStart => exact ⟨((⟨#[]⟩ : ByteArray)), (a0), (by first | rfl | (simp; done) | (simp [*]; done)), (by first | rfl | (simp; done) | (simp [*]; done)), H', ⟨Nat.le_refl _⟩, ⟨by repeat (first | (with_reducible first | exact HB.out | apply below_alloc | apply pw_below_drewN | apply below_drew1) | exact HB.out)⟩⟩
  case round =>
    clear H'
    obtain ⟨x3_1, x4_1, rfl, rfl, HA, HK1, HB⟩ := hrel
    cases gk with
    | zero => exact absurd HA.out (by simp [paronymref02_Hex.l0])
    | succ k1 =>
      have H := HA.out
      clear HA
      simp only [paronymref02_Hex.l0] at H
      have HC2 := Aside0.mk H
      clear H
      go_upto_region 3 with (fail)
      go_cut [13] (fun v13 wc => ∃ (kq : Nat) (x13_1 : Bool), v13 = .bool x13_1 ∧ Aside0 (paronymref02_Hex.j1 kq x3_1 x4_1 x13_1 = some r) ∧ Aside0 (kq ≤ k1) ∧ Aside0 (Below w.heap.size w wc))
      case first =>
        have H := HC2.out
        clear HC2
        by_cases c3 : x4_1 > 0
        · rw [if_pos c3] at H
          have c3b0 : decide (0 < x4_1) = true := decide_eq_true c3
          clear c3
          (first | rw [c3b0] | (simp only [i64_w, i32_w]; rw [c3b0]) | rw [c3b1] | (simp only [i64_w, i32_w]; rw [c3b1]) | skip)
          have H' := Aside0.mk H
          clear H
          go_wp2
          go_meet
          case rel => exact ⟨_, (true), (by first | rfl | (simp; done) | (simp [*]; done)), H', ⟨by have := HK1.out; first | omega | exact Nat.le_refl _⟩, ⟨by repeat (first | (with_reducible first | exact HB.out | apply below_alloc | apply pw_below_drewN | apply below_drew1) | exact HB.out)⟩⟩
        · rw [if_neg c3] at H
          have c3b0 : decide (0 < x4_1) = false := decide_eq_false c3
          clear c3
          (first | rw [c3b0] | (simp only [i64_w, i32_w]; rw [c3b0]) | rw [c3b1] | (simp only [i64_w, i32_w]; rw [c3b1]) | skip)
          have H' := Aside0.mk H
          clear H
          go_wp2
          go_meet
          case rel => exact ⟨_, (decide ((x3_1.size : Int) < 4)), (by first | rfl | (simp; done) | (simp [*]; done)), H', ⟨by have := HK1.out; first | omega | exact Nat.le_refl _⟩, ⟨by repeat (first | (with_reducible first | exact HB.out | apply below_alloc | apply pw_below_drewN | apply below_drew1) | exact HB.out)⟩⟩
      case rest =>
        clear HC2
        try clear p2
        try clear c3
        try clear c3b0
        try clear c3b1
        obtain ⟨kq, x13_1, rfl, HA, HJ1, HB⟩ := hcut
        cases kq with
        | zero => exact absurd HA.out (by simp [paronymref02_Hex.j1])
        | succ kj1 =>
          have H := HA.out
          clear HA
          simp only [paronymref02_Hex.j1] at H
          by_cases c4 : x13_1 = true
          · subst c4
            have H1 : (if (Int.tmod x4_1 16) < 10 then ((some (([(wrap64 (48 + (Int.tmod x4_1 16))) % 256] : List Int) : List Int)).bind fun y101 => (if (strOfNums y101).size + x3_1.size ≤ 9223372036854775807 then (paronymref02_Hex.l0 kj1 ((strOfNums y101) ++ x3_1) (wrap64 (Int.tdiv x4_1 16))) else (none))) else ((some (([(wrap64 (55 + (Int.tmod x4_1 16))) % 256] : List Int) : List Int)).bind fun y104 => (if (strOfNums y104).size + x3_1.size ≤ 9223372036854775807 then (paronymref02_Hex.l0 kj1 ((strOfNums y104) ++ x3_1) (wrap64 (Int.tdiv x4_1 16))) else (none)))) = some r := by rw [if_pos rfl] at H; exact H
            clear H
            have H := H1
            clear H1
            by_cases c5 : (Int.tmod x4_1 16) < 10
            · rw [if_pos c5] at H
              have c5b0 : decide ((Int.tmod x4_1 16) < 10) = true := decide_eq_true c5
              clear c5
              obtain ⟨y101, hy101⟩ : ∃ y_ : List Int, y_ = (([(wrap64 (48 + (Int.tmod x4_1 16))) % 256] : List Int)) := ⟨_, rfl⟩
              replace H : (if (strOfNums y101).size + x3_1.size ≤ 9223372036854775807 then (paronymref02_Hex.l0 kj1 ((strOfNums y101) ++ x3_1) (wrap64 (Int.tdiv x4_1 16))) else (none)) = some r := by first | (rw [hy101]; with_reducible exact H) | (have H2_ := (Option.bind_some _ _).symm.trans H; rw [hy101]; with_reducible exact H2_) | (have H2_ := (Option.bind_some _ _).symm.trans H; with_reducible exact H2_) | with_reducible exact H | (rw [hy101]; exact H) | exact H
              have Ny101 := Aside0.mk hy101
              clear hy101
              by_cases c6 : (strOfNums y101).size + x3_1.size ≤ 9223372036854775807
              · rw [if_pos c6] at H
                have c6b0 := eq_true c6
                have c6b1 : decide ((strOfNums y101).size + x3_1.size ≤ 9223372036854775807) = true := decide_eq_true c6
                try have c6b2 : (9223372036854775807 < (strOfNums y101).size + x3_1.size) = False := eq_false (Nat.not_lt.2 c6)
                have H' := Aside0.mk H
                clear H
                go_wp2_with (first | ((with_reducible refine gate_dst (N := 23) rfl ?_); (try (refine gate_guard (by rfl) ?_; dsimp only)); refine Kd.R_lit (Kd.int .u8) _ 5 ?hg (N := 23) ?hd (xs := ([(wrap64 (48 + (Int.tmod x4_1 16))) % 256] : List Int)) (inner := [.int .u8 ((wrap64 (48 + (Int.tmod x4_1 16))) % 256)]) (ok := fun _ => True) (okp := fun _ => True) ?hr ?hp (fun _ hk => hk) trivial (Below.refl _ _) (Nat.le_refl _) (by simp) ?_; (case hd => rfl); (case hg => rfl); (case hr => first | (go_simp; done) | (go_simp; rfl)); (case hp => exact (Reps.one (show Kd.M (Kd.int .u8) _ _ _ ((wrap64 (48 + (Int.tmod x4_1 16))) % 256) [.int .u8 ((wrap64 (48 + (Int.tmod x4_1 16))) % 256)] from rfl) (Reps.none _ _))); intro v102 w7 ho8 hb hg_ hnew_; clear hg_ hnew_; (first | rw [← Ny101.out] at ho8 | (simp only [Int.reduceToNat] at ho8; rw [← Ny101.out] at ho8)); have n0_ := Aside0.mk (Kd.R_lower ho8 (below_size (by repeat (first | (with_reducible first | exact HB.out | apply below_alloc | apply pw_below_drewN | apply below_drew1) | exact HB.out)))); have n1_ := Aside0.mk (below_step (by repeat (first | (with_reducible first | exact HB.out | apply below_alloc | apply pw_below_drewN | apply below_drew1) | exact HB.out)) hb); clear HB; have HO103 := n0_; have HB := n1_; clear n0_ n1_; clear hb ho8; have hcv9 := own_string (P := Tryz.prog) Tryz.underlying22 Tryz.underlying5 Tryz.underlying9 (Kd.own_of_R HO103.out); have hcv10 := fun (nd_ : Nat) => own_string (P := Tryz.prog) Tryz.underlying22 Tryz.underlying5 Tryz.underlying9 (Kd.own_of_R (Kd.R_drewN HO103.out nd_))))
                go_roundg kj1
                case measure => have := HK1.out; have := HJ1.out; omega
                case rel => exact ⟨((strOfNums y101) ++ x3_1), (wrap64 (Int.tdiv x4_1 16)), (by first | rfl | (simp; done) | (simp [*]; done)), (by first | rfl | (simp; done) | (simp [*]; done)), H', ⟨by have := HK1.out; have := HJ1.out; omega⟩, ⟨by repeat (first | (with_reducible first | exact HB.out | apply below_alloc | apply pw_below_drewN | apply below_drew1) | exact HB.out)⟩⟩
              · rw [if_neg c6] at H
                exact absurd H (by simp)
            · rw [if_neg c5] at H
              have c5b0 : decide ((Int.tmod x4_1 16) < 10) = false := decide_eq_false c5
              clear c5
              obtain ⟨y104, hy104⟩ : ∃ y_ : List Int, y_ = (([(wrap64 (55 + (Int.tmod x4_1 16))) % 256] : List Int)) := ⟨_, rfl⟩
              replace H : (if (strOfNums y104).size + x3_1.size ≤ 9223372036854775807 then (paronymref02_Hex.l0 kj1 ((strOfNums y104) ++ x3_1) (wrap64 (Int.tdiv x4_1 16))) else (none)) = some r := by first | (rw [hy104]; with_reducible exact H) | (have H2_ := (Option.bind_some _ _).symm.trans H; rw [hy104]; with_reducible exact H2_) | (have H2_ := (Option.bind_some _ _).symm.trans H; with_reducible exact H2_) | with_reducible exact H | (rw [hy104]; exact H) | exact H
              have Ny104 := Aside0.mk hy104
              clear hy104
              by_cases c11 : (strOfNums y104).size + x3_1.size ≤ 9223372036854775807
              · rw [if_pos c11] at H
                have c11b0 := eq_true c11
                have c11b1 : decide ((strOfNums y104).size + x3_1.size ≤ 9223372036854775807) = true := decide_eq_true c11
                try have c11b2 : (9223372036854775807 < (strOfNums y104).size + x3_1.size) = False := eq_false (Nat.not_lt.2 c11)
                have H' := Aside0.mk H
                clear H
                go_wp2_with (first | ((with_reducible refine gate_dst (N := 30) rfl ?_); (try (refine gate_guard (by rfl) ?_; dsimp only)); refine Kd.R_lit (Kd.int .u8) _ 5 ?hg (N := 30) ?hd (xs := ([(wrap64 (55 + (Int.tmod x4_1 16))) % 256] : List Int)) (inner := [.int .u8 ((wrap64 (55 + (Int.tmod x4_1 16))) % 256)]) (ok := fun _ => True) (okp := fun _ => True) ?hr ?hp (fun _ hk => hk) trivial (Below.refl _ _) (Nat.le_refl _) (by simp) ?_; (case hd => rfl); (case hg => rfl); (case hr => first | (go_simp; done) | (go_simp; rfl)); (case hp => exact (Reps.one (show Kd.M (Kd.int .u8) _ _ _ ((wrap64 (55 + (Int.tmod x4_1 16))) % 256) [.int .u8 ((wrap64 (55 + (Int.tmod x4_1 16))) % 256)] from rfl) (Reps.none _ _))); intro v105 w12 ho13 hb hg_ hnew_; clear hg_ hnew_; (first | rw [← Ny104.out] at ho13 | (simp only [Int.reduceToNat] at ho13; rw [← Ny104.out] at ho13)); have n0_ := Aside0.mk (Kd.R_lower ho13 (below_size (by repeat (first | (with_reducible first | exact HB.out | apply below_alloc | apply pw_below_drewN | apply below_drew1) | exact HB.out)))); have n1_ := Aside0.mk (below_step (by repeat (first | (with_reducible first | exact HB.out | apply below_alloc | apply pw_below_drewN | apply below_drew1) | exact HB.out)) hb); clear HB; have HO106 := n0_; have HB := n1_; clear n0_ n1_; clear hb ho13; have hcv14 := own_string (P := Tryz.prog) Tryz.underlying22 Tryz.underlying5 Tryz.underlying9 (Kd.own_of_R HO106.out); have hcv15 := fun (nd_ : Nat) => own_string (P := Tryz.prog) Tryz.underlying22 Tryz.underlying5 Tryz.underlying9 (Kd.own_of_R (Kd.R_drewN HO106.out nd_))))
                go_roundg kj1
                case measure => have := HK1.out; have := HJ1.out; omega
                case rel => exact ⟨((strOfNums y104) ++ x3_1), (wrap64 (Int.tdiv x4_1 16)), (by first | rfl | (simp; done) | (simp [*]; done)), (by first | rfl | (simp; done) | (simp [*]; done)), H', ⟨by have := HK1.out; have := HJ1.out; omega⟩, ⟨by repeat (first | (with_reducible first | exact HB.out | apply below_alloc | apply pw_below_drewN | apply below_drew1) | exact HB.out)⟩⟩
              · rw [if_neg c11] at H
                exact absurd H (by simp)
          · replace c4 := Bool.eq_false_iff.mpr c4
            subst c4
            have H1 : (some x3_1) = some r := by rw [if_neg (show ¬ (false = true) by decide)] at H; exact H
            clear H
            have H := H1
            clear H1
            obtain rfl := Option.some.inj H
            go_wp2
            go_ret
            exact ⟨by first | rfl | (simp [errW_none, errW_some] <;> rfl) | (simp [*, errW_none, errW_some] <;> rfl), by repeat (first | (with_reducible first | exact HB.out | apply below_alloc | apply pw_below_drewN | apply below_drew1) | exact HB.out)⟩
end Go.Proofs.YtbpdcbibooiimaaGreatDoor.Q
namespace Go.Proofs.YtbpdcbibooiimaaGreatDoor.Q
open Go.RowKit Go.Proofs.YtbpdcbibooiimaaGreatDoorW.PrintWords Go.Proofs.YtbpdcbibooiimaaGreatDoorW.PrintLast Go.Proofs.YtbpdcbibooiimaaGreatDoorW.PrintMore
attribute [local go_sem] max2_int min2_int max_two min_two max_three min_three max_four min_four   -- for this text's walks alone
/-! ### paronymref02_Point: function 56 -/
mutual
def paronymref02_Point.j0 : Nat → ByteArray → Bool → Option (Int)
  | 0, _, _ => none
  | k + 1, x0, x13 => if x13 = true then (some (-1)) else (paronymref02_Point.l0 k x0 0 0)
def paronymref02_Point.l0 : Nat → ByteArray → Int → Int → Option (Int)
  | 0, _, _, _ => none
  | k + 1, x0, x3, x4 => if x4 < (x0.size : Int) then (if 0 ≤ x4 then (if (wrap64 (bt x0 x4)) ≥ 48 then (paronymref02_Point.j2 k x0 x3 x4 (wrap64 (bt x0 x4)) (decide ((wrap64 (bt x0 x4)) ≤ 57))) else (paronymref02_Point.j2 k x0 x3 x4 (wrap64 (bt x0 x4)) false)) else (none)) else (if x3 > 1114111 then (some (-1)) else ((paronymref02_Hex.f k x3).bind fun t101 => (if t101.toList = x0.toList then (some x3) else (some (-1)))))
def paronymref02_Point.j2 : Nat → ByteArray → Int → Int → Int → Bool → Option (Int)
  | 0, _, _, _, _, _ => none
  | k + 1, x0, x3, x4, x5, x29 => if x29 = true then (paronymref02_Point.l0 k x0 (wrap64 ((wrap64 ((wrap64 (x3 * 16)) + x5)) - 48)) (wrap64 (x4 + 1))) else (if x5 ≥ 65 then (if x5 ≤ 70 then (paronymref02_Point.l0 k x0 (wrap64 ((wrap64 ((wrap64 (x3 * 16)) + x5)) - 55)) (wrap64 (x4 + 1))) else (some (-1))) else (some (-1)))
end
def paronymref02_Point.f (k : Nat) (a0 : ByteArray) : Option (Int) := if (a0.size : Int) < 4 then (paronymref02_Point.j0 k a0 true) else (paronymref02_Point.j0 k a0 (decide ((a0.size : Int) > 6)))
theorem paronymref02_Point.mono_l : ∀ k, (∀ y0 y1, LeO (paronymref02_Point.j0 k y0 y1) (paronymref02_Point.j0 (k + 1) y0 y1)) ∧ (∀ y0 y1 y2, LeO (paronymref02_Point.l0 k y0 y1 y2) (paronymref02_Point.l0 (k + 1) y0 y1 y2)) ∧ (∀ y0 y1 y2 y3 y4, LeO (paronymref02_Point.j2 k y0 y1 y2 y3 y4) (paronymref02_Point.j2 (k + 1) y0 y1 y2 y3 y4))
  | 0 => ⟨fun _ _ r h => by simp [paronymref02_Point.j0] at h, fun _ _ _ r h => by simp [paronymref02_Point.l0] at h, fun _ _ _ _ _ r h => by simp [paronymref02_Point.j2] at h⟩
  | k + 1 => by
    obtain ⟨ih0, ih1, ih2⟩ := paronymref02_Point.mono_l k
    refine ⟨?_, ?_, ?_⟩
    · intro y0 y1
      unfold paronymref02_Point.j0
      repeat' first
      | (with_reducible exact ih0 _ _)
      | (with_reducible exact ih1 _ _ _)
      | (with_reducible exact ih2 _ _ _ _ _)
      | (with_reducible exact paronymref02_Hex.mono _ _)
      | (with_reducible exact LeO.refl _)
      | (with_reducible exact LeO.none _)
      | (with_reducible refine LeO.ite ?_ ?_)
      | (with_reducible refine LeO.bind ?_ (fun _ => ?_))
      | exact ih0 _ _
      | exact ih1 _ _ _
      | exact ih2 _ _ _ _ _
      | exact paronymref02_Hex.mono _ _
      | exact LeO.none _
      | refine LeO.ite ?_ ?_
      | refine LeO.bind ?_ (fun _ => ?_)
    · intro y0 y1 y2
      unfold paronymref02_Point.l0
      repeat' first
      | (with_reducible exact ih0 _ _)
      | (with_reducible exact ih1 _ _ _)
      | (with_reducible exact ih2 _ _ _ _ _)
      | (with_reducible exact paronymref02_Hex.mono _ _)
      | (with_reducible exact LeO.refl _)
      | (with_reducible exact LeO.none _)
      | (with_reducible refine LeO.ite ?_ ?_)
      | (with_reducible refine LeO.bind ?_ (fun _ => ?_))
      | exact ih0 _ _
      | exact ih1 _ _ _
      | exact ih2 _ _ _ _ _
      | exact paronymref02_Hex.mono _ _
      | exact LeO.none _
      | refine LeO.ite ?_ ?_
      | refine LeO.bind ?_ (fun _ => ?_)
    · intro y0 y1 y2 y3 y4
      unfold paronymref02_Point.j2
      repeat' first
      | (with_reducible exact ih0 _ _)
      | (with_reducible exact ih1 _ _ _)
      | (with_reducible exact ih2 _ _ _ _ _)
      | (with_reducible exact paronymref02_Hex.mono _ _)
      | (with_reducible exact LeO.refl _)
      | (with_reducible exact LeO.none _)
      | (with_reducible refine LeO.ite ?_ ?_)
      | (with_reducible refine LeO.bind ?_ (fun _ => ?_))
      | exact ih0 _ _
      | exact ih1 _ _ _
      | exact ih2 _ _ _ _ _
      | exact paronymref02_Hex.mono _ _
      | exact LeO.none _
      | refine LeO.ite ?_ ?_
      | refine LeO.bind ?_ (fun _ => ?_)
theorem paronymref02_Point.mono : ∀ a0 k, LeO (paronymref02_Point.f k a0) (paronymref02_Point.f (k + 1) a0) := by
  intro a0 k
  obtain ⟨ih0, ih1, ih2⟩ := paronymref02_Point.mono_l k
  unfold paronymref02_Point.f
  repeat' first
      | (with_reducible exact ih0 _ _)
      | (with_reducible exact ih1 _ _ _)
      | (with_reducible exact ih2 _ _ _ _ _)
      | (with_reducible exact paronymref02_Hex.mono _ _)
      | (with_reducible exact LeO.refl _)
      | (with_reducible exact LeO.none _)
      | (with_reducible refine LeO.ite ?_ ?_)
      | (with_reducible refine LeO.bind ?_ (fun _ => ?_))
      | exact ih0 _ _
      | exact ih1 _ _ _
      | exact ih2 _ _ _ _ _
      | exact paronymref02_Hex.mono _ _
      | exact LeO.none _
      | refine LeO.ite ?_ ?_
      | refine LeO.bind ?_ (fun _ => ?_)
set_option maxHeartbeats 8000000 in
set_option maxRecDepth 100000 in
theorem paronymref02_Point.calls (k : Nat) (a0 : ByteArray) (r : Int) (w : World) (h : paronymref02_Point.f k a0 = some r) :
    Calls Tryz.prog 56 #[.string a0] w fun e w' => e = .returned (.int .i64 r) ∧ Below w.heap.size w w' := by
  have HB := Aside0.mk (Below.refl w.heap.size w)
  have H : (if (a0.size : Int) < 4 then (paronymref02_Point.j0 k a0 true) else (paronymref02_Point.j0 k a0 (decide ((a0.size : Int) > 6)))) = some r := h
  clear h
  have HC2 := Aside0.mk H
  clear H
  go_enter Tryz.func56, Tryz.ntmps56
  go_upto_region 1 with (fail)
  go_cut [13] (fun v13 wc => ∃ (kq : Nat) (x13_1 : Bool), v13 = .bool x13_1 ∧ Aside0 (paronymref02_Point.j0 kq a0 x13_1 = some r) ∧ Aside0 (kq ≤ k) ∧ Aside0 (Below w.heap.size w wc))
  case first =>
    have H := HC2.out
    clear HC2
    by_cases c3 : (a0.size : Int) < 4
    · rw [if_pos c3] at H
      have c3b0 : decide ((a0.size : Int) < 4) = true := decide_eq_true c3
      have c3b1 : decide (a0.size < 4) = true := decide_eq_true (by omega)
      clear c3
      (first | rw [c3b0] | (simp only [i64_w, i32_w]; rw [c3b0]) | rw [c3b1] | (simp only [i64_w, i32_w]; rw [c3b1]) | skip)
      have H' := Aside0.mk H
      clear H
      go_wp2
      go_meet
      case rel => exact ⟨_, (true), (by first | rfl | (simp; done) | (simp [*]; done)), H', ⟨by first | omega | exact Nat.le_refl _⟩, ⟨by repeat (first | (with_reducible first | exact HB.out | apply below_alloc | apply pw_below_drewN | apply below_drew1) | exact HB.out)⟩⟩
    · rw [if_neg c3] at H
      have c3b0 : decide ((a0.size : Int) < 4) = false := decide_eq_false c3
      have c3b1 : decide (a0.size < 4) = false := decide_eq_false (by omega)
      clear c3
      (first | rw [c3b0] | (simp only [i64_w, i32_w]; rw [c3b0]) | rw [c3b1] | (simp only [i64_w, i32_w]; rw [c3b1]) | skip)
      have H' := Aside0.mk H
      clear H
      go_wp2
      go_meet
      case rel => exact ⟨_, (decide ((a0.size : Int) > 6)), (by first | rfl | (simp; done) | (simp [*]; done)), H', ⟨by first | omega | exact Nat.le_refl _⟩, ⟨by repeat (first | (with_reducible first | exact HB.out | apply below_alloc | apply pw_below_drewN | apply below_drew1) | exact HB.out)⟩⟩
  case rest =>
    clear HC2
    try clear p2
    try clear c3
    try clear c3b0
    try clear c3b1
    obtain ⟨kq, x13_1, rfl, HA, HJ1, HB⟩ := hcut
    cases kq with
    | zero => exact absurd HA.out (by simp [paronymref02_Point.j0])
    | succ kj1 =>
      have H := HA.out
      clear HA
      simp only [paronymref02_Point.j0] at H
      by_cases c4 : x13_1 = true
      · subst c4
        have H1 : (some (-1)) = some r := by rw [if_pos rfl] at H; exact H
        clear H
        have H := H1
        clear H1
        obtain rfl := Option.some.inj H
        go_wp2
        go_ret
        exact ⟨by first | rfl | (simp [errW_none, errW_some] <;> rfl) | (simp [*, errW_none, errW_some] <;> rfl), by repeat (first | (with_reducible first | exact HB.out | apply below_alloc | apply pw_below_drewN | apply below_drew1) | exact HB.out)⟩
      · replace c4 := Bool.eq_false_iff.mpr c4
        subst c4
        have H1 : (paronymref02_Point.l0 kj1 a0 0 0) = some r := by rw [if_neg (show ¬ (false = true) by decide)] at H; exact H
        clear H
        have H := H1
        clear H1
        have H' := Aside0.mk H
        clear H
        go_wp2
        go_loopg [3, 4] kj1 (fun kq v3 v4 w' => ∃ (x3_2 : Int) (x4_2 : Int), v3 = .int .i64 x3_2 ∧ v4 = .int .i64 x4_2 ∧ Aside0 (paronymref02_Point.l0 kq a0 x3_2 x4_2 = some r) ∧ Aside0 (kq ≤ kj1) ∧ Aside0 (Below w.heap.size w w'))
        case atStart => exact ⟨(0), (0), (by first | rfl | (simp; done) | (simp [*]; done)), (by first | rfl | (simp; done) | (simp [*]; done)), H', ⟨Nat.le_refl _⟩, ⟨by repeat (first | (with_reducible first | exact HB.out | apply below_alloc | apply pw_below_drewN | apply below_drew1) | exact HB.out)⟩⟩
        case round =>
          clear H'
          try clear p2
          try clear c3
          try clear c3b0
          try clear c3b1
          try clear c4
          try clear p2
          obtain ⟨x3_2, x4_2, rfl, rfl, HA, HK2, HB⟩ := hrel
          cases gk with
          | zero => exact absurd HA.out (by simp [paronymref02_Point.l0])
          | succ k2 =>
            have H := HA.out
            clear HA
            simp only [paronymref02_Point.l0] at H
            by_cases c5 : x4_2 < (a0.size : Int)
            · rw [if_pos c5] at H
              have c5b0 : decide (x4_2 < (a0.size : Int)) = true := decide_eq_true c5
              clear c5
              by_cases c6 : 0 ≤ x4_2
              · rw [if_pos c6] at H
                have c6b0 : decide (0 ≤ x4_2) = true := decide_eq_true c6
                clear c6
                have HC8 := Aside0.mk H
                clear H
                have p7 : 0 ≤ (x4_2 : Int) := of_decide_eq_true (by first | (with_reducible assumption) | assumption)
                have q7 : x4_2 < (a0.size : Int) := of_decide_eq_true (by first | (with_reducible assumption) | assumption)
                have hx7 := bt_at a0 x4_2
                replace p7 := eq_true p7
                replace q7 := eq_true q7
                go_upto_region 8 with (fail)
                go_cut [29] (fun v29 wc => ∃ (kq : Nat) (x29_7 : Bool), v29 = .bool x29_7 ∧ Aside0 (paronymref02_Point.j2 kq a0 x3_2 x4_2 (wrap64 (bt a0 x4_2)) x29_7 = some r) ∧ Aside0 (kq ≤ k2) ∧ Aside0 (Below w.heap.size w wc))
                case first =>
                  have H := HC8.out
                  clear HC8
                  by_cases c9 : (wrap64 (bt a0 x4_2)) ≥ 48
                  · rw [if_pos c9] at H
                    have c9b0 : decide (48 ≤ (wrap64 (bt a0 x4_2))) = true := decide_eq_true c9
                    clear c9
                    (first | rw [c9b0] | (simp only [i64_w, i32_w]; rw [c9b0]) | rw [c9b1] | (simp only [i64_w, i32_w]; rw [c9b1]) | skip)
                    have H' := Aside0.mk H
                    clear H
                    go_wp2
                    go_meet
                    case rel => exact ⟨_, (decide ((wrap64 (bt a0 x4_2)) ≤ 57)), (by first | rfl | (simp; done) | (simp [*]; done)), H', ⟨by have := HJ1.out; have := HK2.out; first | omega | exact Nat.le_refl _⟩, ⟨by repeat (first | (with_reducible first | exact HB.out | apply below_alloc | apply pw_below_drewN | apply below_drew1) | exact HB.out)⟩⟩
                  · rw [if_neg c9] at H
                    have c9b0 : decide (48 ≤ (wrap64 (bt a0 x4_2))) = false := decide_eq_false c9
                    clear c9
                    (first | rw [c9b0] | (simp only [i64_w, i32_w]; rw [c9b0]) | rw [c9b1] | (simp only [i64_w, i32_w]; rw [c9b1]) | skip)
                    have H' := Aside0.mk H
                    clear H
                    go_wp2
                    go_meet
                    case rel => exact ⟨_, (false), (by first | rfl | (simp; done) | (simp [*]; done)), H', ⟨by have := HJ1.out; have := HK2.out; first | omega | exact Nat.le_refl _⟩, ⟨by repeat (first | (with_reducible first | exact HB.out | apply below_alloc | apply pw_below_drewN | apply below_drew1) | exact HB.out)⟩⟩
                case rest =>
                  clear HC8
                  try clear p2
                  try clear c3
                  try clear c3b0
                  try clear c3b1
                  try clear c4
                  try clear c5
                  try clear c5b0
                  try clear c6
                  try clear c6b0
                  try clear p6
                  try clear p7
                  try clear q7
                  try clear hx7
                  try clear c9
                  try clear c9b0
                  try clear c9b1
                  try clear p2
                  try clear p7
                  try clear q7
                  obtain ⟨kq, x29_7, rfl, HA, HJ7, HB⟩ := hcut
                  cases kq with
                  | zero => exact absurd HA.out (by simp [paronymref02_Point.j2])
                  | succ kj7 =>
                    have H := HA.out
                    clear HA
                    simp only [paronymref02_Point.j2] at H
                    by_cases c10 : x29_7 = true
                    · subst c10
                      have H1 : (paronymref02_Point.l0 kj7 a0 (wrap64 ((wrap64 ((wrap64 (x3_2 * 16)) + (wrap64 (bt a0 x4_2)))) - 48)) (wrap64 (x4_2 + 1))) = some r := by rw [if_pos rfl] at H; exact H
                      clear H
                      have H := H1
                      clear H1
                      have H' := Aside0.mk H
                      clear H
                      go_wp2
                      go_roundg kj7
                      case measure => have := HJ1.out; have := HK2.out; have := HJ7.out; omega
                      case rel => exact ⟨(wrap64 ((wrap64 ((wrap64 (x3_2 * 16)) + (wrap64 (bt a0 x4_2)))) - 48)), (wrap64 (x4_2 + 1)), (by first | rfl | (simp; done) | (simp [*]; done)), (by first | rfl | (simp; done) | (simp [*]; done)), H', ⟨by have := HJ1.out; have := HK2.out; have := HJ7.out; omega⟩, ⟨by repeat (first | (with_reducible first | exact HB.out | apply below_alloc | apply pw_below_drewN | apply below_drew1) | exact HB.out)⟩⟩
                    · replace c10 := Bool.eq_false_iff.mpr c10
                      subst c10
                      have H1 : (if (wrap64 (bt a0 x4_2)) ≥ 65 then (if (wrap64 (bt a0 x4_2)) ≤ 70 then (paronymref02_Point.l0 kj7 a0 (wrap64 ((wrap64 ((wrap64 (x3_2 * 16)) + (wrap64 (bt a0 x4_2)))) - 55)) (wrap64 (x4_2 + 1))) else (some (-1))) else (some (-1))) = some r := by rw [if_neg (show ¬ (false = true) by decide)] at H; exact H
                      clear H
                      have H := H1
                      clear H1
                      by_cases c11 : (wrap64 (bt a0 x4_2)) ≥ 65
                      · rw [if_pos c11] at H
                        have c11b0 : decide (65 ≤ (wrap64 (bt a0 x4_2))) = true := decide_eq_true c11
                        clear c11
                        by_cases c12 : (wrap64 (bt a0 x4_2)) ≤ 70
                        · rw [if_pos c12] at H
                          have c12b0 : decide ((wrap64 (bt a0 x4_2)) ≤ 70) = true := decide_eq_true c12
                          clear c12
                          have H' := Aside0.mk H
                          clear H
                          go_wp2
                          go_roundg kj7
                          case measure => have := HJ1.out; have := HK2.out; have := HJ7.out; omega
                          case rel => exact ⟨(wrap64 ((wrap64 ((wrap64 (x3_2 * 16)) + (wrap64 (bt a0 x4_2)))) - 55)), (wrap64 (x4_2 + 1)), (by first | rfl | (simp; done) | (simp [*]; done)), (by first | rfl | (simp; done) | (simp [*]; done)), H', ⟨by have := HJ1.out; have := HK2.out; have := HJ7.out; omega⟩, ⟨by repeat (first | (with_reducible first | exact HB.out | apply below_alloc | apply pw_below_drewN | apply below_drew1) | exact HB.out)⟩⟩
                        · rw [if_neg c12] at H
                          have c12b0 : decide ((wrap64 (bt a0 x4_2)) ≤ 70) = false := decide_eq_false c12
                          clear c12
                          obtain rfl := Option.some.inj H
                          go_wp2
                          go_ret
                          exact ⟨by first | rfl | (simp [errW_none, errW_some] <;> rfl) | (simp [*, errW_none, errW_some] <;> rfl), by repeat (first | (with_reducible first | exact HB.out | apply below_alloc | apply pw_below_drewN | apply below_drew1) | exact HB.out)⟩
                      · rw [if_neg c11] at H
                        have c11b0 : decide (65 ≤ (wrap64 (bt a0 x4_2))) = false := decide_eq_false c11
                        clear c11
                        obtain rfl := Option.some.inj H
                        go_wp2
                        go_ret
                        exact ⟨by first | rfl | (simp [errW_none, errW_some] <;> rfl) | (simp [*, errW_none, errW_some] <;> rfl), by repeat (first | (with_reducible first | exact HB.out | apply below_alloc | apply pw_below_drewN | apply below_drew1) | exact HB.out)⟩
              · rw [if_neg c6] at H
                exact absurd H (by simp)
            · rw [if_neg c5] at H
              have c5b0 : decide (x4_2 < (a0.size : Int)) = false := decide_eq_false c5
              clear c5
              by_cases c13 : x3_2 > 1114111
              · rw [if_pos c13] at H
                have c13b0 : decide (1114111 < x3_2) = true := decide_eq_true c13
                clear c13
                obtain rfl := Option.some.inj H
                go_wp2
                go_ret
                exact ⟨by first | rfl | (simp [errW_none, errW_some] <;> rfl) | (simp [*, errW_none, errW_some] <;> rfl), by repeat (first | (with_reducible first | exact HB.out | apply below_alloc | apply pw_below_drewN | apply below_drew1) | exact HB.out)⟩
              · rw [if_neg c13] at H
                have c13b0 : decide (1114111 < x3_2) = false := decide_eq_false c13
                clear c13
                replace H := Option.bind_eq_some_iff.mp H
                obtain ⟨t101, A140, H⟩ := H
                replace H : (if t101.toList = a0.toList then (some x3_2) else (some (-1))) = some r := H
                have A14 := Aside0.mk A140
                clear A140
                by_cases c15 : t101.toList = a0.toList
                · rw [if_pos c15] at H
                  have c15b0 : (t101.toList == a0.toList) = true := beq_iff_eq.mpr c15
                  have c15b1 : (t101.toList != a0.toList) = false := bne_eq_false_iff_eq.mpr c15
                  clear c15
                  obtain rfl := Option.some.inj H
                  go_wp2_with (first | (go_at_call 81; (with_reducible refine (paronymref02_Hex.calls k2 x3_2 t101 _ A14.out).mono ?_); rintro e w16 ⟨rfl, hb⟩; have n0_ := Aside0.mk (below_step (by repeat (first | (with_reducible first | exact HB.out | apply below_alloc | apply pw_below_drewN | apply below_drew1) | exact HB.out)) hb); clear HB; have HB := n0_; clear n0_; (try clear hb); (try clear hb2); (try clear hk); (try clear hi)))
                  go_ret
                  exact ⟨by first | rfl | (simp [errW_none, errW_some] <;> rfl) | (simp [*, errW_none, errW_some] <;> rfl), by repeat (first | (with_reducible first | exact HB.out | apply below_alloc | apply pw_below_drewN | apply below_drew1) | exact HB.out)⟩
                · rw [if_neg c15] at H
                  have c15b0 : (t101.toList == a0.toList) = false := beq_eq_false_iff_ne.mpr c15
                  have c15b1 : (t101.toList != a0.toList) = true := bne_iff_ne.mpr c15
                  obtain rfl := Option.some.inj H
                  go_wp2_with (first | (go_at_call 81; (with_reducible refine (paronymref02_Hex.calls k2 x3_2 t101 _ A14.out).mono ?_); rintro e w17 ⟨rfl, hb⟩; have n0_ := Aside0.mk (below_step (by repeat (first | (with_reducible first | exact HB.out | apply below_alloc | apply pw_below_drewN | apply below_drew1) | exact HB.out)) hb); clear HB; have HB := n0_; clear n0_; (try clear hb); (try clear hb2); (try clear hk); (try clear hi)))
                  go_ret
                  exact ⟨by first | rfl | (simp [errW_none, errW_some] <;> rfl) | (simp [*, errW_none, errW_some] <;> rfl), by repeat (first | (with_reducible first | exact HB.out | apply below_alloc | apply pw_below_drewN | apply below_drew1) | exact HB.out)⟩
end Go.Proofs.YtbpdcbibooiimaaGreatDoor.Q
/- Layer 2 on lists: a code point's text, and back. -/
namespace Go.Proofs.YtbpdcbibooiimaaGreatDoor.K
open Go.RowKit Go.Proofs.YtbpdcbibooiimaaGreatDoorW.PrintWords Go.Proofs.YtbpdcbibooiimaaGreatDoorW.PrintMore Go.Proofs.YtbpdcbibooiimaaGreatDoor.Q
def hexV (x : Int) : Option Nat := if 48 ≤ x ∧ x ≤ 57 then some (x - 48).toNat else if 65 ≤ x ∧ x ≤ 70 then some (x - 55).toNat else none
def valF : Nat → List Int → Option Nat
  | v, [] => some v
  | v, x :: r => match hexV x with
    | none => none
    | some d => valF (v * 16 + d) r
def pointL (L : List Int) : Option Nat := if L.length < 4 ∨ 6 < L.length then none else match valF 0 L with
  | none => none
  | some v => if 1114111 < v then none else if hexT v = L then some v else none
theorem hexV_lt {x : Int} {d : Nat} (h : hexV x = some d) : d < 16 := by
  unfold hexV at h
  split at h
  · cases h; omega
  · split at h
    · cases h; omega
    · cases h
def dcap (d : Nat) : Int := if d < 10 then 48 + (d : Int) else 55 + (d : Int)
theorem up_hexD {d : Nat} (h : d < 16) : upI (hexD d) = dcap d := by
  unfold upI hexD dcap
  split <;> split <;> omega
theorem hexT_oct (c : Nat) (hc : c ≤ 1114111) : Oct (hexT c) := fun x hx => by
  unfold hexT at hx
  rcases List.mem_append.1 hx with hx | hx
  · obtain ⟨_, rfl⟩ := List.mem_replicate.1 hx; omega
  · obtain ⟨y, hy, rfl⟩ := List.mem_map.1 hx
    have := (hexL_small 6 c (by omega) (by omega)).2.2 y hy
    unfold upI
    split <;> omega
theorem hexT_len (c : Nat) (hc : c ≤ 1114111) : 4 ≤ (hexT c).length ∧ (hexT c).length ≤ 6 := by
  have := hexL_small 6 c (by omega) (by omega)
  unfold hexT
  rw [List.length_append, List.length_replicate, List.length_map]
  omega
def hexW (n : Nat) (acc : List Int) : List Int := if n = 0 then List.replicate (4 - acc.length) 48 ++ acc else List.replicate (4 - (hexL n).length - acc.length) 48 ++ ((hexL n).map upI ++ acc)
theorem hexW_step (n : Nat) (acc : List Int) (h : 0 < n ∨ acc.length < 4) : hexW n acc = hexW (n / 16) (dcap (n % 16) :: acc) := by
  unfold hexW
  by_cases h0 : n = 0
  · subst h0
    rw [if_pos rfl, if_pos (by omega), List.length_cons, show 4 - acc.length = 4 - (acc.length + 1) + 1 by omega, List.replicate_succ']
    simp [dcap]
  · rw [if_neg h0]
    by_cases h1 : n < 16
    · rw [if_pos (by omega), hexL_one h1, Nat.mod_eq_of_lt h1]
      simp only [List.map_cons, List.map_nil, List.length_cons, List.length_nil, List.singleton_append, up_hexD h1]
      congr 2
      omega
    · rw [if_neg (by omega), hexL_step (by omega), List.map_append, List.length_append]
      simp only [List.map_cons, List.map_nil, List.length_cons, List.length_nil, List.append_assoc, List.singleton_append, up_hexD (Nat.mod_lt n (by omega : 16 > 0))]
      congr 2
      omega
theorem hexW_done (acc : List Int) (h : 4 ≤ acc.length) : hexW 0 acc = acc := by
  unfold hexW
  rw [if_pos rfl, show 4 - acc.length = 0 by omega]; rfl
theorem hexW_all (v : Nat) : hexW v [] = hexT v := by
  unfold hexW hexT
  by_cases h : v = 0
  · subst h
    rw [if_pos rfl, hexL_one (by omega)]
    rfl
  · rw [if_neg h]; simp
theorem refHex_loop : ∀ (m n : Nat) (acc : List Int), n + (4 - acc.length) ≤ m → n ≤ 1114111 → acc.length ≤ 100 → n < 16 ^ (100 - acc.length) → Ev (fun k => paronymref02_Hex.l0 k (strOfNums acc) (n : Int)) (strOfNums (hexW n acc)) := by
  intro m
  induction m with
  | zero =>
    intro n acc hm hn ha hb
    have h0 : n = 0 := by omega
    rw [show hexW n acc = acc from by rw [h0]; exact hexW_done acc (by omega)]
    have hz := size_str acc
    refine Ev.step (fun k => rfl) (Ev.neg (by omega) ?_)
    rw [show decide (((strOfNums acc).size : Int) < 4) = false from decide_eq_false (by omega)]
    exact Ev.step (f := fun k => some (strOfNums acc)) (fun k => rfl) (Ev.ret rfl)
  | succ m ih =>
    intro n acc hm hn ha hb
    have hz := size_str acc
    by_cases hgo : 0 < n ∨ acc.length < 4
    · have next := ih (n / 16) (dcap (n % 16) :: acc) (by rw [List.length_cons]; omega) (by omega) (by
        rw [List.length_cons]
        rcases Nat.lt_or_ge acc.length 100 with h | h
        · omega
        · have : acc.length = 100 := by omega
          rw [this] at hb
          simp at hb
          omega) (by
        rw [List.length_cons]
        rcases Nat.lt_or_ge acc.length 100 with h | h
        · rw [show 100 - acc.length = (100 - (acc.length + 1)) + 1 by omega, Nat.pow_succ] at hb
          omega
        · have h1 : acc.length = 100 := by omega
          rw [h1] at hb
          simp at hb
          omega)
      rw [hexW_step n acc hgo]
      have hm16 : Int.tmod (n : Int) 16 = ((n % 16 : Nat) : Int) := by rw [Int.tmod_eq_emod_of_nonneg (by omega)]; omega
      have hd16 : Int.tdiv (n : Int) 16 = ((n / 16 : Nat) : Int) := by rw [Int.tdiv_eq_ediv_of_nonneg (by omega)]; omega
      have go : Ev (fun k => paronymref02_Hex.j1 k (strOfNums acc) (n : Int) true) (strOfNums (hexW (n / 16) (dcap (n % 16) :: acc))) := by
        have hlt : n % 16 < 16 := Nat.mod_lt _ (by omega)
        obtain ⟨d, hd⟩ : ∃ d, d = n % 16 := ⟨_, rfl⟩
        rw [← hd] at hm16 hlt next ⊢
        by_cases h10 : d < 10
        · refine Ev.step (f := fun k => if (Int.tmod (n : Int) 16) < 10 then ((some (([(wrap64 (48 + (Int.tmod (n : Int) 16))) % 256] : List Int) : List Int)).bind fun y101 => (if (strOfNums y101).size + (strOfNums acc).size ≤ 9223372036854775807 then (paronymref02_Hex.l0 k ((strOfNums y101) ++ (strOfNums acc)) (wrap64 (Int.tdiv (n : Int) 16))) else (none))) else ((some (([(wrap64 (55 + (Int.tmod (n : Int) 16))) % 256] : List Int) : List Int)).bind fun y104 => (if (strOfNums y104).size + (strOfNums acc).size ≤ 9223372036854775807 then (paronymref02_Hex.l0 k ((strOfNums y104) ++ (strOfNums acc)) (wrap64 (Int.tdiv (n : Int) 16))) else (none)))) (fun k => rfl) (Ev.pos (by rw [hm16]; omega) (Ev.bindS rfl (Ev.pos (by rw [size_str, hz]; simp; omega) ?_)))
          rw [hm16, hd16, w64 (n := 48 + (d : Int)) (by omega) (by omega), w64 (by omega) (by omega), str_append]
          have : ([(48 + (d : Int)) % 256] ++ acc : List Int) = dcap d :: acc := by
            unfold dcap
            rw [if_pos h10, Int.emod_eq_of_lt (by omega) (by omega)]; rfl
          rw [this]
          exact next
        · refine Ev.step (f := fun k => if (Int.tmod (n : Int) 16) < 10 then ((some (([(wrap64 (48 + (Int.tmod (n : Int) 16))) % 256] : List Int) : List Int)).bind fun y101 => (if (strOfNums y101).size + (strOfNums acc).size ≤ 9223372036854775807 then (paronymref02_Hex.l0 k ((strOfNums y101) ++ (strOfNums acc)) (wrap64 (Int.tdiv (n : Int) 16))) else (none))) else ((some (([(wrap64 (55 + (Int.tmod (n : Int) 16))) % 256] : List Int) : List Int)).bind fun y104 => (if (strOfNums y104).size + (strOfNums acc).size ≤ 9223372036854775807 then (paronymref02_Hex.l0 k ((strOfNums y104) ++ (strOfNums acc)) (wrap64 (Int.tdiv (n : Int) 16))) else (none)))) (fun k => rfl) (Ev.neg (by rw [hm16]; omega) (Ev.bindS rfl (Ev.pos (by rw [size_str, hz]; simp; omega) ?_)))
          rw [hm16, hd16, w64 (n := 55 + (d : Int)) (by omega) (by omega), w64 (by omega) (by omega), str_append]
          have : ([(55 + (d : Int)) % 256] ++ acc : List Int) = dcap d :: acc := by
            unfold dcap
            rw [if_neg h10, Int.emod_eq_of_lt (by omega) (by omega)]; rfl
          rw [this]
          exact next
      by_cases hn0 : 0 < n
      · exact Ev.step (fun k => rfl) (Ev.pos (by omega) go)
      · refine Ev.step (fun k => rfl) (Ev.neg (by omega) ?_)
        rw [show decide (((strOfNums acc).size : Int) < 4) = true from decide_eq_true (by omega)]
        exact go
    · have h0 : n = 0 := by omega
      rw [show hexW n acc = acc from by rw [h0]; exact hexW_done acc (by omega)]
      refine Ev.step (fun k => rfl) (Ev.neg (by omega) ?_)
      rw [show decide (((strOfNums acc).size : Int) < 4) = false from decide_eq_false (by omega)]
      exact Ev.step (f := fun k => some (strOfNums acc)) (fun k => rfl) (Ev.ret rfl)
theorem refHex_ev (v : Nat) (hv : v ≤ 1114111) : Ev (fun k => paronymref02_Hex.f k (v : Int)) (strOfNums (hexT v)) := by
  have := refHex_loop (v + 4) v [] (by simp) hv (by simp) (Nat.lt_of_le_of_lt hv (by decide))
  rw [hexW_all] at this
  exact this
end Go.Proofs.YtbpdcbibooiimaaGreatDoor.K
/- Layer 2's reference on lists: Point. -/
namespace Go.Proofs.YtbpdcbibooiimaaGreatDoor.K
open Go.RowKit Go.Proofs.YtbpdcbibooiimaaGreatDoorW.PrintWords Go.Proofs.YtbpdcbibooiimaaGreatDoorW.PrintMore Go.Proofs.YtbpdcbibooiimaaGreatDoor.Q
def orNone : Option Nat → Int
  | none => -1
  | some v => (v : Int)
def endP (L : List Int) : Option Nat → Option Nat
  | none => none
  | some v => if 1114111 < v then none else if hexT v = L then some v else none
theorem pointL_is (L : List Int) : pointL L = if L.length < 4 ∨ 6 < L.length then none else endP L (valF 0 L) := by
  unfold pointL endP
  cases valF 0 L <;> rfl
theorem pnt_step {L : List Int} (ho : Oct L) {v i : Nat} (hi : i < L.length) (hL : L.length ≤ 6) (hv : v < 16 ^ i) {r : Int}
    (h : match hexV L[i] with
      | none => r = -1
      | some d => Ev (fun k => paronymref02_Point.l0 k (strOfNums L) ((v * 16 + d : Nat) : Int) ((i + 1 : Nat) : Int)) r) : Ev (fun k => paronymref02_Point.l0 k (strOfNums L) (v : Int) (i : Int)) r := by
  have hz := size_str L
  have hb : bt (strOfNums L) (i : Int) = L[i] := by rw [bt_str ho (by omega) (by omega), rd_nat L i hi]
  have hx := ho _ (List.getElem_mem hi)
  obtain ⟨x, hxx⟩ : ∃ x, x = L[i] := ⟨_, rfl⟩
  rw [← hxx] at hb hx h
  have hw : wrap64 (bt (strOfNums L) (i : Int)) = x := by rw [hb, w64 (by omega) (by omega)]
  have hv6 : v < 16777216 := Nat.lt_of_lt_of_le hv (Nat.pow_le_pow_right (n := 16) (by omega) (show i ≤ 6 by omega))
  have j2f : ∀ (fl : Bool) , (fl = decide (48 ≤ x ∧ x ≤ 57)) → Ev (fun k => paronymref02_Point.j2 k (strOfNums L) (v : Int) (i : Int) x fl) r := by
    intro fl hfl
    cases fl with
    | true =>
      have h2 : 48 ≤ x ∧ x ≤ 57 := of_decide_eq_true hfl.symm
      unfold hexV at h
      rw [if_pos h2] at h
      refine Ev.step (f := fun k => paronymref02_Point.l0 k (strOfNums L) (wrap64 ((wrap64 ((wrap64 ((v : Int) * 16)) + x)) - 48)) (wrap64 ((i : Int) + 1))) (fun k => rfl) ?_
      rw [w64 (n := (v : Int) * 16) (by omega) (by omega), w64 (n := (v : Int) * 16 + x) (by omega) (by omega), w64 (by omega) (by omega), w64 (by omega) (by omega)]
      have e : (v : Int) * 16 + x - 48 = ((v * 16 + (x - 48).toNat : Nat) : Int) := by omega
      rw [e]
      exact h
    | false =>
      have h2 : ¬ (48 ≤ x ∧ x ≤ 57) := of_decide_eq_false hfl.symm
      unfold hexV at h
      rw [if_neg h2] at h
      refine Ev.step (f := fun k => if x ≥ 65 then (if x ≤ 70 then (paronymref02_Point.l0 k (strOfNums L) (wrap64 ((wrap64 ((wrap64 ((v : Int) * 16)) + x)) - 55)) (wrap64 ((i : Int) + 1))) else (some (-1))) else (some (-1))) (fun k => rfl) ?_
      by_cases h65 : x ≥ 65
      · refine Ev.pos h65 ?_
        by_cases h70 : x ≤ 70
        · rw [if_pos ⟨h65, h70⟩] at h
          refine Ev.pos h70 ?_
          rw [w64 (n := (v : Int) * 16) (by omega) (by omega), w64 (n := (v : Int) * 16 + x) (by omega) (by omega), w64 (by omega) (by omega), w64 (by omega) (by omega)]
          have e : (v : Int) * 16 + x - 55 = ((v * 16 + (x - 55).toNat : Nat) : Int) := by omega
          rw [e]
          exact h
        · rw [if_neg (by omega)] at h
          exact Ev.neg h70 (Ev.ret h.symm)
      · rw [if_neg (by omega)] at h
        exact Ev.neg h65 (Ev.ret h.symm)
  refine Ev.step (fun k => rfl) (Ev.pos (by omega) (Ev.pos (by omega) ?_))
  rw [hw]
  by_cases h48 : x ≥ 48
  · exact Ev.pos h48 (j2f _ (by rw [Bool.eq_iff_iff, decide_eq_true_iff, decide_eq_true_iff]; omega))
  · exact Ev.neg h48 (j2f _ (by symm; exact decide_eq_false (by omega)))
theorem pnt_loop {L : List Int} (ho : Oct L) (hL : L.length ≤ 6) : ∀ (d i v : Nat), L.length - i = d → i ≤ L.length → v < 16 ^ i → Ev (fun k => paronymref02_Point.l0 k (strOfNums L) (v : Int) (i : Int)) (orNone (endP L (valF v (L.drop i)))) := by
  intro d
  induction d with
  | zero =>
    intro i v h1 h2 h3
    have hz := size_str L
    rw [List.drop_eq_nil_iff.2 (by omega)]
    show Ev _ (orNone (if 1114111 < v then none else if hexT v = L then some v else none))
    refine Ev.step (fun k => rfl) (Ev.neg (by omega) ?_)
    by_cases h4 : 1114111 < v
    · rw [if_pos h4]
      exact Ev.pos (by omega) (Ev.ret rfl)
    · rw [if_neg h4]
      refine Ev.neg (by omega) (Ev.bind (refHex_ev v (by omega)) ?_)
      by_cases h5 : hexT v = L
      · rw [if_pos h5]
        exact Ev.pos (by rw [h5]) (Ev.ret rfl)
      · rw [if_neg h5]
        exact Ev.neg (fun e => h5 (str_inj (hexT_oct v (by omega)) ho (toList_inj e))) (Ev.ret rfl)
  | succ d ih =>
    intro i v h1 h2 h3
    have hi : i < L.length := by omega
    refine pnt_step ho hi hL h3 ?_
    rw [List.drop_eq_getElem_cons hi]
    show match hexV L[i] with
      | none => orNone (endP L (valF v (L[i] :: L.drop (i + 1)))) = -1
      | some d => Ev (fun k => paronymref02_Point.l0 k (strOfNums L) ((v * 16 + d : Nat) : Int) ((i + 1 : Nat) : Int)) (orNone (endP L (valF v (L[i] :: L.drop (i + 1)))))
    unfold valF
    cases hd : hexV L[i] with
    | none => rfl
    | some dd =>
      have hlt := hexV_lt hd
      exact ih (i + 1) (v * 16 + dd) (by omega) (by omega) (by rw [Nat.pow_succ]; omega)
theorem refPoint_ev {L : List Int} (ho : Oct L) (hl : L.length ≤ 1000000) : Ev (fun k => paronymref02_Point.f k (strOfNums L)) (orNone (pointL L)) := by
  have hz := size_str L
  rw [pointL_is]
  have j0f : ∀ fl : Bool, fl = decide (L.length < 4 ∨ 6 < L.length) → Ev (fun k => paronymref02_Point.j0 k (strOfNums L) fl) (orNone (if L.length < 4 ∨ 6 < L.length then none else endP L (valF 0 L))) := by
    intro fl h
    cases fl with
    | true =>
      rw [if_pos (of_decide_eq_true h.symm)]
      exact Ev.step (f := fun k => some (-1)) (fun k => rfl) (Ev.ret rfl)
    | false =>
      have hn := of_decide_eq_false h.symm
      rw [if_neg hn]
      have := pnt_loop ho (by omega) L.length 0 0 (by omega) (Nat.zero_le _) (by simp)
      rw [List.drop_zero] at this
      exact Ev.step (f := fun k => paronymref02_Point.l0 k (strOfNums L) ((0 : Nat) : Int) ((0 : Nat) : Int)) (fun k => rfl) this
  by_cases h4 : L.length < 4
  · exact Ev.pos (by omega) (j0f true (by symm; exact decide_eq_true (.inl h4)))
  · refine Ev.neg (by omega) (j0f _ ?_)
    rw [Bool.eq_iff_iff, decide_eq_true_iff, decide_eq_true_iff]
    omega
end Go.Proofs.YtbpdcbibooiimaaGreatDoor.K
namespace Go.Proofs.YtbpdcbibooiimaaGreatDoor.Q
open Go.RowKit Go.Proofs.YtbpdcbibooiimaaGreatDoorW.PrintWords Go.Proofs.YtbpdcbibooiimaaGreatDoorW.PrintLast Go.Proofs.YtbpdcbibooiimaaGreatDoorW.PrintMore
attribute [local go_sem] max2_int min2_int max_two min_two max_three min_three max_four min_four   -- for this text's walks alone
/-! ### paronymref02_Cut: function 18 -/
def paronymref02_Cut.l0 : Nat → ByteArray → Int → List ByteArray → Int → Int → Option (List ByteArray)
  | 0, _, _, _, _, _ => none
  | k + 1, x0, x1, x5, x6, x7 => if x7 ≤ (x0.size : Int) then (if x7 = (x0.size : Int) then (if 0 ≤ x6 then (if x6 ≤ x7 then (if x5.length < 8796093022208 then (paronymref02_Cut.l0 k x0 x1 (x5 ++ [x0.extract (x6 : Int).toNat (x7 : Int).toNat]) (wrap64 (x7 + 1)) (wrap64 (x7 + 1))) else (none)) else (none)) else (none)) else (if 0 ≤ x7 then (if x7 < (x0.size : Int) then (if (bt x0 x7) = x1 then (if 0 ≤ x6 then (if x6 ≤ x7 then (if x5.length < 8796093022208 then (paronymref02_Cut.l0 k x0 x1 (x5 ++ [x0.extract (x6 : Int).toNat (x7 : Int).toNat]) (wrap64 (x7 + 1)) (wrap64 (x7 + 1))) else (none)) else (none)) else (none)) else (paronymref02_Cut.l0 k x0 x1 x5 x6 (wrap64 (x7 + 1)))) else (none)) else (none))) else (some x5)
def paronymref02_Cut.f (k : Nat) (a0 : ByteArray) (a1 : Int) : Option (List ByteArray) := paronymref02_Cut.l0 k a0 a1 ([] : List ByteArray) 0 0
theorem paronymref02_Cut.mono_l : ∀ k, (∀ y0 y1 y2 y3 y4, LeO (paronymref02_Cut.l0 k y0 y1 y2 y3 y4) (paronymref02_Cut.l0 (k + 1) y0 y1 y2 y3 y4))
  | 0 => fun _ _ _ _ _ r h => by simp [paronymref02_Cut.l0] at h
  | k + 1 => by
    have ih0 := paronymref02_Cut.mono_l k
    · intro y0 y1 y2 y3 y4
      unfold paronymref02_Cut.l0
      repeat' first
      | (with_reducible exact ih0 _ _ _ _ _)
      | (with_reducible exact LeO.refl _)
      | (with_reducible exact LeO.none _)
      | (with_reducible refine LeO.ite ?_ ?_)
      | (with_reducible refine LeO.bind ?_ (fun _ => ?_))
      | exact ih0 _ _ _ _ _
      | exact LeO.none _
      | refine LeO.ite ?_ ?_
      | refine LeO.bind ?_ (fun _ => ?_)
theorem paronymref02_Cut.mono : ∀ a0 a1 k, LeO (paronymref02_Cut.f k a0 a1) (paronymref02_Cut.f (k + 1) a0 a1) := by
  intro a0 a1 k
  have ih0 := paronymref02_Cut.mono_l k
  unfold paronymref02_Cut.f
  repeat' first
      | (with_reducible exact ih0 _ _ _ _ _)
      | (with_reducible exact LeO.refl _)
      | (with_reducible exact LeO.none _)
      | (with_reducible refine LeO.ite ?_ ?_)
      | (with_reducible refine LeO.bind ?_ (fun _ => ?_))
      | exact ih0 _ _ _ _ _
      | exact LeO.none _
      | refine LeO.ite ?_ ?_
      | refine LeO.bind ?_ (fun _ => ?_)
set_option maxHeartbeats 8000000 in
set_option maxRecDepth 100000 in
theorem paronymref02_Cut.calls (k : Nat) (a0 : ByteArray) (a1 : Int) (r : List ByteArray) (w : World) (h : paronymref02_Cut.f k a0 a1 = some r) :
    Calls Tryz.prog 18 #[.string a0, .int .u8 a1] w fun e w' => ∃ v0_ : Value, e = .returned (v0_) ∧ Kd.R Kd.string 9 w' w.heap.size (fun _ => True) v0_ r ∧ Below w.heap.size w w' := by
  have HB := Aside0.mk (Below.refl w.heap.size w)
  have H : (paronymref02_Cut.l0 k a0 a1 ([] : List ByteArray) 0 0) = some r := h
  clear h
  have H' := Aside0.mk H
  clear H
  go_enter Tryz.func18, Tryz.ntmps18
  go_wp2
  go_loopg [5, 6, 7] k (fun kq v5 v6 v7 w' => ∃ (x5_1 : List ByteArray) (x6_1 : Int) (x7_1 : Int), v6 = .int .i64 x6_1 ∧ v7 = .int .i64 x7_1 ∧ Aside0 (paronymref02_Cut.l0 kq a0 a1 x5_1 x6_1 x7_1 = some r) ∧ Aside0 (kq ≤ k) ∧ Aside0 (Kd.R Kd.string 9 w' w.heap.size (fun _ => True) v5 x5_1) ∧ Aside0 (Below w.heap.size w w'))
  case atStart => exact ⟨(([] : List ByteArray)), (0), (0), (by first | rfl | (simp; done) | (simp [*]; done)), (by first | rfl | (simp; done) | (simp [*]; done)), H', ⟨Nat.le_refl _⟩, ⟨by first | exact Kd.R_nil _ _ _ _ _ | exact Kd.N_nil _ _ _ _ _ | exact Kd.V_nil _ _ _ _ _ | exact Kd.Q_nil _ _ _ _ _ | exact Kd.S_nil _ _ _ _ _⟩, ⟨by repeat (first | (with_reducible first | exact HB.out | apply below_alloc | apply pw_below_drewN | apply below_drew1) | exact HB.out)⟩⟩
  case round =>
    clear H'
    try clear c1
    try clear p2
    obtain ⟨x5_1, x6_1, x7_1, rfl, rfl, HA, HK1, HO_5, HB⟩ := hrel
    cases gk with
    | zero => exact absurd HA.out (by simp [paronymref02_Cut.l0])
    | succ k1 =>
      have H := HA.out
      clear HA
      simp only [paronymref02_Cut.l0] at H
      by_cases c3 : x7_1 ≤ (a0.size : Int)
      · rw [if_pos c3] at H
        have c3b0 : decide (x7_1 ≤ (a0.size : Int)) = true := decide_eq_true c3
        clear c3
        by_cases c4 : x7_1 = (a0.size : Int)
        · rw [if_pos c4] at H
          have c4b0 : (x7_1 == (a0.size : Int)) = true := beq_iff_eq.mpr c4
          have c4b1 : (x7_1 != (a0.size : Int)) = false := bne_eq_false_iff_eq.mpr c4
          clear c4
          by_cases c5 : 0 ≤ x6_1
          · rw [if_pos c5] at H
            have c5b0 := eq_true c5
            have c5b1 : decide (0 ≤ x6_1) = true := decide_eq_true c5
            clear c5
            by_cases c6 : x6_1 ≤ x7_1
            · rw [if_pos c6] at H
              have c6b0 := eq_true c6
              have c6b1 : decide (x6_1 ≤ x7_1) = true := decide_eq_true c6
              clear c6
              have c7b0 := eq_true (of_decide_eq_true (by first | (with_reducible assumption) | assumption) : x7_1 ≤ (a0.size : Int))
              by_cases c8 : x5_1.length < 8796093022208
              · rw [if_pos c8] at H
                have LMc8 := Aside0.mk c8
                clear c8
                obtain ⟨y101, hy101⟩ : ∃ y_ : List ByteArray, y_ = (x5_1 ++ [a0.extract (x6_1 : Int).toNat (x7_1 : Int).toNat]) := ⟨_, rfl⟩
                replace H : (paronymref02_Cut.l0 k1 a0 a1 y101 (wrap64 (x7_1 + 1)) (wrap64 (x7_1 + 1))) = some r := by first | (rw [hy101]; with_reducible exact H) | (have H2_ := (Option.bind_some _ _).symm.trans H; rw [hy101]; with_reducible exact H2_) | (have H2_ := (Option.bind_some _ _).symm.trans H; with_reducible exact H2_) | with_reducible exact H | (rw [hy101]; exact H) | exact H
                have Ny101 := Aside0.mk hy101
                clear hy101
                have H' := Aside0.mk H
                clear H
                go_wp2_with (first | ((with_reducible refine gate_builtin (b := .append) (xs := #[.tmp 25, .tmp 30]) rfl ?_); at_builtin; refine Kd.R_append Kd.string (w0 := w) w.heap.size rfl (.tmp 25) (.tmp 30) 23 9 (.string ⟨#[]⟩) 16 rfl Tryz.underlying23 info9 rfl (by decide) (by omega) u5 x5_1 (a0.extract (x6_1 : Int).toNat (x7_1 : Int).toNat) [.string (a0.extract (x6_1 : Int).toNat (x7_1 : Int).toNat)] (fun _ => True) (fun _ => False) rfl rfl ?aP (fun _ hk => hk.elim) ?aF ?aO ?aB ?aS ?aL ?_; (case aP => exact rfl); (case aB => exact (by repeat (first | (with_reducible first | exact HB.out | apply below_alloc | apply pw_below_drewN | apply below_drew1) | exact HB.out))); (case aF => exact (fun _ _ => trivial)); (case aO => exact (by (with_reducible repeat (first | apply Kd.R_alloc | apply Kd.R_drewN | apply Kd.R_drew)); exact HO_5.out)); (case aS => exact (below_size (by repeat (first | (with_reducible first | exact HB.out | apply below_alloc | apply pw_below_drewN | apply below_drew1) | exact HB.out)))); (case aL => have := LMc8.out; omega); intro v102 w9 ho hb hg hat; rw [← Ny101.out] at ho; have n0_ := Aside0.mk (hb); have n1_ := Aside0.mk (ho); clear HB; clear HO_5; have HB := n0_; have HO103 := n1_; clear n0_ n1_; clear ho hb hg hat))
                go_roundg k1
                case measure => have := HK1.out; omega
                case rel => exact ⟨(y101), (wrap64 (x7_1 + 1)), (wrap64 (x7_1 + 1)), (by first | rfl | (simp; done) | (simp [*]; done)), (by first | rfl | (simp; done) | (simp [*]; done)), H', ⟨by have := HK1.out; omega⟩, ⟨by (with_reducible repeat (first | apply Kd.R_alloc | apply Kd.R_drewN | apply Kd.R_drew)); exact HO103.out⟩, ⟨by repeat (first | (with_reducible first | exact HB.out | apply below_alloc | apply pw_below_drewN | apply below_drew1) | exact HB.out)⟩⟩
              · rw [if_neg c8] at H
                exact absurd H (by simp)
            · rw [if_neg c6] at H
              exact absurd H (by simp)
          · rw [if_neg c5] at H
            exact absurd H (by simp)
        · rw [if_neg c4] at H
          have c4b0 : (x7_1 == (a0.size : Int)) = false := beq_eq_false_iff_ne.mpr c4
          have c4b1 : (x7_1 != (a0.size : Int)) = true := bne_iff_ne.mpr c4
          by_cases c10 : 0 ≤ x7_1
          · rw [if_pos c10] at H
            have c10b0 : decide (0 ≤ x7_1) = true := decide_eq_true c10
            clear c10
            by_cases c11 : x7_1 < (a0.size : Int)
            · rw [if_pos c11] at H
              have c11b0 : decide (x7_1 < (a0.size : Int)) = true := decide_eq_true c11
              clear c11
              by_cases c13 : (bt a0 x7_1) = a1
              · rw [if_pos c13] at H
                have c13b0 : ((bt a0 x7_1) == a1) = true := beq_iff_eq.mpr c13
                have c13b1 : ((bt a0 x7_1) != a1) = false := bne_eq_false_iff_eq.mpr c13
                clear c13
                by_cases c14 : 0 ≤ x6_1
                · rw [if_pos c14] at H
                  have c14b0 := eq_true c14
                  have c14b1 : decide (0 ≤ x6_1) = true := decide_eq_true c14
                  clear c14
                  by_cases c15 : x6_1 ≤ x7_1
                  · rw [if_pos c15] at H
                    have c15b0 := eq_true c15
                    have c15b1 : decide (x6_1 ≤ x7_1) = true := decide_eq_true c15
                    clear c15
                    have c16b0 := eq_true (of_decide_eq_true (by first | (with_reducible assumption) | assumption) : x7_1 ≤ (a0.size : Int))
                    by_cases c17 : x5_1.length < 8796093022208
                    · rw [if_pos c17] at H
                      have LMc17 := Aside0.mk c17
                      clear c17
                      obtain ⟨y104, hy104⟩ : ∃ y_ : List ByteArray, y_ = (x5_1 ++ [a0.extract (x6_1 : Int).toNat (x7_1 : Int).toNat]) := ⟨_, rfl⟩
                      replace H : (paronymref02_Cut.l0 k1 a0 a1 y104 (wrap64 (x7_1 + 1)) (wrap64 (x7_1 + 1))) = some r := by first | (rw [hy104]; with_reducible exact H) | (have H2_ := (Option.bind_some _ _).symm.trans H; rw [hy104]; with_reducible exact H2_) | (have H2_ := (Option.bind_some _ _).symm.trans H; with_reducible exact H2_) | with_reducible exact H | (rw [hy104]; exact H) | exact H
                      have Ny104 := Aside0.mk hy104
                      clear hy104
                      have H' := Aside0.mk H
                      clear H
                      have p12 : 0 ≤ (x7_1 : Int) := of_decide_eq_true (by first | (with_reducible assumption) | assumption)
                      have q12 : x7_1 < (a0.size : Int) := of_decide_eq_true (by first | (with_reducible assumption) | assumption)
                      have hx12 := bt_at a0 x7_1
                      replace p12 := eq_true p12
                      replace q12 := eq_true q12
                      go_wp2_with (first | ((with_reducible refine gate_builtin (b := .append) (xs := #[.tmp 25, .tmp 30]) rfl ?_); at_builtin; refine Kd.R_append Kd.string (w0 := w) w.heap.size rfl (.tmp 25) (.tmp 30) 23 9 (.string ⟨#[]⟩) 16 rfl Tryz.underlying23 info9 rfl (by decide) (by omega) u5 x5_1 (a0.extract (x6_1 : Int).toNat (x7_1 : Int).toNat) [.string (a0.extract (x6_1 : Int).toNat (x7_1 : Int).toNat)] (fun _ => True) (fun _ => False) rfl rfl ?aP (fun _ hk => hk.elim) ?aF ?aO ?aB ?aS ?aL ?_; (case aP => exact rfl); (case aB => exact (by repeat (first | (with_reducible first | exact HB.out | apply below_alloc | apply pw_below_drewN | apply below_drew1) | exact HB.out))); (case aF => exact (fun _ _ => trivial)); (case aO => exact (by (with_reducible repeat (first | apply Kd.R_alloc | apply Kd.R_drewN | apply Kd.R_drew)); exact HO_5.out)); (case aS => exact (below_size (by repeat (first | (with_reducible first | exact HB.out | apply below_alloc | apply pw_below_drewN | apply below_drew1) | exact HB.out)))); (case aL => have := LMc17.out; omega); intro v105 w18 ho hb hg hat; rw [← Ny104.out] at ho; have n0_ := Aside0.mk (hb); have n1_ := Aside0.mk (ho); clear HB; clear HO_5; have HB := n0_; have HO106 := n1_; clear n0_ n1_; clear ho hb hg hat))
                      go_roundg k1
                      case measure => have := HK1.out; omega
                      case rel => exact ⟨(y104), (wrap64 (x7_1 + 1)), (wrap64 (x7_1 + 1)), (by first | rfl | (simp; done) | (simp [*]; done)), (by first | rfl | (simp; done) | (simp [*]; done)), H', ⟨by have := HK1.out; omega⟩, ⟨by (with_reducible repeat (first | apply Kd.R_alloc | apply Kd.R_drewN | apply Kd.R_drew)); exact HO106.out⟩, ⟨by repeat (first | (with_reducible first | exact HB.out | apply below_alloc | apply pw_below_drewN | apply below_drew1) | exact HB.out)⟩⟩
                    · rw [if_neg c17] at H
                      exact absurd H (by simp)
                  · rw [if_neg c15] at H
                    exact absurd H (by simp)
                · rw [if_neg c14] at H
                  exact absurd H (by simp)
              · rw [if_neg c13] at H
                have c13b0 : ((bt a0 x7_1) == a1) = false := beq_eq_false_iff_ne.mpr c13
                have c13b1 : ((bt a0 x7_1) != a1) = true := bne_iff_ne.mpr c13
                have H' := Aside0.mk H
                clear H
                have p12 : 0 ≤ (x7_1 : Int) := of_decide_eq_true (by first | (with_reducible assumption) | assumption)
                have q12 : x7_1 < (a0.size : Int) := of_decide_eq_true (by first | (with_reducible assumption) | assumption)
                have hx12 := bt_at a0 x7_1
                replace p12 := eq_true p12
                replace q12 := eq_true q12
                go_wp2
                go_roundg k1
                case measure => have := HK1.out; omega
                case rel => exact ⟨(x5_1), (x6_1), (wrap64 (x7_1 + 1)), (by first | rfl | (simp; done) | (simp [*]; done)), (by first | rfl | (simp; done) | (simp [*]; done)), H', ⟨by have := HK1.out; omega⟩, ⟨by (with_reducible repeat (first | apply Kd.R_alloc | apply Kd.R_drewN | apply Kd.R_drew)); exact HO_5.out⟩, ⟨by repeat (first | (with_reducible first | exact HB.out | apply below_alloc | apply pw_below_drewN | apply below_drew1) | exact HB.out)⟩⟩
            · rw [if_neg c11] at H
              exact absurd H (by simp)
          · rw [if_neg c10] at H
            exact absurd H (by simp)
      · rw [if_neg c3] at H
        have c3b0 : decide (x7_1 ≤ (a0.size : Int)) = false := decide_eq_false c3
        clear c3
        obtain rfl := Option.some.inj H
        go_wp2
        go_ret
        exact ⟨_, by first | rfl | (simp [errW_none, errW_some] <;> rfl) | (simp [*, errW_none, errW_some] <;> rfl), by (with_reducible repeat (first | apply Kd.R_alloc | apply Kd.R_drewN | apply Kd.R_drew)); exact HO_5.out, by repeat (first | (with_reducible first | exact HB.out | apply below_alloc | apply pw_below_drewN | apply below_drew1) | exact HB.out)⟩
end Go.Proofs.YtbpdcbibooiimaaGreatDoor.Q
/- Layer 2's reference on lists: Cut. -/
namespace Go.Proofs.YtbpdcbibooiimaaGreatDoor.K
open Go.RowKit Go.Proofs.YtbpdcbibooiimaaGreatDoorW.PrintWords Go.Proofs.YtbpdcbibooiimaaGreatDoorW.PrintMore Go.Proofs.YtbpdcbibooiimaaGreatDoor.Q
def onto (pre : List Int) : List (List Int) → List (List Int)
  | [] => []
  | q :: r => (pre ++ q) :: r
theorem spl_step (c : Int) {L : List Int} (i : Nat) (h : i < L.length) : spl c (L.drop i) = if L[i] = c then [] :: spl c (L.drop (i + 1)) else onto [L[i]] (spl c (L.drop (i + 1))) := by
  rw [List.drop_eq_getElem_cons h]
  show splP _ (_ :: _) = _
  rw [splP_cons]
  by_cases hc : L[i] = c
  · rw [if_pos (decide_eq_true hc), if_pos hc]; rfl
  · rw [if_neg (by simpa using hc), if_neg hc]
    show _ = onto [L[i]] (splP _ _)
    cases hs : splP (fun x => decide (x = c)) (L.drop (i + 1)) with
    | nil => exact absurd hs (splP_ne _ _)
    | cons a r => rfl
theorem onto_onto (a b : List Int) (X : List (List Int)) : onto a (onto b X) = onto (a ++ b) X := by cases X <;> simp [onto]
theorem onto_nil (X : List (List Int)) : onto [] X = X := by cases X <;> simp [onto]
theorem cut_loop {L : List Int} (ho : Oct L) (hL : L.length ≤ 1000000) (c : Int) : ∀ (d i fr : Nat) (acc : List ByteArray), L.length - i = d → fr ≤ i → i ≤ L.length → acc.length ≤ i →
    Ev (fun k => paronymref02_Cut.l0 k (strOfNums L) c acc (fr : Int) (i : Int)) (acc ++ (onto ((L.take i).drop fr) (spl c (L.drop i))).map strOfNums) := by
  intro d
  induction d with
  | zero =>
    intro i fr acc h1 h2 h3 h4
    have hi : i = L.length := by omega
    have e1 : (L.take i).drop fr = L.drop fr := by rw [hi, List.take_length]
    have e2 : spl c (L.drop i) = [[]] := by rw [hi, List.drop_length]; rfl
    have hz := size_str L
    refine Ev.step (fun k => rfl) (Ev.pos (by omega) (Ev.pos (by omega) (Ev.pos (by omega) (Ev.pos (by omega) (Ev.pos (by omega) ?_)))))
    rw [w64 (by omega) (by omega)]
    refine Ev.step (fun k => rfl) (Ev.neg (by omega) (Ev.ret ?_))
    rw [Int.toNat_natCast, Int.toNat_natCast, extract_str, e2]
    simp [onto]
  | succ d ih =>
    intro i fr acc h1 h2 h3 h4
    have hi : i < L.length := by omega
    have hb : bt (strOfNums L) (i : Int) = L[i] := by rw [bt_str ho (by omega) (by omega), rd_nat L i hi]
    have hz := size_str L
    rw [spl_step c i hi]
    refine Ev.step (fun k => rfl) (Ev.pos (by omega) (Ev.neg (by omega) (Ev.pos (by omega) (Ev.pos (by omega) ?_))))
    by_cases hc : L[i] = c
    · rw [if_pos hc]
      refine Ev.pos (by rw [hb]; exact hc) (Ev.pos (by omega) (Ev.pos (by omega) (Ev.pos (by omega) ?_)))
      rw [w64 (by omega) (by omega)]
      have next := ih (i + 1) (i + 1) (acc ++ [(strOfNums L).extract fr i]) (by omega) (Nat.le_refl _) (by omega) (by simp; omega)
      rw [show (L.take (i + 1)).drop (i + 1) = [] from by rw [List.drop_eq_nil_iff, List.length_take]; omega, onto_nil] at next
      rw [Int.toNat_natCast, Int.toNat_natCast]
      have e : acc ++ List.map strOfNums (onto ((L.take i).drop fr) ([] :: spl c (L.drop (i + 1)))) = (acc ++ [(strOfNums L).extract fr i]) ++ (spl c (L.drop (i + 1))).map strOfNums := by
        rw [extract_str]; simp [onto]
      rw [e]
      exact next
    · rw [if_neg hc]
      refine Ev.neg (by rw [hb]; exact hc) ?_
      rw [w64 (by omega) (by omega)]
      have next := ih (i + 1) fr acc (by omega) (by omega) (by omega) (by omega)
      rw [onto_onto]
      have e : (L.take i).drop fr ++ [L[i]] = (L.take (i + 1)).drop fr := by
        rw [← List.take_append_getElem hi, List.drop_append_of_le_length (by rw [List.length_take]; omega)]
      rw [e]
      exact next
theorem cut_ev {L : List Int} (ho : Oct L) (hL : L.length ≤ 1000000) (c : Int) : Ev (fun k => paronymref02_Cut.f k (strOfNums L) c) ((spl c L).map strOfNums) := by
  have := cut_loop ho hL c L.length 0 0 [] (by omega) (Nat.le_refl _) (Nat.zero_le _) (Nat.zero_le _)
  rw [List.nil_append, List.take_zero, List.drop_nil, onto_nil, List.drop_zero] at this
  exact this
end Go.Proofs.YtbpdcbibooiimaaGreatDoor.K
namespace Go.Proofs.YtbpdcbibooiimaaGreatDoor.Q
open Go.RowKit Go.Proofs.YtbpdcbibooiimaaGreatDoorW.PrintWords Go.Proofs.YtbpdcbibooiimaaGreatDoorW.PrintLast Go.Proofs.YtbpdcbibooiimaaGreatDoorW.PrintMore
attribute [local go_sem] max2_int min2_int max_two min_two max_three min_three max_four min_four   -- for this text's walks alone
/-! ### paronymref02_Range: function 49 -/
mutual
def paronymref02_Range.j1 : Nat → ByteArray → Int → Option (Int × Int × Int)
  | 0, _, _ => none
  | k + 1, x0, x5 => if x5 < 0 then ((paronymref02_Point.f k x0).bind fun t101 => (if t101 < 0 then (some (0, 0, 13)) else (some (t101, t101, 0)))) else (if 0 ≤ x5 then (if x5 ≤ (x0.size : Int) then ((paronymref02_Point.f k (x0.extract 0 (x5 : Int).toNat)).bind fun t102 => (if 0 ≤ (wrap64 (x5 + 2)) then (if (wrap64 (x5 + 2)) ≤ (x0.size : Int) then ((paronymref02_Point.f k (x0.extract ((wrap64 (x5 + 2)) : Int).toNat x0.size)).bind fun t103 => (if t102 < 0 then (paronymref02_Range.j2 k t102 t103 true) else (paronymref02_Range.j2 k t102 t103 (decide (t103 < 0))))) else (none)) else (none))) else (none)) else (none))
def paronymref02_Range.j2 : Nat → Int → Int → Bool → Option (Int × Int × Int)
  | 0, _, _, _ => none
  | k + 1, x8, x9, x51 => if x51 = true then (some (0, 0, 13)) else (if x9 ≤ x8 then (some (0, 0, 14)) else (some (x8, x9, 0)))
def paronymref02_Range.l0 : Nat → ByteArray → Int → Int → Option (Int × Int × Int)
  | 0, _, _, _ => none
  | k + 1, x0, x5, x6 => if (wrap64 (x6 + 2)) ≤ (x0.size : Int) then (if 0 ≤ x6 then (if x6 < (x0.size : Int) then (if (bt x0 x6) = 46 then (if 0 ≤ (wrap64 (x6 + 1)) then (if (wrap64 (x6 + 1)) < (x0.size : Int) then (if (bt x0 (wrap64 (x6 + 1))) = 46 then (paronymref02_Range.j1 k x0 x6) else (paronymref02_Range.l0 k x0 x5 (wrap64 (x6 + 1)))) else (none)) else (none)) else (paronymref02_Range.l0 k x0 x5 (wrap64 (x6 + 1)))) else (none)) else (none)) else (paronymref02_Range.j1 k x0 x5)
end
def paronymref02_Range.f (k : Nat) (a0 : ByteArray) : Option (Int × Int × Int) := paronymref02_Range.l0 k a0 (-1) 0
theorem paronymref02_Range.mono_l : ∀ k, (∀ y0 y1, LeO (paronymref02_Range.j1 k y0 y1) (paronymref02_Range.j1 (k + 1) y0 y1)) ∧ (∀ y0 y1 y2, LeO (paronymref02_Range.j2 k y0 y1 y2) (paronymref02_Range.j2 (k + 1) y0 y1 y2)) ∧ (∀ y0 y1 y2, LeO (paronymref02_Range.l0 k y0 y1 y2) (paronymref02_Range.l0 (k + 1) y0 y1 y2))
  | 0 => ⟨fun _ _ r h => by simp [paronymref02_Range.j1] at h, fun _ _ _ r h => by simp [paronymref02_Range.j2] at h, fun _ _ _ r h => by simp [paronymref02_Range.l0] at h⟩
  | k + 1 => by
    obtain ⟨ih0, ih1, ih2⟩ := paronymref02_Range.mono_l k
    refine ⟨?_, ?_, ?_⟩
    · intro y0 y1
      unfold paronymref02_Range.j1
      repeat' first
      | (with_reducible exact ih0 _ _)
      | (with_reducible exact ih1 _ _ _)
      | (with_reducible exact ih2 _ _ _)
      | (with_reducible exact paronymref02_Point.mono _ _)
      | (with_reducible exact LeO.refl _)
      | (with_reducible exact LeO.none _)
      | (with_reducible refine LeO.ite ?_ ?_)
      | (with_reducible refine LeO.bind ?_ (fun _ => ?_))
      | exact ih0 _ _
      | exact ih1 _ _ _
      | exact ih2 _ _ _
      | exact paronymref02_Point.mono _ _
      | exact LeO.none _
      | refine LeO.ite ?_ ?_
      | refine LeO.bind ?_ (fun _ => ?_)
    · intro y0 y1 y2
      unfold paronymref02_Range.j2
      repeat' first
      | (with_reducible exact ih0 _ _)
      | (with_reducible exact ih1 _ _ _)
      | (with_reducible exact ih2 _ _ _)
      | (with_reducible exact paronymref02_Point.mono _ _)
      | (with_reducible exact LeO.refl _)
      | (with_reducible exact LeO.none _)
      | (with_reducible refine LeO.ite ?_ ?_)
      | (with_reducible refine LeO.bind ?_ (fun _ => ?_))
      | exact ih0 _ _
      | exact ih1 _ _ _
      | exact ih2 _ _ _
      | exact paronymref02_Point.mono _ _
      | exact LeO.none _
      | refine LeO.ite ?_ ?_
      | refine LeO.bind ?_ (fun _ => ?_)
    · intro y0 y1 y2
      unfold paronymref02_Range.l0
      repeat' first
      | (with_reducible exact ih0 _ _)
      | (with_reducible exact ih1 _ _ _)
      | (with_reducible exact ih2 _ _ _)
      | (with_reducible exact paronymref02_Point.mono _ _)
      | (with_reducible exact LeO.refl _)
      | (with_reducible exact LeO.none _)
      | (with_reducible refine LeO.ite ?_ ?_)
      | (with_reducible refine LeO.bind ?_ (fun _ => ?_))
      | exact ih0 _ _
      | exact ih1 _ _ _
      | exact ih2 _ _ _
      | exact paronymref02_Point.mono _ _
      | exact LeO.none _
      | refine LeO.ite ?_ ?_
      | refine LeO.bind ?_ (fun _ => ?_)
theorem paronymref02_Range.mono : ∀ a0 k, LeO (paronymref02_Range.f k a0) (paronymref02_Range.f (k + 1) a0) := by
  intro a0 k
  obtain ⟨ih0, ih1, ih2⟩ := paronymref02_Range.mono_l k
  unfold paronymref02_Range.f
  repeat' first
      | (with_reducible exact ih0 _ _)
      | (with_reducible exact ih1 _ _ _)
      | (with_reducible exact ih2 _ _ _)
      | (with_reducible exact paronymref02_Point.mono _ _)
      | (with_reducible exact LeO.refl _)
      | (with_reducible exact LeO.none _)
      | (with_reducible refine LeO.ite ?_ ?_)
      | (with_reducible refine LeO.bind ?_ (fun _ => ?_))
      | exact ih0 _ _
      | exact ih1 _ _ _
      | exact ih2 _ _ _
      | exact paronymref02_Point.mono _ _
      | exact LeO.none _
      | refine LeO.ite ?_ ?_
      | refine LeO.bind ?_ (fun _ => ?_)
def paronymref02_Range.T12 : Bool × List (List Nat × List Nat) := (true, [([], []), ([], []), ([0, 1], [0, 1]), ([2], [2]), ([], []), ([], []), ([5], [5]), ([4, 6], [4, 6]), ([7, 3], [7]), ([3, 8, 0, 1, 2, 3], [3]), ([8, 9, 0, 1, 2, 3, 4, 5, 6, 7, 8, 9], [8])])
def paronymref02_Range.B12 : List Nat := [0, 0, 3, 7, 0, 0, 32, 112, 255, 511, 1023]
theorem paronymref02_Range.tab12 : rtab .any (opsOf Tryz.f49 12) = paronymref02_Range.T12 := by kernel_rfl
theorem paronymref02_Range.bits12 : waitsOk paronymref02_Range.T12.2 paronymref02_Range.B12 = true := by kernel_rfl
set_option maxHeartbeats 8000000 in
set_option maxRecDepth 100000 in
theorem paronymref02_Range.calls (k : Nat) (a0 : ByteArray) (r1 : Int) (r2 : Int) (r3 : Int) (w : World) (h : paronymref02_Range.f k a0 = some (r1, r2, r3)) :
    Calls Tryz.prog 49 #[.string a0] w fun e w' => e = .returned (.tuple #[.int .i64 r1, .int .i64 r2, .int .i64 r3]) ∧ Below w.heap.size w w' := by
  have HB := Aside0.mk (Below.refl w.heap.size w)
  have H : (paronymref02_Range.l0 k a0 (-1) 0) = some (r1, r2, r3) := h
  clear h
  have HC2 := Aside0.mk H
  clear H
  go_enter Tryz.func49, Tryz.ntmps49
  go_upto_block 0 with (fail)
  go_cut [5] (fun v5 wc => ∃ (kq : Nat) (x5_1 : Int), v5 = .int .i64 x5_1 ∧ Aside0 (paronymref02_Range.j1 kq a0 x5_1 = some (r1, r2, r3)) ∧ Aside0 (kq ≤ k) ∧ Aside0 (Below w.heap.size w wc))
  case first =>
    have H := HC2.out
    clear HC2
    have H' := Aside0.mk H
    clear H
    go_wp2
    go_loopg [5, 6] k (fun kq v5 v6 w' => ∃ (x5_1 : Int) (x6_1 : Int), v5 = .int .i64 x5_1 ∧ v6 = .int .i64 x6_1 ∧ Aside0 (paronymref02_Range.l0 kq a0 x5_1 x6_1 = some (r1, r2, r3)) ∧ Aside0 (kq ≤ k) ∧ Aside0 (Below w.heap.size w w'))
    case atStart => exact ⟨((-1)), (0), (by first | rfl | (simp; done) | (simp [*]; done)), (by first | rfl | (simp; done) | (simp [*]; done)), H', ⟨Nat.le_refl _⟩, ⟨by repeat (first | (with_reducible first | exact HB.out | apply below_alloc | apply pw_below_drewN | apply below_drew1) | exact HB.out)⟩⟩
    case round =>
      clear H'
      try clear p2
      obtain ⟨x5_1, x6_1, rfl, rfl, HA, HK1, HB⟩ := hrel
      cases gk with
      | zero => exact absurd HA.out (by simp [paronymref02_Range.l0])
      | succ k1 =>
        have H := HA.out
        clear HA
        simp only [paronymref02_Range.l0] at H
        by_cases c3 : (wrap64 (x6_1 + 2)) ≤ (a0.size : Int)
        · rw [if_pos c3] at H
          have c3b0 : decide ((wrap64 (x6_1 + 2)) ≤ (a0.size : Int)) = true := decide_eq_true c3
          clear c3
          (first | rw [c3b0] | (simp only [i64_w, i32_w]; rw [c3b0]) | rw [c3b1] | (simp only [i64_w, i32_w]; rw [c3b1]) | skip)
          by_cases c4 : 0 ≤ x6_1
          · rw [if_pos c4] at H
            have c4b0 : decide (0 ≤ x6_1) = true := decide_eq_true c4
            clear c4
            by_cases c5 : x6_1 < (a0.size : Int)
            · rw [if_pos c5] at H
              have c5b0 : decide (x6_1 < (a0.size : Int)) = true := decide_eq_true c5
              clear c5
              by_cases c7 : (bt a0 x6_1) = 46
              · rw [if_pos c7] at H
                have c7b0 : ((bt a0 x6_1) == 46) = true := beq_iff_eq.mpr c7
                have c7b1 : ((bt a0 x6_1) != 46) = false := bne_eq_false_iff_eq.mpr c7
                clear c7
                obtain ⟨ji8, hji8⟩ : ∃ j_ : Int, (wrap64 (x6_1 + 1)) = j_ := ⟨_, rfl⟩
                replace H : (if 0 ≤ (ji8) then (if (ji8) < (a0.size : Int) then (if (bt a0 (ji8)) = 46 then (paronymref02_Range.j1 k1 a0 x6_1) else (paronymref02_Range.l0 k1 a0 x5_1 ji8)) else (none)) else (none)) = some (r1, r2, r3) := by first | (rw [hji8] at H; exact H) | (simp only [hji8] at H ⊢; exact H)
                have hji8w : (IntKind.i64.wrap (x6_1 + 1)) = ji8 := (i64_w _).trans hji8
                by_cases c9 : 0 ≤ (ji8)
                · rw [if_pos c9] at H
                  have c9b0 : decide (0 ≤ (ji8)) = true := decide_eq_true c9
                  clear c9
                  by_cases c10 : (ji8) < (a0.size : Int)
                  · rw [if_pos c10] at H
                    have c10b0 : decide ((ji8) < (a0.size : Int)) = true := decide_eq_true c10
                    clear c10
                    by_cases c12 : (bt a0 (ji8)) = 46
                    · rw [if_pos c12] at H
                      have c12b0 : ((bt a0 (ji8)) == 46) = true := beq_iff_eq.mpr c12
                      have c12b1 : ((bt a0 (ji8)) != 46) = false := bne_eq_false_iff_eq.mpr c12
                      clear c12
                      have H' := Aside0.mk H
                      clear H
                      have p6 : 0 ≤ (x6_1 : Int) := of_decide_eq_true (by first | (with_reducible assumption) | assumption)
                      have q6 : x6_1 < (a0.size : Int) := of_decide_eq_true (by first | (with_reducible assumption) | assumption)
                      have hx6 := bt_at a0 x6_1
                      replace p6 := eq_true p6
                      replace q6 := eq_true q6
                      have p11 : 0 ≤ ((ji8) : Int) := of_decide_eq_true (by first | (with_reducible assumption) | assumption)
                      have q11 : (ji8) < (a0.size : Int) := of_decide_eq_true (by first | (with_reducible assumption) | assumption)
                      have hx11 := bt_at a0 (ji8)
                      replace p11 := eq_true p11
                      replace q11 := eq_true q11
                      go_wp2
                      go_meet
                      case rel => exact ⟨_, (x6_1), (by first | rfl | (simp; done) | (simp [*]; done)), H', ⟨by have := HK1.out; first | omega | exact Nat.le_refl _⟩, ⟨by repeat (first | (with_reducible first | exact HB.out | apply below_alloc | apply pw_below_drewN | apply below_drew1) | exact HB.out)⟩⟩
                    · rw [if_neg c12] at H
                      have c12b0 : ((bt a0 (ji8)) == 46) = false := beq_eq_false_iff_ne.mpr c12
                      have c12b1 : ((bt a0 (ji8)) != 46) = true := bne_iff_ne.mpr c12
                      have H' := Aside0.mk H
                      clear H
                      have p6 : 0 ≤ (x6_1 : Int) := of_decide_eq_true (by first | (with_reducible assumption) | assumption)
                      have q6 : x6_1 < (a0.size : Int) := of_decide_eq_true (by first | (with_reducible assumption) | assumption)
                      have hx6 := bt_at a0 x6_1
                      replace p6 := eq_true p6
                      replace q6 := eq_true q6
                      have p11 : 0 ≤ ((ji8) : Int) := of_decide_eq_true (by first | (with_reducible assumption) | assumption)
                      have q11 : (ji8) < (a0.size : Int) := of_decide_eq_true (by first | (with_reducible assumption) | assumption)
                      have hx11 := bt_at a0 (ji8)
                      replace p11 := eq_true p11
                      replace q11 := eq_true q11
                      go_wp2
                      go_roundg k1
                      case measure => have := HK1.out; omega
                      case rel => exact ⟨(x5_1), (ji8), (by first | rfl | (simp; done) | (simp [*]; done)), (by first | rfl | (simp; done) | (simp only [← hji8] <;> (first | rfl | simp)) | (simp [*]; done)), H', ⟨by have := HK1.out; omega⟩, ⟨by repeat (first | (with_reducible first | exact HB.out | apply below_alloc | apply pw_below_drewN | apply below_drew1) | exact HB.out)⟩⟩
                  · rw [if_neg c10] at H
                    exact absurd H (by simp)
                · rw [if_neg c9] at H
                  exact absurd H (by simp)
              · rw [if_neg c7] at H
                have c7b0 : ((bt a0 x6_1) == 46) = false := beq_eq_false_iff_ne.mpr c7
                have c7b1 : ((bt a0 x6_1) != 46) = true := bne_iff_ne.mpr c7
                have H' := Aside0.mk H
                clear H
                have p6 : 0 ≤ (x6_1 : Int) := of_decide_eq_true (by first | (with_reducible assumption) | assumption)
                have q6 : x6_1 < (a0.size : Int) := of_decide_eq_true (by first | (with_reducible assumption) | assumption)
                have hx6 := bt_at a0 x6_1
                replace p6 := eq_true p6
                replace q6 := eq_true q6
                go_wp2
                go_roundg k1
                case measure => have := HK1.out; omega
                case rel => exact ⟨(x5_1), (wrap64 (x6_1 + 1)), (by first | rfl | (simp; done) | (simp [*]; done)), (by first | rfl | (simp; done) | (simp [*]; done)), H', ⟨by have := HK1.out; omega⟩, ⟨by repeat (first | (with_reducible first | exact HB.out | apply below_alloc | apply pw_below_drewN | apply below_drew1) | exact HB.out)⟩⟩
            · rw [if_neg c5] at H
              exact absurd H (by simp)
          · rw [if_neg c4] at H
            exact absurd H (by simp)
        · rw [if_neg c3] at H
          have c3b0 : decide ((wrap64 (x6_1 + 2)) ≤ (a0.size : Int)) = false := decide_eq_false c3
          clear c3
          (first | rw [c3b0] | (simp only [i64_w, i32_w]; rw [c3b0]) | rw [c3b1] | (simp only [i64_w, i32_w]; rw [c3b1]) | skip)
          have H' := Aside0.mk H
          clear H
          go_wp2
          go_meet
          case rel => exact ⟨_, (x5_1), (by first | rfl | (simp; done) | (simp [*]; done)), H', ⟨by have := HK1.out; first | omega | exact Nat.le_refl _⟩, ⟨by repeat (first | (with_reducible first | exact HB.out | apply below_alloc | apply pw_below_drewN | apply below_drew1) | exact HB.out)⟩⟩
  case rest =>
    clear HC2
    try clear c1
    try clear p1
    try clear q1
    try clear hx1
    try clear p2
    try clear c3
    try clear c3b0
    try clear c3b1
    try clear c4
    try clear c4b0
    try clear c5
    try clear c5b0
    try clear p6
    try clear q6
    try clear hx6
    try clear c7
    try clear c7b0
    try clear c7b1
    try clear c9
    try clear c9b0
    try clear c10
    try clear c10b0
    try clear p11
    try clear q11
    try clear hx11
    try clear c12
    try clear c12b0
    try clear c12b1
    try clear p11
    try clear p2
    try clear p6
    try clear q11
    try clear q6
    obtain ⟨kq, x5_1, rfl, HA, HJ1, HB⟩ := hcut
    cases kq with
    | zero => exact absurd HA.out (by simp [paronymref02_Range.j1])
    | succ kj1 =>
      have H := HA.out
      clear HA
      simp only [paronymref02_Range.j1] at H
      by_cases c13 : x5_1 < 0
      · rw [if_pos c13] at H
        have c13b0 : decide (x5_1 < 0) = true := decide_eq_true c13
        clear c13
        replace H := Option.bind_eq_some_iff.mp H
        obtain ⟨t101, A140, H⟩ := H
        replace H : (if t101 < 0 then (some (0, 0, 13)) else (some (t101, t101, 0))) = some (r1, r2, r3) := H
        have A14 := Aside0.mk A140
        clear A140
        by_cases c15 : t101 < 0
        · rw [if_pos c15] at H
          have c15b0 : decide (t101 < 0) = true := decide_eq_true c15
          clear c15
          simp only [Option.some.injEq, Prod.mk.injEq] at H
          obtain ⟨rfl, rfl, rfl⟩ := H
          go_wp2_with (first | ((with_reducible refine gate_callee (f := 56) rfl ?_); refine goesL_ (some 32) rfl rfl Tryz.func56 (by kernel_rfl) rfl #[.string a0] rfl (by (try simp only [List.map_toArray, List.map_cons, List.map_nil]); first | done | rfl | (simp only [List.length_drop, List.length_take]; rfl)) ?_; (with_reducible refine (paronymref02_Point.calls kj1 a0 t101 _ A14.out).mono ?_); rintro e w16 ⟨rfl, hb⟩; refine ⟨_, rfl, ?_⟩; have n0_ := Aside0.mk (below_step (by repeat (first | (with_reducible first | exact HB.out | apply below_alloc | apply pw_below_drewN | apply below_drew1) | exact HB.out)) hb); clear HB; have HB := n0_; clear n0_; (try clear hb); (try clear hb2); (try clear hk); (try clear hi)))
          go_ret3
          exact ⟨by first | rfl | (simp [errW_none, errW_some] <;> rfl) | (simp [*, errW_none, errW_some] <;> rfl), by repeat (first | (with_reducible first | exact HB.out | apply below_alloc | apply pw_below_drewN | apply below_drew1) | exact HB.out)⟩
        · rw [if_neg c15] at H
          have c15b0 : decide (t101 < 0) = false := decide_eq_false c15
          clear c15
          simp only [Option.some.injEq, Prod.mk.injEq] at H
          obtain ⟨rfl, rfl, rfl⟩ := H
          go_wp2_with (first | ((with_reducible refine gate_callee (f := 56) rfl ?_); refine goesL_ (some 32) rfl rfl Tryz.func56 (by kernel_rfl) rfl #[.string a0] rfl (by (try simp only [List.map_toArray, List.map_cons, List.map_nil]); first | done | rfl | (simp only [List.length_drop, List.length_take]; rfl)) ?_; (with_reducible refine (paronymref02_Point.calls kj1 a0 t101 _ A14.out).mono ?_); rintro e w17 ⟨rfl, hb⟩; refine ⟨_, rfl, ?_⟩; have n0_ := Aside0.mk (below_step (by repeat (first | (with_reducible first | exact HB.out | apply below_alloc | apply pw_below_drewN | apply below_drew1) | exact HB.out)) hb); clear HB; have HB := n0_; clear n0_; (try clear hb); (try clear hb2); (try clear hk); (try clear hi)))
          go_ret3
          exact ⟨by first | rfl | (simp [errW_none, errW_some] <;> rfl) | (simp [*, errW_none, errW_some] <;> rfl), by repeat (first | (with_reducible first | exact HB.out | apply below_alloc | apply pw_below_drewN | apply below_drew1) | exact HB.out)⟩
      · rw [if_neg c13] at H
        have c13b0 : decide (x5_1 < 0) = false := decide_eq_false c13
        clear c13
        by_cases c18 : 0 ≤ x5_1
        · rw [if_pos c18] at H
          have c18b0 := eq_true c18
          have c18b1 : decide (0 ≤ x5_1) = true := decide_eq_true c18
          clear c18
          by_cases c19 : x5_1 ≤ (a0.size : Int)
          · rw [if_pos c19] at H
            have c19b0 := eq_true c19
            have c19b1 : decide (x5_1 ≤ (a0.size : Int)) = true := decide_eq_true c19
            clear c19
            replace H := Option.bind_eq_some_iff.mp H
            obtain ⟨t102, A200, H⟩ := H
            replace H : (if 0 ≤ (wrap64 (x5_1 + 2)) then (if (wrap64 (x5_1 + 2)) ≤ (a0.size : Int) then ((paronymref02_Point.f kj1 (a0.extract ((wrap64 (x5_1 + 2)) : Int).toNat a0.size)).bind fun t103 => (if t102 < 0 then (paronymref02_Range.j2 kj1 t102 t103 true) else (paronymref02_Range.j2 kj1 t102 t103 (decide (t103 < 0))))) else (none)) else (none)) = some (r1, r2, r3) := H
            have A20 := Aside0.mk A200
            clear A200
            obtain ⟨ji21, hji21⟩ : ∃ j_ : Int, (wrap64 (x5_1 + 2)) = j_ := ⟨_, rfl⟩
            replace H : (if 0 ≤ (ji21) then (if (ji21) ≤ (a0.size : Int) then ((paronymref02_Point.f kj1 (a0.extract ((ji21) : Int).toNat a0.size)).bind fun t103 => (if t102 < 0 then (paronymref02_Range.j2 kj1 t102 t103 true) else (paronymref02_Range.j2 kj1 t102 t103 (decide (t103 < 0))))) else (none)) else (none)) = some (r1, r2, r3) := by first | (rw [hji21] at H; exact H) | (simp only [hji21] at H ⊢; exact H)
            (try rw [hji21] at A20)
            have hji21w : (IntKind.i64.wrap (x5_1 + 2)) = ji21 := (i64_w _).trans hji21
            by_cases c22 : 0 ≤ (ji21)
            · rw [if_pos c22] at H
              have c22b0 := eq_true c22
              have c22b1 : decide (0 ≤ (ji21)) = true := decide_eq_true c22
              clear c22
              by_cases c23 : (ji21) ≤ (a0.size : Int)
              · rw [if_pos c23] at H
                have c23b0 := eq_true c23
                have c23b1 : decide ((ji21) ≤ (a0.size : Int)) = true := decide_eq_true c23
                clear c23
                replace H := Option.bind_eq_some_iff.mp H
                obtain ⟨t103, A240, H⟩ := H
                replace H : (if t102 < 0 then (paronymref02_Range.j2 kj1 t102 t103 true) else (paronymref02_Range.j2 kj1 t102 t103 (decide (t103 < 0)))) = some (r1, r2, r3) := H
                have A24 := Aside0.mk A240
                clear A240
                have HC25 := Aside0.mk H
                clear H
                try go_wp2
                have n0_ := Aside0.mk (below_drew1 HB.out)
                clear HB
                have HB := n0_
                clear n0_
                refine start_ (n := 11) (S := fun w' => True) (ds := []) #[false, false, false, false, false, false, false, false, false, false, false] (by kernel_rfl) rfl rfl trivial (fun hHeld => ?_); refine with_tabW paronymref02_Range.tab12 paronymref02_Range.bits12 (fun HT_ HW_ => ?_)
                generalize wc.drew = w26 at HB hHeld ⊢
                refine pure_ (i := 0) (N := some 37) (v := ?_) (a' := ?_) #[true, false, false, false, false, false, false, false, false, false, false] rfl rfl (any_of HT_.out (by kernel_rfl)) (fun _ _ _ h => h) (Or.inl ⟨by rfl, ?_⟩) ?_ ?_
                rotate_left
                · intro w'
                  go_simp
                  with_reducible rfl
                rotate_left
                · simp only [Act.put, List.setIfInBounds_toArray, List.set_cons_zero, List.set_cons_succ, i64_w, i32_w]
                  rfl
                refine pure_ (i := 1) (N := some 38) (v := ?_) (a' := ?_) #[true, true, false, false, false, false, false, false, false, false, false] rfl rfl (any_of HT_.out (by kernel_rfl)) (fun _ _ _ h => h) (Or.inl ⟨by rfl, ?_⟩) ?_ ?_
                rotate_left
                · intro w'
                  go_simp
                  with_reducible rfl
                rotate_left
                · simp only [Act.put, List.setIfInBounds_toArray, List.set_cons_zero, List.set_cons_succ, i64_w, i32_w]
                  rfl
                refine pure_ (i := 2) (N := some 39) (v := ?_) (a' := ?_) #[true, true, true, false, false, false, false, false, false, false, false] rfl rfl (any_of HT_.out (by kernel_rfl)) (fun _ _ _ h => h) (Or.inl ⟨by rfl, ?_⟩) ?_ ?_
                rotate_left
                · intro w'
                  go_simp
                  with_reducible rfl
                rotate_left
                · simp only [Act.put, List.setIfInBounds_toArray, List.set_cons_zero, List.set_cons_succ, i64_w, i32_w]
                  rfl
                refine pure_ (i := 4) (N := some 41) (v := ?_) (a' := ?_) #[true, true, true, false, true, false, false, false, false, false, false] rfl rfl (any_of HT_.out (by kernel_rfl)) (fun _ _ _ h => h) (Or.inl ⟨by rfl, ?_⟩) ?_ ?_
                rotate_left
                · intro w'
                  go_simp
                  with_reducible rfl
                rotate_left
                · simp only [Act.put, List.setIfInBounds_toArray, List.set_cons_zero, List.set_cons_succ, i64_w, i32_w]
                  rfl
                refine pure_ (i := 5) (N := some 42) (v := ?_) (a' := ?_) #[true, true, true, false, true, true, false, false, false, false, false] rfl rfl (any_of HT_.out (by kernel_rfl)) (fun _ _ _ h => h) (Or.inl ⟨by rfl, ?_⟩) ?_ ?_
                rotate_left
                · intro w'
                  go_simp
                  with_reducible rfl
                rotate_left
                · simp only [Act.put, List.setIfInBounds_toArray, List.set_cons_zero, List.set_cons_succ, i64_w, i32_w]
                  rfl
                refine pure_ (i := 6) (N := some 43) (v := ?_) (a' := ?_) #[true, true, true, false, true, true, true, false, false, false, false] rfl rfl (any_of HT_.out (by kernel_rfl)) (fun _ _ _ h => h) (Or.inl ⟨by rfl, ?_⟩) ?_ ?_
                rotate_left
                · intro w'
                  go_simp
                  with_reducible rfl
                rotate_left
                · simp only [Act.put, List.setIfInBounds_toArray, List.set_cons_zero, List.set_cons_succ, i64_w, i32_w]
                  rfl
                refine pure_ (i := 7) (N := some 44) (v := ?_) (a' := ?_) #[true, true, true, false, true, true, true, true, false, false, false] rfl rfl (any_of HT_.out (by kernel_rfl)) (fun _ _ _ h => h) (Or.inl ⟨by rfl, ?_⟩) ?_ ?_
                rotate_left
                · intro w'
                  go_simp
                  with_reducible rfl
                rotate_left
                · simp only [Act.put, List.setIfInBounds_toArray, List.set_cons_zero, List.set_cons_succ, i64_w, i32_w]
                  rfl
                refine one_ (i := 3) (N := some 40) #[true, true, true, true, true, true, true, true, false, false, false] rfl rfl (one_of HT_.out (by kernel_rfl)) (by decide) (fun K hK => ?_)
                refine goes_ Tryz.func56 (by kernel_rfl) rfl #[.string (a0.extract 0 (x5_1 : Int).toNat)] (by rfl) rfl rfl (by (try simp only [List.map_toArray, List.map_cons, List.map_nil]); first | done | rfl | (simp only [List.length_drop, List.length_take]; rfl)) ?_
                with_reducible refine (paronymref02_Point.calls kj1 (a0.extract 0 (x5_1 : Int).toNat) t102 _ A20.out).mono ?_
                rintro e w27 ⟨rfl, hb⟩
                refine ⟨_, rfl, ?_⟩
                have n0_ := Aside0.mk (below_step (by repeat (first | (with_reducible first | exact HB.out | apply below_alloc | apply pw_below_drewN | apply below_drew1) | exact HB.out)) hb)
                clear HB
                have HB := n0_
                clear n0_
                (try clear hb)
                (try clear hb2)
                (try clear hk)
                (try clear hi)
                refine hK.out _ _ trivial (fun hHeld => ?_)
                clear hK K
                refine norm_ (a' := ?_) ?_ ?_
                rotate_left
                · show Act.put _ (some 40) _ = _
                  simp only [Act.put, List.setIfInBounds_toArray, List.set_cons_zero, List.set_cons_succ, i64_w, i32_w]
                  rfl
                refine one_ (i := 8) (N := some 45) #[true, true, true, true, true, true, true, true, true, false, false] rfl rfl (one_of HT_.out (by kernel_rfl)) (by decide) (fun K hK => ?_)
                refine goes_ Tryz.func56 (by kernel_rfl) rfl #[.string (a0.extract ((ji21) : Int).toNat a0.size)] (by rfl) rfl rfl (by (try simp only [List.map_toArray, List.map_cons, List.map_nil]); first | done | (simp only [hji21]; rfl) | rfl | (simp only [List.length_drop, List.length_take]; rfl)) ?_
                with_reducible refine (paronymref02_Point.calls kj1 (a0.extract ((ji21) : Int).toNat a0.size) t103 _ A24.out).mono ?_
                rintro e w28 ⟨rfl, hb⟩
                refine ⟨_, rfl, ?_⟩
                have n0_ := Aside0.mk (below_step (by repeat (first | (with_reducible first | exact HB.out | apply below_alloc | apply pw_below_drewN | apply below_drew1) | exact HB.out)) hb)
                clear HB
                have HB := n0_
                clear n0_
                (try clear hb)
                (try clear hb2)
                (try clear hk)
                (try clear hi)
                refine hK.out _ _ trivial (fun hHeld => ?_)
                clear hK K
                refine norm_ (a' := ?_) ?_ ?_
                rotate_left
                · show Act.put _ (some 45) _ = _
                  simp only [Act.put, List.setIfInBounds_toArray, List.set_cons_zero, List.set_cons_succ, i64_w, i32_w]
                  rfl
                refine pure_ (i := 9) (N := some 8) (v := ?_) (a' := ?_) #[true, true, true, true, true, true, true, true, true, true, false] rfl rfl (any_of HT_.out (by kernel_rfl)) (fun _ _ _ h => h) (Or.inl ⟨by rfl, ?_⟩) ?_ ?_
                rotate_left
                · intro w'
                  go_simp
                  with_reducible rfl
                rotate_left
                · simp only [Act.put, List.setIfInBounds_toArray, List.set_cons_zero, List.set_cons_succ, i64_w, i32_w]
                  rfl
                refine pure_ (i := 10) (N := some 9) (v := ?_) (a' := ?_) #[true, true, true, true, true, true, true, true, true, true, true] rfl rfl (any_of HT_.out (by kernel_rfl)) (fun _ _ _ h => h) (Or.inl ⟨by rfl, ?_⟩) ?_ ?_
                rotate_left
                · intro w'
                  go_simp
                  with_reducible rfl
                rotate_left
                · simp only [Act.put, List.setIfInBounds_toArray, List.set_cons_zero, List.set_cons_succ, i64_w, i32_w]
                  rfl
                refine done_ (done_of HT_.out (by kernel_rfl)) ?_
                go_upto_region 13 with (fail)
                go_cut [51] (fun v51 wc => ∃ (kq : Nat) (x51_24 : Bool), v51 = .bool x51_24 ∧ Aside0 (paronymref02_Range.j2 kq t102 t103 x51_24 = some (r1, r2, r3)) ∧ Aside0 (kq ≤ kj1) ∧ Aside0 (Below w.heap.size w wc))
                case first =>
                  have H := HC25.out
                  clear HC25
                  by_cases c29 : t102 < 0
                  · rw [if_pos c29] at H
                    have c29b0 : decide (t102 < 0) = true := decide_eq_true c29
                    clear c29
                    (first | rw [c29b0] | (simp only [i64_w, i32_w]; rw [c29b0]) | rw [c29b1] | (simp only [i64_w, i32_w]; rw [c29b1]) | skip)
                    have H' := Aside0.mk H
                    clear H
                    go_wp2
                    go_meet
                    case rel => exact ⟨_, (true), (by first | rfl | (simp; done) | (simp [*]; done)), H', ⟨by have := HJ1.out; first | omega | exact Nat.le_refl _⟩, ⟨by repeat (first | (with_reducible first | exact HB.out | apply below_alloc | apply pw_below_drewN | apply below_drew1) | exact HB.out)⟩⟩
                  · rw [if_neg c29] at H
                    have c29b0 : decide (t102 < 0) = false := decide_eq_false c29
                    clear c29
                    (first | rw [c29b0] | (simp only [i64_w, i32_w]; rw [c29b0]) | rw [c29b1] | (simp only [i64_w, i32_w]; rw [c29b1]) | skip)
                    have H' := Aside0.mk H
                    clear H
                    go_wp2
                    go_meet
                    case rel => exact ⟨_, (decide (t103 < 0)), (by first | rfl | (simp; done) | (simp [*]; done)), H', ⟨by have := HJ1.out; first | omega | exact Nat.le_refl _⟩, ⟨by repeat (first | (with_reducible first | exact HB.out | apply below_alloc | apply pw_below_drewN | apply below_drew1) | exact HB.out)⟩⟩
                case rest =>
                  clear HC25
                  try clear c1
                  try clear p1
                  try clear q1
                  try clear hx1
                  try clear c2
                  try clear p2
                  try clear c3
                  try clear c3b0
                  try clear c3b1
                  try clear c4
                  try clear c4b0
                  try clear c5
                  try clear c5b0
                  try clear p6
                  try clear q6
                  try clear hx6
                  try clear c7
                  try clear c7b0
                  try clear c7b1
                  try clear c9
                  try clear c9b0
                  try clear c10
                  try clear c10b0
                  try clear p11
                  try clear q11
                  try clear hx11
                  try clear c12
                  try clear c12b0
                  try clear c12b1
                  try clear c13
                  try clear c13b0
                  try clear c15
                  try clear c15b0
                  try clear c18
                  try clear c18b0
                  try clear c18b1
                  try clear c19
                  try clear c19b0
                  try clear c19b1
                  try clear c22
                  try clear c22b0
                  try clear c22b1
                  try clear c23
                  try clear c23b0
                  try clear c23b1
                  try clear c29
                  try clear c29b0
                  try clear c29b1
                  try clear p1
                  try clear p11
                  try clear p2
                  try clear p6
                  try clear q1
                  try clear q11
                  try clear q6
                  obtain ⟨kq, x51_24, rfl, HA, HJ24, HB⟩ := hcut
                  cases kq with
                  | zero => exact absurd HA.out (by simp [paronymref02_Range.j2])
                  | succ kj24 =>
                    have H := HA.out
                    clear HA
                    simp only [paronymref02_Range.j2] at H
                    by_cases c30 : x51_24 = true
                    · subst c30
                      have H1 : (some (0, 0, 13)) = some (r1, r2, r3) := by rw [if_pos rfl] at H; exact H
                      clear H
                      have H := H1
                      clear H1
                      simp only [Option.some.injEq, Prod.mk.injEq] at H
                      obtain ⟨rfl, rfl, rfl⟩ := H
                      go_wp2
                      go_ret3
                      exact ⟨by first | rfl | (simp [errW_none, errW_some] <;> rfl) | (simp only [← hji21]; first | rfl | (simp [errW_none, errW_some] <;> rfl)) | (simp [*, errW_none, errW_some] <;> rfl), by repeat (first | (with_reducible first | exact HB.out | apply below_alloc | apply pw_below_drewN | apply below_drew1) | exact HB.out)⟩
                    · replace c30 := Bool.eq_false_iff.mpr c30
                      subst c30
                      have H1 : (if t103 ≤ t102 then (some (0, 0, 14)) else (some (t102, t103, 0))) = some (r1, r2, r3) := by rw [if_neg (show ¬ (false = true) by decide)] at H; exact H
                      clear H
                      have H := H1
                      clear H1
                      by_cases c31 : t103 ≤ t102
                      · rw [if_pos c31] at H
                        have c31b0 : decide (t103 ≤ t102) = true := decide_eq_true c31
                        clear c31
                        simp only [Option.some.injEq, Prod.mk.injEq] at H
                        obtain ⟨rfl, rfl, rfl⟩ := H
                        go_wp2
                        go_ret3
                        exact ⟨by first | rfl | (simp [errW_none, errW_some] <;> rfl) | (simp only [← hji21]; first | rfl | (simp [errW_none, errW_some] <;> rfl)) | (simp [*, errW_none, errW_some] <;> rfl), by repeat (first | (with_reducible first | exact HB.out | apply below_alloc | apply pw_below_drewN | apply below_drew1) | exact HB.out)⟩
                      · rw [if_neg c31] at H
                        have c31b0 : decide (t103 ≤ t102) = false := decide_eq_false c31
                        clear c31
                        simp only [Option.some.injEq, Prod.mk.injEq] at H
                        obtain ⟨rfl, rfl, rfl⟩ := H
                        go_wp2
                        go_ret3
                        exact ⟨by first | rfl | (simp [errW_none, errW_some] <;> rfl) | (simp only [← hji21]; first | rfl | (simp [errW_none, errW_some] <;> rfl)) | (simp [*, errW_none, errW_some] <;> rfl), by repeat (first | (with_reducible first | exact HB.out | apply below_alloc | apply pw_below_drewN | apply below_drew1) | exact HB.out)⟩
              · rw [if_neg c23] at H
                exact absurd H (by simp)
            · rw [if_neg c22] at H
              exact absurd H (by simp)
          · rw [if_neg c19] at H
            exact absurd H (by simp)
        · rw [if_neg c18] at H
          exact absurd H (by simp)
end Go.Proofs.YtbpdcbibooiimaaGreatDoor.Q
namespace Go.Proofs.YtbpdcbibooiimaaGreatDoor.Q
open Go.RowKit Go.Proofs.YtbpdcbibooiimaaGreatDoorW.PrintWords Go.Proofs.YtbpdcbibooiimaaGreatDoorW.PrintLast Go.Proofs.YtbpdcbibooiimaaGreatDoorW.PrintMore
attribute [local go_sem] max2_int min2_int max_two min_two max_three min_three max_four min_four   -- for this text's walks alone
/-! ### paronymref02_Sequence: function 57 -/
def paronymref02_Sequence.l0 : Nat → List ByteArray → List Int → Int → Option (List Int × Int)
  | 0, _, _, _ => none
  | k + 1, x4, x5, x6 => if x6 < (x4.length : Int) then (if 0 ≤ x6 then ((paronymref02_Point.f k (rdOf ByteArray.empty x4 x6)).bind fun t105 => (if t105 < 0 then (some (([] : List Int), 13)) else (if x5.length < 17592186044416 then (paronymref02_Sequence.l0 k x4 (x5 ++ [t105]) (wrap64 (x6 + 1))) else (none)))) else (none)) else (some (x5, 0))
def paronymref02_Sequence.f (k : Nat) (a0 : ByteArray) : Option (List Int × Int) := if a0.toList = ([] : List UInt8) then (some (([] : List Int), 0)) else ((paronymref02_Cut.f k a0 32).bind fun t101 => (paronymref02_Sequence.l0 k t101 ([] : List Int) 0))
theorem paronymref02_Sequence.mono_l : ∀ k, (∀ y0 y1 y2, LeO (paronymref02_Sequence.l0 k y0 y1 y2) (paronymref02_Sequence.l0 (k + 1) y0 y1 y2))
  | 0 => fun _ _ _ r h => by simp [paronymref02_Sequence.l0] at h
  | k + 1 => by
    have ih0 := paronymref02_Sequence.mono_l k
    · intro y0 y1 y2
      unfold paronymref02_Sequence.l0
      repeat' first
      | (with_reducible exact ih0 _ _ _)
      | (with_reducible exact paronymref02_Cut.mono _ _ _)
      | (with_reducible exact paronymref02_Point.mono _ _)
      | (with_reducible exact LeO.refl _)
      | (with_reducible exact LeO.none _)
      | (with_reducible refine LeO.ite ?_ ?_)
      | (with_reducible refine LeO.bind ?_ (fun _ => ?_))
      | exact ih0 _ _ _
      | exact paronymref02_Cut.mono _ _ _
      | exact paronymref02_Point.mono _ _
      | exact LeO.none _
      | refine LeO.ite ?_ ?_
      | refine LeO.bind ?_ (fun _ => ?_)
theorem paronymref02_Sequence.mono : ∀ a0 k, LeO (paronymref02_Sequence.f k a0) (paronymref02_Sequence.f (k + 1) a0) := by
  intro a0 k
  have ih0 := paronymref02_Sequence.mono_l k
  unfold paronymref02_Sequence.f
  repeat' first
      | (with_reducible exact ih0 _ _ _)
      | (with_reducible exact paronymref02_Cut.mono _ _ _)
      | (with_reducible exact paronymref02_Point.mono _ _)
      | (with_reducible exact LeO.refl _)
      | (with_reducible exact LeO.none _)
      | (with_reducible refine LeO.ite ?_ ?_)
      | (with_reducible refine LeO.bind ?_ (fun _ => ?_))
      | exact ih0 _ _ _
      | exact paronymref02_Cut.mono _ _ _
      | exact paronymref02_Point.mono _ _
      | exact LeO.none _
      | refine LeO.ite ?_ ?_
      | refine LeO.bind ?_ (fun _ => ?_)
set_option maxHeartbeats 8000000 in
set_option maxRecDepth 100000 in
theorem paronymref02_Sequence.calls (k : Nat) (a0 : ByteArray) (r1 : List Int) (r2 : Int) (w : World) (h : paronymref02_Sequence.f k a0 = some (r1, r2)) :
    Calls Tryz.prog 57 #[.string a0] w fun e w' => ∃ v0_ : Value, e = .returned (.tuple #[v0_, .int .i64 r2]) ∧ Kd.R (Kd.int .i64) 3 w' w.heap.size (fun _ => True) v0_ r1 ∧ Below w.heap.size w w' := by
  have HB := Aside0.mk (Below.refl w.heap.size w)
  have H : (if a0.toList = ([] : List UInt8) then (some (([] : List Int), 0)) else ((paronymref02_Cut.f k a0 32).bind fun t101 => (paronymref02_Sequence.l0 k t101 ([] : List Int) 0))) = some (r1, r2) := h
  clear h
  by_cases c2 : a0.toList = ([] : List UInt8)
  · rw [if_pos c2] at H
    have c2b0 : (a0.toList == ([] : List UInt8)) = true := beq_iff_eq.mpr c2
    have c2b1 : (a0.toList != ([] : List UInt8)) = false := bne_eq_false_iff_eq.mpr c2
    clear c2
    simp only [Option.some.injEq, Prod.mk.injEq] at H
    obtain ⟨rfl, rfl⟩ := H
    go_enter Tryz.func57, Tryz.ntmps57
    go_wp2
    go_ret2
    exact ⟨_, by first | rfl | (simp [errW_none, errW_some] <;> rfl) | (simp [*, errW_none, errW_some] <;> rfl), by first | exact Kd.R_nil _ _ _ _ _ | exact Kd.N_nil _ _ _ _ _ | exact Kd.V_nil _ _ _ _ _ | exact Kd.Q_nil _ _ _ _ _ | exact Kd.S_nil _ _ _ _ _, by repeat (first | (with_reducible first | exact HB.out | apply below_alloc | apply pw_below_drewN | apply below_drew1) | exact HB.out)⟩
  · rw [if_neg c2] at H
    have c2b0 : (a0.toList == ([] : List UInt8)) = false := beq_eq_false_iff_ne.mpr c2
    have c2b1 : (a0.toList != ([] : List UInt8)) = true := bne_iff_ne.mpr c2
    replace H := Option.bind_eq_some_iff.mp H
    obtain ⟨t101, A30, H⟩ := H
    replace H : (paronymref02_Sequence.l0 k t101 ([] : List Int) 0) = some (r1, r2) := H
    have A3 := Aside0.mk A30
    clear A30
    have H' := Aside0.mk H
    clear H
    go_enter Tryz.func57, Tryz.ntmps57
    go_wp2_with (first | ((with_reducible refine gate_callee (f := 18) rfl ?_); refine goesL_ (some 11) rfl rfl Tryz.func18 (by kernel_rfl) rfl #[.string a0, .int .u8 32] rfl (by (try simp only [List.map_toArray, List.map_cons, List.map_nil]); first | done | rfl | (simp only [List.length_drop, List.length_take]; rfl)) ?_; (with_reducible refine (paronymref02_Cut.calls k a0 32 t101 _ A3.out).mono ?_); rintro e w4 ⟨v102, rfl, ho0, hb⟩; refine ⟨_, rfl, ?_⟩; have n0_ := Aside0.mk (Kd.R_lower ho0 (below_size (by repeat (first | (with_reducible first | exact HB.out | apply below_alloc | apply pw_below_drewN | apply below_drew1) | exact HB.out)))); have n1_ := Aside0.mk (below_step (by repeat (first | (with_reducible first | exact HB.out | apply below_alloc | apply pw_below_drewN | apply below_drew1) | exact HB.out)) hb); clear HB; have HO103 := n0_; have HB := n1_; clear n0_ n1_; (try clear hb); (try clear hb2); (try clear hk); (try clear hi); (try clear ho0)))
    go_loopg [5, 6] k (fun kq v5 v6 w' => ∃ (x5_1 : List Int) (x6_1 : Int), v6 = .int .i64 x6_1 ∧ Aside0 (paronymref02_Sequence.l0 kq t101 x5_1 x6_1 = some (r1, r2)) ∧ Aside0 (kq ≤ k) ∧ Aside0 (Kd.R Kd.string 9 w' w.heap.size (fun _ => True) v102 t101) ∧ Aside0 (Kd.R (Kd.int .i64) 3 w' w.heap.size (fun _ => True) v5 x5_1) ∧ Aside0 (Below w.heap.size w w'))
    case atStart => exact ⟨(([] : List Int)), (0), (by first | rfl | (simp; done) | (simp [*]; done)), H', ⟨Nat.le_refl _⟩, ⟨by (with_reducible repeat (first | apply Kd.R_alloc | apply Kd.R_drewN | apply Kd.R_drew)); exact HO103.out⟩, ⟨by first | exact Kd.R_nil _ _ _ _ _ | exact Kd.N_nil _ _ _ _ _ | exact Kd.V_nil _ _ _ _ _ | exact Kd.Q_nil _ _ _ _ _ | exact Kd.S_nil _ _ _ _ _⟩, ⟨by repeat (first | (with_reducible first | exact HB.out | apply below_alloc | apply pw_below_drewN | apply below_drew1) | exact HB.out)⟩⟩
    case round =>
      clear H'
      try clear c1
      try clear c2
      try clear c2b0
      try clear c2b1
      try clear p2
      obtain ⟨x5_1, x6_1, rfl, HA, HK1, HO_4, HO_5, HB⟩ := hrel
      cases gk with
      | zero => exact absurd HA.out (by simp [paronymref02_Sequence.l0])
      | succ k1 =>
        have H := HA.out
        clear HA
        simp only [paronymref02_Sequence.l0] at H
        by_cases c5 : x6_1 < (t101.length : Int)
        · rw [if_pos c5] at H
          have c5b0 : decide (x6_1 < (t101.length : Int)) = true := decide_eq_true c5
          clear c5
          by_cases c6 : 0 ≤ x6_1
          · rw [if_pos c6] at H
            have c6b0 : decide (0 ≤ x6_1) = true := decide_eq_true c6
            clear c6
            replace H := Option.bind_eq_some_iff.mp H
            obtain ⟨t105, A70, H⟩ := H
            replace H : (if t105 < 0 then (some (([] : List Int), 13)) else (if x5_1.length < 17592186044416 then (paronymref02_Sequence.l0 k1 t101 (x5_1 ++ [t105]) (wrap64 (x6_1 + 1))) else (none))) = some (r1, r2) := H
            have A7 := Aside0.mk A70
            clear A70
            by_cases c8 : t105 < 0
            · rw [if_pos c8] at H
              have c8b0 : decide (t105 < 0) = true := decide_eq_true c8
              clear c8
              simp only [Option.some.injEq, Prod.mk.injEq] at H
              obtain ⟨rfl, rfl⟩ := H
              obtain ⟨Ao9, co9, eo9⟩ := Kd.R_slice HO_4.out
              subst eo9
              have p104 : 0 ≤ (x6_1 : Int) := of_decide_eq_true (by first | (with_reducible assumption) | assumption)
              have q104 : x6_1 < (t101.length : Int) := of_decide_eq_true (by first | (with_reducible assumption) | assumption)
              obtain ⟨ad104, e104, hx104_0⟩ := Kd.at_string (Kd.R_reads' HO_4.out).2.2 x6_1 p104 q104
              cases e104
              replace p104 := eq_true p104
              replace q104 := eq_true q104
              go_wp2_with (first | ((with_reducible refine gate_callee (f := 56) rfl ?_); refine goesL_ (some 22) rfl rfl Tryz.func56 (by kernel_rfl) rfl #[.string (rdOf ByteArray.empty t101 x6_1)] rfl (by (try simp only [List.map_toArray, List.map_cons, List.map_nil]); first | done | rfl | (simp only [List.length_drop, List.length_take]; rfl)) ?_; (with_reducible refine (paronymref02_Point.calls k1 (rdOf ByteArray.empty t101 x6_1) t105 _ A7.out).mono ?_); rintro e w10 ⟨rfl, hb⟩; refine ⟨_, rfl, ?_⟩; have n0_ := Aside0.mk (Kd.R_below (by (with_reducible repeat (first | apply Kd.R_alloc | apply Kd.R_drewN | apply Kd.R_drew)); exact HO_4.out) hb); have n1_ := Aside0.mk (Kd.R_below (by (with_reducible repeat (first | apply Kd.R_alloc | apply Kd.R_drewN | apply Kd.R_drew)); exact HO_5.out) hb); have n2_ := Aside0.mk (below_step (by repeat (first | (with_reducible first | exact HB.out | apply below_alloc | apply pw_below_drewN | apply below_drew1) | exact HB.out)) hb); clear HO_4; clear HO_5; clear HB; have HO_4 := n0_; have HO_5 := n1_; have HB := n2_; clear n0_ n1_ n2_; (try clear hb); (try clear hb2); (try clear hk); (try clear hi)))
              go_ret2
              exact ⟨_, by first | rfl | (simp [errW_none, errW_some] <;> rfl) | (simp [*, errW_none, errW_some] <;> rfl), by first | exact Kd.R_nil _ _ _ _ _ | exact Kd.N_nil _ _ _ _ _ | exact Kd.V_nil _ _ _ _ _ | exact Kd.Q_nil _ _ _ _ _ | exact Kd.S_nil _ _ _ _ _, by repeat (first | (with_reducible first | exact HB.out | apply below_alloc | apply pw_below_drewN | apply below_drew1) | exact HB.out)⟩
            · rw [if_neg c8] at H
              have c8b0 : decide (t105 < 0) = false := decide_eq_false c8
              clear c8
              by_cases c11 : x5_1.length < 17592186044416
              · rw [if_pos c11] at H
                have LMc11 := Aside0.mk c11
                clear c11
                obtain ⟨y106, hy106⟩ : ∃ y_ : List Int, y_ = (x5_1 ++ [t105]) := ⟨_, rfl⟩
                replace H : (paronymref02_Sequence.l0 k1 t101 y106 (wrap64 (x6_1 + 1))) = some (r1, r2) := by first | (rw [hy106]; with_reducible exact H) | (have H2_ := (Option.bind_some _ _).symm.trans H; rw [hy106]; with_reducible exact H2_) | (have H2_ := (Option.bind_some _ _).symm.trans H; with_reducible exact H2_) | with_reducible exact H | (rw [hy106]; exact H) | exact H
                have Ny106 := Aside0.mk hy106
                clear hy106
                have H' := Aside0.mk H
                clear H
                obtain ⟨Ao12, co12, eo12⟩ := Kd.R_slice HO_4.out
                subst eo12
                have p104 : 0 ≤ (x6_1 : Int) := of_decide_eq_true (by first | (with_reducible assumption) | assumption)
                have q104 : x6_1 < (t101.length : Int) := of_decide_eq_true (by first | (with_reducible assumption) | assumption)
                obtain ⟨ad104, e104, hx104_0⟩ := Kd.at_string (Kd.R_reads' HO_4.out).2.2 x6_1 p104 q104
                cases e104
                replace p104 := eq_true p104
                replace q104 := eq_true q104
                go_wp2_with (first | ((with_reducible refine gate_callee (f := 56) rfl ?_); refine goesL_ (some 22) rfl rfl Tryz.func56 (by kernel_rfl) rfl #[.string (rdOf ByteArray.empty t101 x6_1)] rfl (by (try simp only [List.map_toArray, List.map_cons, List.map_nil]); first | done | rfl | (simp only [List.length_drop, List.length_take]; rfl)) ?_; (with_reducible refine (paronymref02_Point.calls k1 (rdOf ByteArray.empty t101 x6_1) t105 _ A7.out).mono ?_); rintro e w13 ⟨rfl, hb⟩; refine ⟨_, rfl, ?_⟩; have n0_ := Aside0.mk (Kd.R_below (by (with_reducible repeat (first | apply Kd.R_alloc | apply Kd.R_drewN | apply Kd.R_drew)); exact HO_4.out) hb); have n1_ := Aside0.mk (Kd.R_below (by (with_reducible repeat (first | apply Kd.R_alloc | apply Kd.R_drewN | apply Kd.R_drew)); exact HO_5.out) hb); have n2_ := Aside0.mk (below_step (by repeat (first | (with_reducible first | exact HB.out | apply below_alloc | apply pw_below_drewN | apply below_drew1) | exact HB.out)) hb); clear HO_4; clear HO_5; clear HB; have HO_4 := n0_; have HO_5 := n1_; have HB := n2_; clear n0_ n1_ n2_; (try clear hb); (try clear hb2); (try clear hk); (try clear hi)) | ((with_reducible refine gate_builtin (b := .append) (xs := #[.tmp 25, .tmp 27]) rfl ?_); at_builtin; refine Kd.R_append (Kd.int .i64) (w0 := w) w.heap.size rfl (.tmp 25) (.tmp 27) 39 3 (.int .i64 0) 8 rfl Tryz.underlying39 info3 rfl (by decide) (by omega) u5 x5_1 t105 [.int .i64 t105] (fun _ => True) (fun _ => False) rfl rfl ?aP (fun _ hk => hk.elim) ?aF ?aO ?aB ?aS ?aL ?_; (case aP => exact rfl); (case aB => exact (by repeat (first | (with_reducible first | exact HB.out | apply below_alloc | apply pw_below_drewN | apply below_drew1) | exact HB.out))); (case aF => exact (fun _ _ => trivial)); (case aO => exact (by (with_reducible repeat (first | apply Kd.R_alloc | apply Kd.R_drewN | apply Kd.R_drew)); exact HO_5.out)); (case aS => exact (below_size (by repeat (first | (with_reducible first | exact HB.out | apply below_alloc | apply pw_below_drewN | apply below_drew1) | exact HB.out)))); (case aL => have := LMc11.out; omega); intro v107 w14 ho hb hg hat; rw [← Ny106.out] at ho; have n0_ := Aside0.mk (Kd.R_over' (by (with_reducible repeat (first | apply Kd.R_alloc | apply Kd.R_drewN | apply Kd.R_drew)); exact HO_4.out) (Kd.R_typed (by (with_reducible repeat (first | apply Kd.R_alloc | apply Kd.R_drewN | apply Kd.R_drew)); exact HO_5.out)) (by decide) hg); have n1_ := Aside0.mk (hb); have n2_ := Aside0.mk (ho); clear HO_4; clear HB; clear HO_5; have HO_4 := n0_; have HB := n1_; have HO108 := n2_; clear n0_ n1_ n2_; clear ho hb hg hat))
                go_roundg k1
                case measure => have := HK1.out; omega
                case rel => exact ⟨(y106), (wrap64 (x6_1 + 1)), (by first | rfl | (simp; done) | (simp [*]; done)), H', ⟨by have := HK1.out; omega⟩, ⟨by (with_reducible repeat (first | apply Kd.R_alloc | apply Kd.R_drewN | apply Kd.R_drew)); exact HO_4.out⟩, ⟨by (with_reducible repeat (first | apply Kd.R_alloc | apply Kd.R_drewN | apply Kd.R_drew)); exact HO108.out⟩, ⟨by repeat (first | (with_reducible first | exact HB.out | apply below_alloc | apply pw_below_drewN | apply below_drew1) | exact HB.out)⟩⟩
              · rw [if_neg c11] at H
                exact absurd H (by simp)
          · rw [if_neg c6] at H
            exact absurd H (by simp)
        · rw [if_neg c5] at H
          have c5b0 : decide (x6_1 < (t101.length : Int)) = false := decide_eq_false c5
          clear c5
          simp only [Option.some.injEq, Prod.mk.injEq] at H
          obtain ⟨rfl, rfl⟩ := H
          obtain ⟨Ao15, co15, eo15⟩ := Kd.R_slice HO_4.out
          subst eo15
          go_wp2
          go_ret2
          exact ⟨_, by first | rfl | (simp [errW_none, errW_some] <;> rfl) | (simp [*, errW_none, errW_some] <;> rfl), by (with_reducible repeat (first | apply Kd.R_alloc | apply Kd.R_drewN | apply Kd.R_drew)); exact HO_5.out, by repeat (first | (with_reducible first | exact HB.out | apply below_alloc | apply pw_below_drewN | apply below_drew1) | exact HB.out)⟩
end Go.Proofs.YtbpdcbibooiimaaGreatDoor.Q
/- Layer 2's reference on lists: Range, Sequence. -/
namespace Go.Proofs.YtbpdcbibooiimaaGreatDoor.K
open Go.RowKit Go.Proofs.YtbpdcbibooiimaaGreatDoorW.PrintWords Go.Proofs.YtbpdcbibooiimaaGreatDoorW.PrintMore Go.Proofs.YtbpdcbibooiimaaGreatDoor.Q
def dots : List Int → Option Nat
  | x :: y :: l => if x = 46 ∧ y = 46 then some 0 else (dots (y :: l)).map (· + 1)
  | _ => none
theorem dots_lt : ∀ {L : List Int} {i : Nat}, dots L = some i → i + 2 ≤ L.length
  | [], i, h => by cases h
  | [x], i, h => by cases h
  | x :: y :: l, i, h => by
    unfold dots at h
    split at h
    · cases h; simp
    · obtain ⟨j, hj, rfl⟩ := Option.map_eq_some_iff.1 h
      have := dots_lt hj
      simp at this ⊢
      omega
def rangeE : Option Nat → Option Nat → Int × Int × Int
  | some a, some b => if b ≤ a then (0, 0, 14) else ((a : Int), (b : Int), 0)
  | _, _ => (0, 0, 13)
def rangeL (L : List Int) : Int × Int × Int :=
  match dots L with
  | none => (match pointL L with
    | none => (0, 0, 13)
    | some c => ((c : Int), (c : Int), 0))
  | some i => rangeE (pointL (L.take i)) (pointL (L.drop (i + 2)))
theorem index_dots : ∀ {L : List Int}, Oct L → Lib.index (Lib.bytesOf L) [46, 46] = (match dots L with | none => -1 | some i => (i : Int))
  | [], _ => rfl
  | [x], ho => by
    have hp : ([46, 46] : List UInt8).isPrefixOf (Lib.bytesOf [x]) = false := by simp [Lib.bytesOf, List.isPrefixOf]
    show Lib.index (_ :: []) _ = -1
    unfold Lib.index
    have hp' : ([46, 46] : List UInt8).isPrefixOf [UInt8.ofNat x.toNat] = false := hp
    rw [hp']
    rfl
  | x :: y :: l, ho => by
    have hx := u8_eq (ho x (by simp)) (y := 46) (by decide)
    have hy := u8_eq (ho y (by simp)) (y := 46) (by decide)
    rw [show UInt8.ofNat (46 : Int).toNat = 46 from rfl] at hx hy
    have ih := index_dots (L := y :: l) (fun z hz => ho z (by simp at hz ⊢; right; exact hz))
    show Lib.index (UInt8.ofNat x.toNat :: Lib.bytesOf (y :: l)) _ = _
    have hp : ([46, 46] : List UInt8).isPrefixOf (UInt8.ofNat x.toNat :: Lib.bytesOf (y :: l)) = decide (x = 46 ∧ y = 46) := by
      show ([46, 46] : List UInt8).isPrefixOf (UInt8.ofNat x.toNat :: UInt8.ofNat y.toNat :: Lib.bytesOf l) = _
      have hx' : ((46 : UInt8) == UInt8.ofNat x.toNat) = decide (x = 46) := by rw [← hx]; exact Bool.beq_comm
      have hy' : ((46 : UInt8) == UInt8.ofNat y.toNat) = decide (y = 46) := by rw [← hy]; exact Bool.beq_comm
      simp only [List.isPrefixOf, hx', hy', Bool.and_true]
      rw [Bool.eq_iff_iff]
      simp
    unfold Lib.index dots
    rw [hp, ih]
    by_cases h : x = 46 ∧ y = 46
    · rw [if_pos (decide_eq_true h), if_pos h]; rfl
    · rw [if_neg (by simpa using h), if_neg h]
      cases hd : dots (y :: l) with
      | none => rfl
      | some i =>
        have : ((i : Int) == -1) = false := beq_eq_false_iff_ne.mpr (by omega)
        simp [this]
theorem dots_step {L : List Int} {i : Nat} (h : i + 2 ≤ L.length) : dots (L.drop i) = if L[i] = 46 ∧ L[i + 1] = 46 then some 0 else (dots (L.drop (i + 1))).map (· + 1) := by
  rw [List.drop_eq_getElem_cons (by omega : i < L.length), List.drop_eq_getElem_cons (by omega : i + 1 < L.length)]
  rfl
theorem dots_short {L : List Int} (h : L.length < 2) : dots L = none := by
  match L, h with
  | [], _ => rfl
  | [x], _ => rfl
  | _ :: _ :: _, h => simp at h; omega
theorem refRange_end {L : List Int} (ho : Oct L) (hl : L.length ≤ 1000000) (at_ : Option Nat) (hat : ∀ i, at_ = some i → i + 2 ≤ L.length) (hd : dots L = at_) (m : Int) (hm : m = orNone at_) : Ev (fun k => paronymref02_Range.j1 k (strOfNums L) m) (rangeL L) := by
  have hz := size_str L
  unfold rangeL
  rw [hd]
  cases at_ with
  | none =>
    have hm' : m < 0 := by rw [hm]; decide
    refine Ev.step (fun k => rfl) (Ev.pos hm' (Ev.bind (refPoint_ev ho hl) ?_))
    cases hp : pointL L with
    | none => exact Ev.pos (by decide) (Ev.ret rfl)
    | some c => exact Ev.neg (by show ¬ (c : Int) < 0; omega) (Ev.ret rfl)
  | some i =>
    have hi := hat i rfl
    replace hm : m = (i : Int) := hm
    show Ev _ (rangeE (pointL (L.take i)) (pointL (L.drop (i + 2))))
    have e1 : (strOfNums L).extract 0 m.toNat = strOfNums (L.take i) := by rw [hm, Int.toNat_natCast, extract_str, List.drop_zero]
    have hw : wrap64 (m + 2) = ((i + 2 : Nat) : Int) := by rw [hm, w64 (by omega) (by omega)]; rfl
    have e2 : (strOfNums L).extract (((i + 2 : Nat) : Int)).toNat (strOfNums L).size = strOfNums (L.drop (i + 2)) := by rw [Int.toNat_natCast, extract_str, hz, List.take_length]
    have p1 := refPoint_ev (ho.take i) (by rw [List.length_take]; omega)
    have p2 := refPoint_ev (ho.drop (i + 2)) (by rw [List.length_drop]; omega)
    refine Ev.step (fun k => rfl) (Ev.neg (by omega) (Ev.pos (by omega) (Ev.pos (by omega) ?_)))
    rw [e1]
    refine Ev.bind p1 ?_
    rw [hw]
    refine Ev.pos (by omega) (Ev.pos (by omega) ?_)
    rw [e2]
    refine Ev.bind p2 ?_
    cases ha : pointL (L.take i) with
    | none => exact Ev.pos (by decide) (Ev.step (f := fun k => some ((0 : Int), (0 : Int), (13 : Int))) (fun k => rfl) (Ev.ret rfl))
    | some a =>
      refine Ev.neg (by show ¬ (a : Int) < 0; omega) ?_
      cases hb : pointL (L.drop (i + 2)) with
      | none => exact Ev.step (f := fun k => some ((0 : Int), (0 : Int), (13 : Int))) (fun k => rfl) (Ev.ret rfl)
      | some b =>
        rw [show decide (orNone (some b) < 0) = false from decide_eq_false (by show ¬ (b : Int) < 0; omega)]
        refine Ev.step (f := fun k => if orNone (some b) ≤ orNone (some a) then some ((0 : Int), (0 : Int), (14 : Int)) else some (orNone (some a), orNone (some b), 0)) (fun k => rfl) ?_
        by_cases hab : b ≤ a
        · exact Ev.pos (by show (b : Int) ≤ (a : Int); omega) (Ev.ret (by show _ = if b ≤ a then ((0 : Int), (0 : Int), (14 : Int)) else ((a : Int), (b : Int), 0); rw [if_pos hab]))
        · exact Ev.neg (by show ¬ (b : Int) ≤ (a : Int); omega) (Ev.ret (by show _ = if b ≤ a then ((0 : Int), (0 : Int), (14 : Int)) else ((a : Int), (b : Int), 0); rw [if_neg hab]; rfl))
theorem refRange_loop {L : List Int} (ho : Oct L) (hl : L.length ≤ 1000000) : ∀ (d i : Nat), L.length - i = d → i ≤ L.length → (dots L = (dots (L.drop i)).map (· + i)) → Ev (fun k => paronymref02_Range.l0 k (strOfNums L) (-1) (i : Int)) (rangeL L) := by
  intro d
  induction d with
  | zero =>
    intro i h1 h2 h3
    have hz := size_str L
    rw [List.drop_eq_nil_iff.2 (by omega)] at h3
    refine Ev.step (fun k => rfl) (Ev.neg (by rw [w64 (by omega) (by omega)]; omega) ?_)
    exact refRange_end ho hl none (fun i h => by cases h) h3 (-1) rfl
  | succ d ih =>
    intro i h1 h2 h3
    have hz := size_str L
    by_cases h4 : i + 2 ≤ L.length
    · have hb : bt (strOfNums L) (i : Int) = L[i] := by rw [bt_str ho (by omega) (by omega), rd_nat L i (by omega)]
      have hb2 : bt (strOfNums L) ((i + 1 : Nat) : Int) = L[i + 1] := by rw [bt_str ho (by omega) (by omega), rd_nat L (i + 1) (by omega)]
      have hw : wrap64 ((i : Int) + 1) = ((i + 1 : Nat) : Int) := by rw [w64 (by omega) (by omega)]; rfl
      have hst := dots_step h4
      have next : ¬ (L[i] = 46 ∧ L[i + 1] = 46) → Ev (fun k => paronymref02_Range.l0 k (strOfNums L) (-1) (wrap64 ((i : Int) + 1))) (rangeL L) := fun hn => by
        rw [hw]
        refine ih (i + 1) (by omega) (by omega) ?_
        rw [h3, hst, if_neg hn, Option.map_map]
        cases dots (L.drop (i + 1)) with
        | none => rfl
        | some j => simp; omega
      refine Ev.step (fun k => rfl) (Ev.pos (by rw [w64 (by omega) (by omega)]; omega) (Ev.pos (by omega) (Ev.pos (by omega) ?_)))
      by_cases h5 : L[i] = 46
      · refine Ev.pos (by rw [hb]; exact h5) (Ev.pos (by rw [hw]; omega) (Ev.pos (by rw [hw]; omega) ?_))
        by_cases h6 : L[i + 1] = 46
        · refine Ev.pos (by rw [hw, hb2]; exact h6) ?_
          have : dots L = some i := by rw [h3, hst, if_pos ⟨h5, h6⟩]; simp
          exact refRange_end ho hl (some i) (fun j h => by cases h; exact h4) this _ rfl
        · exact Ev.neg (by rw [hw, hb2]; exact h6) (next (fun h => h6 h.2))
      · exact Ev.neg (by rw [hb]; exact h5) (next (fun h => h5 h.1))
    · rw [dots_short (L := L.drop i) (by rw [List.length_drop]; omega)] at h3
      refine Ev.step (fun k => rfl) (Ev.neg (by rw [w64 (by omega) (by omega)]; omega) ?_)
      exact refRange_end ho hl none (fun i h => by cases h) h3 (-1) rfl
theorem refRange_ev {L : List Int} (ho : Oct L) (hl : L.length ≤ 1000000) : Ev (fun k => paronymref02_Range.f k (strOfNums L)) (rangeL L) :=
  refRange_loop ho hl _ 0 rfl (Nat.zero_le _) (by rw [List.drop_zero]; cases dots L <;> rfl)
/-! ## sequences -/
def seqF : List (List Int) → List Int → List Int × Int
  | [], acc => (acc, 0)
  | p :: r, acc => match pointL p with
    | none => ([], 13)
    | some c => seqF r (acc ++ [(c : Int)])
def seqL (L : List Int) : List Int × Int := if L = [] then ([], 0) else seqF (spl 32 L) []
theorem refSeq_loop {X : List (List Int)} (ho : ∀ l ∈ X, Oct l) (hl : ∀ l ∈ X, l.length ≤ 1000000) (hX : X.length ≤ 1000001) : ∀ (d i : Nat) (acc : List Int), X.length - i = d → i ≤ X.length → acc.length ≤ i → Ev (fun k => paronymref02_Sequence.l0 k (X.map strOfNums) acc (i : Int)) (seqF (X.drop i) acc) := by
  intro d
  induction d with
  | zero =>
    intro i acc h1 h2 h3
    rw [List.drop_eq_nil_iff.2 (by omega)]
    exact Ev.step (fun k => rfl) (Ev.neg (by rw [List.length_map]; omega) (Ev.ret rfl))
  | succ d ih =>
    intro i acc h1 h2 h3
    have hi : i < X.length := by omega
    have hp := refPoint_ev (ho _ (List.getElem_mem hi)) (hl _ (List.getElem_mem hi))
    rw [List.drop_eq_getElem_cons hi]
    refine Ev.step (fun k => rfl) (Ev.pos (by rw [List.length_map]; omega) (Ev.pos (by omega) ?_))
    rw [rdOf_map2 X i hi]
    refine Ev.bind hp ?_
    unfold seqF
    cases h : pointL X[i] with
    | none => exact Ev.pos (by decide) (Ev.ret rfl)
    | some c =>
      refine Ev.neg (by show ¬ (c : Int) < 0; omega) (Ev.pos (by omega) ?_)
      rw [w64 (by omega) (by omega)]
      exact ih (i + 1) (acc ++ [(c : Int)]) (by omega) (by omega) (by simp; omega)
theorem refSeq_ev {L : List Int} (ho : Oct L) (hl : L.length ≤ 1000000) : Ev (fun k => paronymref02_Sequence.f k (strOfNums L)) (seqL L) := by
  unfold seqL
  by_cases h : L = []
  · rw [if_pos h]
    exact Ev.pos (str_nilU.2 h) (Ev.ret rfl)
  · rw [if_neg h]
    refine Ev.neg (fun e => h (str_nilU.1 e)) (Ev.bind (cut_ev ho hl 32) ?_)
    have hc := splP_count (fun x => decide (x = (32 : Int))) L
    exact refSeq_loop (X := spl 32 L) (fun l hm => oct_spl ho hm) (fun l hm => by have := len_spl hm; omega) (by unfold spl; omega) _ 0 [] rfl (Nat.zero_le _) (Nat.zero_le _)
end Go.Proofs.YtbpdcbibooiimaaGreatDoor.K
/- field.Point: the walk. -/
namespace Go.Proofs.YtbpdcbibooiimaaGreatDoor.Q
open Go.RowKit Go.Shelf Go.Proofs.YtbpdcbibooiimaaGreatDoorW.PrintWords Go.Proofs.YtbpdcbibooiimaaGreatDoorW.PrintLast Go.Proofs.YtbpdcbibooiimaaGreatDoorW.PrintMore Go.Proofs.YtbpdcbibooiimaaGreatDoor.K
def orNo : Option Nat → Int
  | none => -1
  | some d => (d : Int)
theorem dIdx {x : Int} (h : 0 ≤ x ∧ x ≤ 255) : strings_IndexByte.f ⟨#[48, 49, 50, 51, 52, 53, 54, 55, 56, 57, 65, 66, 67, 68, 69, 70]⟩ x = some (orNo (hexV x)) := by
  obtain ⟨n, rfl⟩ := Int.eq_ofNat_of_zero_le h.1
  have hn : n < 256 := by omega
  have key : ∀ k : Fin 256, strings_IndexByte.f ⟨#[48, 49, 50, 51, 52, 53, 54, 55, 56, 57, 65, 66, 67, 68, 69, 70]⟩ (k.val : Int) = some (orNo (hexV (k.val : Int))) := by decide +kernel
  exact key ⟨n, hn⟩
theorem bits_or_i64_nat (a b : Nat) (ha : a < 9223372036854775808) (hb : b < 9223372036854775808) : bits .or .i64 (a : Int) (b : Int) = ((a ||| b : Nat) : Int) := by
  have hx : a ||| b < 2 ^ 63 := Nat.or_lt_two_pow (by omega) (by omega)
  have h1 : (BitVec.ofInt 64 (a : Int)).toNat = a := by
    rw [BitVec.ofInt_natCast, BitVec.toNat_ofNat]; exact Nat.mod_eq_of_lt (by omega)
  have h2 : (BitVec.ofInt 64 (b : Int)).toNat = b := by
    rw [BitVec.ofInt_natCast, BitVec.toNat_ofNat]; exact Nat.mod_eq_of_lt (by omega)
  show IntKind.i64.wrap ((BitVec.ofInt 64 (a : Int) ||| BitVec.ofInt 64 (b : Int)).toNat : Int) = _
  rw [BitVec.toNat_or, h1, h2]
  exact Go.IntWalk.i64_in _ (by omega)
theorem or_add (v d : Nat) (hd : d < 16) : (v * 16) ||| d = v * 16 + d := by
  have := Nat.two_pow_add_eq_or_of_lt (i := 4) (b := d) (by simpa using hd) v
  rw [Nat.mul_comm]
  exact this.symm
def pointR : Option Nat → Int × Int
  | none => (0, 13)
  | some v => ((v : Int), 0)
set_option maxHeartbeats 4000000 in
set_option maxRecDepth 100000 in
theorem field_Point.calls (L : List Int) (ho : Oct L) (hl : L.length ≤ 1000000) (w : World) (hE : EnvF w) :
    Calls Tryz.prog 79 #[.string (strOfNums L)] w fun e w' => e = .returned (.tuple #[.int .i64 (pointR (pointL L)).1, .int .i64 (pointR (pointL L)).2]) ∧ Below w.heap.size w w' := by
  have hz := size_str L
  obtain ⟨n, hn⟩ : ∃ n, n = L.length := ⟨_, rfl⟩
  rw [← hn] at hz
  obtain ⟨R, hR⟩ : ∃ R, R = pointL L := ⟨_, rfl⟩
  rw [← hR]
  rw [pointL_is] at hR
  have HO := Aside0.mk ho
  have HL := Aside0.mk hl
  have HE := Aside0.mk hE
  have HN := Aside0.mk hn
  by_cases h46 : L.length < 4 ∨ 6 < L.length
  · rw [if_pos h46] at hR
    subst hR
    have e0 : decide ((n : Int) < 4) = true ∨ (decide ((n : Int) < 4) = false ∧ decide ((6 : Int) < (n : Int)) = true) := by
      by_cases h4 : n < 4
      · exact .inl (decide_eq_true (by omega))
      · exact .inr ⟨decide_eq_false (by omega), decide_eq_true (by omega)⟩
    clear ho hl hE hn h46
    rcases e0 with e0 | ⟨e0, e1⟩
    · have e2 : ((n : Int) < 4) = True := eq_true (of_decide_eq_true e0)
      have e3 : (n < 4) = True := eq_true (by have := of_decide_eq_true e0; omega)
      go_enter Tryz.func79, Tryz.ntmps79
      go_wp2
      go_ret2
      exact ⟨rfl, Below.refl _ _⟩
    · have e2 : ((n : Int) < 4) = False := eq_false (of_decide_eq_false e0)
      have e3 : (n < 4) = False := eq_false (by have := of_decide_eq_false e0; omega)
      have e4 : ((6 : Int) < (n : Int)) = True := eq_true (of_decide_eq_true e1)
      have e5 : (6 < n) = True := eq_true (by have := of_decide_eq_true e1; omega)
      go_enter Tryz.func79, Tryz.ntmps79
      go_wp2
      go_ret2
      exact ⟨rfl, Below.refl _ _⟩
  · rw [if_neg h46] at hR
    have HR := Aside0.mk hR
    have HH := Aside0.mk h46
    have e0 : decide ((n : Int) < 4) = false := decide_eq_false (by omega)
    have e1 : decide ((6 : Int) < (n : Int)) = false := decide_eq_false (by omega)
    have e2 : ((n : Int) < 4) = False := eq_false (by omega)
    have e3 : (n < 4) = False := eq_false (by omega)
    have e4 : ((6 : Int) < (n : Int)) = False := eq_false (by omega)
    have e5 : (6 < n) = False := eq_false (by omega)
    clear ho hl hE hn h46 hR
    go_enter Tryz.func79, Tryz.ntmps79
    go_wp2
    clear e0 e1 e2 e3 e4 e5
    go_loopg [4, 17] (n + 1) (fun kq s4 s17 wr => ∃ i v : Nat, s17 = .int .i64 (i : Int) ∧ s4 = .int .i64 (v : Int) ∧ Aside0 (i + kq = n + 1 ∧ i ≤ n ∧ v < 16 ^ i ∧ valF 0 L = valF v (L.drop i)) ∧ Aside0 (Below w.heap.size w wr))
    case atStart => exact ⟨0, 0, rfl, rfl, ⟨by omega, by omega, by simp, by simp⟩, ⟨Below.refl _ _⟩⟩
    case round =>
      obtain ⟨i, v, rfl, rfl, HI, HB⟩ := hrel
      cases gk with
      | zero => exact absurd HI.out (by omega)
      | succ kq =>
      by_cases c1 : (i : Int) < (n : Int)
      · have hi : i < L.length := by have := HN.out; omega
        obtain ⟨x, hx⟩ : ∃ x, x = L[i] := ⟨_, rfl⟩
        have hox : 0 ≤ x ∧ x ≤ 255 := by rw [hx]; exact HO.out _ (List.getElem_mem hi)
        have hx12 : ∀ h : (i : Int).toNat < (strOfNums L).size, (((strOfNums L)[(i : Int).toNat]'h).toNat : Int) = x := fun h => by
          rw [bt_at (strOfNums L) (i : Int) h, bt_str HO.out (by omega) (by omega), rd_nat L i hi, hx]
        have hx13 : ∀ h : i < (strOfNums L).size, (((strOfNums L)[i]'h).toNat : Int) = x := fun h => hx12 h
        have e0 := eq_true c1
        have e1 : decide ((i : Int) < (n : Int)) = true := decide_eq_true c1
        have e2 : (i < n) = True := eq_true (by omega)
        have hstep : valF v (L.drop i) = (match hexV x with | none => none | some d => valF (v * 16 + d) (L.drop (i + 1))) := by
          rw [List.drop_eq_getElem_cons hi, hx]; rfl
        have HS := Aside0.mk hstep
        have HX := Aside0.mk hox
        have HV := Aside0.mk (dIdx hox)
        have hv6 : v < 16777216 := Nat.lt_of_lt_of_le HI.out.2.2.1 (Nat.pow_le_pow_right (n := 16) (by omega) (show i ≤ 6 by have := HH.out; have := HN.out; have := HI.out; omega))
        have HV6 := Aside0.mk hv6
        have HC1 := Aside0.mk hi
        clear c1 hi hx hox hstep hv6
        cases hv : hexV x with
        | none =>
          have HVN := Aside0.mk hv
          rw [hv] at HV
          have HV' : Aside0 (strings_IndexByte.f { data := #[48, 49, 50, 51, 52, 53, 54, 55, 56, 57, 65, 66, 67, 68, 69, 70] } x = some (-1)) := ⟨HV.out⟩
          have HRN : Aside0 (R = none) := ⟨by rw [HR.out, HI.out.2.2.2, HS.out, hv]; rfl⟩
          clear hv HV
          go_wp2_with (go_at_call 101; refine (strings_IndexByte.calls _ _ _ _ HV'.out).mono ?_; rintro e w2 ⟨rfl, ⟨m2, rfl⟩⟩)
          go_ret2
          rw [HRN.out]
          exact ⟨rfl, pw_below_drewN HB.out _⟩
        | some d =>
          have hd16 := hexV_lt hv
          rw [hv] at HV
          have HV' : Aside0 (strings_IndexByte.f { data := #[48, 49, 50, 51, 52, 53, 54, 55, 56, 57, 65, 66, 67, 68, 69, 70] } x = some (d : Int)) := ⟨HV.out⟩
          have HSN : Aside0 (valF v (L.drop i) = valF (v * 16 + d) (L.drop (i + 1))) := ⟨by rw [HS.out, hv]⟩
          have m1 : ((d : Int) < 0) = False := eq_false (by omega)
          have m2 : decide ((d : Int) < 0) = false := decide_eq_false (by omega)
          have hv6 := HV6.out
          have m3 : bits BinOp.or IntKind.i64 ((v : Int) * 16) (d : Int) = ((v * 16 + d : Nat) : Int) := by
            have := bits_or_i64_nat (v * 16) d (by omega) (by omega)
            rw [or_add v d hd16] at this
            rw [← this]; rfl
          have HD16 := Aside0.mk hd16
          have m4 : wrap64 ((v : Int) * 16) = (v : Int) * 16 := w64 (by omega) (by omega)
          have m5 : wrap64 ((i : Int) + 1) = (i : Int) + 1 := w64 (by omega) (by have := HI.out; have := HN.out; have := HH.out; omega)
          clear hv HV hd16 hv6
          go_wp2_with (go_at_call 101; refine (strings_IndexByte.calls _ _ _ _ HV'.out).mono ?_; rintro e w2 ⟨rfl, ⟨m2, rfl⟩⟩)
          go_roundg kq
          case measure => omega
          case rel =>
            have h1 := HI.out
            have h2 := HD16.out
            exact ⟨i + 1, v * 16 + d, by first | rfl | (rw [m5]; rfl), rfl, ⟨by omega, by have := HC1.out; have := HN.out; omega, by rw [Nat.pow_succ]; omega, by rw [h1.2.2.2]; exact HSN.out⟩, ⟨pw_below_drewN HB.out _⟩⟩
      · have hin : i = n := by have := HI.out; omega
        have e0 := eq_false c1
        have e1 : decide ((i : Int) < (n : Int)) = false := decide_eq_false c1
        have e2 : (i < n) = False := eq_false (by omega)
        have hRv : R = endP L (some v) := by
          rw [HR.out, HI.out.2.2.2, List.drop_eq_nil_iff.2 (by have := HN.out; omega)]; rfl
        by_cases c2 : 1114111 < v
        · have d0 : ((1114111 : Int) < (v : Int)) = True := eq_true (by omega)
          have d1 : decide ((1114111 : Int) < (v : Int)) = true := decide_eq_true (by omega)
          have d2 : (1114111 < v) = True := eq_true c2
          have HRN : Aside0 (R = none) := ⟨by rw [hRv]; unfold endP; simp only; rw [if_pos c2]⟩
          clear c1 hin hRv c2
          go_wp2
          go_ret2
          rw [HRN.out]
          exact ⟨rfl, HB.out⟩
        · have d0 : ((1114111 : Int) < (v : Int)) = False := eq_false (by omega)
          have d1 : decide ((1114111 : Int) < (v : Int)) = false := decide_eq_false (by omega)
          have d2 : (1114111 < v) = False := eq_false c2
          have HV := Aside0.mk (show v ≤ 1114111 by omega)
          have hEw : EnvF wr := HE.out.below HB.out
          have HEW := Aside0.mk hEw
          by_cases c3 : hexT v = L
          · have f2 : decide (strOfNums (hexT v) = strOfNums L) = true := decide_eq_true (by rw [c3])
            have f3 : ((strOfNums (hexT v)).toList == (strOfNums L).toList) = true := beq_iff_eq.mpr (by rw [c3])
            have f4 : ((strOfNums (hexT v)).toList != (strOfNums L).toList) = false := by rw [bne, f3]; rfl
            have HRN : Aside0 (R = some v) := ⟨by rw [hRv]; unfold endP; simp only; rw [if_neg c2, if_pos c3]⟩
            clear c1 hin hRv c2 hEw c3
            go_wp2_with (go_at_call 102; refine (text.calls v HV.out _ HEW.out).mono ?_; rintro e w2 ⟨rfl, hb⟩; have HB2 := Aside0.mk hb; clear hb)
            go_ret2
            rw [HRN.out]
            exact ⟨rfl, HB.out.trans (HB2.out.mono HB.out.size)⟩
          · have hne : strOfNums (hexT v) ≠ strOfNums L := fun e => c3 (str_inj (hexT_oct v HV.out) HO.out e)
            have hne2 : (strOfNums (hexT v)).toList ≠ (strOfNums L).toList := fun e => hne (toList_inj e)
            have f2 : decide (strOfNums (hexT v) = strOfNums L) = false := decide_eq_false hne
            have f3 : ((strOfNums (hexT v)).toList == (strOfNums L).toList) = false := beq_eq_false_iff_ne.mpr hne2
            have f4 : ((strOfNums (hexT v)).toList != (strOfNums L).toList) = true := by rw [bne, f3]; rfl
            have HRN : Aside0 (R = none) := ⟨by rw [hRv]; unfold endP; simp only; rw [if_neg c2, if_neg c3]⟩
            clear c1 hin hRv c2 hEw c3 hne hne2
            go_wp2_with (go_at_call 102; refine (text.calls v HV.out _ HEW.out).mono ?_; rintro e w2 ⟨rfl, hb⟩; have HB2 := Aside0.mk hb; clear hb)
            go_ret2
            rw [HRN.out]
            exact ⟨rfl, HB.out.trans (HB2.out.mono HB.out.size)⟩
end Go.Proofs.YtbpdcbibooiimaaGreatDoor.Q
/- field.Range: the walk. -/
namespace Go.Proofs.YtbpdcbibooiimaaGreatDoor.Q
open Go.RowKit Go.Shelf Go.Proofs.YtbpdcbibooiimaaGreatDoorW.PrintWords Go.Proofs.YtbpdcbibooiimaaGreatDoorW.PrintLast Go.Proofs.YtbpdcbibooiimaaGreatDoorW.PrintMore Go.Proofs.YtbpdcbibooiimaaGreatDoor.K
theorem sCut2.calls (L : List Int) (ho : Oct L) (hl : L.length ≤ 1000000) (w : World) (hE : EnvF w) : Calls Tryz.prog 95 #[.string (strOfNums L), .string ⟨#[46, 46]⟩] w fun e w' =>
    e = .returned (match dots L with
      | none => .tuple #[.string (strOfNums L), .string (strOfNums []), .bool false]
      | some i => .tuple #[.string (strOfNums (L.take i)), .string (strOfNums (L.drop (i + 2))), .bool true]) ∧ Below w.heap.size w w' := by
  obtain ⟨⟨m, hm⟩, _⟩ := hE
  refine (Any.strings_Cut Tryz.lays145 (strOfNums L) ⟨#[46, 46]⟩ m w (by rw [size_str]; omega) hm).mono ?_
  rintro e w' ⟨rfl, n, rfl⟩
  refine ⟨?_, pw_below_drewN (Below.refl _ _) n⟩
  have hi := index_dots ho
  rw [show (⟨#[46, 46]⟩ : ByteArray).data.toList = [46, 46] from rfl, str_data]
  unfold Lib.cut
  cases hd : dots L with
  | none =>
    rw [hd] at hi
    rw [if_neg (by rw [hi]; decide)]
    simp only [str_of_bytes]
    rfl
  | some i =>
    rw [hd] at hi
    rw [if_pos (by rw [hi]; simp), hi]
    simp only [Int.toNat_natCast]
    have e1 : (⟨((Lib.bytesOf L).take i).toArray⟩ : ByteArray) = strOfNums (L.take i) := by rw [← str_of_bytes, Lib.bytesOf_take]
    have e2 : (⟨((Lib.bytesOf L).drop (i + ([46, 46] : List UInt8).length)).toArray⟩ : ByteArray) = strOfNums (L.drop (i + 2)) := by rw [← str_of_bytes]; simp [Lib.bytesOf, List.map_drop]
    rw [e1, e2]
set_option maxHeartbeats 1000000 in
set_option maxRecDepth 100000 in
theorem range_bad (s s1 s2 : ByteArray) (w : World) (HE : Aside0 (EnvF w)) (two : Bool) (HCUT : Aside0 (Calls Tryz.prog 95 #[.string s, .string ⟨#[46, 46]⟩] w fun e w' => e = .returned (.tuple #[.string s1, .string s2, .bool two]) ∧ Below w.heap.size w w')) (HPT : Aside0 (∀ w : World, EnvF w → Calls Tryz.prog 79 #[.string s1] w fun e w' => e = .returned (.tuple #[.int .i64 (pointR none).1, .int .i64 (pointR none).2]) ∧ Below w.heap.size w w')) :
    Calls Tryz.prog 72 #[.string s] w fun e w' => e = .returned (.tuple #[.int .i64 0, .int .i64 0, .int .i64 13]) ∧ Below w.heap.size w w' := by
  go_enter Tryz.func72, Tryz.ntmps72
  go_wp2_with (first
    | (go_at_call 95; refine HCUT.out.mono ?_; rintro e w1 ⟨rfl, hb⟩; have HB := Aside0.mk hb; clear hb)
    | (go_at_call 79; (with_reducible refine (HPT.out _ (HE.out.below HB.out)).mono ?_); rintro e w2 ⟨rfl, hb⟩; have HB2 := Aside0.mk hb; clear hb; dsimp only [pointR]))
  go_ret3
  exact ⟨rfl, HB.out.trans (HB2.out.mono HB.out.size)⟩
set_option maxHeartbeats 1000000 in
set_option maxRecDepth 100000 in
theorem range_one (s s1 s2 : ByteArray) (w : World) (HE : Aside0 (EnvF w)) (c : Nat) (HCUT : Aside0 (Calls Tryz.prog 95 #[.string s, .string ⟨#[46, 46]⟩] w fun e w' => e = .returned (.tuple #[.string s1, .string s2, .bool false]) ∧ Below w.heap.size w w')) (HPT : Aside0 (∀ w : World, EnvF w → Calls Tryz.prog 79 #[.string s1] w fun e w' => e = .returned (.tuple #[.int .i64 (pointR (some c)).1, .int .i64 (pointR (some c)).2]) ∧ Below w.heap.size w w')) :
    Calls Tryz.prog 72 #[.string s] w fun e w' => e = .returned (.tuple #[.int .i64 (c : Int), .int .i64 (c : Int), .int .i64 0]) ∧ Below w.heap.size w w' := by
  go_enter Tryz.func72, Tryz.ntmps72
  go_wp2_with (first
    | (go_at_call 95; refine HCUT.out.mono ?_; rintro e w1 ⟨rfl, hb⟩; have HB := Aside0.mk hb; clear hb)
    | (go_at_call 79; (with_reducible refine (HPT.out _ (HE.out.below HB.out)).mono ?_); rintro e w2 ⟨rfl, hb⟩; have HB2 := Aside0.mk hb; clear hb; dsimp only [pointR]))
  go_ret3
  exact ⟨rfl, HB.out.trans (HB2.out.mono HB.out.size)⟩
set_option maxHeartbeats 1000000 in
set_option maxRecDepth 100000 in
theorem range_bad2 (s s1 s2 : ByteArray) (w : World) (HE : Aside0 (EnvF w)) (a : Nat) (HCUT : Aside0 (Calls Tryz.prog 95 #[.string s, .string ⟨#[46, 46]⟩] w fun e w' => e = .returned (.tuple #[.string s1, .string s2, .bool true]) ∧ Below w.heap.size w w')) (HPT : Aside0 (∀ w : World, EnvF w → Calls Tryz.prog 79 #[.string s1] w fun e w' => e = .returned (.tuple #[.int .i64 (pointR (some a)).1, .int .i64 (pointR (some a)).2]) ∧ Below w.heap.size w w')) (HPT2 : Aside0 (∀ w : World, EnvF w → Calls Tryz.prog 79 #[.string s2] w fun e w' => e = .returned (.tuple #[.int .i64 (pointR none).1, .int .i64 (pointR none).2]) ∧ Below w.heap.size w w')) :
    Calls Tryz.prog 72 #[.string s] w fun e w' => e = .returned (.tuple #[.int .i64 0, .int .i64 0, .int .i64 13]) ∧ Below w.heap.size w w' := by
  go_enter Tryz.func72, Tryz.ntmps72
  go_wp2_with (first
    | (go_at_call 95; refine HCUT.out.mono ?_; rintro e w1 ⟨rfl, hb⟩; have HB := Aside0.mk hb; clear hb)
    | (go_at_call 79; (with_reducible refine (HPT.out _ (HE.out.below HB.out)).mono ?_); rintro e w2 ⟨rfl, hb⟩; have HB2 := Aside0.mk hb; clear hb; dsimp only [pointR])
    | (go_at_call 79; (with_reducible refine (HPT2.out _ ((HE.out.below HB.out).below HB2.out)).mono ?_); rintro e w3 ⟨rfl, hb⟩; have HB3 := Aside0.mk hb; clear hb; dsimp only [pointR]))
  go_ret3
  exact ⟨rfl, HB.out.trans ((HB2.out.mono HB.out.size).trans (HB3.out.mono (Nat.le_trans HB.out.size HB2.out.size)))⟩
set_option maxHeartbeats 1000000 in
set_option maxRecDepth 100000 in
theorem range_down (s s1 s2 : ByteArray) (w : World) (HE : Aside0 (EnvF w)) (a b : Nat) (h : b ≤ a) (HCUT : Aside0 (Calls Tryz.prog 95 #[.string s, .string ⟨#[46, 46]⟩] w fun e w' => e = .returned (.tuple #[.string s1, .string s2, .bool true]) ∧ Below w.heap.size w w')) (HPT : Aside0 (∀ w : World, EnvF w → Calls Tryz.prog 79 #[.string s1] w fun e w' => e = .returned (.tuple #[.int .i64 (pointR (some a)).1, .int .i64 (pointR (some a)).2]) ∧ Below w.heap.size w w')) (HPT2 : Aside0 (∀ w : World, EnvF w → Calls Tryz.prog 79 #[.string s2] w fun e w' => e = .returned (.tuple #[.int .i64 (pointR (some b)).1, .int .i64 (pointR (some b)).2]) ∧ Below w.heap.size w w')) :
    Calls Tryz.prog 72 #[.string s] w fun e w' => e = .returned (.tuple #[.int .i64 0, .int .i64 0, .int .i64 14]) ∧ Below w.heap.size w w' := by
  have e0 : ((b : Int) ≤ (a : Int)) = True := eq_true (by omega)
  have e1 : decide ((b : Int) ≤ (a : Int)) = true := decide_eq_true (by omega)
  have e2 : (b ≤ a) = True := eq_true h
  clear h
  go_enter Tryz.func72, Tryz.ntmps72
  go_wp2_with (first
    | (go_at_call 95; refine HCUT.out.mono ?_; rintro e w1 ⟨rfl, hb⟩; have HB := Aside0.mk hb; clear hb)
    | (go_at_call 79; (with_reducible refine (HPT.out _ (HE.out.below HB.out)).mono ?_); rintro e w2 ⟨rfl, hb⟩; have HB2 := Aside0.mk hb; clear hb; dsimp only [pointR])
    | (go_at_call 79; (with_reducible refine (HPT2.out _ ((HE.out.below HB.out).below HB2.out)).mono ?_); rintro e w3 ⟨rfl, hb⟩; have HB3 := Aside0.mk hb; clear hb; dsimp only [pointR]))
  go_ret3
  exact ⟨rfl, HB.out.trans ((HB2.out.mono HB.out.size).trans (HB3.out.mono (Nat.le_trans HB.out.size HB2.out.size)))⟩
set_option maxHeartbeats 1000000 in
set_option maxRecDepth 100000 in
theorem range_two (s s1 s2 : ByteArray) (w : World) (HE : Aside0 (EnvF w)) (a b : Nat) (h : ¬ b ≤ a) (HCUT : Aside0 (Calls Tryz.prog 95 #[.string s, .string ⟨#[46, 46]⟩] w fun e w' => e = .returned (.tuple #[.string s1, .string s2, .bool true]) ∧ Below w.heap.size w w')) (HPT : Aside0 (∀ w : World, EnvF w → Calls Tryz.prog 79 #[.string s1] w fun e w' => e = .returned (.tuple #[.int .i64 (pointR (some a)).1, .int .i64 (pointR (some a)).2]) ∧ Below w.heap.size w w')) (HPT2 : Aside0 (∀ w : World, EnvF w → Calls Tryz.prog 79 #[.string s2] w fun e w' => e = .returned (.tuple #[.int .i64 (pointR (some b)).1, .int .i64 (pointR (some b)).2]) ∧ Below w.heap.size w w')) :
    Calls Tryz.prog 72 #[.string s] w fun e w' => e = .returned (.tuple #[.int .i64 (a : Int), .int .i64 (b : Int), .int .i64 0]) ∧ Below w.heap.size w w' := by
  have e0 : ((b : Int) ≤ (a : Int)) = False := eq_false (by omega)
  have e1 : decide ((b : Int) ≤ (a : Int)) = false := decide_eq_false (by omega)
  have e2 : (b ≤ a) = False := eq_false h
  clear h
  go_enter Tryz.func72, Tryz.ntmps72
  go_wp2_with (first
    | (go_at_call 95; refine HCUT.out.mono ?_; rintro e w1 ⟨rfl, hb⟩; have HB := Aside0.mk hb; clear hb)
    | (go_at_call 79; (with_reducible refine (HPT.out _ (HE.out.below HB.out)).mono ?_); rintro e w2 ⟨rfl, hb⟩; have HB2 := Aside0.mk hb; clear hb; dsimp only [pointR])
    | (go_at_call 79; (with_reducible refine (HPT2.out _ ((HE.out.below HB.out).below HB2.out)).mono ?_); rintro e w3 ⟨rfl, hb⟩; have HB3 := Aside0.mk hb; clear hb; dsimp only [pointR]))
  go_ret3
  exact ⟨rfl, HB.out.trans ((HB2.out.mono HB.out.size).trans (HB3.out.mono (Nat.le_trans HB.out.size HB2.out.size)))⟩
theorem field_Range.calls (L : List Int) (ho : Oct L) (hl : L.length ≤ 1000000) (w : World) (hE : EnvF w) :
    Calls Tryz.prog 72 #[.string (strOfNums L)] w fun e w' => e = .returned (.tuple #[.int .i64 (rangeL L).1, .int .i64 (rangeL L).2.1, .int .i64 (rangeL L).2.2]) ∧ Below w.heap.size w w' := by
  have hcut := sCut2.calls L ho hl w hE
  unfold rangeL
  cases hd : dots L with
  | none =>
    rw [hd] at hcut
    have hpt := fun w hE => field_Point.calls L ho hl w hE
    cases hp : pointL L with
    | none => rw [hp] at hpt; exact range_bad _ _ _ w ⟨hE⟩ false ⟨hcut⟩ ⟨hpt⟩
    | some c => rw [hp] at hpt; exact range_one _ _ _ w ⟨hE⟩ c ⟨hcut⟩ ⟨hpt⟩
  | some i =>
    rw [hd] at hcut
    have hpt := fun w hE => field_Point.calls (L.take i) (ho.take i) (by rw [List.length_take]; omega) w hE
    have hpt2 := fun w hE => field_Point.calls (L.drop (i + 2)) (ho.drop (i + 2)) (by rw [List.length_drop]; omega) w hE
    show Calls _ _ _ _ fun e w' => e = .returned (.tuple #[.int .i64 (rangeE (pointL (L.take i)) (pointL (L.drop (i + 2)))).1, .int .i64 (rangeE (pointL (L.take i)) (pointL (L.drop (i + 2)))).2.1, .int .i64 (rangeE (pointL (L.take i)) (pointL (L.drop (i + 2)))).2.2]) ∧ _
    cases hp : pointL (L.take i) with
    | none =>
      rw [hp] at hpt
      have e : rangeE none (pointL (L.drop (i + 2))) = (0, 0, 13) := by cases pointL (L.drop (i + 2)) <;> rfl
      rw [e]
      exact range_bad _ _ _ w ⟨hE⟩ true ⟨hcut⟩ ⟨hpt⟩
    | some a =>
      rw [hp] at hpt
      cases hq : pointL (L.drop (i + 2)) with
      | none => rw [hq] at hpt2; exact range_bad2 _ _ _ w ⟨hE⟩ a ⟨hcut⟩ ⟨hpt⟩ ⟨hpt2⟩
      | some b =>
        rw [hq] at hpt2
        by_cases hab : b ≤ a
        · have e : rangeE (some a) (some b) = (0, 0, 14) := by show (if b ≤ a then _ else _) = _; rw [if_pos hab]
          rw [e]
          exact range_down _ _ _ w ⟨hE⟩ a b hab ⟨hcut⟩ ⟨hpt⟩ ⟨hpt2⟩
        · have e : rangeE (some a) (some b) = ((a : Int), (b : Int), 0) := by show (if b ≤ a then _ else _) = _; rw [if_neg hab]
          rw [e]
          exact range_two _ _ _ w ⟨hE⟩ a b hab ⟨hcut⟩ ⟨hpt⟩ ⟨hpt2⟩
end Go.Proofs.YtbpdcbibooiimaaGreatDoor.Q
/- prop.line: the walk. -/
namespace Go.Proofs.YtbpdcbibooiimaaGreatDoor.Q
open Go.RowKit Go.Shelf Go.Proofs.YtbpdcbibooiimaaGreatDoorW.PrintWords Go.Proofs.YtbpdcbibooiimaaGreatDoorW.PrintLast Go.Proofs.YtbpdcbibooiimaaGreatDoorW.PrintMore Go.Proofs.YtbpdcbibooiimaaGreatDoor.K
def C3 (T : TypeId) (W : World) (b : Nat) (x y z : Value) : Prop := W.heap[b]? = some (.cells #[x, y, z] T (0, 0))
theorem C3.lt {T : TypeId} {W : World} {b : Nat} {x y z : Value} (h : C3 T W b x y z) : b < W.heap.size := (Array.getElem?_eq_some_iff.1 h).1
theorem C3.at {T : TypeId} {W : World} {b n : Nat} {x y z : Value} (h : C3 T W b x y z) (v : Value) : (W.setCell ⟨b, n, none⟩ v).heap[b]? = some (.cells (#[x, y, z].setIfInBounds n v) T (0, 0)) := by
  obtain ⟨hlt, hk⟩ := Array.getElem?_eq_some_iff.1 h
  show (W.heap.modify b _)[b]? = _
  rw [Array.getElem?_eq_getElem (by rw [Array.size_modify]; exact hlt), Array.getElem_modify_self, hk]
  rfl
theorem C3.set0 {T : TypeId} {W : World} {b : Nat} {x y z : Value} (h : C3 T W b x y z) (v : Value) : C3 T (W.setCell ⟨b, 0, none⟩ v) b v y z := h.at v
theorem C3.set1 {T : TypeId} {W : World} {b : Nat} {x y z : Value} (h : C3 T W b x y z) (v : Value) : C3 T (W.setCell ⟨b, 1, none⟩ v) b x v z := h.at v
theorem C3.set2 {T : TypeId} {W : World} {b : Nat} {x y z : Value} (h : C3 T W b x y z) (v : Value) : C3 T (W.setCell ⟨b, 2, none⟩ v) b x y v := h.at v
theorem C3.cells {T : TypeId} {W : World} {b : Nat} {x y z : Value} (h : C3 T W b x y z) : W.cell? ⟨b, 0, none⟩ = some x ∧ W.cell? ⟨b, 1, none⟩ = some y ∧ W.cell? ⟨b, 2, none⟩ = some z := by
  refine ⟨?_, ?_, ?_⟩ <;> (simp only [World.cell?]; rw [h]; rfl)
theorem C3.frz {T : TypeId} {W : World} {b : Nat} {x y z : Value} (h : C3 T W b x y z) (n : Nat) : W.frozen? ⟨b, n, none⟩ = false := by
  simp only [World.frozen?]; rw [h]; simp
theorem C3.facts {T : TypeId} {W : World} {b : Nat} {x y z : Value} (h : C3 T W b x y z) : W.cell? ⟨b, 0, none⟩ = some x ∧ W.frozen? ⟨b, 0, none⟩ = false ∧
    (∀ u, (W.setCell ⟨b, 0, none⟩ u).cell? ⟨b, 1, none⟩ = some y ∧ (W.setCell ⟨b, 0, none⟩ u).frozen? ⟨b, 1, none⟩ = false) ∧
    (∀ u v, ((W.setCell ⟨b, 0, none⟩ u).setCell ⟨b, 1, none⟩ v).cell? ⟨b, 2, none⟩ = some z ∧ ((W.setCell ⟨b, 0, none⟩ u).setCell ⟨b, 1, none⟩ v).frozen? ⟨b, 2, none⟩ = false) :=
  ⟨h.cells.1, h.frz 0, fun u => ⟨(h.set0 u).cells.2.1, (h.set0 u).frz 1⟩, fun u v => ⟨((h.set0 u).set1 v).cells.2.2, ((h.set0 u).set1 v).frz 2⟩⟩
theorem below_set3 {w W : World} {b : Nat} (h : Below w.heap.size w W) (hb : w.heap.size ≤ b) (x y z : Value) : Below w.heap.size w (((W.setCell ⟨b, 0, none⟩ x).setCell ⟨b, 1, none⟩ y).setCell ⟨b, 2, none⟩ z) :=
  ((h.setCell (p := ⟨b, 0, none⟩) hb x).setCell (p := ⟨b, 1, none⟩) hb y).setCell (p := ⟨b, 2, none⟩) hb z
theorem strs_cell {w : World} {A : Option Addr} {X : List (List Int)} (h : Kd.C Kd.string w A X.length (X.map strOfNums)) (hp : 0 < X.length) : ∃ ad, A = some ad ∧ ∀ i (hi : i < X.length), w.cell? (ad.add i) = some (.string (strOfNums X[i])) := by
  obtain ⟨ad, e, f⟩ := h.2.2 hp
  refine ⟨ad, e, fun i hi => ?_⟩
  obtain ⟨vs, e1, e2, g⟩ := f i (strOfNums X[i]) (by rw [List.getElem?_map, List.getElem?_eq_getElem hi]; rfl)
  have e2 : vs = [Value.string (strOfNums X[i])] := e2
  subst e2
  have h9 : w.cell? (ad.add (i * 1 + 0)) = some (.string (strOfNums X[i])) := g 0 _ rfl
  rw [Nat.mul_one, Nat.add_zero] at h9
  exact h9
def lnR : List (List Int) → Int × Int × List Int × Int
  | a :: b :: _ => if (rangeL a).2.2 = 0 then (if b = [] then (0, 0, [], 16) else ((rangeL a).1, (rangeL a).2.1, b, 0)) else (0, 0, [], (rangeL a).2.2)
  | _ => (0, 0, [], 12)
def lnV (r : Int × Int × List Int × Int) : Value := .agg #[.int .i64 r.1, .int .i64 r.2.1, .string (strOfNums r.2.2.1)]
set_option maxHeartbeats 4000000 in
set_option maxRecDepth 100000 in
theorem prop_line.few (n : Nat) (A : Option Addr) (c : Nat) (w : World) (hn : n < 2) :
    Calls Tryz.prog 45 #[.slice A n c] w fun e w' => e = .returned (.tuple #[.agg #[.int .i64 0, .int .i64 0, .string ⟨#[]⟩], .int .i64 12]) ∧ Below w.heap.size w w' := by
  have e0 : decide ((n : Int) < 2) = true := decide_eq_true (by omega)
  have e1 : ((n : Int) < 2) = True := eq_true (by omega)
  have HB0 : Aside0 (Below w.heap.size w (w.alloc (.cells #[.int .i64 0, .int .i64 0, .string ⟨#[]⟩] 83))) := ⟨(Below.refl _ w).alloc (Nat.le_refl _) _⟩
  have HE0 : Aside0 (C3 83 (w.alloc (.cells #[.int .i64 0, .int .i64 0, .string ⟨#[]⟩] 83)) w.heap.size (.int .i64 0) (.int .i64 0) (.string ⟨#[]⟩)) := ⟨heap_alloc_new w _⟩
  obtain ⟨q0, q1, q2, q3⟩ := C3.facts HE0.out
  clear hn
  go_enter Tryz.func45, Tryz.ntmps45
  go_wp2
  have hfin := ((HE0.out.set0 (.int .i64 0)).set1 (.int .i64 0)).set2 (.string ⟨#[]⟩)
  obtain ⟨y0, y1, y2⟩ := C3.cells hfin
  refine bodyPost_ret (v := .tuple #[.agg #[.int .i64 0, .int .i64 0, .string ⟨#[]⟩], .int .i64 12]) (by simp [results, Tryz.results45, go_sem, y0, y1, y2]) rfl ?_
  have hbb := below_set3 HB0.out (Nat.le_refl _) (.int .i64 0) (.int .i64 0) (.string ⟨#[]⟩)
  first | exact ⟨rfl, hbb⟩ | exact ⟨rfl, HB0.out⟩
set_option maxHeartbeats 4000000 in
set_option maxRecDepth 100000 in
theorem prop_line.rngE (n : Nat) (ad : Addr) (c : Nat) (w : World) (hn : ¬ n < 2) (s : ByteArray) (er : Int) (a0 b0 : Int) (her : er ≠ 0) (h0 : w.cell? ad = some (.string s))
    (hR : Aside0 (∀ w', Below w.heap.size w w' → Calls Tryz.prog 72 #[.string s] w' fun e w2 => e = .returned (.tuple #[.int .i64 a0, .int .i64 b0, .int .i64 er]) ∧ Below w'.heap.size w' w2)) :
    Calls Tryz.prog 45 #[.slice (some ad) n c] w fun e w' => e = .returned (.tuple #[.agg #[.int .i64 0, .int .i64 0, .string ⟨#[]⟩], .int .i64 er]) ∧ Below w.heap.size w w' := by
  have e0 : decide ((n : Int) < 2) = false := decide_eq_false (by omega)
  have e1 : ((n : Int) < 2) = False := eq_false (by omega)
  have e2 : ((0 : Int) < (n : Int)) = True := eq_true (by omega)
  have e2n : (0 < n) = True := eq_true (by omega)
  have e3 : (er == 0) = false := beq_eq_false_iff_ne.mpr her
  have e4 : (er != 0) = true := by rw [bne, e3]; rfl
  have HB0 : Aside0 (Below w.heap.size w (w.alloc (.cells #[.int .i64 0, .int .i64 0, .string ⟨#[]⟩] 83))) := ⟨(Below.refl _ w).alloc (Nat.le_refl _) _⟩
  have HE0 : Aside0 (C3 83 (w.alloc (.cells #[.int .i64 0, .int .i64 0, .string ⟨#[]⟩] 83)) w.heap.size (.int .i64 0) (.int .i64 0) (.string ⟨#[]⟩)) := ⟨heap_alloc_new w _⟩
  have hc0 := (HB0.out.cell (World.block_lt_of_cell? w _ h0)).trans h0
  clear hn h0 her
  go_enter Tryz.func45, Tryz.ntmps45
  go_wp2_with (first
    | (go_at_call 72; (with_reducible refine (hR.out _ HB0.out).mono ?_); rintro e w1 ⟨rfl, hb⟩; have HB1 := Aside0.mk (HB0.out.trans (hb.mono HB0.out.size)); have HE1 : Aside0 (C3 83 w1 w.heap.size (.int .i64 0) (.int .i64 0) (.string ⟨#[]⟩)) := ⟨(hb.block _ HE0.out.lt).trans HE0.out⟩; obtain ⟨q0, q1, q2, q3⟩ := C3.facts HE1.out; clear hb))
  have hfin := ((HE1.out.set0 (.int .i64 0)).set1 (.int .i64 0)).set2 (.string ⟨#[]⟩)
  obtain ⟨y0, y1, y2⟩ := C3.cells hfin
  refine bodyPost_ret (v := .tuple #[.agg #[.int .i64 0, .int .i64 0, .string ⟨#[]⟩], .int .i64 er]) (by simp [results, Tryz.results45, go_sem, y0, y1, y2]) rfl ?_
  exact ⟨rfl, below_set3 HB1.out (Nat.le_refl _) _ _ _⟩
set_option maxHeartbeats 4000000 in
set_option maxRecDepth 100000 in
theorem prop_line.empty (n : Nat) (ad : Addr) (c : Nat) (w : World) (hn : ¬ n < 2) (s : ByteArray) (a0 b0 : Int) (h0 : w.cell? ad = some (.string s)) (h1 : w.cell? (ad.add 1) = some (.string ⟨#[]⟩))
    (hR : Aside0 (∀ w', Below w.heap.size w w' → Calls Tryz.prog 72 #[.string s] w' fun e w2 => e = .returned (.tuple #[.int .i64 a0, .int .i64 b0, .int .i64 0]) ∧ Below w'.heap.size w' w2)) :
    Calls Tryz.prog 45 #[.slice (some ad) n c] w fun e w' => e = .returned (.tuple #[.agg #[.int .i64 0, .int .i64 0, .string ⟨#[]⟩], .int .i64 16]) ∧ Below w.heap.size w w' := by
  have e0 : decide ((n : Int) < 2) = false := decide_eq_false (by omega)
  have e1 : ((n : Int) < 2) = False := eq_false (by omega)
  have e2 : ((0 : Int) < (n : Int)) = True := eq_true (by omega)
  have e2n : (0 < n) = True := eq_true (by omega)
  have e3 : ((1 : Int) < (n : Int)) = True := eq_true (by omega)
  have e3n : (1 < n) = True := eq_true (by omega)
  have HB0 : Aside0 (Below w.heap.size w (w.alloc (.cells #[.int .i64 0, .int .i64 0, .string ⟨#[]⟩] 83))) := ⟨(Below.refl _ w).alloc (Nat.le_refl _) _⟩
  have HE0 : Aside0 (C3 83 (w.alloc (.cells #[.int .i64 0, .int .i64 0, .string ⟨#[]⟩] 83)) w.heap.size (.int .i64 0) (.int .i64 0) (.string ⟨#[]⟩)) := ⟨heap_alloc_new w _⟩
  have hc0 := (HB0.out.cell (World.block_lt_of_cell? w _ h0)).trans h0
  have H1 := Aside0.mk h1
  clear hn h0 h1
  go_enter Tryz.func45, Tryz.ntmps45
  go_wp2_with (first
    | (go_at_call 72; (with_reducible refine (hR.out _ HB0.out).mono ?_); rintro e w1 ⟨rfl, hb⟩; have HB1 := Aside0.mk (HB0.out.trans (hb.mono HB0.out.size)); have HE1 : Aside0 (C3 83 w1 w.heap.size (.int .i64 0) (.int .i64 0) (.string ⟨#[]⟩)) := ⟨(hb.block _ HE0.out.lt).trans HE0.out⟩; obtain ⟨q0, q1, q2, q3⟩ := C3.facts HE1.out; have hc1 := (HB1.out.cell (World.block_lt_of_cell? w _ H1.out)).trans H1.out; simp only [Nat.reduceEqDiff, Go.Addr.add, ↓reduceIte] at hc1; clear hb))
  have hfin := ((HE1.out.set0 (.int .i64 0)).set1 (.int .i64 0)).set2 (.string ⟨#[]⟩)
  obtain ⟨y0, y1, y2⟩ := C3.cells hfin
  refine bodyPost_ret (v := .tuple #[.agg #[.int .i64 0, .int .i64 0, .string ⟨#[]⟩], .int .i64 16]) (by simp [results, Tryz.results45, go_sem, y0, y1, y2]) rfl ?_
  exact ⟨rfl, below_set3 HB1.out (Nat.le_refl _) _ _ _⟩
set_option maxHeartbeats 4000000 in
set_option maxRecDepth 100000 in
theorem prop_line.good (n : Nat) (ad : Addr) (c : Nat) (w : World) (hn : ¬ n < 2) (s v : ByteArray) (a0 b0 : Int) (hv : ¬ v.toList = ([] : List UInt8)) (h0 : w.cell? ad = some (.string s)) (h1 : w.cell? (ad.add 1) = some (.string v))
    (hR : Aside0 (∀ w', Below w.heap.size w w' → Calls Tryz.prog 72 #[.string s] w' fun e w2 => e = .returned (.tuple #[.int .i64 a0, .int .i64 b0, .int .i64 0]) ∧ Below w'.heap.size w' w2)) :
    Calls Tryz.prog 45 #[.slice (some ad) n c] w fun e w' => e = .returned (.tuple #[.agg #[.int .i64 a0, .int .i64 b0, .string v], .int .i64 0]) ∧ Below w.heap.size w w' := by
  have e0 : decide ((n : Int) < 2) = false := decide_eq_false (by omega)
  have e1 : ((n : Int) < 2) = False := eq_false (by omega)
  have e2 : ((0 : Int) < (n : Int)) = True := eq_true (by omega)
  have e2n : (0 < n) = True := eq_true (by omega)
  have e3 : ((1 : Int) < (n : Int)) = True := eq_true (by omega)
  have e3n : (1 < n) = True := eq_true (by omega)
  have b1 : (v.toList == ([] : List UInt8)) = false := beq_eq_false_iff_ne.mpr hv
  have b3 : v.toList.isEmpty = false := by
    cases hv' : v.toList with
    | nil => exact absurd hv' hv
    | cons _ _ => rfl
  have HB0 : Aside0 (Below w.heap.size w (w.alloc (.cells #[.int .i64 0, .int .i64 0, .string ⟨#[]⟩] 83))) := ⟨(Below.refl _ w).alloc (Nat.le_refl _) _⟩
  have HE0 : Aside0 (C3 83 (w.alloc (.cells #[.int .i64 0, .int .i64 0, .string ⟨#[]⟩] 83)) w.heap.size (.int .i64 0) (.int .i64 0) (.string ⟨#[]⟩)) := ⟨heap_alloc_new w _⟩
  have hc0 := (HB0.out.cell (World.block_lt_of_cell? w _ h0)).trans h0
  have H1 := Aside0.mk h1
  clear hn h0 h1
  go_enter Tryz.func45, Tryz.ntmps45
  go_wp2_with (first
    | (go_at_call 72; (with_reducible refine (hR.out _ HB0.out).mono ?_); rintro e w1 ⟨rfl, hb⟩; have HB1 := Aside0.mk (HB0.out.trans (hb.mono HB0.out.size)); have HE1 : Aside0 (C3 83 w1 w.heap.size (.int .i64 0) (.int .i64 0) (.string ⟨#[]⟩)) := ⟨(hb.block _ HE0.out.lt).trans HE0.out⟩; obtain ⟨q0, q1, q2, q3⟩ := C3.facts HE1.out; have hc1 := (HB1.out.cell (World.block_lt_of_cell? w _ H1.out)).trans H1.out; simp only [Nat.reduceEqDiff, Go.Addr.add, ↓reduceIte] at hc1; clear hb))
  have hfin := ((HE1.out.set0 (.int .i64 a0)).set1 (.int .i64 b0)).set2 (.string v)
  obtain ⟨y0, y1, y2⟩ := C3.cells hfin
  refine bodyPost_ret (v := .tuple #[.agg #[.int .i64 a0, .int .i64 b0, .string v], .int .i64 0]) (by simp [results, Tryz.results45, go_sem, y0, y1, y2]) rfl ?_
  exact ⟨rfl, below_set3 HB1.out (Nat.le_refl _) _ _ _⟩
theorem prop_line.calls (f : List (List Int)) (A : Option Addr) (c : Nat) (w : World) (hE : EnvF w) (ho : ∀ l ∈ f, Oct l) (hl : ∀ l ∈ f, l.length ≤ 1000000) (hr : Kd.C Kd.string w A f.length (f.map strOfNums)) :
    Calls Tryz.prog 45 #[.slice A f.length c] w fun e w' => e = .returned (.tuple #[lnV (lnR f), .int .i64 (lnR f).2.2.2]) ∧ Below w.heap.size w w' := by
  match f, ho, hl, hr with
  | [], ho, hl, hr => exact prop_line.few 0 A c w (by omega)
  | [a], ho, hl, hr => exact prop_line.few 1 A c w (by omega)
  | a :: b :: r, ho, hl, hr =>
    obtain ⟨ad, rfl, hc⟩ := strs_cell hr (by simp)
    have h0 : w.cell? ad = some (.string (strOfNums a)) := by have := hc 0 (by simp); rw [Addr.add_zero'] at this; exact this
    have h1 : w.cell? (ad.add 1) = some (.string (strOfNums b)) := hc 1 (by simp)
    have hR : ∀ w', Below w.heap.size w w' → _ := fun w' hb => field_Range.calls a (ho a (by simp)) (hl a (by simp)) w' (hE.below hb)
    have hn : ¬ (a :: b :: r).length < 2 := by simp
    show Calls _ _ _ _ fun e w' => e = .returned (.tuple #[lnV (if (rangeL a).2.2 = 0 then (if b = [] then (0, 0, [], 16) else ((rangeL a).1, (rangeL a).2.1, b, 0)) else (0, 0, [], (rangeL a).2.2)), .int .i64 (if (rangeL a).2.2 = 0 then (if b = [] then (0, 0, [], 16) else ((rangeL a).1, (rangeL a).2.1, b, 0)) else (0, 0, [], (rangeL a).2.2) : Int × Int × List Int × Int).2.2.2]) ∧ _
    by_cases c1 : (rangeL a).2.2 = 0
    · rw [if_pos c1]
      rw [c1] at hR
      by_cases c2 : b = []
      · subst c2
        rw [if_pos rfl]
        exact prop_line.empty _ ad c w hn _ _ _ h0 h1 ⟨hR⟩
      · rw [if_neg c2]
        exact prop_line.good _ ad c w hn _ _ _ _ (fun e => c2 (str_nilU.1 e)) h0 h1 ⟨hR⟩
    · rw [if_neg c1]
      exact prop_line.rngE _ ad c w hn _ _ _ _ c1 h0 ⟨hR⟩
end Go.Proofs.YtbpdcbibooiimaaGreatDoor.Q
