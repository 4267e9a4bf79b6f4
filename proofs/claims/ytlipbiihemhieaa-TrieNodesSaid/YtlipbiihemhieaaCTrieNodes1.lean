/- Part 1 of 4 of the proof of TrieNodes: all nodes of a trie For every input; no condition. -/
import Derived.Test.YtlipbiihemhieaaProg
import Derived.Below
import Derived.Deep.Draws
import Derived.Deep.AppendLies
import Derived.Maps.AppendAt
import Derived.OwnWalk
import Derived.Laws.BytesArg
import Derived.Laws.MakeOwn
import Derived.Laws.OwnMore
import Derived.Deep.OwnRows
import Derived.Tactics
import Derived.Lib.ConvBytes
import Derived.Laws.Slices
import Derived.WalkKit
import Derived.KernelRfl
import Derived.RowKit3
import Derived.Deep.LoopGhost
import Derived.Deep.QuietTactic
import Derived.BigQuiet
import Derived.WideLaws
import Derived.Deep.DeepCutAuto
import Derived.Deep.CutBlock
import Derived.Deep.RegionHeld3
import Derived.Laws.Rows
import Derived.Lib.AppendStr
import Derived.ArgAppend
import Derived.Laws.IdiomCopy
import Derived.OrdersHeld
import Derived.Laws.BitsLemmas
import Derived.RowKit
import Derived.Test.YtlipbiihemhieaaWWords
import Derived.Test.YtlipbiihemhieaaWLast
import Derived.Test.YtlipbiihemhieaaWTab
import Derived.Test.YtlipbiihemhieaaWFour
import Derived.Test.YtlipbiihemhieaaWQPut
import Derived.Test.YtlipbiihemhieaaWApart
import Derived.Test.YtlipbiihemhieaaWArr
import Derived.Test.YtlipbiihemhieaaWZeros
import Derived.Test.YtlipbiihemhieaaWFoot
import Derived.Test.YtlipbiihemhieaaWKept
import Derived.Test.YtlipbiihemhieaaWShare
import Derived.Test.YtlipbiihemhieaaWN
import Derived.Test.YtlipbiihemhieaaWFootNe
import Derived.Test.YtlipbiihemhieaaWAt
import Derived.Test.YtlipbiihemhieaaWEqStruct
import Derived.Test.YtlipbiihemhieaaWRepsOne
import Derived.Test.YtlipbiihemhieaaWInv
import Derived.Test.YtlipbiihemhieaaWInvWords
import Derived.Test.YtlipbiihemhieaaWGuard
import Derived.Test.YtlipbiihemhieaaWNEv
import Derived.Test.YtlipbiihemhieaaWMore
import Derived.Lib.Bytes
import Derived.WalkSpells
import Derived.Lib.LazyBuf
import Derived.Shelf.Spec.SlicesInsert
import Derived.Lib.AppendZerosOnto
import Derived.StillTailTactics
import Derived.BigRegion
import Derived.IntWalk
import Derived.Deep.RegionLaw
import Derived.Sort.LoopGhostIn

-- from Qh
-- Made by hp.py, a program of this session, with the kit's printer. Not trusted: Lean checks it.
namespace Go.Proofs.Ytlipbiihemhieaa.Q
open Go.RowKit Go.Proofs.YtlipbiihemhieaaW.PrintWords Go.Proofs.YtlipbiihemhieaaW.PrintLast Go.Proofs.YtlipbiihemhieaaW.PrintMore
attribute [local go_sem] max2_int min2_int max_two min_two max_three min_three max_four min_four   -- for this text's walks alone
set_option linter.unusedVariables false
set_option linter.unusedSimpArgs false



def errW : Option Int → Value
  | none => .nilIface
  | some c => .iface 0 (.int .i64 c)
theorem errW_none : errW none = .nilIface := rfl
theorem errW_some (c : Int) : errW (some c) = .iface 0 (.int .i64 c) := rfl

theorem info3 : (Try.prog.info? 3).map (fun i => (i.zero, i.size, i.bytes)) = some (some (.int .i64 0), 1, 8) := by kernel_rfl
theorem info22 : (Try.prog.info? 22).map (fun i => (i.zero, i.size, i.bytes)) = some (some (.slice none 0 0), 1, 24) := by kernel_rfl
theorem info53 : (Try.prog.info? 53).map (fun i => (i.zero, i.size, i.bytes)) = some (some (.agg #[(.int .i64 0), (.int .i64 0), (.string ⟨#[]⟩)]), 3, 32) := by kernel_rfl
-- the values' own types
def rd_L1 (xs : List (List Int)) (i : Int) : (List Int) := xs.getD i.toNat ([] : List Int)
theorem at_L1 {w : World} {A : Option Addr} {n : Nat} {xs : List (List Int)} (h : Kd.C (Kd.slice 3 (Kd.int .i64)) w A n xs) (i : Int) (h0 : 0 ≤ i) (h1 : i < n) : ∃ ad A0 c0, A = some ad ∧ w.cell? (ad.add i.toNat) = some (.slice A0 (rd_L1 xs i).length c0) ∧ (rd_L1 xs i).length ≤ c0 ∧ (Kd.int .i64).C w A0 (rd_L1 xs i).length (rd_L1 xs i) := by
  obtain ⟨ad, c, e, _, hK, hc0⟩ := Kd.C_get h ([] : List Int) i h0 h1
  have hc : ∀ j u, c[j]? = some u → w.cell? (ad.add (i.toNat * 1 + j)) = some u := hc0
  obtain ⟨A0, c0, rfl, l0, g0⟩ := hK
  exact ⟨ad, A0, c0, e, by have hq := hc 0 _ rfl; rwa [Nat.mul_one, Nat.add_zero] at hq, l0, g0⟩

/-! #### struct type 43 -/
structure S43 where
  f0 : Int
  f1 : Int
  f2 : ByteArray
def z43 : S43 := ⟨(0 : Int), (0 : Int), (⟨#[]⟩ : ByteArray)⟩
def k43 : Kd S43 := Kd.iso (Kd.pair (Kd.int .i64) (Kd.pair (Kd.int .i64) Kd.string)) (fun x : S43 => (x.f0, x.f1, x.f2))
theorem k43_open {w : World} {x : S43} {cs : List Value} (h : k43.K w x cs) : cs = [.int .i64 x.f0, .int .i64 x.f1, .string x.f2] := by
  obtain ⟨_, _, rfl, rfl, ⟨_, _, rfl, rfl, rfl⟩⟩ := h
  exact rfl
theorem k43_openM {w : World} {base : Nat} {ok : Nat → Prop} {x : S43} {cs : List Value} (h : k43.M w base ok x cs) : cs = [.int .i64 x.f0, .int .i64 x.f1, .string x.f2] := by
  obtain ⟨_, _, rfl, rfl, ⟨_, _, rfl, rfl, rfl⟩⟩ := h
  exact rfl
theorem k43_mk (w : World) (x : S43)  : k43.K w x [.int .i64 x.f0, .int .i64 x.f1, .string x.f2] := ⟨[.int .i64 x.f0], [.int .i64 x.f1, .string x.f2], rfl, rfl, ⟨[.int .i64 x.f1], [.string x.f2], rfl, rfl, rfl⟩⟩
theorem k43_mkM (w : World) (base : Nat) (ok : Nat → Prop) (x : S43)  : k43.M w base ok x [.int .i64 x.f0, .int .i64 x.f1, .string x.f2] := ⟨[.int .i64 x.f0], [.int .i64 x.f1, .string x.f2], rfl, rfl, ⟨[.int .i64 x.f1], [.string x.f2], rfl, rfl, rfl⟩⟩
theorem k43_mkF (W : World) (ok : Nat → Prop) (x : S43) : Kd.FK k43 W ok x [.int .i64 x.f0, .int .i64 x.f1, .string x.f2] := fun W2 _ => k43_mk W2 x
def rd_T43 (xs : List S43) (i : Int) : S43 := xs.getD i.toNat z43
theorem at_T43 {w : World} {A : Option Addr} {n : Nat} {xs : List S43} (h : Kd.C k43 w A n xs) (i : Int) (h0 : 0 ≤ i) (h1 : i < n) : ∃ ad , A = some ad ∧ w.cell? (ad.add (i.toNat * 3)) = some (.int .i64 (rd_T43 xs i).f0) ∧ w.cell? ⟨(ad.add (i.toNat * 3)).block, (ad.add (i.toNat * 3)).off + 1, none⟩ = some (.int .i64 (rd_T43 xs i).f1) ∧ w.cell? ⟨(ad.add (i.toNat * 3)).block, (ad.add (i.toNat * 3)).off + 2, none⟩ = some (.string (rd_T43 xs i).f2) := by
  obtain ⟨ad, c, e, _, hK, hc0⟩ := Kd.C_get h z43 i h0 h1
  have hc : ∀ j u, c[j]? = some u → w.cell? (ad.add (i.toNat * 3 + j)) = some u := hc0
  obtain rfl := k43_open hK
  exact ⟨ad, e, hc 0 _ rfl, by rw [← add_field _ _ 1 (by omega)]; exact hc 1 _ rfl, by rw [← add_field _ _ 2 (by omega)]; exact hc 2 _ rfl⟩

/-! #### struct type 53 -/
structure S53 where
  f0 : Int
  f1 : Int
  f2 : ByteArray
def z53 : S53 := ⟨(0 : Int), (0 : Int), (⟨#[]⟩ : ByteArray)⟩
def k53 : Kd S53 := Kd.iso (Kd.pair (Kd.int .i64) (Kd.pair (Kd.int .i64) Kd.string)) (fun x : S53 => (x.f0, x.f1, x.f2))
theorem k53_open {w : World} {x : S53} {cs : List Value} (h : k53.K w x cs) : cs = [.int .i64 x.f0, .int .i64 x.f1, .string x.f2] := by
  obtain ⟨_, _, rfl, rfl, ⟨_, _, rfl, rfl, rfl⟩⟩ := h
  exact rfl
theorem k53_openM {w : World} {base : Nat} {ok : Nat → Prop} {x : S53} {cs : List Value} (h : k53.M w base ok x cs) : cs = [.int .i64 x.f0, .int .i64 x.f1, .string x.f2] := by
  obtain ⟨_, _, rfl, rfl, ⟨_, _, rfl, rfl, rfl⟩⟩ := h
  exact rfl
theorem k53_mk (w : World) (x : S53)  : k53.K w x [.int .i64 x.f0, .int .i64 x.f1, .string x.f2] := ⟨[.int .i64 x.f0], [.int .i64 x.f1, .string x.f2], rfl, rfl, ⟨[.int .i64 x.f1], [.string x.f2], rfl, rfl, rfl⟩⟩
theorem k53_mkM (w : World) (base : Nat) (ok : Nat → Prop) (x : S53)  : k53.M w base ok x [.int .i64 x.f0, .int .i64 x.f1, .string x.f2] := ⟨[.int .i64 x.f0], [.int .i64 x.f1, .string x.f2], rfl, rfl, ⟨[.int .i64 x.f1], [.string x.f2], rfl, rfl, rfl⟩⟩
theorem k53_mkF (W : World) (ok : Nat → Prop) (x : S53) : Kd.FK k53 W ok x [.int .i64 x.f0, .int .i64 x.f1, .string x.f2] := fun W2 _ => k53_mk W2 x
def rd_T53 (xs : List S53) (i : Int) : S53 := xs.getD i.toNat z53
theorem at_T53 {w : World} {A : Option Addr} {n : Nat} {xs : List S53} (h : Kd.C k53 w A n xs) (i : Int) (h0 : 0 ≤ i) (h1 : i < n) : ∃ ad , A = some ad ∧ w.cell? (ad.add (i.toNat * 3)) = some (.int .i64 (rd_T53 xs i).f0) ∧ w.cell? ⟨(ad.add (i.toNat * 3)).block, (ad.add (i.toNat * 3)).off + 1, none⟩ = some (.int .i64 (rd_T53 xs i).f1) ∧ w.cell? ⟨(ad.add (i.toNat * 3)).block, (ad.add (i.toNat * 3)).off + 2, none⟩ = some (.string (rd_T53 xs i).f2) := by
  obtain ⟨ad, c, e, _, hK, hc0⟩ := Kd.C_get h z53 i h0 h1
  have hc : ∀ j u, c[j]? = some u → w.cell? (ad.add (i.toNat * 3 + j)) = some u := hc0
  obtain rfl := k53_open hK
  exact ⟨ad, e, hc 0 _ rfl, by rw [← add_field _ _ 1 (by omega)]; exact hc 1 _ rfl, by rw [← add_field _ _ 2 (by omega)]; exact hc 2 _ rfl⟩

/-! #### struct type 112 -/
structure S112 where
  f0 : Int
  f1 : Int
def z112 : S112 := ⟨(0 : Int), (0 : Int)⟩
def k112 : Kd S112 := Kd.iso (Kd.pair (Kd.int .i64) (Kd.int .i64)) (fun x : S112 => (x.f0, x.f1))
theorem k112_open {w : World} {x : S112} {cs : List Value} (h : k112.K w x cs) : cs = [.int .i64 x.f0, .int .i64 x.f1] := by
  obtain ⟨_, _, rfl, rfl, rfl⟩ := h
  exact rfl
theorem k112_openM {w : World} {base : Nat} {ok : Nat → Prop} {x : S112} {cs : List Value} (h : k112.M w base ok x cs) : cs = [.int .i64 x.f0, .int .i64 x.f1] := by
  obtain ⟨_, _, rfl, rfl, rfl⟩ := h
  exact rfl
theorem k112_mk (w : World) (x : S112)  : k112.K w x [.int .i64 x.f0, .int .i64 x.f1] := ⟨[.int .i64 x.f0], [.int .i64 x.f1], rfl, rfl, rfl⟩
theorem k112_mkM (w : World) (base : Nat) (ok : Nat → Prop) (x : S112)  : k112.M w base ok x [.int .i64 x.f0, .int .i64 x.f1] := ⟨[.int .i64 x.f0], [.int .i64 x.f1], rfl, rfl, rfl⟩
theorem k112_mkF (W : World) (ok : Nat → Prop) (x : S112) : Kd.FK k112 W ok x [.int .i64 x.f0, .int .i64 x.f1] := fun W2 _ => k112_mk W2 x
def rd_T112 (xs : List S112) (i : Int) : S112 := xs.getD i.toNat z112
theorem at_T112 {w : World} {A : Option Addr} {n : Nat} {xs : List S112} (h : Kd.C k112 w A n xs) (i : Int) (h0 : 0 ≤ i) (h1 : i < n) : ∃ ad , A = some ad ∧ w.cell? (ad.add (i.toNat * 2)) = some (.int .i64 (rd_T112 xs i).f0) ∧ w.cell? ⟨(ad.add (i.toNat * 2)).block, (ad.add (i.toNat * 2)).off + 1, none⟩ = some (.int .i64 (rd_T112 xs i).f1) := by
  obtain ⟨ad, c, e, _, hK, hc0⟩ := Kd.C_get h z112 i h0 h1
  have hc : ∀ j u, c[j]? = some u → w.cell? (ad.add (i.toNat * 2 + j)) = some u := hc0
  obtain rfl := k112_open hK
  exact ⟨ad, e, hc 0 _ rfl, by rw [← add_field _ _ 1 (by omega)]; exact hc 1 _ rfl⟩

def rd_L6 (xs : List (List S112)) (i : Int) : (List S112) := xs.getD i.toNat ([] : List S112)
theorem at_L6 {w : World} {A : Option Addr} {n : Nat} {xs : List (List S112)} (h : Kd.C (Kd.slice 112 k112) w A n xs) (i : Int) (h0 : 0 ≤ i) (h1 : i < n) : ∃ ad A0 c0, A = some ad ∧ w.cell? (ad.add i.toNat) = some (.slice A0 (rd_L6 xs i).length c0) ∧ (rd_L6 xs i).length ≤ c0 ∧ k112.C w A0 (rd_L6 xs i).length (rd_L6 xs i) := by
  obtain ⟨ad, c, e, _, hK, hc0⟩ := Kd.C_get h ([] : List S112) i h0 h1
  have hc : ∀ j u, c[j]? = some u → w.cell? (ad.add (i.toNat * 1 + j)) = some u := hc0
  obtain ⟨A0, c0, rfl, l0, g0⟩ := hK
  exact ⟨ad, A0, c0, e, by have hq := hc 0 _ rfl; rwa [Nat.mul_one, Nat.add_zero] at hq, l0, g0⟩

/-! #### struct type 107 -/
structure S107 where
  f0 : Int
  f1 : Int
  f2 : Int
  f3 : (List S112)
  f4 : (List Int)
def z107 : S107 := ⟨(0 : Int), (0 : Int), (0 : Int), ([] : List S112), ([] : List Int)⟩
def k107 : Kd S107 := Kd.iso (Kd.pair (Kd.int .i64) (Kd.pair (Kd.int .i64) (Kd.pair (Kd.int .i64) (Kd.pair (Kd.slice 112 k112) (Kd.slice 3 (Kd.int .i64)))))) (fun x : S107 => (x.f0, x.f1, x.f2, x.f3, x.f4))
theorem k107_open {w : World} {x : S107} {cs : List Value} (h : k107.K w x cs) : ∃ A3 c3 A4 c4, cs = [.int .i64 x.f0, .int .i64 x.f1, .int .i64 x.f2, .slice A3 x.f3.length c3, .slice A4 x.f4.length c4] ∧ x.f3.length ≤ c3 ∧ k112.C w A3 x.f3.length x.f3 ∧ x.f4.length ≤ c4 ∧ (Kd.int .i64).C w A4 x.f4.length x.f4 := by
  obtain ⟨_, _, rfl, rfl, ⟨_, _, rfl, rfl, ⟨_, _, rfl, rfl, ⟨_, _, rfl, ⟨A3, c3, rfl, l3, g3⟩, ⟨A4, c4, rfl, l4, g4⟩⟩⟩⟩⟩ := h
  exact ⟨A3, c3, A4, c4, rfl, l3, g3, l4, g4⟩
theorem k107_openM {w : World} {base : Nat} {ok : Nat → Prop} {x : S107} {cs : List Value} (h : k107.M w base ok x cs) : ∃ v3 v4, cs = [.int .i64 x.f0, .int .i64 x.f1, .int .i64 x.f2, v3, v4] ∧ k112.R 112 w base ok v3 x.f3 ∧ (Kd.int .i64).R 3 w base ok v4 x.f4 := by
  obtain ⟨_, _, rfl, rfl, ⟨_, _, rfl, rfl, ⟨_, _, rfl, rfl, ⟨_, _, rfl, ⟨v3, rfl, g3⟩, ⟨v4, rfl, g4⟩⟩⟩⟩⟩ := h
  exact ⟨v3, v4, rfl, g3, g4⟩
theorem k107_mk (w : World) (x : S107) {A3 : Option Addr} {c3 : Nat} (l3 : x.f3.length ≤ c3) (g3 : k112.C w A3 x.f3.length x.f3) {A4 : Option Addr} {c4 : Nat} (l4 : x.f4.length ≤ c4) (g4 : (Kd.int .i64).C w A4 x.f4.length x.f4) : k107.K w x [.int .i64 x.f0, .int .i64 x.f1, .int .i64 x.f2, .slice A3 x.f3.length c3, .slice A4 x.f4.length c4] := ⟨[.int .i64 x.f0], [.int .i64 x.f1, .int .i64 x.f2, .slice A3 x.f3.length c3, .slice A4 x.f4.length c4], rfl, rfl, ⟨[.int .i64 x.f1], [.int .i64 x.f2, .slice A3 x.f3.length c3, .slice A4 x.f4.length c4], rfl, rfl, ⟨[.int .i64 x.f2], [.slice A3 x.f3.length c3, .slice A4 x.f4.length c4], rfl, rfl, ⟨[.slice A3 x.f3.length c3], [.slice A4 x.f4.length c4], rfl, ⟨A3, c3, rfl, l3, g3⟩, ⟨A4, c4, rfl, l4, g4⟩⟩⟩⟩⟩
theorem k107_mkM (w : World) (base : Nat) (ok : Nat → Prop) (x : S107) {v3 : Value} (g3 : k112.R 112 w base ok v3 x.f3) {v4 : Value} (g4 : (Kd.int .i64).R 3 w base ok v4 x.f4) : k107.M w base ok x [.int .i64 x.f0, .int .i64 x.f1, .int .i64 x.f2, v3, v4] := ⟨[.int .i64 x.f0], [.int .i64 x.f1, .int .i64 x.f2, v3, v4], rfl, rfl, ⟨[.int .i64 x.f1], [.int .i64 x.f2, v3, v4], rfl, rfl, ⟨[.int .i64 x.f2], [v3, v4], rfl, rfl, ⟨[v3], [v4], rfl, ⟨v3, rfl, g3⟩, ⟨v4, rfl, g4⟩⟩⟩⟩⟩
theorem k107_openF {W : World} {ok : Nat → Prop} {x : S107} {cs : List Value} (h : Kd.FK k107 W ok x cs) : ∃ A3 c3 A4 c4, cs = [.int .i64 x.f0, .int .i64 x.f1, .int .i64 x.f2, .slice A3 x.f3.length c3, .slice A4 x.f4.length c4] ∧ x.f3.length ≤ c3 ∧ Kd.F k112 W ok A3 x.f3.length x.f3 ∧ x.f4.length ≤ c4 ∧ Kd.F (Kd.int .i64) W ok A4 x.f4.length x.f4 := by
  obtain ⟨A3, c3, A4, c4, rfl, l3, _, l4, _⟩ := k107_open (Kd.FK_now h)
  exact ⟨A3, c3, A4, c4, rfl, l3, (fun W' hW => by obtain ⟨A3_, c3_, A4_, c4_, he, l3_, g3_, l4_, g4_⟩ := k107_open (h W' hW); injection (Option.some.inj (show some (Value.slice A3 x.f3.length c3) = some (Value.slice A3_ x.f3.length c3_) from congrArg (fun l => l[3]?) he)) with ha_ _ _; rw [ha_]; exact g3_), l4, (fun W' hW => by obtain ⟨A3_, c3_, A4_, c4_, he, l3_, g3_, l4_, g4_⟩ := k107_open (h W' hW); injection (Option.some.inj (show some (Value.slice A4 x.f4.length c4) = some (Value.slice A4_ x.f4.length c4_) from congrArg (fun l => l[4]?) he)) with ha_ _ _; rw [ha_]; exact g4_)⟩
theorem k107_mkF (W : World) (ok : Nat → Prop) (x : S107) {A3 : Option Addr} {c3 : Nat} (l3 : x.f3.length ≤ c3) (g3 : Kd.F k112 W ok A3 x.f3.length x.f3) {A4 : Option Addr} {c4 : Nat} (l4 : x.f4.length ≤ c4) (g4 : Kd.F (Kd.int .i64) W ok A4 x.f4.length x.f4) : Kd.FK k107 W ok x [.int .i64 x.f0, .int .i64 x.f1, .int .i64 x.f2, .slice A3 x.f3.length c3, .slice A4 x.f4.length c4] := fun W2 hW => k107_mk W2 x l3 (g3 W2 hW) l4 (g4 W2 hW)
def rd_T107 (xs : List S107) (i : Int) : S107 := xs.getD i.toNat z107
theorem at_T107 {w : World} {A : Option Addr} {n : Nat} {xs : List S107} (h : Kd.C k107 w A n xs) (i : Int) (h0 : 0 ≤ i) (h1 : i < n) : ∃ ad A3 c3 A4 c4, A = some ad ∧ w.cell? (ad.add (i.toNat * 5)) = some (.int .i64 (rd_T107 xs i).f0) ∧ w.cell? ⟨(ad.add (i.toNat * 5)).block, (ad.add (i.toNat * 5)).off + 1, none⟩ = some (.int .i64 (rd_T107 xs i).f1) ∧ w.cell? ⟨(ad.add (i.toNat * 5)).block, (ad.add (i.toNat * 5)).off + 2, none⟩ = some (.int .i64 (rd_T107 xs i).f2) ∧ w.cell? ⟨(ad.add (i.toNat * 5)).block, (ad.add (i.toNat * 5)).off + 3, none⟩ = some (.slice A3 (rd_T107 xs i).f3.length c3) ∧ w.cell? ⟨(ad.add (i.toNat * 5)).block, (ad.add (i.toNat * 5)).off + 4, none⟩ = some (.slice A4 (rd_T107 xs i).f4.length c4) ∧ (rd_T107 xs i).f3.length ≤ c3 ∧ k112.C w A3 (rd_T107 xs i).f3.length (rd_T107 xs i).f3 ∧ (rd_T107 xs i).f4.length ≤ c4 ∧ (Kd.int .i64).C w A4 (rd_T107 xs i).f4.length (rd_T107 xs i).f4 := by
  obtain ⟨ad, c, e, _, hK, hc0⟩ := Kd.C_get h z107 i h0 h1
  have hc : ∀ j u, c[j]? = some u → w.cell? (ad.add (i.toNat * 5 + j)) = some u := hc0
  obtain ⟨A3, c3, A4, c4, rfl, l3, g3, l4, g4⟩ := k107_open hK
  exact ⟨ad, A3, c3, A4, c4, e, hc 0 _ rfl, by rw [← add_field _ _ 1 (by omega)]; exact hc 1 _ rfl, by rw [← add_field _ _ 2 (by omega)]; exact hc 2 _ rfl, by rw [← add_field _ _ 3 (by omega)]; exact hc 3 _ rfl, by rw [← add_field _ _ 4 (by omega)]; exact hc 4 _ rfl, l3, g3, l4, g4⟩

end Go.Proofs.Ytlipbiihemhieaa.Q

-- from K
/- Small lemmas on lists, octets and rounds, for the plain laws of this seat. No condition. -/
namespace Go.Proofs.Ytlipbiihemhieaa.K
set_option linter.unusedVariables false
set_option linter.unusedSimpArgs false
open Go.RowKit Go.Proofs.YtlipbiihemhieaaW.PrintWords

theorem w64 {n : Int} (h0 : -9223372036854775808 ≤ n) (h1 : n ≤ 9223372036854775807) : wrap64 n = n := by unfold wrap64; omega
theorem rd_nat (l : List Int) (i : Nat) (h : i < l.length) : rd l (i : Int) = l[i] := by
  unfold rd; simp [List.getD_eq_getElem?_getD, List.getElem?_eq_getElem h]
theorem rd_mem {l : List Int} {i : Int} (h0 : 0 ≤ i) (h1 : i < (l.length : Int)) : rd l i ∈ l := by
  obtain ⟨n, rfl⟩ := Int.eq_ofNat_of_zero_le h0
  rw [rd_nat l n (by omega)]
  exact List.getElem_mem _
theorem rd_append_left {l m : List Int} {i : Int} (h0 : 0 ≤ i) (h1 : i < (l.length : Int)) : rd (l ++ m) i = rd l i := by
  unfold rd
  simp only [List.getD_eq_getElem?_getD]
  rw [List.getElem?_append_left (by omega)]
theorem rd_append_right {l m : List Int} {i : Int} (h0 : (l.length : Int) ≤ i) : rd (l ++ m) i = rd m (i - l.length) := by
  unfold rd
  simp only [List.getD_eq_getElem?_getD]
  rw [List.getElem?_append_right (by omega)]
  congr 2
  omega
theorem rd_map {f : Int → Int} {l : List Int} {i : Int} (h0 : 0 ≤ i) (h1 : i < (l.length : Int)) : rd (l.map f) i = f (rd l i) := by
  obtain ⟨n, rfl⟩ := Int.eq_ofNat_of_zero_le h0
  rw [rd_nat _ n (by simpa using h1), rd_nat l n (by omega)]
  simp
theorem rd_cons_zero (x : Int) (l : List Int) : rd (x :: l) 0 = x := rfl
theorem rd_drop {l : List Int} {n : Nat} {i : Int} (h0 : 0 ≤ i) : rd (l.drop n) i = rd l (n + i) := by
  unfold rd
  simp only [List.getD_eq_getElem?_getD, List.getElem?_drop]
  congr 2
  omega
theorem rd_take {l : List Int} {n : Nat} {i : Int} (h0 : 0 ≤ i) (h1 : i < (n : Int)) : rd (l.take n) i = rd l i := by
  unfold rd
  simp only [List.getD_eq_getElem?_getD]
  rw [List.getElem?_take_of_lt (by omega)]
theorem take_snoc (l : List Int) (i : Nat) (h : i < l.length) : l.take (i + 1) = l.take i ++ [rd l (i : Int)] := by
  rw [rd_nat l i h, List.take_succ_eq_append_getElem h]
theorem drop_cons (l : List Int) (i : Nat) (h : i < l.length) : l.drop i = rd l (i : Int) :: l.drop (i + 1) := by
  rw [rd_nat l i h, List.drop_eq_getElem_cons h]

/-! octets -/
def Oct (l : List Int) : Prop := ∀ x ∈ l, 0 ≤ x ∧ x ≤ 255
theorem oct_of_wf {l : List Int} (h : ∀ x ∈ l, (Lit.int .u8 x).wf = true) : Oct l := fun x hx => by
  have := h x hx
  simp only [Lit.wf, Bool.and_eq_true, decide_eq_true_eq] at this
  have e1 : IntKind.u8.min = 0 := rfl
  have e2 : IntKind.u8.max = 255 := rfl
  omega
theorem i64_of_wf {x : Int} (h : (Lit.int .i64 x).wf = true) : -9223372036854775808 ≤ x ∧ x ≤ 9223372036854775807 := by
  simp only [Lit.wf, Bool.and_eq_true, decide_eq_true_eq] at h
  have e1 : IntKind.i64.min = -9223372036854775808 := rfl
  have e2 : IntKind.i64.max = 9223372036854775807 := rfl
  omega
theorem u8_of_wf {x : Int} (h : (Lit.int .u8 x).wf = true) : 0 ≤ x ∧ x ≤ 255 := by
  simp only [Lit.wf, Bool.and_eq_true, decide_eq_true_eq] at h
  have e1 : IntKind.u8.min = 0 := rfl
  have e2 : IntKind.u8.max = 255 := rfl
  omega
theorem Oct.map {l : List Int} {f : Int → Int} (h : ∀ x, 0 ≤ x → x ≤ 255 → 0 ≤ f x ∧ f x ≤ 255) (hl : Oct l) : Oct (l.map f) := fun y hy => by
  obtain ⟨x, hx, rfl⟩ := List.mem_map.1 hy
  exact h x (hl x hx).1 (hl x hx).2
theorem Oct.append {l m : List Int} (h : Oct l) (k : Oct m) : Oct (l ++ m) := fun x hx => by
  rcases List.mem_append.1 hx with hx | hx
  · exact h x hx
  · exact k x hx
theorem Oct.take {l : List Int} (h : Oct l) (n : Nat) : Oct (l.take n) := fun x hx => h x (List.mem_of_mem_take hx)
theorem Oct.drop {l : List Int} (h : Oct l) (n : Nat) : Oct (l.drop n) := fun x hx => h x (List.mem_of_mem_drop hx)
theorem Oct.rd {l : List Int} (h : Oct l) {i : Int} (h0 : 0 ≤ i) (h1 : i < (l.length : Int)) : 0 ≤ rd l i ∧ rd l i ≤ 255 := h _ (rd_mem h0 h1)
theorem u8_back {x : Int} (h : 0 ≤ x ∧ x ≤ 255) : ((UInt8.ofNat x.toNat).toNat : Int) = x := by
  simp only [UInt8.toNat_ofNat']
  omega
theorem bt_str {l : List Int} (h : Oct l) {i : Int} (h0 : 0 ≤ i) (h1 : i < (l.length : Int)) : bt (strOfNums l) i = rd l i := by
  obtain ⟨n, rfl⟩ := Int.eq_ofNat_of_zero_le h0
  have hn : n < l.length := by omega
  have hs : n < (strOfNums l).size := by rw [strOfNums_size]; exact hn
  have hb := h.rd h0 h1
  rw [rd_nat l n hn] at hb ⊢
  unfold bt
  simp only [Int.toNat_natCast, hs, dif_pos]
  have : (strOfNums l)[n] = UInt8.ofNat (l[n]).toNat := by
    show (strOfNums l).data[n] = _
    simp [strOfNums]
  rw [this]
  exact u8_back hb
theorem size_str (l : List Int) : (strOfNums l).size = l.length := strOfNums_size l
theorem str_inj {l m : List Int} (hl : Oct l) (hm : Oct m) (h : strOfNums l = strOfNums m) : l = m := by
  have hlen : l.length = m.length := by rw [← size_str l, ← size_str m, h]
  apply List.ext_getElem hlen
  intro i h1 h2
  have a := bt_str hl (i := (i : Int)) (by omega) (by omega)
  have b := bt_str hm (i := (i : Int)) (by omega) (by omega)
  rw [rd_nat l i h1] at a
  rw [rd_nat m i h2] at b
  rw [← a, ← b, h]
theorem ba_toList (s : ByteArray) : s.toList = s.data.toList := ByteArray.toList_eq s
theorem toList_inj {s t : ByteArray} (h : s.toList = t.toList) : s = t := by
  rw [ba_toList, ba_toList] at h
  cases s; cases t
  simp at h
  exact congrArg _ h
theorem toList_eq_iff {s t : ByteArray} : s.toList = t.toList ↔ s = t := ⟨toList_inj, fun h => by rw [h]⟩
theorem str_append (l m : List Int) : strOfNums l ++ strOfNums m = strOfNums (l ++ m) := by
  apply toList_inj
  rw [ba_toList, ba_toList]
  simp [strOfNums]
theorem bytesOf_str {l : List Int} (h : Oct l) : Go.Proofs.YtlipbiihemhieaaW.PrintWords.bytesOf (strOfNums l) = l := by
  unfold Go.Proofs.YtlipbiihemhieaaW.PrintWords.bytesOf
  rw [strOfNums_data, List.map_map]
  conv => rhs; rw [← List.map_id l]
  apply List.map_congr_left
  intro x hx
  exact u8_back (h x hx)
theorem oct_bytesOf (s : ByteArray) : Oct (Go.Proofs.YtlipbiihemhieaaW.PrintWords.bytesOf s) := fun x hx => by
  unfold Go.Proofs.YtlipbiihemhieaaW.PrintWords.bytesOf at hx
  obtain ⟨b, _, rfl⟩ := List.mem_map.1 hx
  have := b.toNat_lt
  omega
theorem str_bytesOf (s : ByteArray) : strOfNums (Go.Proofs.YtlipbiihemhieaaW.PrintWords.bytesOf s) = s := by
  unfold Go.Proofs.YtlipbiihemhieaaW.PrintWords.bytesOf strOfNums
  cases s with
  | mk a =>
    congr 1
    apply Array.ext'
    simp [Function.comp_def]
theorem extract_str {l : List Int} {a b : Nat} : (strOfNums l).extract a b = strOfNums ((l.take b).drop a) := by
  apply toList_inj
  rw [ba_toList, ba_toList]
  rw [ByteArray.data_extract]
  simp [strOfNums, List.map_drop, List.map_take, List.drop_take]

/-! rounds -/
theorem Ev.pos {α : Type} {c : Prop} [Decidable c] {f g : Nat → Option α} {r : α} (h : c) (k : Ev f r) : Ev (fun n => if c then f n else g n) r := Ev.congr (fun _ => if_pos h) k
theorem Ev.neg {α : Type} {c : Prop} [Decidable c] {f g : Nat → Option α} {r : α} (h : ¬ c) (k : Ev g r) : Ev (fun n => if c then f n else g n) r := Ev.congr (fun _ => if_neg h) k
theorem Ev.bindS {α β : Type} {o : Option α} {f : Nat → α → Option β} {a : α} {r : β} (h : o = some a) (k : Ev (fun n => f n a) r) : Ev (fun n => o.bind (f n)) r := by
  subst h; exact k
theorem Ev.ret {α : Type} {a r : α} (h : a = r) : Ev (fun _ => some a) r := by subst h; exact Ev.now _
theorem Ev.val {α : Type} {o : Option α} {r : α} (h : o = some r) : Ev (fun _ => o) r := ⟨0, fun _ _ => h⟩

/-- 'slices.IndexFunc', as it is printed at a function value: the place of the first element that the predicate takes, or -1. -/
def firstAt (q : Int → Bool) : List Int → Int → Int
  | [], _ => -1
  | x :: l, i => if q x = true then i else firstAt q l (i + 1)
theorem index_loop {p : Int → Option Bool} {q : Int → Bool} {l : Nat → List Int → Int → Int → Option Int}
    (hl : ∀ k x n i, l (k + 1) x n i = if i < n then (if 0 ≤ i then (if i < (x.length : Int) then ((p (rd x i)).bind fun t => (if t = true then (some i) else (l k x n (wrap64 (i + 1))))) else none) else none) else some (-1))
    (x : List Int) (hx : x.length ≤ 9223372036854775806) (hp : ∀ y ∈ x, p y = some (q y)) : ∀ (d i : Nat), x.length - i = d → i ≤ x.length → Ev (fun k => l k x (x.length : Int) (i : Int)) (firstAt q (x.drop i) i) := by
  intro d
  induction d with
  | zero =>
    intro i h1 h2
    have : i = x.length := by omega
    subst this
    refine Ev.step (fun k => hl k _ _ _) (Ev.neg (by omega) ?_)
    simp only [List.drop_length, firstAt]
    exact Ev.now _
  | succ d ih =>
    intro i h1 h2
    have hi : i < x.length := by omega
    refine Ev.step (fun k => hl k _ _ _) (Ev.pos (by omega) (Ev.pos (by omega) (Ev.pos (by omega) (Ev.bindS (hp _ (rd_mem (by omega) (by omega))) ?_))))
    rw [drop_cons x i hi]
    simp only [firstAt]
    by_cases hq : q (rd x i) = true
    · rw [if_pos hq]
      exact Ev.pos hq (Ev.now _)
    · rw [if_neg hq]
      refine Ev.neg hq ?_
      have := ih (i + 1) (by omega) (by omega)
      rw [w64 (by omega) (by omega)]
      exact this
theorem firstAt_any (q : Int → Bool) : ∀ (l : List Int) (i : Int), 0 ≤ i → decide (firstAt q l i ≥ 0) = l.any q
  | [], _, _ => by simp [firstAt]
  | x :: l, i, h => by
    by_cases hq : q x = true
    · simp [firstAt, hq, h]
    · have ih := firstAt_any q l (i + 1) (by omega)
      simp only [Bool.not_eq_true] at hq
      simp [firstAt, hq]
      simpa using ih
/-- 'slices.ContainsFunc' at a function value. -/
theorem contains_ev {p : Int → Option Bool} {q : Int → Bool} {l : Nat → List Int → Int → Int → Option Int}
    (hl : ∀ k x n i, l (k + 1) x n i = if i < n then (if 0 ≤ i then (if i < (x.length : Int) then ((p (rd x i)).bind fun t => (if t = true then (some i) else (l k x n (wrap64 (i + 1))))) else none) else none) else some (-1))
    (x : List Int) (hx : x.length ≤ 9223372036854775806) (hp : ∀ y ∈ x, p y = some (q y)) : Ev (fun k => (l k x (x.length : Int) 0).bind fun t => some (decide (t ≥ 0))) (x.any q) := by
  have h := index_loop hl x hx hp x.length 0 (by omega) (by omega)
  refine Ev.bind h (Ev.ret ?_)
  rw [firstAt_any q _ _ (by simp)]
  simp

end Go.Proofs.Ytlipbiihemhieaa.K

-- from Qf92
-- Made by hp.py, a program of this session, with the kit's printer. Not trusted: Lean checks it.
namespace Go.Proofs.Ytlipbiihemhieaa.Q
open Go.RowKit Go.Proofs.YtlipbiihemhieaaW.PrintWords Go.Proofs.YtlipbiihemhieaaW.PrintLast Go.Proofs.YtlipbiihemhieaaW.PrintMore
attribute [local go_sem] max2_int min2_int max_two min_two max_three min_three max_four min_four   -- for this text's walks alone
set_option linter.unusedVariables false
set_option linter.unusedSimpArgs false

/-! ### cmp_isNaN_int: function 92 -/
def cmp_isNaN_int.f (a0 : Int) : Option (Bool) := some (a0 != a0)
set_option maxHeartbeats 8000000 in
set_option maxRecDepth 100000 in
theorem cmp_isNaN_int.calls (a0 : Int) (r : Bool) (w : World) (h : cmp_isNaN_int.f a0 = some r) :
    Calls Try.prog 92 #[.int .i64 a0] w fun e w' => e = .returned (.bool r) ∧ Drawn0 w w' := by
  have H : (some (a0 != a0)) = some r := h
  clear h
  obtain rfl := Option.some.inj H
  go_enter Try.func92, Try.ntmps92
  go_wp2
  go_ret
  exact ⟨by first | rfl | (simp; done) | (simp [*]; done), by repeat (first | exact Drawn0.refl _ | apply Drawn0.step)⟩

end Go.Proofs.Ytlipbiihemhieaa.Q

-- from Qf89
-- Made by hp.py, a program of this session, with the kit's printer. Not trusted: Lean checks it.
namespace Go.Proofs.Ytlipbiihemhieaa.Q
open Go.RowKit Go.Proofs.YtlipbiihemhieaaW.PrintWords Go.Proofs.YtlipbiihemhieaaW.PrintLast Go.Proofs.YtlipbiihemhieaaW.PrintMore
attribute [local go_sem] max2_int min2_int max_two min_two max_three min_three max_four min_four   -- for this text's walks alone
set_option linter.unusedVariables false
set_option linter.unusedSimpArgs false

/-! ### cmp_Compare_int: function 89 -/
def cmp_Compare_int.f (a0 : Int) (a1 : Int) : Option (Int) := (cmp_isNaN_int.f a0).bind fun t101 => ((cmp_isNaN_int.f a1).bind fun t102 => (if t101 = true then (if t102 = true then (some 0) else (some (-1))) else (if t102 = true then (some 1) else (if a0 < a1 then (some (-1)) else (if a0 > a1 then (some 1) else (some 0))))))
set_option maxHeartbeats 8000000 in
set_option maxRecDepth 100000 in
theorem cmp_Compare_int.calls (a0 : Int) (a1 : Int) (r : Int) (w : World) (h : cmp_Compare_int.f a0 a1 = some r) :
    Calls Try.prog 89 #[.int .i64 a0, .int .i64 a1] w fun e w' => e = .returned (.int .i64 r) ∧ Drawn0 w w' := by
  have H : ((cmp_isNaN_int.f a0).bind fun t101 => ((cmp_isNaN_int.f a1).bind fun t102 => (if t101 = true then (if t102 = true then (some 0) else (some (-1))) else (if t102 = true then (some 1) else (if a0 < a1 then (some (-1)) else (if a0 > a1 then (some 1) else (some 0))))))) = some r := h
  clear h
  replace H := Option.bind_eq_some_iff.mp H
  obtain ⟨t101, A30, H⟩ := H
  replace H : ((cmp_isNaN_int.f a1).bind fun t102 => (if t101 = true then (if t102 = true then (some 0) else (some (-1))) else (if t102 = true then (some 1) else (if a0 < a1 then (some (-1)) else (if a0 > a1 then (some 1) else (some 0)))))) = some r := H
  have A3 := Aside0.mk A30
  clear A30
  replace H := Option.bind_eq_some_iff.mp H
  obtain ⟨t102, A40, H⟩ := H
  replace H : (if t101 = true then (if t102 = true then (some 0) else (some (-1))) else (if t102 = true then (some 1) else (if a0 < a1 then (some (-1)) else (if a0 > a1 then (some 1) else (some 0))))) = some r := H
  have A4 := Aside0.mk A40
  clear A40
  by_cases c5 : t101 = true
  · subst c5
    have H1 : (if t102 = true then (some 0) else (some (-1))) = some r := by rw [if_pos rfl] at H; exact H
    clear H
    have H := H1
    clear H1
    by_cases c6 : t102 = true
    · subst c6
      have H1 : (some 0) = some r := by rw [if_pos rfl] at H; exact H
      clear H
      have H := H1
      clear H1
      obtain rfl := Option.some.inj H
      go_enter Try.func89, Try.ntmps89
      go_wp2_with (first | ((with_reducible refine gate_callee (f := 92) rfl ?_); refine goesL_ (some 8) rfl rfl Try.func92 (by kernel_rfl) rfl #[.int .i64 a0] rfl (by (try simp only [List.map_toArray, List.map_cons, List.map_nil]); first | done | rfl | (simp only [List.length_drop, List.length_take]; rfl)) ?_; (with_reducible refine (cmp_isNaN_int.calls a0 true _ A3.out).mono ?_); rintro e w' ⟨rfl, ⟨nd, rfl⟩⟩; refine ⟨_, rfl, ?_⟩) | ((with_reducible refine gate_callee (f := 92) rfl ?_); refine goesL_ (some 10) rfl rfl Try.func92 (by kernel_rfl) rfl #[.int .i64 a1] rfl (by (try simp only [List.map_toArray, List.map_cons, List.map_nil]); first | done | rfl | (simp only [List.length_drop, List.length_take]; rfl)) ?_; (with_reducible refine (cmp_isNaN_int.calls a1 true _ A4.out).mono ?_); rintro e w' ⟨rfl, ⟨nd, rfl⟩⟩; refine ⟨_, rfl, ?_⟩))
      go_ret
      exact ⟨by first | rfl | (simp; done) | (simp [*]; done), by repeat (first | exact Drawn0.refl _ | apply Drawn0.step)⟩
    · replace c6 := Bool.eq_false_iff.mpr c6
      subst c6
      have H1 : (some (-1)) = some r := by rw [if_neg (show ¬ (false = true) by decide)] at H; exact H
      clear H
      have H := H1
      clear H1
      obtain rfl := Option.some.inj H
      go_enter Try.func89, Try.ntmps89
      go_wp2_with (first | ((with_reducible refine gate_callee (f := 92) rfl ?_); refine goesL_ (some 8) rfl rfl Try.func92 (by kernel_rfl) rfl #[.int .i64 a0] rfl (by (try simp only [List.map_toArray, List.map_cons, List.map_nil]); first | done | rfl | (simp only [List.length_drop, List.length_take]; rfl)) ?_; (with_reducible refine (cmp_isNaN_int.calls a0 true _ A3.out).mono ?_); rintro e w' ⟨rfl, ⟨nd, rfl⟩⟩; refine ⟨_, rfl, ?_⟩) | ((with_reducible refine gate_callee (f := 92) rfl ?_); refine goesL_ (some 10) rfl rfl Try.func92 (by kernel_rfl) rfl #[.int .i64 a1] rfl (by (try simp only [List.map_toArray, List.map_cons, List.map_nil]); first | done | rfl | (simp only [List.length_drop, List.length_take]; rfl)) ?_; (with_reducible refine (cmp_isNaN_int.calls a1 false _ A4.out).mono ?_); rintro e w' ⟨rfl, ⟨nd, rfl⟩⟩; refine ⟨_, rfl, ?_⟩))
      go_ret
      exact ⟨by first | rfl | (simp; done) | (simp [*]; done), by repeat (first | exact Drawn0.refl _ | apply Drawn0.step)⟩
  · replace c5 := Bool.eq_false_iff.mpr c5
    subst c5
    have H1 : (if t102 = true then (some 1) else (if a0 < a1 then (some (-1)) else (if a0 > a1 then (some 1) else (some 0)))) = some r := by rw [if_neg (show ¬ (false = true) by decide)] at H; exact H
    clear H
    have H := H1
    clear H1
    by_cases c7 : t102 = true
    · subst c7
      have H1 : (some 1) = some r := by rw [if_pos rfl] at H; exact H
      clear H
      have H := H1
      clear H1
      obtain rfl := Option.some.inj H
      go_enter Try.func89, Try.ntmps89
      go_wp2_with (first | ((with_reducible refine gate_callee (f := 92) rfl ?_); refine goesL_ (some 8) rfl rfl Try.func92 (by kernel_rfl) rfl #[.int .i64 a0] rfl (by (try simp only [List.map_toArray, List.map_cons, List.map_nil]); first | done | rfl | (simp only [List.length_drop, List.length_take]; rfl)) ?_; (with_reducible refine (cmp_isNaN_int.calls a0 false _ A3.out).mono ?_); rintro e w' ⟨rfl, ⟨nd, rfl⟩⟩; refine ⟨_, rfl, ?_⟩) | ((with_reducible refine gate_callee (f := 92) rfl ?_); refine goesL_ (some 10) rfl rfl Try.func92 (by kernel_rfl) rfl #[.int .i64 a1] rfl (by (try simp only [List.map_toArray, List.map_cons, List.map_nil]); first | done | rfl | (simp only [List.length_drop, List.length_take]; rfl)) ?_; (with_reducible refine (cmp_isNaN_int.calls a1 true _ A4.out).mono ?_); rintro e w' ⟨rfl, ⟨nd, rfl⟩⟩; refine ⟨_, rfl, ?_⟩))
      go_ret
      exact ⟨by first | rfl | (simp; done) | (simp [*]; done), by repeat (first | exact Drawn0.refl _ | apply Drawn0.step)⟩
    · replace c7 := Bool.eq_false_iff.mpr c7
      subst c7
      have H1 : (if a0 < a1 then (some (-1)) else (if a0 > a1 then (some 1) else (some 0))) = some r := by rw [if_neg (show ¬ (false = true) by decide)] at H; exact H
      clear H
      have H := H1
      clear H1
      by_cases c8 : a0 < a1
      · rw [if_pos c8] at H
        have c8b0 : decide (a0 < a1) = true := decide_eq_true c8
        clear c8
        obtain rfl := Option.some.inj H
        go_enter Try.func89, Try.ntmps89
        go_wp2_with (first | ((with_reducible refine gate_callee (f := 92) rfl ?_); refine goesL_ (some 8) rfl rfl Try.func92 (by kernel_rfl) rfl #[.int .i64 a0] rfl (by (try simp only [List.map_toArray, List.map_cons, List.map_nil]); first | done | rfl | (simp only [List.length_drop, List.length_take]; rfl)) ?_; (with_reducible refine (cmp_isNaN_int.calls a0 false _ A3.out).mono ?_); rintro e w' ⟨rfl, ⟨nd, rfl⟩⟩; refine ⟨_, rfl, ?_⟩) | ((with_reducible refine gate_callee (f := 92) rfl ?_); refine goesL_ (some 10) rfl rfl Try.func92 (by kernel_rfl) rfl #[.int .i64 a1] rfl (by (try simp only [List.map_toArray, List.map_cons, List.map_nil]); first | done | rfl | (simp only [List.length_drop, List.length_take]; rfl)) ?_; (with_reducible refine (cmp_isNaN_int.calls a1 false _ A4.out).mono ?_); rintro e w' ⟨rfl, ⟨nd, rfl⟩⟩; refine ⟨_, rfl, ?_⟩))
        go_ret
        exact ⟨by first | rfl | (simp; done) | (simp [*]; done), by repeat (first | exact Drawn0.refl _ | apply Drawn0.step)⟩
      · rw [if_neg c8] at H
        have c8b0 : decide (a0 < a1) = false := decide_eq_false c8
        clear c8
        by_cases c9 : a0 > a1
        · rw [if_pos c9] at H
          have c9b0 : decide (a1 < a0) = true := decide_eq_true c9
          clear c9
          obtain rfl := Option.some.inj H
          go_enter Try.func89, Try.ntmps89
          go_wp2_with (first | ((with_reducible refine gate_callee (f := 92) rfl ?_); refine goesL_ (some 8) rfl rfl Try.func92 (by kernel_rfl) rfl #[.int .i64 a0] rfl (by (try simp only [List.map_toArray, List.map_cons, List.map_nil]); first | done | rfl | (simp only [List.length_drop, List.length_take]; rfl)) ?_; (with_reducible refine (cmp_isNaN_int.calls a0 false _ A3.out).mono ?_); rintro e w' ⟨rfl, ⟨nd, rfl⟩⟩; refine ⟨_, rfl, ?_⟩) | ((with_reducible refine gate_callee (f := 92) rfl ?_); refine goesL_ (some 10) rfl rfl Try.func92 (by kernel_rfl) rfl #[.int .i64 a1] rfl (by (try simp only [List.map_toArray, List.map_cons, List.map_nil]); first | done | rfl | (simp only [List.length_drop, List.length_take]; rfl)) ?_; (with_reducible refine (cmp_isNaN_int.calls a1 false _ A4.out).mono ?_); rintro e w' ⟨rfl, ⟨nd, rfl⟩⟩; refine ⟨_, rfl, ?_⟩))
          go_ret
          exact ⟨by first | rfl | (simp; done) | (simp [*]; done), by repeat (first | exact Drawn0.refl _ | apply Drawn0.step)⟩
        · rw [if_neg c9] at H
          have c9b0 : decide (a1 < a0) = false := decide_eq_false c9
          clear c9
          obtain rfl := Option.some.inj H
          go_enter Try.func89, Try.ntmps89
          go_wp2_with (first | ((with_reducible refine gate_callee (f := 92) rfl ?_); refine goesL_ (some 8) rfl rfl Try.func92 (by kernel_rfl) rfl #[.int .i64 a0] rfl (by (try simp only [List.map_toArray, List.map_cons, List.map_nil]); first | done | rfl | (simp only [List.length_drop, List.length_take]; rfl)) ?_; (with_reducible refine (cmp_isNaN_int.calls a0 false _ A3.out).mono ?_); rintro e w' ⟨rfl, ⟨nd, rfl⟩⟩; refine ⟨_, rfl, ?_⟩) | ((with_reducible refine gate_callee (f := 92) rfl ?_); refine goesL_ (some 10) rfl rfl Try.func92 (by kernel_rfl) rfl #[.int .i64 a1] rfl (by (try simp only [List.map_toArray, List.map_cons, List.map_nil]); first | done | rfl | (simp only [List.length_drop, List.length_take]; rfl)) ?_; (with_reducible refine (cmp_isNaN_int.calls a1 false _ A4.out).mono ?_); rintro e w' ⟨rfl, ⟨nd, rfl⟩⟩; refine ⟨_, rfl, ?_⟩))
          go_ret
          exact ⟨by first | rfl | (simp; done) | (simp [*]; done), by repeat (first | exact Drawn0.refl _ | apply Drawn0.step)⟩

end Go.Proofs.Ytlipbiihemhieaa.Q

-- from Qf88
-- Made by hp.py, a program of this session, with the kit's printer. Not trusted: Lean checks it.
namespace Go.Proofs.Ytlipbiihemhieaa.Q
open Go.RowKit Go.Proofs.YtlipbiihemhieaaW.PrintWords Go.Proofs.YtlipbiihemhieaaW.PrintLast Go.Proofs.YtlipbiihemhieaaW.PrintMore
attribute [local go_sem] max2_int min2_int max_two min_two max_three min_three max_four min_four   -- for this text's walks alone
set_option linter.unusedVariables false
set_option linter.unusedSimpArgs false

/-! ### trie_node_place_1: function 88 -/
def trie_node_place_1.f (a0_0 : Int) (a0_1 : Int) (a1 : Int) : Option (Int) := (cmp_Compare_int.f a0_0 a1).bind fun t102 => (some t102)
set_option maxHeartbeats 8000000 in
set_option maxRecDepth 100000 in
theorem trie_node_place_1.calls (a0_0 : Int) (a0_1 : Int) (a1 : Int) (r : Int) (w : World) (h : trie_node_place_1.f a0_0 a0_1 a1 = some r) :
    Calls Try.prog 88 #[.agg #[.int .i64 a0_0, .int .i64 a0_1], .int .i64 a1] w fun e w' => e = .returned (.int .i64 r) ∧ Below w.heap.size w w' := by
  have hu112 := Try.underlying112
  have HB := Aside0.mk (Below.refl w.heap.size w)
  have H : ((cmp_Compare_int.f a0_0 a1).bind fun t102 => (some t102)) = some r := h
  clear h
  replace H := Option.bind_eq_some_iff.mp H
  obtain ⟨t102, A30, H⟩ := H
  replace H : (some t102) = some r := H
  have A3 := Aside0.mk A30
  clear A30
  obtain rfl := Option.some.inj H
  go_enter Try.func88, Try.ntmps88
  go_wp2_with (first | ((with_reducible refine gate_dst (N := 2) rfl ?_); refine box_event ?hg (N := 2) ?hd (cs := #[.int .i64 a0_0, .int .i64 a0_1]) (t := 112) ?hr ?_; (case hd => rfl); (case hg => rfl); (case hr => first | (go_simp; done) | (go_simp; rfl)); intro gb101 hg w4 hbox hb; have n0_ := Aside0.mk (below_step (by repeat (first | (with_reducible first | exact HB.out | apply below_alloc | apply pw_below_drewN | apply below_drew1) | exact HB.out)) hb); have n1_ := Aside0.mk (hbox); have n2_ := Aside0.mk ((by rw [hg]; exact (below_size (by repeat (first | (with_reducible first | exact HB.out | apply below_alloc | apply pw_below_drewN | apply below_drew1) | exact HB.out))) : w.heap.size ≤ gb101)); have n3_ := Aside0.mk ((by rw [hg]; exact (below_size (by repeat (first | (with_reducible first | exact HB.out | apply below_alloc | apply pw_below_drewN | apply below_drew1) | exact HB.out))) : w.heap.size ≤ gb101)); clear HB; have HB := n0_; have BK101 := n1_; have GW101 := n2_; have GE101 := n3_; clear n0_ n1_ n2_ n3_; clear hb hbox hg; have hcz5_0 : w4.cell? ⟨gb101, 0, none⟩ = some (.int .i64 a0_0) := (blk_cell BK101.out 0).trans rfl; have hcz5_1 : w4.cell? ⟨gb101, 1, none⟩ = some (.int .i64 a0_1) := (blk_cell BK101.out 1).trans rfl; have hfz5_0 := blk_frozen BK101.out 0; have hfz5_1 := blk_frozen BK101.out 1) | ((with_reducible refine gate_callee (f := 89) rfl ?_); refine goesL_ (some 8) rfl rfl Try.func89 (by kernel_rfl) rfl #[.int .i64 a0_0, .int .i64 a1] rfl (by (try simp only [List.map_toArray, List.map_cons, List.map_nil]); first | done | rfl | (simp only [List.length_drop, List.length_take]; rfl)) ?_; (with_reducible refine (cmp_Compare_int.calls a0_0 a1 t102 _ A3.out).mono ?_); rintro e w' ⟨rfl, ⟨nd, rfl⟩⟩; refine ⟨_, rfl, ?_⟩))
  go_ret
  exact ⟨by first | rfl | (simp [errW_none, errW_some] <;> rfl) | (simp [*, errW_none, errW_some] <;> rfl), by repeat (first | (with_reducible first | exact HB.out | apply below_alloc | apply pw_below_drewN | apply below_drew1 | refine below_set ?_ GE101.out) | exact HB.out)⟩

end Go.Proofs.Ytlipbiihemhieaa.Q

-- from Qf87at88
-- Made by hp.py, a program of this session, with the kit's printer. Not trusted: Lean checks it.
namespace Go.Proofs.Ytlipbiihemhieaa.Q
open Go.RowKit Go.Proofs.YtlipbiihemhieaaW.PrintWords Go.Proofs.YtlipbiihemhieaaW.PrintLast Go.Proofs.YtlipbiihemhieaaW.PrintMore
attribute [local go_sem] max2_int min2_int max_two min_two max_three min_three max_four min_four   -- for this text's walks alone
set_option linter.unusedVariables false
set_option linter.unusedSimpArgs false

/-! ### trie_edge_int_at_trie_node_place_1: function 87 -/
def trie_edge_int_at_trie_node_place_1.l0 : Nat → List (S112) → Int → Int → Int → Int → Option (Int × Bool)
  | 0, _, _, _, _, _ => none
  | k + 1, x0, x1, x8, x9, x10 => if x9 < x10 then (if 0 ≤ (wrap64 ((IntKind.u64.wrap (wrap64 (x9 + x10))) / 2)) then (if (wrap64 ((IntKind.u64.wrap (wrap64 (x9 + x10))) / 2)) < (x0.length : Int) then ((trie_node_place_1.f ((rd_T112 x0 (wrap64 ((IntKind.u64.wrap (wrap64 (x9 + x10))) / 2))).f0) ((rd_T112 x0 (wrap64 ((IntKind.u64.wrap (wrap64 (x9 + x10))) / 2))).f1) x1).bind fun t102 => (if t102 < 0 then (trie_edge_int_at_trie_node_place_1.l0 k x0 x1 x8 (wrap64 ((wrap64 ((IntKind.u64.wrap (wrap64 (x9 + x10))) / 2)) + 1)) x10) else (trie_edge_int_at_trie_node_place_1.l0 k x0 x1 x8 x9 (wrap64 ((IntKind.u64.wrap (wrap64 (x9 + x10))) / 2))))) else (none)) else (none)) else (if x9 < x8 then (if 0 ≤ x9 then (if x9 < (x0.length : Int) then ((trie_node_place_1.f ((rd_T112 x0 x9).f0) ((rd_T112 x0 x9).f1) x1).bind fun t104 => (some (x9, (t104 == 0)))) else (none)) else (none)) else (some (x9, false)))
def trie_edge_int_at_trie_node_place_1.f (k : Nat) (l0 : List (S112)) (a1 : Int)  : Option (Int × Bool) := trie_edge_int_at_trie_node_place_1.l0 k l0 a1 (l0.length : Int) 0 (l0.length : Int)
theorem trie_edge_int_at_trie_node_place_1.mono_l : ∀ k, (∀ y0 y1 y2 y3 y4, LeO (trie_edge_int_at_trie_node_place_1.l0 k y0 y1 y2 y3 y4) (trie_edge_int_at_trie_node_place_1.l0 (k + 1) y0 y1 y2 y3 y4))
  | 0 => fun _ _ _ _ _ r h => by simp [trie_edge_int_at_trie_node_place_1.l0] at h
  | k + 1 => by
    have ih0 := trie_edge_int_at_trie_node_place_1.mono_l k
    · intro y0 y1 y2 y3 y4
      unfold trie_edge_int_at_trie_node_place_1.l0
      repeat' first
      | (with_reducible exact ih0 _ _ _ _ _)
      | (with_reducible exact LeO.refl _)
      | (with_reducible exact LeO.none _)
      | (with_reducible refine LeO.ite ?_ ?_)
      | (with_reducible refine LeO.bind ?_ (fun _ => ?_))
      | exact ih0 _ _ _ _ _
      | exact LeO.none _
      | refine LeO.ite ?_ ?_
      | refine LeO.bind ?_ (fun _ => ?_)
theorem trie_edge_int_at_trie_node_place_1.mono : ∀ a0 a1 k, LeO (trie_edge_int_at_trie_node_place_1.f k a0 a1) (trie_edge_int_at_trie_node_place_1.f (k + 1) a0 a1) := by
  intro a0 a1 k
  have ih0 := trie_edge_int_at_trie_node_place_1.mono_l k
  unfold trie_edge_int_at_trie_node_place_1.f
  repeat' first
      | (with_reducible exact ih0 _ _ _ _ _)
      | (with_reducible exact LeO.refl _)
      | (with_reducible exact LeO.none _)
      | (with_reducible refine LeO.ite ?_ ?_)
      | (with_reducible refine LeO.bind ?_ (fun _ => ?_))
      | exact ih0 _ _ _ _ _
      | exact LeO.none _
      | refine LeO.ite ?_ ?_
      | refine LeO.bind ?_ (fun _ => ?_)
set_option maxHeartbeats 8000000 in
set_option maxRecDepth 100000 in
theorem trie_edge_int_at_trie_node_place_1.calls (k : Nat) (A0 : Option Addr) (c0 : Nat) (l0 : List (S112)) (a1 : Int)  (r1 : Int) (r2 : Bool) (w : World) (hr0 : Kd.C k112 w A0 l0.length l0) (hc0 : l0.length ≤ c0) (h : trie_edge_int_at_trie_node_place_1.f k l0 a1 = some (r1, r2)) :
    Calls Try.prog 87 #[.slice A0 l0.length c0, .int .i64 a1, .func (.func 88) #[] #[]] w fun e w' => e = .returned (.tuple #[.int .i64 r1, .bool r2]) ∧ Below w.heap.size w w' := by
  have hu112 := Try.underlying112
  have HR0 := Aside0.mk hr0
  have HC0 := Aside0.mk hc0
  clear hr0 hc0
  have HB := Aside0.mk (Below.refl w.heap.size w)
  have H : (trie_edge_int_at_trie_node_place_1.l0 k l0 a1 (l0.length : Int) 0 (l0.length : Int)) = some (r1, r2) := h
  clear h
  have H' := Aside0.mk H
  clear H
  go_enter Try.func87, Try.ntmps87
  go_wp2
  go_loopg [9, 10] k (fun kq v9 v10 w' => ∃ (x9_1 : Int) (x10_1 : Int), v9 = .int .i64 x9_1 ∧ v10 = .int .i64 x10_1 ∧ Aside0 (trie_edge_int_at_trie_node_place_1.l0 kq l0 a1 (l0.length : Int) x9_1 x10_1 = some (r1, r2)) ∧ Aside0 (kq ≤ k) ∧ Aside0 (Below w.heap.size w w'))
  case atStart => exact ⟨(0), ((l0.length : Int)), (by first | rfl | (simp; done) | (simp [*]; done)), (by first | rfl | (simp; done) | (simp [*]; done)), H', ⟨Nat.le_refl _⟩, ⟨by repeat (first | (with_reducible first | exact HB.out | apply below_alloc | apply pw_below_drewN | apply below_drew1) | exact HB.out)⟩⟩
  case round =>
    clear H'
    try clear p2
    obtain ⟨x9_1, x10_1, rfl, rfl, HA, HK1, HB⟩ := hrel
    cases gk with
    | zero => exact absurd HA.out (by simp [trie_edge_int_at_trie_node_place_1.l0])
    | succ k1 =>
      have H := HA.out
      clear HA
      simp only [trie_edge_int_at_trie_node_place_1.l0] at H
      by_cases c4 : x9_1 < x10_1
      · rw [if_pos c4] at H
        have c4b0 : decide (x9_1 < x10_1) = true := decide_eq_true c4
        clear c4
        obtain ⟨ji5, hji5⟩ : ∃ j_ : Int, (wrap64 ((IntKind.u64.wrap (wrap64 (x9_1 + x10_1))) / 2)) = j_ := ⟨_, rfl⟩
        replace H : (if 0 ≤ (ji5) then (if (ji5) < (l0.length : Int) then ((trie_node_place_1.f ((rd_T112 l0 (ji5)).f0) ((rd_T112 l0 (ji5)).f1) a1).bind fun t102 => (if t102 < 0 then (trie_edge_int_at_trie_node_place_1.l0 k1 l0 a1 (l0.length : Int) (wrap64 ((ji5) + 1)) x10_1) else (trie_edge_int_at_trie_node_place_1.l0 k1 l0 a1 (l0.length : Int) x9_1 ji5))) else (none)) else (none)) = some (r1, r2) := by first | (rw [hji5] at H; exact H) | (simp only [hji5] at H ⊢; exact H)
        have hji5w : (IntKind.i64.wrap ((IntKind.u64.wrap (wrap64 (x9_1 + x10_1))) / 2)) = ji5 := (i64_w _).trans hji5
        by_cases c6 : 0 ≤ (ji5)
        · rw [if_pos c6] at H
          have c6b0 : decide (0 ≤ (ji5)) = true := decide_eq_true c6
          clear c6
          by_cases c7 : (ji5) < (l0.length : Int)
          · rw [if_pos c7] at H
            have c7b0 : decide ((ji5) < (l0.length : Int)) = true := decide_eq_true c7
            clear c7
            replace H := Option.bind_eq_some_iff.mp H
            obtain ⟨t102, A80, H⟩ := H
            replace H : (if t102 < 0 then (trie_edge_int_at_trie_node_place_1.l0 k1 l0 a1 (l0.length : Int) (wrap64 ((ji5) + 1)) x10_1) else (trie_edge_int_at_trie_node_place_1.l0 k1 l0 a1 (l0.length : Int) x9_1 ji5)) = some (r1, r2) := H
            have A8 := Aside0.mk A80
            clear A80
            by_cases c9 : t102 < 0
            · rw [if_pos c9] at H
              have c9b0 : decide (t102 < 0) = true := decide_eq_true c9
              clear c9
              have H' := Aside0.mk H
              clear H
              have p101 : 0 ≤ ((ji5) : Int) := of_decide_eq_true (by first | (with_reducible assumption) | assumption)
              have q101 : (ji5) < (l0.length : Int) := of_decide_eq_true (by first | (with_reducible assumption) | assumption)
              obtain ⟨ad101, e101, hx101_0, hx101_1⟩ := at_T112 HR0.out (ji5) p101 q101
              cases e101
              replace hx101_0 := (HB.out.cell (World.block_lt_of_cell? w _ hx101_0)).trans hx101_0
              replace hx101_1 := (HB.out.cell (World.block_lt_of_cell? w _ hx101_1)).trans hx101_1
              replace p101 := eq_true p101
              replace q101 := eq_true q101
              go_wp2_with (first | (go_at_call 88; (with_reducible refine (trie_node_place_1.calls ((rd_T112 l0 (ji5)).f0) ((rd_T112 l0 (ji5)).f1) a1 t102 _ A8.out).mono ?_); rintro e w10 ⟨rfl, hb⟩; have n0_ := Aside0.mk (below_step (by repeat (first | (with_reducible first | exact HB.out | apply below_alloc | apply pw_below_drewN | apply below_drew1) | exact HB.out)) hb); clear HB; have HB := n0_; clear n0_; (try clear hb); (try clear hb2); (try clear hk); (try clear hi)))
              go_roundg k1
              case measure => have := HK1.out; omega
              case rel => exact ⟨(wrap64 ((ji5) + 1)), (x10_1), (by first | rfl | (simp; done) | (simp only [← hji5] <;> (first | rfl | simp)) | (simp [*]; done)), (by first | rfl | (simp; done) | (simp [*]; done)), H', ⟨by have := HK1.out; omega⟩, ⟨by repeat (first | (with_reducible first | exact HB.out | apply below_alloc | apply pw_below_drewN | apply below_drew1) | exact HB.out)⟩⟩
            · rw [if_neg c9] at H
              have c9b0 : decide (t102 < 0) = false := decide_eq_false c9
              clear c9
              have H' := Aside0.mk H
              clear H
              have p101 : 0 ≤ ((ji5) : Int) := of_decide_eq_true (by first | (with_reducible assumption) | assumption)
              have q101 : (ji5) < (l0.length : Int) := of_decide_eq_true (by first | (with_reducible assumption) | assumption)
              obtain ⟨ad101, e101, hx101_0, hx101_1⟩ := at_T112 HR0.out (ji5) p101 q101
              cases e101
              replace hx101_0 := (HB.out.cell (World.block_lt_of_cell? w _ hx101_0)).trans hx101_0
              replace hx101_1 := (HB.out.cell (World.block_lt_of_cell? w _ hx101_1)).trans hx101_1
              replace p101 := eq_true p101
              replace q101 := eq_true q101
              go_wp2_with (first | (go_at_call 88; (with_reducible refine (trie_node_place_1.calls ((rd_T112 l0 (ji5)).f0) ((rd_T112 l0 (ji5)).f1) a1 t102 _ A8.out).mono ?_); rintro e w11 ⟨rfl, hb⟩; have n0_ := Aside0.mk (below_step (by repeat (first | (with_reducible first | exact HB.out | apply below_alloc | apply pw_below_drewN | apply below_drew1) | exact HB.out)) hb); clear HB; have HB := n0_; clear n0_; (try clear hb); (try clear hb2); (try clear hk); (try clear hi)))
              go_roundg k1
              case measure => have := HK1.out; omega
              case rel => exact ⟨(x9_1), (ji5), (by first | rfl | (simp; done) | (simp [*]; done)), (by first | rfl | (simp; done) | (simp only [← hji5] <;> (first | rfl | simp)) | (simp [*]; done)), H', ⟨by have := HK1.out; omega⟩, ⟨by repeat (first | (with_reducible first | exact HB.out | apply below_alloc | apply pw_below_drewN | apply below_drew1) | exact HB.out)⟩⟩
          · rw [if_neg c7] at H
            exact absurd H (by simp)
        · rw [if_neg c6] at H
          exact absurd H (by simp)
      · rw [if_neg c4] at H
        have c4b0 : decide (x9_1 < x10_1) = false := decide_eq_false c4
        clear c4
        by_cases c12 : x9_1 < (l0.length : Int)
        · rw [if_pos c12] at H
          have c12b0 : decide (x9_1 < (l0.length : Int)) = true := decide_eq_true c12
          clear c12
          by_cases c13 : 0 ≤ x9_1
          · rw [if_pos c13] at H
            have c13b0 : decide (0 ≤ x9_1) = true := decide_eq_true c13
            clear c13
            by_cases c14 : x9_1 < (l0.length : Int)
            · rw [if_pos c14] at H
              have c14b0 : decide (x9_1 < (l0.length : Int)) = true := decide_eq_true c14
              clear c14
              replace H := Option.bind_eq_some_iff.mp H
              obtain ⟨t104, A150, H⟩ := H
              replace H : (some (x9_1, (t104 == 0))) = some (r1, r2) := H
              have A15 := Aside0.mk A150
              clear A150
              simp only [Option.some.injEq, Prod.mk.injEq] at H
              obtain ⟨rfl, rfl⟩ := H
              have p103 : 0 ≤ (x9_1 : Int) := of_decide_eq_true (by first | (with_reducible assumption) | assumption)
              have q103 : x9_1 < (l0.length : Int) := of_decide_eq_true (by first | (with_reducible assumption) | assumption)
              obtain ⟨ad103, e103, hx103_0, hx103_1⟩ := at_T112 HR0.out x9_1 p103 q103
              cases e103
              replace hx103_0 := (HB.out.cell (World.block_lt_of_cell? w _ hx103_0)).trans hx103_0
              replace hx103_1 := (HB.out.cell (World.block_lt_of_cell? w _ hx103_1)).trans hx103_1
              replace p103 := eq_true p103
              replace q103 := eq_true q103
              go_wp2_with (first | (go_at_call 88; (with_reducible refine (trie_node_place_1.calls ((rd_T112 l0 x9_1).f0) ((rd_T112 l0 x9_1).f1) a1 t104 _ A15.out).mono ?_); rintro e w16 ⟨rfl, hb⟩; have n0_ := Aside0.mk (below_step (by repeat (first | (with_reducible first | exact HB.out | apply below_alloc | apply pw_below_drewN | apply below_drew1) | exact HB.out)) hb); clear HB; have HB := n0_; clear n0_; (try clear hb); (try clear hb2); (try clear hk); (try clear hi)))
              go_ret2
              exact ⟨by first | rfl | (simp [errW_none, errW_some] <;> rfl) | (simp [*, errW_none, errW_some] <;> rfl), by repeat (first | (with_reducible first | exact HB.out | apply below_alloc | apply pw_below_drewN | apply below_drew1) | exact HB.out)⟩
            · rw [if_neg c14] at H
              exact absurd H (by simp)
          · rw [if_neg c13] at H
            exact absurd H (by simp)
        · rw [if_neg c12] at H
          have c12b0 : decide (x9_1 < (l0.length : Int)) = false := decide_eq_false c12
          clear c12
          simp only [Option.some.injEq, Prod.mk.injEq] at H
          obtain ⟨rfl, rfl⟩ := H
          go_wp2
          go_ret2
          exact ⟨by first | rfl | (simp [errW_none, errW_some] <;> rfl) | (simp [*, errW_none, errW_some] <;> rfl), by repeat (first | (with_reducible first | exact HB.out | apply below_alloc | apply pw_below_drewN | apply below_drew1) | exact HB.out)⟩

end Go.Proofs.Ytlipbiihemhieaa.Q

-- from Hcli
namespace Go.Proofs.Ytlipbiihemhieaa.Q
open Go.RowKit Go.Proofs.YtlipbiihemhieaaW.PrintWords Go.Proofs.YtlipbiihemhieaaW.PrintLast Go.Proofs.YtlipbiihemhieaaW.PrintMore
set_option linter.unusedVariables false
set_option linter.unusedSimpArgs false

theorem Hcli_info : (Try.prog.info? 3).map (fun i => (i.zero, i.size, i.bytes)) = some (some (.int .i64 0), 1, 8) := by kernel_rfl
def slices_Clone_int_int.f (l0 : List Int) : Option (List Int) := if l0.length < 17592186044416 then some l0 else none
set_option maxHeartbeats 1000000 in
set_option maxRecDepth 100000 in
theorem slices_Clone_int_int.calls (A0 : Option Addr) (c0 : Nat) (l0 : List Int) (r : List Int) (w : World) (hr0 : Kd.C (Kd.int .i64) w A0 l0.length l0) (hc0 : l0.length ≤ c0) (h : slices_Clone_int_int.f l0 = some r) :
    Calls Try.prog 57 #[.slice A0 l0.length c0] w fun e w' => ∃ v0_ : Value, e = .returned (v0_) ∧ Kd.R (Kd.int .i64) 3 w' w.heap.size (fun _ => True) v0_ r ∧ Below w.heap.size w w' := by
  unfold slices_Clone_int_int.f at h
  by_cases hl : l0.length < 17592186044416
  · rw [if_pos hl] at h
    obtain rfl := Option.some.inj h
    have HR := Aside0.mk hr0
    have HL := Aside0.mk hl
    have heq := fun (W : World) => run_eql_slice_nil (P := Try.prog) W 22 3 A0 l0.length c0 Try.underlying22
    clear h hr0 hl
    cases A0 with
    | none =>
      have hz : l0 = [] := by
        rcases Nat.eq_zero_or_pos l0.length with e | e
        · exact List.eq_nil_of_length_eq_zero e
        · obtain ⟨ad, h, _⟩ := HR.out.2.2 e
          cases h
      have HZ := Aside0.mk hz
      clear hz
      go_enter Try.func57, Try.ntmps57
      go_wp2
      go_ret
      exact ⟨_, rfl, by rw [HZ.out]; exact Kd.R_nil _ _ _ _ _, Below.refl _ _⟩
    | some ad =>
      go_enter Try.func57, Try.ntmps57
      go_wp2_with (first
        | ((with_reducible refine gate_dst (N := 5) rfl ?_)
           refine Kd.R_lit (Kd.int .i64) (w0 := w) w.heap.size 3 ?hg (N := 5) ?hd (xs := ([] : List Int)) (inner := []) (ok := fun _ => True) (okp := fun _ => True) ?hr (Reps.none _ _) (fun _ hk => hk) trivial (Below.refl _ _) (Nat.le_refl _) (by simp) ?_
           (case hd => rfl)
           (case hg => rfl)
           (case hr => first | (go_simp; done) | (go_simp; rfl))
           intro v1 w1 hR1 hB1 _ _
           have HR1 := Aside0.mk hR1
           have HB1 := Aside0.mk hB1
           clear hR1 hB1)
        | ((with_reducible refine gate_builtin (b := .append) (xs := #[.tmp 5, .tmp 6]) rfl ?_)
           at_builtin
           refine Kd.R_append_rows (Kd.int .i64) (w0 := w) w.heap.size rfl (.tmp 5) (.tmp 6) 22 3 (.int .i64 0) 8 rfl Try.underlying22 Hcli_info rfl (by decide) (by omega) _ [] l0 _ _ _ (fun _ => True) (fun _ => False) rfl rfl HR1.out (Kd.C_below HR.out HB1.out) (fun _ _ h => h) (fun _ h => h.elim) (fun _ _ => trivial) HB1.out HB1.out.size (by have := HL.out; simp only [List.length_nil]; omega) ?_
           intro v2 w2 hR2 hB2 _ _
           rw [List.nil_append] at hR2
           have HR2 := Aside0.mk hR2
           have HB2 := Aside0.mk hB2
           clear hR2 hB2 HR1 HB1))
      go_ret
      exact ⟨_, rfl, HR2.out, HB2.out⟩
  · rw [if_neg hl] at h
    cases h

end Go.Proofs.Ytlipbiihemhieaa.Q

-- from Htri
/- trie: what is read of it: find, place, Len, Depth, Ends, Step. -/
namespace Go.Proofs.Ytlipbiihemhieaa.Q
open Go.RowKit Go.Proofs.YtlipbiihemhieaaW.PrintWords Go.Proofs.YtlipbiihemhieaaW.PrintLast Go.Proofs.YtlipbiihemhieaaW.PrintMore Go.Proofs.Ytlipbiihemhieaa.K
set_option linter.unusedVariables false
set_option linter.unusedSimpArgs false

/-- A pointer to a trie of these nodes. -/
def TrieR (W : World) (p : Option Addr) (N : List S107) : Prop :=
  ∃ g A c, p = some ⟨g, 0, none⟩ ∧ W.heap[g]? = some (.cells #[.slice A N.length c] 103 (0, 0)) ∧ N.length ≤ c ∧ Kd.C k107 W A N.length N
theorem TrieR.below {W W' : World} {p : Option Addr} {N : List S107} (h : TrieR W p N) (hb : Below W.heap.size W W') : TrieR W' p N := by
  obtain ⟨g, A, c, h1, h2, h3, h4⟩ := h
  exact ⟨g, A, c, h1, (hb.block _ (Array.getElem?_eq_some_iff.1 h2).1).trans h2, h3, Kd.C_below h4 hb⟩
/-- A node; one that there isn't is empty. -/
def nodeAt (N : List S107) (n : Int) : S107 := if n < 0 then z107 else if (N.length : Int) ≤ n then z107 else rd_T107 N n
/-- A node's value. -/
def NodeV (w : World) (x : S107) (v : Value) : Prop := ∃ A3 c3 A4 c4, v = .agg #[.int .i64 x.f0, .int .i64 x.f1, .int .i64 x.f2, .slice A3 x.f3.length c3, .slice A4 x.f4.length c4] ∧ (x.f3.length ≤ c3 ∧ x.f4.length ≤ c4) ∧ Kd.C k112 w A3 x.f3.length x.f3 ∧ Kd.C (Kd.int .i64) w A4 x.f4.length x.f4
theorem NodeV.nil (w : World) : NodeV w z107 (.agg #[.int .i64 0, .int .i64 0, .int .i64 0, .slice none 0 0, .slice none 0 0]) :=
  ⟨none, 0, none, 0, rfl, ⟨Nat.le_refl _, Nat.le_refl _⟩, ⟨rfl, by simp [z107], fun h => by simp [z107] at h⟩, ⟨rfl, by simp [z107], fun h => by simp [z107] at h⟩⟩
set_option maxHeartbeats 2000000 in
set_option maxRecDepth 100000 in
theorem trie_find.calls0 (p : Option Addr) (N : List S107) (n : Int) (w0 w : World) (hT : TrieR w0 p N) (hbw : Below w0.heap.size w0 w) :
    Calls Try.prog 71 #[.pointer p, .int .i64 n] w fun e w' => (∃ v, e = .returned v ∧ NodeV w0 (nodeAt N n) v) ∧ Below w.heap.size w w' := by
  have hT' := hT
  obtain ⟨g, A, c, rfl, h2, h3, h4⟩ := hT'
  have hb0 : Below w0.heap.size w0 (w.alloc (.cells #[.int .i64 0, .int .i64 0, .int .i64 0, .slice none 0 0, .slice none 0 0] 107)) := hbw.alloc hbw.size _
  have hcg : (w.alloc (.cells #[.int .i64 0, .int .i64 0, .int .i64 0, .slice none 0 0, .slice none 0 0] 107)).cell? ⟨g, 0, none⟩ = some (.slice A N.length c) := by
    unfold World.cell?; rw [(hb0.block _ (Array.getElem?_eq_some_iff.1 h2).1).trans h2]; rfl
  by_cases c1 : n < 0
  · have b1 : decide (n < 0) = true := decide_eq_true c1
    have HN : Aside0 (nodeAt N n = z107) := ⟨by unfold nodeAt; rw [if_pos c1]⟩
    clear c1 h2 h3 h4 hb0 hbw hT
    go_enter Try.func71, Try.ntmps71
    go_wp2
    refine bodyPost_ret (v := .agg #[.int .i64 0, .int .i64 0, .int .i64 0, .slice none 0 0, .slice none 0 0]) (by simp [results, Try.results71, go_sem]) rfl ⟨⟨_, rfl, by rw [HN.out]; exact NodeV.nil w0⟩, ?_⟩
    exact (Below.refl _ w).alloc (Nat.le_refl _) _
  · have b1 : decide (n < 0) = false := decide_eq_false c1
    by_cases c2 : (N.length : Int) ≤ n
    · have b2 : decide ((N.length : Int) ≤ n) = true := decide_eq_true c2
      have HN : Aside0 (nodeAt N n = z107) := ⟨by unfold nodeAt; rw [if_neg c1, if_pos c2]⟩
      clear c1 c2 h2 h3 h4 hb0 hbw hT
      go_enter Try.func71, Try.ntmps71
      go_wp2
      refine bodyPost_ret (v := .agg #[.int .i64 0, .int .i64 0, .int .i64 0, .slice none 0 0, .slice none 0 0]) (by simp [results, Try.results71, go_sem]) rfl ⟨⟨_, rfl, by rw [HN.out]; exact NodeV.nil w0⟩, ?_⟩
      exact (Below.refl _ w).alloc (Nat.le_refl _) _
    · have b2 : decide ((N.length : Int) ≤ n) = false := decide_eq_false c2
      have c3 : 0 ≤ n := by omega
      have c4 : n < (N.length : Int) := by omega
      obtain ⟨ad, A3, n3, A4, n4, rfl, hx0, hx1, hx2, hx3, hx4, l3, g3, l4, g4⟩ := at_T107 h4 n c3 c4
      obtain ⟨x, hx⟩ : ∃ x, x = rd_T107 N n := ⟨_, rfl⟩
      rw [← hx] at hx0 hx1 hx2 hx3 hx4 l3 g3 l4 g4
      have HN : Aside0 (nodeAt N n = x) := ⟨by unfold nodeAt; rw [if_neg c1, if_neg c2, hx]⟩
      have HV : Aside0 (NodeV w0 x (.agg #[.int .i64 x.f0, .int .i64 x.f1, .int .i64 x.f2, .slice A3 x.f3.length n3, .slice A4 x.f4.length n4])) := ⟨⟨A3, n3, A4, n4, rfl, ⟨l3, l4⟩, g3, g4⟩⟩
      have hx0 := (hb0.cell (World.block_lt_of_cell? w0 _ hx0)).trans hx0
      have hx1 := (hb0.cell (World.block_lt_of_cell? w0 _ hx1)).trans hx1
      have hx2 := (hb0.cell (World.block_lt_of_cell? w0 _ hx2)).trans hx2
      have hx3 := (hb0.cell (World.block_lt_of_cell? w0 _ hx3)).trans hx3
      have hx4 := (hb0.cell (World.block_lt_of_cell? w0 _ hx4)).trans hx4
      have e1 := eq_true c3
      have e2 := eq_true c4
      clear c1 c2 c3 c4 h2 h3 h4 hb0 hbw hT hx l3 l4 g3 g4
      go_enter Try.func71, Try.ntmps71
      go_wp2
      refine bodyPost_ret (v := .agg #[.int .i64 x.f0, .int .i64 x.f1, .int .i64 x.f2, .slice A3 x.f3.length n3, .slice A4 x.f4.length n4]) (by simp [results, Try.results71, go_sem]) rfl ⟨⟨_, rfl, by rw [HN.out]; exact HV.out⟩, ?_⟩
      exact (Below.refl _ w).alloc (Nat.le_refl _) _
theorem trie_find.calls (p : Option Addr) (N : List S107) (n : Int) (w : World) (hT : TrieR w p N) :
    Calls Try.prog 71 #[.pointer p, .int .i64 n] w fun e w' => (∃ v, e = .returned v ∧ NodeV w (nodeAt N n) v) ∧ Below w.heap.size w w' := trie_find.calls0 p N n w w hT (Below.refl _ _)
/-- place, at a node that lies there. -/
def trie_place.f (k : Nat) (E : List S112) (c : Int) : Option (Int × Bool) := trie_edge_int_at_trie_node_place_1.f k E c
set_option maxHeartbeats 2000000 in
set_option maxRecDepth 100000 in
theorem trie_place.calls (k : Nat) (q : Addr) (A : Option Addr) (m : Nat) (E : List S112) (c r1 : Int) (r2 : Bool) (w : World) (hq : w.cell? ⟨q.block, q.off + 3, none⟩ = some (.slice A E.length m)) (hqp : q.add 3 = ⟨q.block, q.off + 3, none⟩) (hm : E.length ≤ m) (hC : Kd.C k112 w A E.length E) (h : trie_place.f k E c = some (r1, r2)) :
    Calls Try.prog 74 #[.pointer (some q), .int .i64 c] w fun e w' => e = .returned (.tuple #[.int .i64 r1, .bool r2]) ∧ Below w.heap.size w w' := by
  have HC := Aside0.mk hC
  have HM := Aside0.mk hm
  have H := Aside0.mk h
  clear hC hm h
  go_enter Try.func74, Try.ntmps74
  go_wp2_with (first
    | (go_at_call 87
       refine (trie_edge_int_at_trie_node_place_1.calls k A m E c r1 r2 _ HC.out HM.out H.out).mono ?_
       rintro e w2 ⟨rfl, hb⟩
       have HB := Aside0.mk hb
       clear hb))
  go_ret2
  exact ⟨rfl, HB.out⟩
end Go.Proofs.Ytlipbiihemhieaa.Q

-- from Ptri
/- Layer 22 on lists: where a number stands among edges. -/
namespace Go.Proofs.Ytlipbiihemhieaa.K
set_option linter.unusedVariables false
set_option linter.unusedSimpArgs false
open Go.RowKit Go.Proofs.YtlipbiihemhieaaW.PrintWords Go.Proofs.YtlipbiihemhieaaW.PrintMore Go.Proofs.Ytlipbiihemhieaa.Q

theorem rd112 {L : List S112} (i : Nat) (h : i < L.length) : rd_T112 L (i : Int) = L[i] := by
  unfold rd_T112
  rw [Int.toNat_natCast, List.getD_eq_getElem?_getD, List.getElem?_eq_getElem h]; rfl
/-- Edges rise. -/
def Rise (L : List S112) : Prop := L.Pairwise (fun a b => a.f0 < b.f0)
theorem Rise.lt {L : List S112} (h : Rise L) {i j : Nat} (hij : i < j) (hj : j < L.length) : L[i].f0 < L[j].f0 := List.pairwise_iff_getElem.1 h i j (by omega) hj hij
theorem Rise.last {L : List S112} (h : Rise L) {i j : Nat} (hij : i ≤ j) (hj : j < L.length) : L[i].f0 ≤ L[j].f0 := by
  rcases Nat.lt_or_eq_of_le hij with e | e
  · have := h.lt e hj; omega
  · subst e; exact Int.le_refl _
def ePos (L : List S112) (c : Int) : Nat := (L.takeWhile (fun s => decide (s.f0 < c))).length
theorem ePos_le (L : List S112) (c : Int) : ePos L c ≤ L.length := (List.takeWhile_prefix _).length_le
theorem ePos_before {L : List S112} {c : Int} : ∀ {i : Nat} (h : i < ePos L c), (L[i]'(Nat.lt_of_lt_of_le h (ePos_le L c))).f0 < c := by
  unfold ePos
  induction L with
  | nil => intro i h; simp at h
  | cons s L ih =>
    intro i h
    by_cases e : s.f0 < c
    · cases i with
      | zero => exact e
      | succ i =>
        simp only [List.getElem_cons_succ]
        simp only [List.takeWhile_cons, decide_eq_true e, if_true, List.length_cons] at h
        exact ih (by omega)
    · simp [List.takeWhile_cons, e] at h
theorem ePos_at {L : List S112} {c : Int} (h : ePos L c < L.length) : ¬ L[ePos L c].f0 < c := by
  induction L with
  | nil => simp at h
  | cons s L ih =>
    by_cases e : s.f0 < c
    · have hp : ePos (s :: L) c = ePos L c + 1 := by simp [ePos, List.takeWhile_cons, e]
      have h' : ePos L c < L.length := by rw [hp] at h; simpa using h
      have := ih h'
      simp only [hp, List.getElem_cons_succ]
      exact this
    · have hp : ePos (s :: L) c = 0 := by simp [ePos, List.takeWhile_cons, e]
      simp only [hp, List.getElem_cons_zero]
      exact e
/-- Is there an edge of this number? -/
def eHas (L : List S112) (c : Int) : Bool := if h : ePos L c < L.length then decide (L[ePos L c].f0 = c) else false
theorem cmp_ev (a c : Int) : cmp_Compare_int.f a c = some (if a < c then -1 else if a > c then 1 else 0) := by
  unfold cmp_Compare_int.f cmp_isNaN_int.f
  simp only [bne_self_eq_false, Option.bind_some]
  show (if a < c then some (-1) else if a > c then some 1 else some 0) = _
  by_cases h1 : a < c
  · rw [if_pos h1, if_pos h1]
  · rw [if_neg h1, if_neg h1]
    by_cases h2 : a > c
    · rw [if_pos h2, if_pos h2]
    · rw [if_neg h2, if_neg h2]
theorem plc_ev (a b c : Int) : trie_node_place_1.f a b c = some (if a < c then -1 else if a > c then 1 else 0) := by
  unfold trie_node_place_1.f
  rw [cmp_ev]; rfl
theorem place_ev {L : List S112} (hl : L.length ≤ 1000000) (hL : Rise L) (c : Int) : Ev (fun k => trie_place.f k L c) ((ePos L c : Int), eHas L c) := by
  have hle := ePos_le L c
  have key : ∀ (d lo hi' : Nat), hi' - lo = d → lo ≤ ePos L c → ePos L c ≤ hi' → hi' ≤ L.length → Ev (fun k => trie_edge_int_at_trie_node_place_1.l0 k L c L.length (lo : Int) (hi' : Int)) ((ePos L c : Int), eHas L c) := by
    intro d
    induction d using Nat.strongRecOn with
    | ind d ih =>
      intro lo hi' h1 h2 h3 h4
      by_cases c' : lo < hi'
      · have eh : wrap64 ((IntKind.u64.wrap (wrap64 ((lo : Int) + (hi' : Int)))) / 2) = (((lo + hi') / 2 : Nat) : Int) := by
          rw [w64 (n := (lo : Int) + hi') (by omega) (by omega)]
          have : IntKind.u64.wrap ((lo : Int) + (hi' : Int)) = (lo : Int) + hi' := by
            simp only [IntKind.wrap, IntKind.bits, IntKind.signed]
            simp
            omega
          rw [this, w64 (by omega) (by omega)]
          omega
        have hm : (lo + hi') / 2 < hi' := by omega
        have hg := rd112 (L := L) ((lo + hi') / 2) (by omega)
        by_cases c2 : (rd_T112 L (((lo + hi') / 2 : Nat) : Int)).f0 < c
        · have : (lo + hi') / 2 < ePos L c := by
            apply Classical.byContradiction
            intro hn
            have hp := ePos_at (L := L) (c := c) (by omega)
            have := hL.last (i := ePos L c) (j := (lo + hi') / 2) (by omega) (by omega)
            rw [hg] at c2
            omega
          have hb := ih (hi' - ((lo + hi') / 2 + 1)) (by omega) ((lo + hi') / 2 + 1) hi' rfl (by omega) h3 h4
          refine Ev.step (fun k => rfl) (Ev.pos (by omega) ?_)
          rw [eh]
          refine Ev.pos (by omega) (Ev.pos (by omega) (Ev.bindS (plc_ev _ _ _) (Ev.pos (by rw [if_pos c2]; omega) ?_)))
          rw [w64 (n := (((lo + hi') / 2 : Nat) : Int) + 1) (by omega) (by omega)]
          exact hb
        · have : ePos L c ≤ (lo + hi') / 2 := by
            apply Classical.byContradiction
            intro hn
            have := ePos_before (L := L) (c := c) (i := (lo + hi') / 2) (by omega)
            rw [hg] at c2
            exact c2 this
          have hb := ih ((lo + hi') / 2 - lo) (by omega) lo ((lo + hi') / 2) rfl h2 this (by omega)
          refine Ev.step (fun k => rfl) (Ev.pos (by omega) ?_)
          rw [eh]
          exact Ev.pos (by omega) (Ev.pos (by omega) (Ev.bindS (plc_ev _ _ _) (Ev.neg (by rw [if_neg c2]; split <;> omega) hb)))
      · have e1 : lo = ePos L c := by omega
        subst e1
        by_cases c3 : ePos L c < L.length
        · have hg := rd112 (L := L) (ePos L c) c3
          have hna := ePos_at c3
          have e2 : eHas L c = ((if (rd_T112 L (ePos L c : Int)).f0 < c then (-1 : Int) else if (rd_T112 L (ePos L c : Int)).f0 > c then 1 else 0) == 0) := by
            unfold eHas
            rw [dif_pos c3, hg, if_neg hna]
            by_cases e : L[ePos L c].f0 = c
            · rw [if_neg (by omega)]; simp [e]
            · rw [if_pos (by omega)]; simp [e]
          rw [e2]
          exact Ev.step (fun k => rfl) (Ev.neg (by omega) (Ev.pos (by omega) (Ev.pos (by omega) (Ev.pos (by omega) (Ev.bindS (plc_ev _ _ _) (Ev.now _))))))
        · have e2 : eHas L c = false := by unfold eHas; rw [dif_neg c3]
          rw [e2]
          exact Ev.step (fun k => rfl) (Ev.neg (by omega) (Ev.neg (by omega) (Ev.now _)))
  have hb := key L.length 0 L.length (by omega) (by omega) hle (Nat.le_refl _)
  unfold trie_place.f trie_edge_int_at_trie_node_place_1.f
  exact hb
theorem place_any {L : List S112} (hl : L.length ≤ 1000000) (hL : Rise L) {c : Int} {k : Nat} {r : Int × Bool} (h : trie_place.f k L c = some r) : r = ((ePos L c : Int), eHas L c) := by
  obtain ⟨K, hK⟩ := place_ev hl hL c
  have h2 := hK (max K k) (by omega)
  have h3 := at_rounds (fun j => trie_edge_int_at_trie_node_place_1.mono L c j) (show k ≤ max K k by omega) h
  have h4 : trie_place.f (max K k) L c = some r := h3
  exact Option.some.inj (h4.symm.trans h2)
end Go.Proofs.Ytlipbiihemhieaa.K

-- from Htr2
/- trie: Len, Depth, Ends, Step, Edges (the function value). -/
namespace Go.Proofs.Ytlipbiihemhieaa.Q
open Go.RowKit Go.Proofs.YtlipbiihemhieaaW.PrintWords Go.Proofs.YtlipbiihemhieaaW.PrintLast Go.Proofs.YtlipbiihemhieaaW.PrintMore Go.Proofs.Ytlipbiihemhieaa.K
set_option linter.unusedVariables false
set_option linter.unusedSimpArgs false

set_option maxHeartbeats 1000000 in
set_option maxRecDepth 100000 in
theorem trie_Len.calls (p : Option Addr) (N : List S107) (w : World) (hT : TrieR w p N) :
    Calls Try.prog 47 #[.pointer p] w fun e w' => e = .returned (.int .i64 (N.length : Int)) ∧ Below w.heap.size w w' := by
  obtain ⟨g, A, c, rfl, h2, h3, h4⟩ := hT
  have hcg : w.cell? ⟨g, 0, none⟩ = some (.slice A N.length c) := by unfold World.cell?; rw [h2]; rfl
  clear h2 h3 h4
  go_enter Try.func47, Try.ntmps47
  go_wp2
  go_ret
  exact ⟨rfl, Below.refl _ _⟩
set_option maxHeartbeats 1000000 in
set_option maxRecDepth 100000 in
theorem trie_Depth.calls (p : Option Addr) (N : List S107) (n : Int) (w : World) (hT : TrieR w p N) :
    Calls Try.prog 49 #[.pointer p, .int .i64 n] w fun e w' => e = .returned (.int .i64 (nodeAt N n).f2) ∧ Below w.heap.size w w' := by
  have HT := Aside0.mk hT
  obtain ⟨x, hx⟩ : ∃ x, x = nodeAt N n := ⟨_, rfl⟩
  have HX := Aside0.mk hx
  rw [← hx]
  clear hT hx
  go_enter Try.func49, Try.ntmps49
  go_wp2_with (go_at_call 71; refine (trie_find.calls p N n _ HT.out).mono ?_; rintro e w1 ⟨⟨v, rfl, hv⟩, hb⟩; rw [← HX.out] at hv; obtain ⟨A3, c3, A4, c4, rfl, hl, h3, h4⟩ := hv; have HB := Aside0.mk hb; have hfd : ∀ w : World, (Instr.field 107 (.agg #[.int .i64 x.f0, .int .i64 x.f1, .int .i64 x.f2, .slice A3 x.f3.length c3, .slice A4 x.f4.length c4]) 2).run Try.prog w = .ok (.int .i64 x.f2) w := (fun _ => by kernel_rfl); clear hb h3 h4 hl)
  go_ret
  exact ⟨rfl, HB.out⟩
set_option maxHeartbeats 1000000 in
set_option maxRecDepth 100000 in
theorem trie_Ends.calls (p : Option Addr) (N : List S107) (n : Int) (w : World) (hT : TrieR w p N) (hl : (nodeAt N n).f4.length ≤ 1000000) :
    Calls Try.prog 50 #[.pointer p, .int .i64 n] w fun e w' => ∃ v, e = .returned v ∧ Kd.R (Kd.int .i64) 3 w' w.heap.size (fun _ => True) v (nodeAt N n).f4 ∧ Below w.heap.size w w' := by
  have HT := Aside0.mk hT
  obtain ⟨x, hx⟩ : ∃ x, x = nodeAt N n := ⟨_, rfl⟩
  have HX := Aside0.mk hx
  rw [← hx] at hl ⊢
  have HL : Aside0 (slices_Clone_int_int.f x.f4 = some x.f4) := ⟨by unfold slices_Clone_int_int.f; rw [if_pos (by omega)]⟩
  clear hT hx hl
  go_enter Try.func50, Try.ntmps50
  go_wp2_with (first
    | (go_at_call 71; refine (trie_find.calls p N n _ HT.out).mono ?_; rintro e w1 ⟨⟨v, rfl, hv⟩, hb⟩; rw [← HX.out] at hv; obtain ⟨A3, c3, A4, c4, rfl, hl, h3, h4⟩ := hv; have HB := Aside0.mk hb; have HC := Aside0.mk (Kd.C_below h4 hb); have HLC := Aside0.mk hl.2; have hfd : ∀ w : World, (Instr.field 107 (.agg #[.int .i64 x.f0, .int .i64 x.f1, .int .i64 x.f2, .slice A3 x.f3.length c3, .slice A4 x.f4.length c4]) 4).run Try.prog w = .ok (.slice A4 x.f4.length c4) w := (fun _ => by kernel_rfl); clear hb h3 h4 hl)
    | (go_at_call 57; refine (slices_Clone_int_int.calls A4 c4 x.f4 x.f4 _ HC.out HLC.out HL.out).mono ?_; rintro e w2 ⟨v2, rfl, hr2, hb2⟩; have HR2 := Aside0.mk hr2; have HB2 := Aside0.mk hb2; clear hr2 hb2))
  go_ret
  exact ⟨_, rfl, Kd.R_lower HR2.out HB.out.size, HB.out.trans (HB2.out.mono HB.out.size)⟩
set_option maxHeartbeats 2000000 in
set_option maxRecDepth 100000 in
/-- Step: the place, and where the edge there leads. -/
theorem trie_Step.calls (k : Nat) (p : Option Addr) (N : List S107) (n c r1 : Int) (r2 : Bool) (w : World) (hT : TrieR w p N) (h : trie_place.f k (nodeAt N n).f3 c = some (r1, r2)) (hr : r2 = true → 0 ≤ r1 ∧ r1 < ((nodeAt N n).f3.length : Int)) :
    Calls Try.prog 55 #[.pointer p, .int .i64 n, .int .i64 c] w fun e w' => e = .returned (.tuple #[.int .i64 (if r2 = true then (rd_T112 (nodeAt N n).f3 r1).f1 else 0), .bool r2]) ∧ Below w.heap.size w w' := by
  have HT := Aside0.mk hT
  obtain ⟨x, hx⟩ : ∃ x, x = nodeAt N n := ⟨_, rfl⟩
  have HX := Aside0.mk hx
  rw [← hx] at h hr ⊢
  have HP := Aside0.mk h
  have HRR := Aside0.mk hr
  clear hT hx h hr
  cases r2 with
  | false =>
    go_enter Try.func55, Try.ntmps55
    go_wp2_with (first
      | (go_at_call 71; refine (trie_find.calls p N n _ HT.out).mono ?_; rintro e w1 ⟨⟨v, rfl, hv⟩, hb⟩; rw [← HX.out] at hv; obtain ⟨A3, c3, A4, c4, rfl, hl, h3, h4⟩ := hv; have HB := Aside0.mk hb; have HC := Aside0.mk (Kd.C_below (Kd.C_below h3 hb) ((Below.refl _ w1).alloc (Nat.le_refl _) (.cells #[.int .i64 x.f0, .int .i64 x.f1, .int .i64 x.f2, .slice A3 x.f3.length c3, .slice A4 x.f4.length c4] 107))); have HLC := Aside0.mk hl.1; have hnew := heap_alloc_new w1 (.cells #[.int .i64 x.f0, .int .i64 x.f1, .int .i64 x.f2, .slice A3 x.f3.length c3, .slice A4 x.f4.length c4] 107); have HNEW := Aside0.mk hnew; clear hb h3 h4 hl hnew)
      | (go_at_call 74; refine (trie_place.calls k ⟨w1.heap.size, 0, none⟩ A3 c3 x.f3 c r1 false _ (by simp only [World.cell?]; rw [HNEW.out]; rfl) rfl HLC.out HC.out HP.out).mono ?_; rintro e w2 ⟨rfl, hb⟩; have HB2 := Aside0.mk hb; clear hb))
    go_ret2
    exact ⟨rfl, (HB.out.alloc HB.out.size _).trans (HB2.out.mono (by have := HB.out.size; simp; omega))⟩
  | true =>
    obtain ⟨p0, p1⟩ := HRR.out rfl
    have e0 := eq_true p0
    have e1 := eq_true p1
    have d0 : decide (0 ≤ r1) = true := decide_eq_true p0
    have P0 := Aside0.mk p0
    have P1 := Aside0.mk p1
    clear p0 p1
    go_enter Try.func55, Try.ntmps55
    go_wp2_with (first
      | (go_at_call 71; refine (trie_find.calls p N n _ HT.out).mono ?_; rintro e w1 ⟨⟨v, rfl, hv⟩, hb⟩; rw [← HX.out] at hv; obtain ⟨A3, c3, A4, c4, rfl, hl, h3, h4⟩ := hv; have HB := Aside0.mk hb; have HC := Aside0.mk (Kd.C_below (Kd.C_below h3 hb) ((Below.refl _ w1).alloc (Nat.le_refl _) (.cells #[.int .i64 x.f0, .int .i64 x.f1, .int .i64 x.f2, .slice A3 x.f3.length c3, .slice A4 x.f4.length c4] 107))); have HLC := Aside0.mk hl.1; have hnew := heap_alloc_new w1 (.cells #[.int .i64 x.f0, .int .i64 x.f1, .int .i64 x.f2, .slice A3 x.f3.length c3, .slice A4 x.f4.length c4] 107); have HNEW := Aside0.mk hnew; clear hb h3 h4 hl hnew)
      | (go_at_call 74; refine (trie_place.calls k ⟨w1.heap.size, 0, none⟩ A3 c3 x.f3 c r1 true _ (by simp only [World.cell?]; rw [HNEW.out]; rfl) rfl HLC.out HC.out HP.out).mono ?_; rintro e w2 ⟨rfl, hb⟩; have HB2 := Aside0.mk hb; have hn2 := (hb.block _ (Array.getElem?_eq_some_iff.1 HNEW.out).1).trans HNEW.out; have hy3 : w2.cell? ⟨w1.heap.size, 3, none⟩ = some (.slice A3 x.f3.length c3) := (by simp only [World.cell?]; rw [hn2]; rfl); obtain ⟨ad, rfl, hz0, hz1⟩ := at_T112 (Kd.C_below HC.out hb) r1 P0.out P1.out; clear hb hn2))
    go_ret2
    exact ⟨rfl, (HB.out.alloc HB.out.size _).trans (HB2.out.mono (by have := HB.out.size; simp; omega))⟩
set_option maxHeartbeats 1000000 in
set_option maxRecDepth 100000 in
theorem trie_Edges.calls (p : Option Addr) (n : Int) (w : World) :
    Calls Try.prog 53 #[.pointer p, .int .i64 n] w fun e w' => e = .returned (.func (.func 73) #[] #[.pointer (some ⟨w.heap.size, 0, none⟩), .pointer (some ⟨w.heap.size + 1, 0, none⟩)]) ∧ w' = (w.alloc (.cells #[.pointer p] 71)).alloc (.cells #[.int .i64 n] 3) := by
  go_enter Try.func53, Try.ntmps53
  go_wp2
  go_ret
  exact ⟨rfl, rfl⟩
end Go.Proofs.Ytlipbiihemhieaa.Q

-- from Hcpy
/- copy between rows whose elements have any number of cells; append of zeros to a row of the call's own. -/
namespace Go.Proofs.Ytlipbiihemhieaa.Q
open Go.RowKit Go.Proofs.YtlipbiihemhieaaW.PrintWords Go.Proofs.YtlipbiihemhieaaW.PrintLast Go.Proofs.YtlipbiihemhieaaW.PrintMore
set_option linter.unusedVariables false
set_option linter.unusedSimpArgs false

theorem run_copy_rowN {P : Program} (w : World) (dT sT ty elem : TypeId) (size g o dLen dCap : Nat) (a : Addr) (sLen sCap : Nat) (cur : Array Value) (t : TypeId) (cs : List Value)
    (hu : P.underlying dT = some (.slice elem)) (hs : (P.info? elem).map (·.size) = some size)
    (hg : w.heap[g]? = some (.cells cur t (0, 0))) (hn : cs.length = Nat.min sLen dLen * size)
    (hsrc : ∀ j v, cs[j]? = some v → w.cell? (a.add j) = some v) (hfit : o + cs.length ≤ cur.size) (h1 : ∀ v ∈ cs, v.oneCell' = true) :
    (Builtin.copy_ #[dT, sT] ty #[.slice (some ⟨g, o, none⟩) dLen dCap, .slice (some a) sLen sCap]).run P w =
      .ok (goInt (Nat.min sLen dLen : Nat)) (w.setRow g (cur.toList.take o ++ cs ++ cur.toList.drop (o + cs.length)).toArray) := by
  have hst := run_storeCells_at P g o t cs 0 cur w hg (by simpa using hfit) h1
  cases hq : P.info? elem with
  | none => simp [hq] at hs
  | some i =>
    have hi : i.size = size := by simpa [hq] using hs
    have hl := run_firstCells_some (P := P) w size (Nat.min sLen dLen) a sLen sCap cs hn hsrc
    simp [Builtin.copy_, run_underlying hu, Builtin.lenOf, sizeOf, typeInfo, hq, hi, hl, hst]

/-- One row into another, by lists: what stands at o on is cs. -/
theorem put_take {α : Type} (cur cs : List α) (o n : Nat) (h : o + cs.length ≤ n) (hn : n ≤ cur.length) :
    (cur.take o ++ cs ++ cur.drop (o + cs.length)).take n = (cur.take n).take o ++ cs ++ (cur.take n).drop (o + cs.length) := by
  rw [List.take_append, List.take_append, List.take_take, List.take_take, List.drop_take]
  have h1 : (cur.take o).length = o := by rw [List.length_take]; omega
  rw [List.length_append, h1, List.take_of_length_le (l := cs) (by omega)]
  congr 2
  · rw [Nat.min_comm]
theorem put_length {α : Type} (cur cs : List α) (o : Nat) (h : o + cs.length ≤ cur.length) : (cur.take o ++ cs ++ cur.drop (o + cs.length)).length = cur.length := by
  simp only [List.length_append, List.length_take, List.length_drop]
  omega
/-- slices.Insert in place: the tail is moved up, then the new cells are laid. -/
theorem put_shift {α : Type} (cs sp vs : List α) (o n m : Nat) (hn : cs.length = n) (ho : o ≤ n) (hv : vs.length = m) (hsp : sp.length = m) :
    let l := cs ++ sp
    let l1 := l.take (o + m) ++ cs.drop o ++ l.drop (o + m + (cs.drop o).length)
    l1.take o ++ vs ++ l1.drop (o + vs.length) = cs.take o ++ vs ++ cs.drop o := by
  intro l l1
  have e1 : (cs.drop o).length = n - o := by rw [List.length_drop, hn]
  have hl : l.length = n + m := by simp [l, hn, hsp]
  have e2 : l.drop (o + m + (cs.drop o).length) = [] := List.drop_eq_nil_of_le (by rw [hl, e1]; omega)
  have e3 : (l.take (o + m)).length = o + m := by rw [List.length_take]; omega
  have e4 : l1 = l.take (o + m) ++ cs.drop o := by simp only [l1, e2, List.append_nil]
  have e5 : l1.take o = cs.take o := by
    rw [e4, List.take_append_of_le_length (by omega), List.take_take, Nat.min_eq_left (by omega)]
    show (cs ++ sp).take o = _
    rw [List.take_append_of_le_length (by omega)]
  have e6 : l1.drop (o + vs.length) = cs.drop o := by
    rw [e4, hv, List.drop_append_of_le_length (by omega), List.drop_eq_nil_of_le (by omega), List.nil_append]
  rw [e5, e6]
/-- slices.Insert in a new row: the head, zeros; the new cells; the tail. -/
theorem put_grow {α : Type} (cs zs vs : List α) (o n m : Nat) (hn : cs.length = n) (ho : o ≤ n) (hv : vs.length = m) (hz : zs.length = m + (n - o)) :
    let l := cs.take o ++ zs
    let l1 := l.take o ++ vs ++ l.drop (o + vs.length)
    l1.take (o + m) ++ cs.drop o ++ l1.drop (o + m + (cs.drop o).length) = cs.take o ++ vs ++ cs.drop o := by
  intro l l1
  have e0 : (cs.take o).length = o := by rw [List.length_take]; omega
  have e1 : (cs.drop o).length = n - o := by rw [List.length_drop, hn]
  have hl : l.length = n + m := by simp only [l, List.length_append, e0, hz]; omega
  have e5 : l.take o = cs.take o := by
    show (cs.take o ++ zs).take o = _
    rw [List.take_append_of_le_length (by omega), List.take_of_length_le (by omega)]
  have e6 : l1.length = n + m := by
    show (l.take o ++ vs ++ l.drop (o + vs.length)).length = _
    rw [put_length _ _ _ (by omega), hl]
  have e7 : l1.take (o + m) = cs.take o ++ vs := by
    show (l.take o ++ vs ++ l.drop (o + vs.length)).take (o + m) = _
    rw [e5, List.take_append_of_le_length (by rw [List.length_append, e0]; omega), List.take_of_length_le (by rw [List.length_append, e0]; omega)]
  have e8 : l1.drop (o + m + (cs.drop o).length) = [] := List.drop_eq_nil_of_le (by rw [e6, e1]; omega)
  rw [e7, e8, List.append_nil]
end Go.Proofs.Ytlipbiihemhieaa.Q

-- from Hinedge
/- slices.Insert of one element at []trie.edge: printed by genrow.py. -/
namespace Go.Proofs.Ytlipbiihemhieaa.Q
open Go.Shelf Go.RowKit Go.Lib Go.Proofs.YtlipbiihemhieaaW.PrintWords Go.Proofs.YtlipbiihemhieaaW.PrintLast Go.Proofs.YtlipbiihemhieaaW.PrintMore
set_option linter.unusedVariables false
set_option linter.unusedSimpArgs false

theorem edge_info : (Try.prog.info? 112).map (fun i => (i.zero, i.size, i.bytes)) = some (some (.agg #[(.int .i64 0), (.int .i64 0)]), 2, 16) := by kernel_rfl
set_option maxHeartbeats 4000000 in
set_option maxRecDepth 100000 in
theorem edge_Insert.shift (g cap n i vb vc : Nat) (cur : Array Value) (vs : List Value) (tV : TypeId) (w : World) (hi : i < n) (hroom : n + 1 ≤ cap) (hc63 : cap ≤ 9223372036854775807) (hvb : vb ≠ g)
    (hg : w.heap[g]? = some (.cells cur 112 (0, 0))) (hcz : cur.size = cap * 2) (hvl : vs.length = 2) (hv : w.heap[vb]? = some (.cells vs.toArray tV (0, 0)))
    (h1c : ∀ v ∈ cur.toList.take (n * 2), v.oneCell' = true) (h1v : ∀ v ∈ vs, v.oneCell' = true) :
    Calls Try.prog 86 #[.slice (some ⟨g, 0, none⟩) n cap, .int .i64 i, .slice (some ⟨vb, 0, none⟩) 1 vc] w fun e w' =>
      e = .returned (.slice (some ⟨g, 0, none⟩) (n + 1) cap) ∧ ∃ c1 c2 : Array Value, w' = (w.drew.setRow g c1).setRow g c2 ∧ c2.size = cap * 2 ∧
        c2.toList.take ((n + 1) * 2) = (cur.toList.take (n * 2)).take (i * 2) ++ vs ++ (cur.toList.take (n * 2)).drop (i * 2) := by
  have mixed : Try.prog.follows .mixedOrders = true := by kernel_rfl
  have hz2 : ¬ ((i : Int) = (n : Int)) := by omega
  obtain ⟨i0, hi0, hii⟩ := Option.map_eq_some_iff.1 edge_info
  simp only [Prod.mk.injEq] at hii
  have hsz : (Try.prog.info? 112).map (·.size) = some 2 := by rw [hi0]; simp [hii.2.1]
  have hso : ∀ w, (Go.sizeOf 112).run Try.prog w = .ok 2 w := fun w => by simp [sizeOf, typeInfo, hi0, hii.2.1]
  have hov : ∀ lb cb, (callFunc 95 #[.slice (some ⟨vb, 0, none⟩) 1 vc, .slice (some ⟨g, (i + 1) * 2, none⟩) lb cb]).run Try.prog w = .ok (.value (.bool false)) w := fun lb cb => by
    rw [run_callFunc_extern Try.func95 (by kernel_rfl) (by kernel_rfl) (by kernel_rfl) (e := Extern.SlicesOverlaps.overlaps #[105, 105] #[4]) (by kernel_rfl),
      Lib.run_overlaps_apart w 105 4 112 Try.underlying105 2 hso ⟨vb, 0, none⟩ ⟨g, (i + 1) * 2, none⟩ 1 vc lb cb hvb tV 112 vs.length cur.size (by simp [World.shape?, hv]) (by simp [World.shape?, hg]) (by omega) (by simp [World.frozen?, hv]) (by simp [World.frozen?, hv])]
    rfl
  obtain ⟨cs, hcs⟩ : ∃ cs, cs = cur.toList.take (n * 2) := ⟨_, rfl⟩
  have hcl : cs.length = n * 2 := by rw [hcs, List.length_take, Array.length_toList]; omega
  have hdl : (cs.drop (i * 2)).length = (n - i) * 2 := by rw [List.length_drop, hcl]; omega
  have hget : ∀ j v, (cs.drop (i * 2))[j]? = some v → cur[i * 2 + j]? = some v := fun j v hj => by
    rw [List.getElem?_drop, hcs, List.getElem?_take] at hj
    split at hj
    · simpa using hj
    · cases hj
  obtain ⟨c1, hc1⟩ : ∃ c1, c1 = (cur.toList.take ((i + 1) * 2) ++ cs.drop (i * 2) ++ cur.toList.drop ((i + 1) * 2 + (cs.drop (i * 2)).length)).toArray := ⟨_, rfl⟩
  obtain ⟨c2, hc2⟩ : ∃ c2, c2 = (c1.toList.take (i * 2) ++ vs ++ c1.toList.drop (i * 2 + vs.length)).toArray := ⟨_, rfl⟩
  have hs1 : c1.size = cap * 2 := by
    rw [hc1, List.size_toArray, put_length _ _ _ (by rw [hdl, Array.length_toList]; omega), Array.length_toList, hcz]
  have hs2 : c2.size = cap * 2 := by
    rw [hc2, List.size_toArray, put_length _ _ _ (by rw [hvl, Array.length_toList]; omega), Array.length_toList, hs1]
  have ht2 : c2.toList.take ((n + 1) * 2) = cs.take (i * 2) ++ vs ++ cs.drop (i * 2) := by
    have h0 : cur.toList.take ((n + 1) * 2) = cs ++ (cur.toList.drop (n * 2)).take 2 := by
      rw [hcs, ← List.take_append_drop (n * 2) cur.toList, List.take_append]
      have : (List.take (n * 2) cur.toList).length = n * 2 := by rw [List.length_take, Array.length_toList]; omega
      simp only [List.take_append_drop, List.take_take, this]
      congr 1
      · rw [Nat.min_eq_right (by omega)]
      · congr 1; omega
    have l1 : c1.toList = cur.toList.take ((i + 1) * 2) ++ cs.drop (i * 2) ++ cur.toList.drop ((i + 1) * 2 + (cs.drop (i * 2)).length) := by rw [hc1]
    have l2 : c2.toList = c1.toList.take (i * 2) ++ vs ++ c1.toList.drop (i * 2 + vs.length) := by rw [hc2]
    have h1 := put_take cur.toList (cs.drop (i * 2)) ((i + 1) * 2) ((n + 1) * 2) (by rw [hdl]; omega) (by rw [Array.length_toList]; omega)
    rw [← l1] at h1
    have h2 := put_take c1.toList vs (i * 2) ((n + 1) * 2) (by rw [hvl]; omega) (by rw [Array.length_toList]; omega)
    rw [← l2] at h2
    rw [h2, h1, h0, show (i + 1) * 2 = i * 2 + 2 by omega]
    exact put_shift cs ((cur.toList.drop (n * 2)).take 2) vs (i * 2) (n * 2) 2 hcl (by omega) hvl (by rw [List.length_take, List.length_drop, Array.length_toList]; omega)
  have hcp1 : ∀ ty dc sc, (Builtin.copy_ #[105, 105] ty #[.slice (some ⟨g, (i + 1) * 2, none⟩) (n - i) dc, .slice (some ⟨g, i * 2, none⟩) (n + 1 - i) sc]).run Try.prog w.drew = .ok (goInt (Nat.min (n + 1 - i) (n - i) : Nat)) (w.drew.setRow g c1) := fun ty dc sc => by
    rw [run_copy_rowN w.drew _ _ ty 112 2 g ((i + 1) * 2) (n - i) dc ⟨g, i * 2, none⟩ (n + 1 - i) sc cur _ (cs.drop (i * 2)) Try.underlying105 hsz hg
      (by rw [hdl, show Nat.min (n + 1 - i) (n - i) = n - i from by simp only [Nat.min_def]; split <;> omega])
      (fun j v hj => by rw [Addr.add_lit]; simp only [World.cell?]; rw [show w.drew.heap[g]? = _ from hg]; exact hget j v hj) (by rw [hdl, hcz]; omega) (fun v hv => h1c v (by rw [← hcs]; exact List.mem_of_mem_drop hv)), ← hc1]
  have hcp2 : ∀ (W : World), W.heap[g]? = some (.cells c1 112 (0, 0)) → W.heap[vb]? = some (.cells vs.toArray tV (0, 0)) → ∀ ty dc, (Builtin.copy_ #[105, 105] ty #[.slice (some ⟨g, i * 2, none⟩) (n + 1 - i) dc, .slice (some ⟨vb, 0, none⟩) 1 vc]).run Try.prog W = .ok (goInt (Nat.min 1 (n + 1 - i) : Nat)) (W.setRow g c2) := fun W hW hV ty dc => by
    rw [run_copy_rowN W _ _ ty 112 2 g (i * 2) (n + 1 - i) dc ⟨vb, 0, none⟩ 1 vc c1 _ vs Try.underlying105 hsz hW
      (by rw [hvl, show Nat.min 1 (n + 1 - i) = 1 from by simp only [Nat.min_def]; split <;> omega])
      (fun j v hj => by rw [Addr.add_lit]; simp only [World.cell?]; rw [hV]; simpa using hj) (by rw [hvl, hs1]; omega) h1v, ← hc2]
  have hW1 : (w.drew.setRow g c1).heap[g]? = some (.cells c1 112 (0, 0)) := setRow_heap _ _ _ _ _ _ hg
  have hV1 : (w.drew.setRow g c1).heap[vb]? = some (.cells vs.toArray tV (0, 0)) := by rw [setRow_other _ _ _ _ hvb]; exact hv
  have hw1 : IntKind.i64.wrap ((i : Int) + 1) = (i : Int) + 1 := by rw [IntKind.wrap_i64]; omega
  have hw2 : IntKind.i64.wrap ((n : Int) + 1) = (n : Int) + 1 := by rw [IntKind.wrap_i64]; omega
  have hb1 : (0 : Int) ≤ (i : Int) + 1 := by omega
  have hin : i ≤ n := by omega
  have htn : ((i : Int) + 1).toNat = i + 1 := by omega
  have htm : ((n : Int) + 1).toNat = n + 1 := by omega
  have hb2 : ¬ (cap = i + 1) := by omega
  have hb3 : (i : Int) ≤ (n : Int) + 1 := by omega
  have hb4 : ¬ (cap = i) := by omega
  have hb5 : (0 : Int) ≤ (n : Int) + 1 := by omega
  have hb6 : ¬ ((cap : Int) < (n : Int) + 1) := by omega
  have HT := Aside0.mk ht2
  have HS := Aside0.mk hs2
  rw [← hcs]
  clear hdl hget hc1 hc2 hs1 hs2 ht2 hsz hso hi0 hii hcs hcl h1c h1v
  go_enter Try.func86, Try.ntmps86
  go_wp2_with (simp only [hov])
  go_region_law_o (refine step_copy_runI rfl _ _ 105 105 rfl _ _ (by simp [Act.eval, Act.put]) (by simp [Act.eval, Act.put]) (hcp1 _ _ _) ?_)
  go_wp2_with (at_builtin; refine wpList_copy_runI _ rfl _ _ 105 105 rfl _ _ rfl rfl (hcp2 _ hW1 hV1 _ _) ?_)
  go_ret
  exact ⟨rfl, c1, c2, rfl, HS.out, HT.out⟩
set_option maxHeartbeats 4000000 in
set_option maxRecDepth 100000 in
theorem edge_Insert.end_ (base : Nat) (v : Value) (n vb vc : Nat) (cs vs : List Value) (tV : TypeId) (w : World) (hown : w.ownsRow base 112 2 v n cs) (hbase : base ≤ w.heap.size) (hsm : n < 1099511627776)
    (hvl : vs.length = 2) (hv : w.heap[vb]? = some (.cells vs.toArray tV (0, 0))) (h1v : ∀ v ∈ vs, v.oneCell' = true) :
    Calls Try.prog 86 #[v, .int .i64 n, .slice (some ⟨vb, 0, none⟩) 1 vc] w fun e w' =>
      ∃ v', e = .returned v' ∧ w'.ownsRow base 112 2 v' (n + 1) (cs ++ vs) ∧ w.grownBy w' v.ownBlock ∧ (v'.ownBlock = v.ownBlock ∨ ∃ b, v'.ownBlock = some b ∧ w.heap.size ≤ b) ∧ ∃ g c, v' = .slice (some ⟨g, 0, none⟩) (n + 1) c := by
  obtain ⟨i0, hi0, hii⟩ := Option.map_eq_some_iff.1 edge_info
  simp only [Prod.mk.injEq] at hii
  have hvs : ∀ j u, vs[j]? = some u → w.cell? ((⟨vb, 0, none⟩ : Addr).add j) = some u := fun j u hj => by
    rw [Addr.add_lit]; simp only [World.cell?]; rw [hv]; simpa using hj
  have hop : ∀ (ops : Array Oper) (rest : List Oper) (o : Oper) (a : Act) (Q : Exit → Act → World → Prop), o.guard = none → o.op = Op.call { callee := Callee.builtin Builtin.append, args := #[Operand.tmp 23, Operand.tmp 24], argTypes := #[105, 105] } →
      a.eval (.tmp 23) = v → a.eval (.tmp 24) = .slice (some ⟨vb, 0, none⟩) 1 vc →
      (∀ v' w', (w'.ownsRow base 112 2 v' (n + 1) (cs ++ vs) ∧ w.grownBy w' v.ownBlock ∧ (v'.ownBlock = v.ownBlock ∨ ∃ b, v'.ownBlock = some b ∧ w.heap.size ≤ b) ∧ ∃ g c, v' = .slice (some ⟨g, 0, none⟩) (n + 1) c) → wpList Try.prog ops Q rest (a.put o.dst v') w') → wpList Try.prog ops Q (o :: rest) a w := by
    intro ops rest o a Q hgd ho hs hx h
    refine wpList_append_own_at w hgd _ _ _ ho base 112 i0 _ 2 16 Try.underlying105 hi0 hii.1 hii.2.1 hii.2.2 rfl (by omega) v n cs hs hown ⟨vb, 0, none⟩ 1 vc vs hx (by rw [hvl]) hvs h1v (by simp only [maxLen]; omega) (by omega) hbase ?_
    intro v' w' q1 q2 q3 q4
    refine h v' w' ⟨q1, q2, by rcases q4 with q4 | q4 <;> first | exact .inl q4 | exact .inr ⟨_, q4, by simp⟩, ?_⟩
    rcases q1.2 with ⟨_, q⟩ | ⟨g, c, _, q, _⟩
    · omega
    · exact ⟨g, c, q⟩
  have HO := Aside0.mk hown
  rcases hown.2 with ⟨rfl, rfl⟩ | ⟨g, cap, cur, rfl, hbg, hg, hnc, hcm, hcs, htake⟩
  · clear hown hi0 hii hvs hvl h1v
    go_enter Try.func86, Try.ntmps86
    go_wp2_with (at_builtin; refine hop _ _ _ _ _ rfl rfl rfl rfl ?_; (rintro v' w' hv'; have HV := Aside0.mk hv'; clear hv'))
    go_ret
    exact ⟨_, rfl, HV.out⟩
  · clear hown hi0 hii hvs hvl h1v hg hcs htake hcm hbg
    go_enter Try.func86, Try.ntmps86
    go_wp2_with (at_builtin; refine hop _ _ _ _ _ rfl rfl rfl rfl ?_; (rintro v' w' hv'; have HV := Aside0.mk hv'; clear hv'))
    all_goals (go_ret; exact ⟨_, rfl, HV.out⟩)
def edge_cells (x : S112) : List Value := [.int .i64 x.f0, .int .i64 x.f1]
theorem edge_grown (w : World) (ROW c1 c2 : Array Value) (e : TypeId) :
    Below w.heap.size w ((((w.alloc (.cells ROW e)).drew.setRow w.heap.size c1).drew).setRow w.heap.size c2) ∧ ((((w.alloc (.cells ROW e)).drew.setRow w.heap.size c1).drew).setRow w.heap.size c2).heap[w.heap.size]? = some (.cells c2 e (0, 0)) := by
  have h0 : (w.alloc (.cells ROW e)).heap[w.heap.size]? = some (.cells ROW e (0, 0)) := heap_alloc_new w _
  have h1 : ((w.alloc (.cells ROW e)).drew.setRow w.heap.size c1).heap[w.heap.size]? = some (.cells c1 e (0, 0)) := setRow_heap _ _ ROW _ _ _ h0
  have h2 := setRow_heap ((w.alloc (.cells ROW e)).drew.setRow w.heap.size c1).drew w.heap.size c1 c2 e (0, 0) h1
  refine ⟨⟨rfl, rfl, rfl, ?_, fun k hk => ?_⟩, h2⟩
  · have := (Array.getElem?_eq_some_iff.1 h2).1
    omega
  · rw [setRow_other _ _ _ _ (by omega)]
    show ((w.alloc (.cells ROW e)).drew.setRow w.heap.size c1).heap[k]? = _
    rw [setRow_other _ _ _ _ (by omega)]
    exact heap_alloc_old w _ hk
set_option maxHeartbeats 4000000 in
set_option maxRecDepth 100000 in
theorem edge_Insert.grow (g n i vb vc : Nat) (cur : Array Value) (vs : List Value) (tV : TypeId) (w : World) (hi : i < n) (hsm : n < 1099511627776) (hvb : vb ≠ g)
    (hg : w.heap[g]? = some (.cells cur 112 (0, 0))) (hcz : cur.size = n * 2) (hvl : vs.length = 2) (hv : w.heap[vb]? = some (.cells vs.toArray tV (0, 0)))
    (h1c : ∀ v ∈ cur.toList, v.oneCell' = true) (h1v : ∀ v ∈ vs, v.oneCell' = true) :
    Calls Try.prog 86 #[.slice (some ⟨g, 0, none⟩) n n, .int .i64 i, .slice (some ⟨vb, 0, none⟩) 1 vc] w fun e w' =>
      ∃ G c2, e = .returned (.slice (some ⟨w.heap.size, 0, none⟩) (n + 1) G) ∧ n + 1 ≤ G ∧ G ≤ maxLen ∧ Below w.heap.size w w' ∧ w'.heap[w.heap.size]? = some (.cells c2 112 (0, 0)) ∧ c2.size = G * 2 ∧
        c2.toList.take ((n + 1) * 2) = cur.toList.take (i * 2) ++ vs ++ cur.toList.drop (i * 2) := by
  have mixed : Try.prog.follows .mixedOrders = true := by kernel_rfl
  have hz2 : ¬ ((i : Int) = (n : Int)) := by omega
  obtain ⟨i0, hi0, hii⟩ := Option.map_eq_some_iff.1 edge_info
  simp only [Prod.mk.injEq] at hii
  have hsz : (Try.prog.info? 112).map (·.size) = some 2 := by rw [hi0]; simp [hii.2.1]
  have hbw : g < w.heap.size := (Array.getElem?_eq_some_iff.1 hg).1
  have hvw : vb < w.heap.size := (Array.getElem?_eq_some_iff.1 hv).1
  obtain ⟨cs, hcs⟩ : ∃ cs, cs = cur.toList := ⟨_, rfl⟩
  have hcl : cs.length = n * 2 := by rw [hcs, Array.length_toList, hcz]
  have hdl : (cs.drop (i * 2)).length = (n - i) * 2 := by rw [List.length_drop, hcl]; omega
  have hold : (Builtin.firstCells i0.size i (.slice (some ⟨g, 0, none⟩) i n)).run Try.prog w.drew = .ok (cs.take (i * 2)).toArray w.drew := by
    rw [hii.2.1]
    exact run_firstCells_some w.drew 2 i ⟨g, 0, none⟩ i n (cs.take (i * 2)) (by rw [List.length_take]; omega) (fun j v hj => by
      rw [Addr.add_lit]; simp only [World.cell?]; rw [show w.drew.heap[g]? = _ from hg]
      rw [List.getElem?_take, hcs] at hj
      split at hj
      · simpa using hj
      · cases hj)
  obtain ⟨G, hG⟩ : ∃ G, G = grownCap w (n + 1) n 112 := ⟨_, rfl⟩
  have hGn : n + 1 ≤ G := by rw [hG]; exact grownCap_ge w _ _ _
  have hG63 : G ≤ maxLen := by rw [hG]; exact grownCap_le_maxLen w (n + 1) n _ (by unfold maxLen; omega)
  have hG64 : G ≤ 9223372036854775807 := by unfold maxLen at hG63; omega
  obtain ⟨zs, hzs⟩ : ∃ zs : Array Value, zs = Builtin.zeroCells (Value.cells (.agg #[(.int .i64 0), (.int .i64 0)])) (n + 1 - i) := ⟨_, rfl⟩
  obtain ⟨zr, hzr⟩ : ∃ zr : Array Value, zr = Builtin.zeroCells (Value.cells (.agg #[(.int .i64 0), (.int .i64 0)])) (G - (n + 1)) := ⟨_, rfl⟩
  have hzl : zs.size = (n + 1 - i) * 2 := by rw [hzs, size_zeroCells]; rfl
  have hzrl : zr.size = (G - (n + 1)) * 2 := by rw [hzr, size_zeroCells]; rfl
  obtain ⟨ROW, hROW⟩ : ∃ ROW : Array Value, ROW = (cs.take (i * 2)).toArray ++ zs ++ zr := ⟨_, rfl⟩
  have hRl : ROW.size = G * 2 := by
    rw [hROW]
    simp only [Array.size_append, List.size_toArray, List.length_take, hzl, hzrl]
    omega
  have hRt : ROW.toList.take ((n + 1) * 2) = cs.take (i * 2) ++ zs.toList := by
    rw [hROW]
    simp only [Array.toList_append]
    rw [List.take_left']
    simp only [List.length_append, List.length_take, Array.length_toList, hzl]
    omega
  have hrz : ∀ ty, (Builtin.append_ #[105, 3] ty #[.slice (some ⟨g, 0, none⟩) i n, .int .i64 ((n : Int) + 1 - (i : Int))]).run Try.prog w =
      .ok (.slice (some ⟨w.heap.size, 0, none⟩) (n + 1) G) (w.drew.alloc (.cells ROW 112)) := fun ty => by
    have h := Lib.run_append_grow_zeros w 105 3 ty 112 i0 _ .i64 .i64 Try.underlying105 Try.underlying3 hi0 hii.1 (some ⟨g, 0, none⟩) i n (cs.take (i * 2)) hold (n + 1 - i) (by omega) (by rw [hii.2.1]; omega) (by omega) (by omega) (by rw [hii.2.2]; omega) (by rw [hii.2.2, show i + (n + 1 - i) = n + 1 by omega]; exact growslice_fits (by omega) (by omega))
    rw [show i + (n + 1 - i) = n + 1 by omega, ← hG, ← hzs, ← hzr, ← hROW] at h
    rw [show (n : Int) + 1 - (i : Int) = ((n + 1 - i : Nat) : Int) by omega]
    exact h
  obtain ⟨c1, hc1⟩ : ∃ c1, c1 = (ROW.toList.take (i * 2) ++ vs ++ ROW.toList.drop (i * 2 + vs.length)).toArray := ⟨_, rfl⟩
  obtain ⟨c2, hc2⟩ : ∃ c2, c2 = (c1.toList.take ((i + 1) * 2) ++ cs.drop (i * 2) ++ c1.toList.drop ((i + 1) * 2 + (cs.drop (i * 2)).length)).toArray := ⟨_, rfl⟩
  have hs1 : c1.size = G * 2 := by
    rw [hc1, List.size_toArray, put_length _ _ _ (by rw [hvl, Array.length_toList]; omega), Array.length_toList, hRl]
  have hs2 : c2.size = G * 2 := by
    rw [hc2, List.size_toArray, put_length _ _ _ (by rw [hdl, Array.length_toList]; omega), Array.length_toList, hs1]
  have ht2 : c2.toList.take ((n + 1) * 2) = cs.take (i * 2) ++ vs ++ cs.drop (i * 2) := by
    have l1 : c1.toList = ROW.toList.take (i * 2) ++ vs ++ ROW.toList.drop (i * 2 + vs.length) := by rw [hc1]
    have l2 : c2.toList = c1.toList.take ((i + 1) * 2) ++ cs.drop (i * 2) ++ c1.toList.drop ((i + 1) * 2 + (cs.drop (i * 2)).length) := by rw [hc2]
    have h1 := put_take ROW.toList vs (i * 2) ((n + 1) * 2) (by rw [hvl]; omega) (by rw [Array.length_toList]; omega)
    rw [← l1] at h1
    have h2 := put_take c1.toList (cs.drop (i * 2)) ((i + 1) * 2) ((n + 1) * 2) (by rw [hdl]; omega) (by rw [Array.length_toList]; omega)
    rw [← l2] at h2
    rw [h2, h1, hRt, show (i + 1) * 2 = i * 2 + 2 by omega]
    exact put_grow cs zs.toList vs (i * 2) (n * 2) 2 hcl (by omega) hvl (by rw [Array.length_toList, hzl]; omega)
  have hcpA : ∀ (W : World), W.heap[w.heap.size]? = some (.cells ROW 112 (0, 0)) → W.heap[vb]? = some (.cells vs.toArray tV (0, 0)) → ∀ ty dc, (Builtin.copy_ #[105, 105] ty #[.slice (some ⟨w.heap.size, i * 2, none⟩) (n + 1 - i) dc, .slice (some ⟨vb, 0, none⟩) 1 vc]).run Try.prog W = .ok (goInt (Nat.min 1 (n + 1 - i) : Nat)) (W.setRow w.heap.size c1) := fun W hW hV ty dc => by
    rw [run_copy_rowN W _ _ ty 112 2 w.heap.size (i * 2) (n + 1 - i) dc ⟨vb, 0, none⟩ 1 vc ROW _ vs Try.underlying105 hsz hW
      (by rw [hvl, show Nat.min 1 (n + 1 - i) = 1 from by simp only [Nat.min_def]; split <;> omega])
      (fun j v hj => by rw [Addr.add_lit]; simp only [World.cell?]; rw [hV]; simpa using hj) (by rw [hvl, hRl]; omega) h1v, ← hc1]
  have hcpB : ∀ (W : World), W.heap[w.heap.size]? = some (.cells c1 112 (0, 0)) → W.heap[g]? = some (.cells cur 112 (0, 0)) → ∀ ty dc sc, (Builtin.copy_ #[105, 105] ty #[.slice (some ⟨w.heap.size, (i + 1) * 2, none⟩) (n - i) dc, .slice (some ⟨g, i * 2, none⟩) (n - i) sc]).run Try.prog W = .ok (goInt (Nat.min (n - i) (n - i) : Nat)) (W.setRow w.heap.size c2) := fun W hW hV ty dc sc => by
    rw [run_copy_rowN W _ _ ty 112 2 w.heap.size ((i + 1) * 2) (n - i) dc ⟨g, i * 2, none⟩ (n - i) sc c1 _ (cs.drop (i * 2)) Try.underlying105 hsz hW
      (by rw [hdl, show Nat.min (n - i) (n - i) = n - i from by simp only [Nat.min_def]; split <;> omega])
      (fun j v hj => by
        rw [Addr.add_lit]; simp only [World.cell?]; rw [hV]
        rw [List.getElem?_drop, hcs] at hj
        simpa using hj) (by rw [hdl, hs1]; omega) (fun v hv => h1c v (by rw [← hcs]; exact List.mem_of_mem_drop hv)), ← hc2]
  have hA1 : (w.alloc (.cells ROW 112)).drew.heap[w.heap.size]? = some (.cells ROW 112 (0, 0)) := heap_alloc_new w _
  have hA2 : (w.alloc (.cells ROW 112)).drew.heap[vb]? = some (.cells vs.toArray tV (0, 0)) := (heap_alloc_old w _ hvw).trans hv
  have hA3 : (w.alloc (.cells ROW 112)).drew.heap[g]? = some (.cells cur 112 (0, 0)) := (heap_alloc_old w _ hbw).trans hg
  have hB1 : ((w.alloc (.cells ROW 112)).drew.setRow w.heap.size c1).drew.heap[w.heap.size]? = some (.cells c1 112 (0, 0)) := setRow_heap _ _ _ _ _ _ hA1
  have hB2 : ((w.alloc (.cells ROW 112)).drew.setRow w.heap.size c1).drew.heap[g]? = some (.cells cur 112 (0, 0)) := (setRow_other _ _ _ _ (by omega)).trans hA3
  have hw1 : IntKind.i64.wrap ((i : Int) + 1) = (i : Int) + 1 := by rw [IntKind.wrap_i64]; omega
  have hw2 : IntKind.i64.wrap ((n : Int) + 1) = (n : Int) + 1 := by rw [IntKind.wrap_i64]; omega
  have hw3 : IntKind.i64.wrap ((n : Int) + 1 - (i : Int)) = (n : Int) + 1 - (i : Int) := by rw [IntKind.wrap_i64]; omega
  have hb1 : (0 : Int) ≤ (i : Int) + 1 := by omega
  have hin : i ≤ n := by omega
  have htn : ((i : Int) + 1).toNat = i + 1 := by omega
  have hb3 : (i : Int) ≤ (n : Int) := by omega
  have hb4 : ¬ (n = i) := by omega
  have hGi : ¬ (G = i) := by omega
  have hGim : ¬ (G = i + 1) := by omega
  have hb6 : ((n : Int) < (n : Int) + 1) := by omega
  have HT := Aside0.mk ht2
  have HS := Aside0.mk hs2
  have HG := Aside0.mk hGn
  have HG63 := Aside0.mk hG63
  have HF := Aside0.mk (edge_grown w ROW c1 c2 112)
  rw [← hcs]
  clear hdl hc1 hc2 hs1 hs2 ht2 hsz hi0 hii hcs hcl h1c h1v hold hG hzs hzr hzl hzrl hROW hRl hRt hG63
  go_enter Try.func86, Try.ntmps86
  go_wp2_with (first
    | (at_builtin; refine Lib.wpList_append_run _ rfl _ _ _ _ rfl _ _ rfl rfl _ _ (hrz _) ?_)
    | (at_builtin; refine wpList_copy_runI _ rfl _ _ 105 105 rfl _ _ rfl rfl (hcpA _ hA1 hA2 _ _) ?_)
    | (simp only [hcpA _ hA1 hA2]))
  go_region_law_o (refine step_copy_runI rfl _ _ 105 105 rfl (.slice (some ⟨w.heap.size, (i + 1) * 2, none⟩) (n - i) (G - (i + 1))) (.slice (some ⟨g, i * 2, none⟩) (n - i) (n - i)) (by simp [Act.eval, Act.put]) (by simp [Act.eval, Act.put]) (hcpB _ hB1 hB2 _ _ _) ?_)
  go_wp2
  go_ret
  exact ⟨G, c2, rfl, HG.out, HG63.out, HF.out.1, HF.out.2, HS.out, HT.out⟩
theorem edge_flat (w : World) (base : Nat) (ok : Nat → Prop) (x : S112) (cs : List Value) : k112.M w base ok x cs ↔ cs = edge_cells x := ⟨k112_openM, fun h => h ▸ k112_mkM w base ok x⟩
theorem edge_Insert.calls (base : Nat) (v : Value) (L : List S112) (i : Nat) (x : S112) (vb vc : Nat) (tV : TypeId) (w : World) (hR : Kd.R k112 112 w base (fun _ => True) v L) (hi : i ≤ L.length) (hsm : L.length < 1099511627776) (hbase : base ≤ w.heap.size)
    (hv : w.heap[vb]? = some (.cells (edge_cells x).toArray tV (0, 0))) (hvb : some vb ≠ v.ownBlock) :
    Calls Try.prog 86 #[v, .int .i64 i, .slice (some ⟨vb, 0, none⟩) 1 vc] w fun e w' =>
      ∃ v', e = .returned v' ∧ Kd.R k112 112 w' base (fun _ => True) v' (L.take i ++ x :: L.drop i) ∧ Below base w w' ∧ w.grownBy w' v.ownBlock ∧ (v'.ownBlock = v.ownBlock ∨ ∃ b, v'.ownBlock = some b ∧ w.heap.size ≤ b) := by
  obtain ⟨_, cs, hown, hrep⟩ := hR
  have hown : w.ownsRow base 112 2 v L.length cs := hown
  have hrep : Reps (fun x c => c = edge_cells x) 2 L cs := hrep.imp_ (fun p c h => (edge_flat _ _ _ _ _).1 h)
  have hx1 : (edge_cells x).length = 2 := rfl
  have h1v : ∀ u ∈ edge_cells x, u.oneCell' = true := k112.K_one (w := w) (x := x) (k112.K_of_M (base := 0) (ok := fun _ => True) ((edge_flat w 0 _ x _).2 rfl))
  have hone : ∀ u ∈ cs, u.oneCell' = true := by
    intro u hu
    obtain ⟨j, hj, hju⟩ := List.mem_iff_getElem.1 hu
    have hl := hown.1
    have hq := hrep.2 (j / 2) (L[j / 2]'(by omega)) (List.getElem?_eq_getElem (by omega))
    have hm : u ∈ (cs.drop (j / 2 * 2)).take 2 := by
      rw [List.mem_take_iff_getElem]
      refine ⟨j % 2, by rw [List.length_drop]; omega, ?_⟩
      rw [List.getElem_drop, ← hju]
      congr 1
      omega
    rw [hq] at hm
    exact k112.K_one (w := w) (x := L[j / 2]'(by omega)) (k112.K_of_M (base := 0) (ok := fun _ => True) ((edge_flat w 0 _ _ _).2 rfl)) u hm
  have hnew : Reps (fun x c => c = edge_cells x) 2 (L.take i ++ x :: L.drop i) (cs.take (i * 2) ++ edge_cells x ++ cs.drop (i * 2)) := by
    have h1 := Kd.reps_append (Reps.snoc (p := x) (Kd.reps_take hrep hi) rfl hx1) (Kd.reps_drop (m := i) hrep)
    rw [List.append_assoc] at h1
    exact h1
  have hln : (cs.take (i * 2) ++ edge_cells x ++ cs.drop (i * 2)).length = (L.length + 1) * 2 := by
    have := hown.1
    simp only [List.length_append, List.length_take, List.length_drop, hx1]
    omega
  have hLn : (L.take i ++ x :: L.drop i).length = L.length + 1 := by
    simp only [List.length_append, List.length_take, List.length_drop, List.length_cons]
    omega
  have fin : ∀ (w' : World) (v' : Value), w'.ownsRow base 112 2 v' (L.length + 1) (cs.take (i * 2) ++ edge_cells x ++ cs.drop (i * 2)) → Kd.R k112 112 w' base (fun _ => True) v' (L.take i ++ x :: L.drop i) := fun w' v' h =>
    ⟨fun _ _ => trivial, _, by rw [hLn]; exact h, hnew.imp_ (fun p c h => (edge_flat _ _ _ _ _).2 h)⟩
  by_cases hin : i = L.length
  · subst hin
    have he : cs.take (L.length * 2) ++ edge_cells x ++ cs.drop (L.length * 2) = cs ++ edge_cells x := by
      rw [List.take_of_length_le (by have := hown.1; omega), List.drop_eq_nil_of_le (by have := hown.1; omega), List.append_nil]
    refine (edge_Insert.end_ base v L.length vb vc cs (edge_cells x) tV w hown hbase hsm hx1 hv h1v).mono ?_
    rintro e w' ⟨v', rfl, h1, h2, h3, _⟩
    refine ⟨v', rfl, fin w' v' (by rw [he]; exact h1), (Below.refl base w).grown h2 hbase (own_base hown), h2, h3⟩
  · rcases hown.2 with ⟨rfl, h0⟩ | ⟨g, cap, cur, rfl, hbg, hg, hnc, hcm, hcs, htake⟩
    · omega
    · have hvb' : vb ≠ g := fun e => hvb (by rw [e]; rfl)
      have hgs : g < w.heap.size := (Array.getElem?_eq_some_iff.1 hg).1
      have h1c : ∀ u ∈ cur.toList.take (L.length * 2), u.oneCell' = true := by rw [htake]; exact hone
      by_cases hroom : L.length + 1 ≤ cap
      · refine (edge_Insert.shift g cap L.length i vb vc cur (edge_cells x) tV w (by omega) hroom (by unfold maxLen at hcm; omega) hvb' hg hcs hx1 hv h1c h1v).mono ?_
        rintro e w' ⟨rfl, c1, c2, rfl, h2, h3⟩
        rw [htake] at h3
        have q1 : (w.drew.setRow g c1).heap[g]? = some (.cells c1 112 (0, 0)) := setRow_heap _ _ cur _ _ _ hg
        have q2 := setRow_heap (w.drew.setRow g c1) g c1 c2 _ _ q1
        refine ⟨_, rfl, fin _ _ ⟨hln, .inr ⟨g, cap, c2, rfl, hbg, q2, hroom, hcm, h2, h3⟩⟩, ⟨rfl, rfl, rfl, ?_, fun k hk => ?_⟩, ⟨rfl, rfl, rfl, ?_, fun k _ hne => ?_⟩, .inl rfl⟩
        · simp [World.setRow]
        · rw [setRow_other _ _ _ _ (by omega), setRow_other _ _ _ _ (by omega)]
          rfl
        · simp [World.setRow]
        · rw [setRow_other _ _ _ _ (fun e => hne (by rw [e]; rfl)), setRow_other _ _ _ _ (fun e => hne (by rw [e]; rfl))]
          rfl
      · have hcap : cap = L.length := by omega
        subst hcap
        have hct : cur.toList.take (L.length * 2) = cur.toList := List.take_of_length_le (by rw [Array.length_toList]; omega)
        rw [hct] at htake h1c
        refine (edge_Insert.grow g L.length i vb vc cur (edge_cells x) tV w (by omega) hsm hvb' hg hcs hx1 hv h1c h1v).mono ?_
        rintro e w' ⟨G, c2, rfl, h1, h2, h3, h4, h5, h6⟩
        rw [htake] at h6
        exact ⟨_, rfl, fin _ _ ⟨hln, .inr ⟨w.heap.size, G, c2, rfl, hbase, h4, h1, h2, h5, h6⟩⟩, h3.mono hbase, grown_of_below h3 _, .inr ⟨_, rfl, Nat.le_refl _⟩⟩
end Go.Proofs.Ytlipbiihemhieaa.Q

-- from Htow
/- trie: a trie of the call's own: its nodes' row, each node's rows. -/
namespace Go.Proofs.Ytlipbiihemhieaa.Q
open Go.RowKit Go.Proofs.YtlipbiihemhieaaW.PrintWords Go.Proofs.YtlipbiihemhieaaW.PrintLast Go.Proofs.YtlipbiihemhieaaW.PrintMore Go.Proofs.Ytlipbiihemhieaa.K
set_option linter.unusedVariables false
set_option linter.unusedSimpArgs false

/-- A node's cells: its edges' row, its ends' row; its own blocks are those that 'own' gives it. -/
def NodeP (W : World) (base : Nat) (own : Nat → Nat) (cur : Array Value) (j : Nat) (x : S107) (v3 v4 : Value) : Prop :=
  (cur[j * 5]? = some (.int .i64 x.f0) ∧ cur[j * 5 + 1]? = some (.int .i64 x.f1) ∧ cur[j * 5 + 2]? = some (.int .i64 x.f2) ∧ cur[j * 5 + 3]? = some v3 ∧ cur[j * 5 + 4]? = some v4) ∧
  Kd.R k112 112 W base (fun k => own k = j) v3 x.f3 ∧ Kd.R (Kd.int .i64) 3 W base (fun k => own k = j) v4 x.f4
structure TrieP (W : World) (base g : Nat) (own : Nat → Nat) (b c : Nat) (cur : Array Value) (N : List S107) : Prop where
  hg : W.heap[g]? = some (.cells #[.slice (some ⟨b, 0, none⟩) N.length c] 103 (0, 0))
  hb : W.heap[b]? = some (.cells cur 107 (0, 0))
  bg : base ≤ g
  bb : base ≤ b
  hn : N.length ≤ c
  hc : c ≤ maxLen
  hs : cur.size = c * 5
  el : ∀ j x, N[j]? = some x → ∃ v3 v4, NodeP W base own cur j x v3 v4
/-- A trie that the call has made. -/
def TrieO (W : World) (base g : Nat) (N : List S107) : Prop := ∃ own b c cur, TrieP W base g own b c cur N
theorem cell_at {W : World} {b i : Nat} {cur : Array Value} {t : Nat} {v : Value} (h : W.heap[b]? = some (.cells cur t (0, 0))) (hv : cur[i]? = some v) : W.cell? ⟨b, i, none⟩ = some v := by
  simp only [World.cell?]; rw [h]; exact hv
theorem add_block (b n : Nat) : (⟨b, 0, none⟩ : Addr).add n = ⟨b, n, none⟩ := by rw [Addr.add_lit]; simp
theorem NodeP.reads {W : World} {base : Nat} {own : Nat → Nat} {cur : Array Value} {j : Nat} {x : S107} {v3 v4 : Value} (h : NodeP W base own cur j x v3 v4) :
    ∃ A3 c3 A4 c4, v3 = .slice A3 x.f3.length c3 ∧ v4 = .slice A4 x.f4.length c4 ∧ x.f3.length ≤ c3 ∧ Kd.C k112 W A3 x.f3.length x.f3 ∧ x.f4.length ≤ c4 ∧ Kd.C (Kd.int .i64) W A4 x.f4.length x.f4 := by
  obtain ⟨A3, c3, e3, l3, r3⟩ := Kd.R_reads h.2.1
  obtain ⟨A4, c4, e4, l4, r4⟩ := Kd.R_reads h.2.2
  exact ⟨A3, c3, A4, c4, e3, e4, l3, r3, l4, r4⟩
/-- It may be read. -/
theorem TrieO.reads {W : World} {base g : Nat} {N : List S107} (h : TrieO W base g N) : TrieR W (some ⟨g, 0, none⟩) N := by
  obtain ⟨own, b, c, cur, h⟩ := h
  refine ⟨g, some ⟨b, 0, none⟩, c, rfl, h.hg, h.hn, rfl, by have := h.hn; have := h.hc; unfold maxLen at *; omega, fun _ => ⟨⟨b, 0, none⟩, rfl, fun j x hj => ?_⟩⟩
  obtain ⟨v3, v4, hx⟩ := h.el j x hj
  obtain ⟨A3, c3, A4, c4, rfl, rfl, l3, r3, l4, r4⟩ := hx.reads
  obtain ⟨q0, q1, q2, q3, q4⟩ := hx.1
  refine ⟨_, rfl, k107_mk W x l3 r3 l4 r4, fun i u hu => ?_⟩
  rw [add_block]
  refine cell_at h.hb ?_
  show cur[j * 5 + i]? = some u
  match i, hu with
  | 0, hu => simp at hu; subst hu; exact q0
  | 1, hu => simp at hu; subst hu; exact q1
  | 2, hu => simp at hu; subst hu; exact q2
  | 3, hu => simp at hu; subst hu; exact q3
  | 4, hu => simp at hu; subst hu; exact q4
/-- Edges have no rows of their own. -/
theorem R112_ok {W : World} {base : Nat} {ok ok' : Nat → Prop} {v : Value} {L : List S112} (h : Kd.R k112 112 W base ok v L) (hok : ∀ k, v.ownBlock = some k → ok' k) : Kd.R k112 112 W base ok' v L := by
  obtain ⟨_, inner, ho, hr⟩ := h
  exact ⟨hok, inner, ho, hr.imp_ (fun p c hp => by have := k112_openM hp; subst this; exact k112_mkM _ _ _ p)⟩
theorem R3_ok {W : World} {base : Nat} {ok ok' : Nat → Prop} {v : Value} {L : List Int} (h : Kd.R (Kd.int .i64) 3 W base ok v L) (hok : ∀ k, v.ownBlock = some k → ok' k) : Kd.R (Kd.int .i64) 3 W base ok' v L := by
  obtain ⟨_, inner, ho, hr⟩ := h
  exact ⟨hok, inner, ho, hr⟩
/-- What a new block belongs to. -/
def ownAt (own : Nat → Nat) (n j : Nat) (k : Nat) : Nat := if n ≤ k then j else own k
/-- Another node's rows stay. -/
theorem NodeP.keep {W W' : World} {base : Nat} {own own' : Nat → Nat} {cur cur' : Array Value} {j : Nat} {x : S107} {v3 v4 : Value} (h : NodeP W base own cur j x v3 v4)
    (hc : ∀ i, i < 5 → cur'[j * 5 + i]? = cur[j * 5 + i]?) (hm : ∀ k, own k = j → k < W.heap.size → (∃ q cells, (q = 112 ∨ q = 3) ∧ W.heap[k]? = some (.cells cells q (0, 0))) → W'.heap[k]? = W.heap[k]?) (ho : ∀ k, k < W.heap.size → own k = j → own' k = j) :
    NodeP W' base own' cur' j x v3 v4 := by
  obtain ⟨⟨q0, q1, q2, q3, q4⟩, h3, h4⟩ := h
  refine ⟨⟨(hc 0 (by omega)).trans q0, (hc 1 (by omega)).trans q1, (hc 2 (by omega)).trans q2, (hc 3 (by omega)).trans q3, (hc 4 (by omega)).trans q4⟩, ?_, ?_⟩
  · have hb := Kd.R_bound h3
    refine Kd.R_mono (Kd.R_move hb (fun k hk => ?_)) (fun k hk => ho k hk.2.2.1 hk.1)
    obtain ⟨h1, _, h5, q, hq, cells, hcell⟩ := hk
    refine hm k h1 h5 ⟨q, cells, ?_, hcell⟩
    have : k112.E = [] := rfl
    rw [this] at hq
    simp at hq
    exact .inl hq
  · have hb := Kd.R_bound h4
    refine Kd.R_mono (Kd.R_move hb (fun k hk => ?_)) (fun k hk => ho k hk.2.2.1 hk.1)
    obtain ⟨h1, _, h5, q, hq, cells, hcell⟩ := hk
    refine hm k h1 h5 ⟨q, cells, ?_, hcell⟩
    have : (Kd.int .i64).E = [] := rfl
    rw [this] at hq
    simp at hq
    exact .inr hq
/-- The whole stays where nothing that it has is written. -/
theorem TrieO.keep {W W' : World} {base g : Nat} {N : List S107} (h : TrieO W base g N) (hb : Below W.heap.size W W') : TrieO W' base g N := by
  obtain ⟨own, b, c, cur, h⟩ := h
  have hm : ∀ k o, W.heap[k]? = some o → W'.heap[k]? = some o := fun k o ho => (hb.block k (Array.getElem?_eq_some_iff.1 ho).1).trans ho
  refine ⟨own, b, c, cur, hm _ _ h.hg, hm _ _ h.hb, h.bg, h.bb, h.hn, h.hc, h.hs, fun j x hj => ?_⟩
  obtain ⟨v3, v4, hx⟩ := h.el j x hj
  exact ⟨v3, v4, hx.keep (fun _ _ => rfl) (fun k _ hk _ => hb.block k hk) (fun _ _ e => e)⟩
end Go.Proofs.Ytlipbiihemhieaa.Q

-- from Htow2
/- trie: a node's edges, or its ends, written; one more node. -/
namespace Go.Proofs.Ytlipbiihemhieaa.Q
open Go.RowKit Go.Proofs.YtlipbiihemhieaaW.PrintWords Go.Proofs.YtlipbiihemhieaaW.PrintLast Go.Proofs.YtlipbiihemhieaaW.PrintMore Go.Proofs.Ytlipbiihemhieaa.K
set_option linter.unusedVariables false
set_option linter.unusedSimpArgs false

theorem R_typed {α : Type} {d : Kd α} {e : Nat} {W : World} {base : Nat} {ok : Nat → Prop} {v : Value} {L : List α} (h : Kd.R d e W base ok v L) {k : Nat} (hk : v.ownBlock = some k) : ∃ cells, W.heap[k]? = some (.cells cells e (0, 0)) := by
  obtain ⟨inner, ho⟩ := Kd.R_own h
  exact own_typed ho k hk
theorem getD_set_far {cur : Array Value} {p q : Nat} {v : Value} (h : q ≠ p) : (cur.setIfInBounds p v)[q]? = cur[q]? := by
  rw [Array.getElem?_setIfInBounds]
  rw [if_neg (fun e => h e.symm)]
theorem getD_set_same {cur : Array Value} {p : Nat} {v : Value} (h : p < cur.size) : (cur.setIfInBounds p v)[p]? = some v := by
  rw [Array.getElem?_setIfInBounds, if_pos rfl, if_pos h]
theorem TrieP.edges {W W1 : World} {base g b c : Nat} {own : Nat → Nat} {cur : Array Value} {N : List S107} (h : TrieP W base g own b c cur N) {j : Nat} {x : S107} {v3 v4 : Value} (hj : N[j]? = some x) (hx : NodeP W base own cur j x v3 v4)
    {v' : Value} {E' : List S112} (hg1 : W.grownBy W1 v3.ownBlock) (hR : Kd.R k112 112 W1 base (fun _ => True) v' E') (hat : v'.ownBlock = v3.ownBlock ∨ ∃ d, v'.ownBlock = some d ∧ W.heap.size ≤ d) :
    TrieO (W1.setCell ⟨b, j * 5 + 3, none⟩ v') base g (N.set j { x with f3 := E' }) := by
  have hjl : j < N.length := (List.getElem?_eq_some_iff.1 hj).1
  have hRs := hx.2.1
  have hlt : ∀ k o, W.heap[k]? = some o → k < W.heap.size := fun k o ho => (Array.getElem?_eq_some_iff.1 ho).1
  have hgb : g ≠ b := fun e => by have h1 := h.hg; rw [e, h.hb] at h1; cases h1
  have hgn : some g ≠ v3.ownBlock := fun e => by obtain ⟨cells, hc⟩ := R_typed hRs e.symm; rw [h.hg] at hc; cases hc
  have hbn : some b ≠ v3.ownBlock := fun e => by obtain ⟨cells, hc⟩ := R_typed hRs e.symm; rw [h.hb] at hc; cases hc
  have hb1 : W1.heap[b]? = some (.cells cur 107 (0, 0)) := (hg1.block b (hlt _ _ h.hb) hbn).trans h.hb
  have hg2 : W1.heap[g]? = _ := (hg1.block g (hlt _ _ h.hg) hgn).trans h.hg
  have hp : j * 5 + 3 < cur.size := by have := h.hs; have := h.hn; omega
  have hother : ∀ k, k ≠ b → (W1.setCell ⟨b, j * 5 + 3, none⟩ v').heap[k]? = W1.heap[k]? := fun k hk => Below.heap_setCell _ _ _ k hk
  refine ⟨ownAt own W.heap.size j, b, c, cur.setIfInBounds (j * 5 + 3) v', ?_, heap_setCell_same W1 b _ cur _ v' hb1, h.bg, h.bb, by rw [List.length_set]; exact h.hn, h.hc, by rw [Array.size_setIfInBounds]; exact h.hs, fun i y hi => ?_⟩
  · rw [List.length_set, hother g hgb]; exact hg2
  · by_cases e : i = j
    · subst e
      rw [List.getElem?_set_self hjl] at hi
      obtain rfl := Option.some.inj hi
      obtain ⟨⟨q0, q1, q2, q3, q4⟩, r3, r4⟩ := hx
      have hnew : Kd.R k112 112 (W1.setCell ⟨b, i * 5 + 3, none⟩ v') base (fun k => ownAt own W.heap.size i k = i) v' E' := by
        refine R112_ok (Kd.R_mono (Kd.R_step (Kd.R_types hR hb1 (by decide)) (fun k hk _ => hother k hk.2)) (fun _ hk => hk.1)) (fun k hk => ?_)
        unfold ownAt
        split
        · rfl
        · rename_i hge
          rcases hat with ha | ⟨d, hd, hle⟩
          · exact hRs.1 k (ha ▸ hk)
          · rw [hd] at hk
            injection hk with hk
            omega
      have hold : Kd.R (Kd.int .i64) 3 (W1.setCell ⟨b, i * 5 + 3, none⟩ v') base (fun k => ownAt own W.heap.size i k = i) v4 x.f4 := by
        refine Kd.R_mono (Kd.R_move (Kd.R_bound r4) (fun k hk => ?_)) (fun k hk => ?_)
        · obtain ⟨h1, _, h5, q, hq, cells, hcell⟩ := hk
          have hqe : q = 3 := by
            have : (Kd.int .i64).E = [] := rfl
            rw [this] at hq
            simpa using hq
          subst hqe
          rw [hother k (fun e => by rw [e, h.hb] at hcell; cases hcell)]
          exact hg1.block k h5 (fun e => by obtain ⟨cells', hc⟩ := R_typed hRs e.symm; rw [hcell] at hc; cases hc)
        · have h5 := hk.2.2.1
          unfold ownAt
          rw [if_neg (by omega)]
          exact hk.1
      exact ⟨v', v4, ⟨(getD_set_far (by omega)).trans q0, (getD_set_far (by omega)).trans q1, (getD_set_far (by omega)).trans q2, getD_set_same hp, (getD_set_far (by omega)).trans q4⟩, hnew, hold⟩
    · rw [List.getElem?_set_ne (fun h => e h.symm)] at hi
      obtain ⟨u3, u4, hy⟩ := h.el i y hi
      refine ⟨u3, u4, hy.keep (fun t ht => getD_set_far (by omega)) (fun k hk hkl ht => ?_) (fun k hkl hk => by unfold ownAt; rw [if_neg (by omega)]; exact hk)⟩
      obtain ⟨q, cells, hq, hcell⟩ := ht
      rw [hother k (fun e2 => by rw [e2, h.hb] at hcell; rcases hq with rfl | rfl <;> cases hcell)]
      exact hg1.block k hkl (fun e2 => e (hk.symm.trans (hRs.1 k e2.symm)))
theorem TrieP.ends {W W1 : World} {base g b c : Nat} {own : Nat → Nat} {cur : Array Value} {N : List S107} (h : TrieP W base g own b c cur N) {j : Nat} {x : S107} {v3 v4 : Value} (hj : N[j]? = some x) (hx : NodeP W base own cur j x v3 v4)
    {v' : Value} {E' : List Int} (hg1 : W.grownBy W1 v4.ownBlock) (hR : Kd.R (Kd.int .i64) 3 W1 base (fun _ => True) v' E') (hat : v'.ownBlock = v4.ownBlock ∨ ∃ d, v'.ownBlock = some d ∧ W.heap.size ≤ d) :
    TrieO (W1.setCell ⟨b, j * 5 + 4, none⟩ v') base g (N.set j { x with f4 := E' }) := by
  have hjl : j < N.length := (List.getElem?_eq_some_iff.1 hj).1
  have hRs := hx.2.2
  have hlt : ∀ k o, W.heap[k]? = some o → k < W.heap.size := fun k o ho => (Array.getElem?_eq_some_iff.1 ho).1
  have hgb : g ≠ b := fun e => by have h1 := h.hg; rw [e, h.hb] at h1; cases h1
  have hgn : some g ≠ v4.ownBlock := fun e => by obtain ⟨cells, hc⟩ := R_typed hRs e.symm; rw [h.hg] at hc; cases hc
  have hbn : some b ≠ v4.ownBlock := fun e => by obtain ⟨cells, hc⟩ := R_typed hRs e.symm; rw [h.hb] at hc; cases hc
  have hb1 : W1.heap[b]? = some (.cells cur 107 (0, 0)) := (hg1.block b (hlt _ _ h.hb) hbn).trans h.hb
  have hg2 : W1.heap[g]? = _ := (hg1.block g (hlt _ _ h.hg) hgn).trans h.hg
  have hp : j * 5 + 4 < cur.size := by have := h.hs; have := h.hn; omega
  have hother : ∀ k, k ≠ b → (W1.setCell ⟨b, j * 5 + 4, none⟩ v').heap[k]? = W1.heap[k]? := fun k hk => Below.heap_setCell _ _ _ k hk
  refine ⟨ownAt own W.heap.size j, b, c, cur.setIfInBounds (j * 5 + 4) v', ?_, heap_setCell_same W1 b _ cur _ v' hb1, h.bg, h.bb, by rw [List.length_set]; exact h.hn, h.hc, by rw [Array.size_setIfInBounds]; exact h.hs, fun i y hi => ?_⟩
  · rw [List.length_set, hother g hgb]; exact hg2
  · by_cases e : i = j
    · subst e
      rw [List.getElem?_set_self hjl] at hi
      obtain rfl := Option.some.inj hi
      obtain ⟨⟨q0, q1, q2, q3, q4⟩, r3, r4⟩ := hx
      have hnew : Kd.R (Kd.int .i64) 3 (W1.setCell ⟨b, i * 5 + 4, none⟩ v') base (fun k => ownAt own W.heap.size i k = i) v' E' := by
        refine R3_ok (Kd.R_mono (Kd.R_step (Kd.R_types hR hb1 (by decide)) (fun k hk _ => hother k hk.2)) (fun _ hk => hk.1)) (fun k hk => ?_)
        unfold ownAt
        split
        · rfl
        · rename_i hge
          rcases hat with ha | ⟨d, hd, hle⟩
          · exact hRs.1 k (ha ▸ hk)
          · rw [hd] at hk
            injection hk with hk
            omega
      have hold : Kd.R k112 112 (W1.setCell ⟨b, i * 5 + 4, none⟩ v') base (fun k => ownAt own W.heap.size i k = i) v3 x.f3 := by
        refine Kd.R_mono (Kd.R_move (Kd.R_bound r3) (fun k hk => ?_)) (fun k hk => ?_)
        · obtain ⟨h1, _, h5, q, hq, cells, hcell⟩ := hk
          have hqe : q = 112 := by
            have : (k112).E = [] := rfl
            rw [this] at hq
            simpa using hq
          subst hqe
          rw [hother k (fun e => by rw [e, h.hb] at hcell; cases hcell)]
          exact hg1.block k h5 (fun e => by obtain ⟨cells', hc⟩ := R_typed hRs e.symm; rw [hcell] at hc; cases hc)
        · have h5 := hk.2.2.1
          unfold ownAt
          rw [if_neg (by omega)]
          exact hk.1
      exact ⟨v3, v', ⟨(getD_set_far (by omega)).trans q0, (getD_set_far (by omega)).trans q1, (getD_set_far (by omega)).trans q2, (getD_set_far (by omega)).trans q3, getD_set_same hp⟩, hold, hnew⟩
    · rw [List.getElem?_set_ne (fun h => e h.symm)] at hi
      obtain ⟨u3, u4, hy⟩ := h.el i y hi
      refine ⟨u3, u4, hy.keep (fun t ht => getD_set_far (by omega)) (fun k hk hkl ht => ?_) (fun k hkl hk => by unfold ownAt; rw [if_neg (by omega)]; exact hk)⟩
      obtain ⟨q, cells, hq, hcell⟩ := ht
      rw [hother k (fun e2 => by rw [e2, h.hb] at hcell; rcases hq with rfl | rfl <;> cases hcell)]
      exact hg1.block k hkl (fun e2 => e (hk.symm.trans (hRs.1 k e2.symm)))
/-- One more node: its row has grown; then the trie's own cell is written. -/
theorem TrieP.node {W W1 : World} {base g b c : Nat} {own : Nat → Nat} {cur : Array Value} {N : List S107} (h : TrieP W base g own b c cur N) {v' : Value} {up by_ depth : Int}
    (hg1 : W.grownBy W1 (some b)) (hown : W1.ownsRow base 107 5 v' (N.length + 1) (cur.toList.take (N.length * 5) ++ [.int .i64 up, .int .i64 by_, .int .i64 depth, .slice none 0 0, .slice none 0 0])) :
    TrieO (W1.setCell ⟨g, 0, none⟩ v') base g (N ++ [⟨up, by_, depth, [], []⟩]) := by
  have hlt : ∀ k o, W.heap[k]? = some o → k < W.heap.size := fun k o ho => (Array.getElem?_eq_some_iff.1 ho).1
  have hgb : g ≠ b := fun e => by have h1 := h.hg; rw [e, h.hb] at h1; cases h1
  have hg2 : W1.heap[g]? = some (.cells #[.slice (some ⟨b, 0, none⟩) N.length c] 103 (0, 0)) := (hg1.block g (hlt _ _ h.hg) (fun e => hgb (by injection e))).trans h.hg
  have hcl : (cur.toList.take (N.length * 5)).length = N.length * 5 := by
    have h1 := h.hs
    have h2 := h.hn
    have h3 : cur.toList.length = cur.size := Array.length_toList
    rw [List.length_take]; omega
  rcases hown.2 with ⟨_, h0⟩ | ⟨b1, c1, cur1, rfl, hb1, hh1, hn1, hc1, hs1, ht1⟩
  · omega
  · have hgb1 : g ≠ b1 := fun e => by rw [e, hh1] at hg2; cases hg2
    have hat : ∀ i, i < (N.length + 1) * 5 → cur1[i]? = (cur.toList.take (N.length * 5) ++ [.int .i64 up, .int .i64 by_, .int .i64 depth, .slice none 0 0, .slice none 0 0])[i]? := fun i hi => by
      rw [← ht1, List.getElem?_take_of_lt (by omega), Array.getElem?_toList]
    have hother : ∀ k, k ≠ g → (W1.setCell ⟨g, 0, none⟩ (.slice (some ⟨b1, 0, none⟩) (N.length + 1) c1)).heap[k]? = W1.heap[k]? := fun k hk => Below.heap_setCell _ _ _ k hk
    refine ⟨own, b1, c1, cur1, ?_, (hother b1 (fun e => hgb1 e.symm)).trans hh1, h.bg, hb1, by rw [List.length_append]; exact hn1, hc1, hs1, fun j x hj => ?_⟩
    · have := heap_setCell_same W1 g 0 _ _ (.slice (some ⟨b1, 0, none⟩) (N.length + 1) c1) hg2
      rw [List.length_append]
      exact this
    · by_cases hjl : j < N.length
      · rw [List.getElem?_append_left hjl] at hj
        obtain ⟨v3, v4, hx⟩ := h.el j x hj
        refine ⟨v3, v4, hx.keep (fun i hi => ?_) (fun k hk hkl ht => ?_) (fun _ _ e => e)⟩
        · rw [hat _ (by omega), List.getElem?_append_left (by rw [hcl]; omega), List.getElem?_take_of_lt (by omega), Array.getElem?_toList]
        · obtain ⟨q, cells, hq, hcell⟩ := ht
          rw [hother k (fun e2 => by rw [e2, h.hg] at hcell; rcases hq with rfl | rfl <;> cases hcell)]
          exact hg1.block k hkl (fun e2 => by injection e2 with e2; rw [e2, h.hb] at hcell; rcases hq with rfl | rfl <;> cases hcell)
      · have hje : j = N.length := by have := (List.getElem?_eq_some_iff.1 hj).1; simp at this; omega
        subst hje
        rw [List.getElem?_append_right (Nat.le_refl _), Nat.sub_self] at hj
        obtain rfl := (Option.some.inj hj).symm
        have hr : ∀ i, i < 5 → cur1[N.length * 5 + i]? = [Value.int .i64 up, .int .i64 by_, .int .i64 depth, .slice none 0 0, .slice none 0 0][i]? := fun i hi => by
          rw [hat _ (by omega), List.getElem?_append_right (by rw [hcl]; omega), hcl]
          congr 1; omega
        exact ⟨.slice none 0 0, .slice none 0 0, ⟨hr 0 (by omega), hr 1 (by omega), hr 2 (by omega), hr 3 (by omega), hr 4 (by omega)⟩, Kd.R_nil _ _ _ _ _, Kd.R_nil _ _ _ _ _⟩
end Go.Proofs.Ytlipbiihemhieaa.Q

-- from Htad
/- trie: add. -/
namespace Go.Proofs.Ytlipbiihemhieaa.Q
open Go.RowKit Go.Proofs.YtlipbiihemhieaaW.PrintWords Go.Proofs.YtlipbiihemhieaaW.PrintLast Go.Proofs.YtlipbiihemhieaaW.PrintMore Go.Proofs.Ytlipbiihemhieaa.K
set_option linter.unusedVariables false
set_option linter.unusedSimpArgs false

/-- One number of a pattern. -/
def addStep (k : Nat) (N : List S107) (at_ : Nat) (c : Int) : Option (List S107 × Nat) :=
  match N[at_]? with
  | none => none
  | some x => (trie_place.f k x.f3 c).bind fun r =>
      if r.2 = true then (if 0 ≤ r.1 ∧ r.1 < (x.f3.length : Int) ∧ 0 ≤ (rd_T112 x.f3 r.1).f1 then some (N, (rd_T112 x.f3 r.1).f1.toNat) else none)
      else (if 0 ≤ r.1 ∧ r.1 ≤ (x.f3.length : Int) then some ((N ++ [(⟨at_, c, x.f2 + 1, [], []⟩ : S107)]).set at_ { x with f3 := x.f3.take r.1.toNat ++ ⟨c, N.length⟩ :: x.f3.drop r.1.toNat }, N.length) else none)
def addGo (k : Nat) : List S107 → Nat → List Int → Option (List S107 × Nat)
  | N, at_, [] => some (N, at_)
  | N, at_, c :: r => (addStep k N at_ c).bind fun q => addGo k q.1 q.2 r
theorem addGo_snoc (k : Nat) (c : Int) : ∀ (l : List Int) (N : List S107) (a : Nat), addGo k N a (l ++ [c]) = (addGo k N a l).bind fun q => addStep k q.1 q.2 c
  | [], N, a => by
    simp only [List.nil_append, addGo, Option.bind_some]
    cases addStep k N a c <;> rfl
  | d :: l, N, a => by
    simp only [List.cons_append, addGo]
    cases h : addStep k N a d with
    | none => rfl
    | some q => simp only [Option.bind_some]; exact addGo_snoc k c l q.1 q.2
theorem info_i64 : (Try.prog.info? 3).map (fun i => (i.zero, i.size, i.bytes)) = some (some (.int .i64 0), 1, 8) := by kernel_rfl
theorem info_node : (Try.prog.info? 107).map (fun i => (i.zero, i.size, i.bytes)) = some (some (.agg #[.int .i64 0, .int .i64 0, .int .i64 0, .slice none 0 0, .slice none 0 0]), 5, 72) := by kernel_rfl
theorem TrieP.keepP {W W' : World} {base g b c : Nat} {own : Nat → Nat} {cur : Array Value} {N : List S107} (h : TrieP W base g own b c cur N) (hb : Below W.heap.size W W') : TrieP W' base g own b c cur N := by
  have hm : ∀ k o, W.heap[k]? = some o → W'.heap[k]? = some o := fun k o ho => (hb.block k (Array.getElem?_eq_some_iff.1 ho).1).trans ho
  refine ⟨hm _ _ h.hg, hm _ _ h.hb, h.bg, h.bb, h.hn, h.hc, h.hs, fun j x hj => ?_⟩
  obtain ⟨v3, v4, hx⟩ := h.el j x hj
  exact ⟨v3, v4, hx.keep (fun _ _ => rfl) (fun k _ hk _ => hb.block k hk) (fun _ _ e => e)⟩
section
variable {P : Program} {ops : Array Oper} {o : Oper} {a : Act} {Q : Exit → Act → World → Prop} {K : Act → World → Prop} {E : Prop} {ys : List Value}
theorem step_append_any {w0 W W' : World} (base : Nat) (hgd : o.guard = none) (s x : Operand) (t e : TypeId) (z : Value) (size bytes : Nat) (hW : W' = W.alloc (.cells ys.toArray e))
    (ho : o.op = .call { callee := .builtin .append, args := #[s, x], argTypes := #[t, t] })
    (ht : P.underlying t = some (.slice e)) (hinfo : (P.info? e).map (fun i => (i.zero, i.size, i.bytes)) = some (some z, size, bytes)) (hz : z.cells.size = size) (hs0 : 0 < size) (hb0 : 0 < bytes)
    (v : Value) (n : Nat) (xs : List Value) (hs : a.eval s = v) (hx : a.eval x = .slice (some ⟨W.heap.size, 0, none⟩) 1 1) (hys : ys.length = size) (h1 : ∀ u ∈ ys, u.oneCell' = true)
    (HO : W.ownsRow base e size v n xs) (HB : Below base w0 W) (hbase : base ≤ W.heap.size) (hl : (n + 1) * bytes ≤ 140737488355328)
    (h : ∀ v1 w1, w1.ownsRow base e size v1 (n + 1) (xs ++ ys) → Below base w0 w1 → W.grownBy w1 v.ownBlock → (v1.ownBlock = v.ownBlock ∨ ∃ b, v1.ownBlock = some b ∧ W.heap.size ≤ b) → K (a.put o.dst v1) w1) :
    if Region.wanted o (yielded ops a.tmps) = true then Oper.wp P o a W' K Q else E := by
  have hw : Region.wanted o (yielded ops a.tmps) = true := by simp [Region.wanted, hgd]
  have := step_append_cells (P := P) (ops := ops) (Q := Q) (K := K) base hw s x t e z size bytes ho ht hinfo hz hs0 hb0 v n xs ys hs hx hys h1 HO HB hbase hl h
  rw [if_pos hw] at this ⊢
  rw [hW]
  exact this
end
theorem TrieP.gne {W : World} {base g b c : Nat} {own : Nat → Nat} {cur : Array Value} {N : List S107} (h : TrieP W base g own b c cur N) : some g ≠ (Value.slice (some ⟨b, 0, none⟩) N.length c).ownBlock := fun e => by
  have : g = b := by simpa [Value.ownBlock] using e
  have h1 := h.hg
  rw [this, h.hb] at h1
  cases h1
theorem grown_undrew {w w1 : World} {row : Option Nat} (h : w.drew.grownBy w1 row) : w.grownBy w1 row := ⟨h.os, h.tape, h.output, h.size, h.block⟩
theorem cellKeep {W W1 : World} {row : Option Nat} {g : Nat} {v : Value} (hg : W.grownBy W1 row) (hne : some g ≠ row) (hc : W.cell? ⟨g, 0, none⟩ = some v) : W1.cell? ⟨g, 0, none⟩ = some v := by
  have hlt := World.block_lt_of_cell? W _ hc
  rw [← hc]
  simp only [World.cell?]
  rw [hg.block g hlt hne]
theorem TrieP.owns {W : World} {base g b c : Nat} {own : Nat → Nat} {cur : Array Value} {N : List S107} (h : TrieP W base g own b c cur N) : W.ownsRow base 107 5 (.slice (some ⟨b, 0, none⟩) N.length c) N.length (cur.toList.take (N.length * 5)) :=
  ⟨by have h1 := h.hs; have h2 := h.hn; have h3 : cur.toList.length = cur.size := Array.length_toList; rw [List.length_take]; omega, .inr ⟨b, c, cur, rfl, h.bb, h.hb, h.hn, h.hc, h.hs, rfl⟩⟩
/-- Small enough: fewer nodes than this, and whatever they have. -/
def TrieS (N : List S107) (m : Nat) : Prop := N.length ≤ m ∧ ∀ x ∈ N, x.f3.length ≤ m ∧ x.f4.length ≤ m ∧ -1 ≤ x.f2 ∧ x.f2 ≤ m
theorem getEq {α : Type} {l : List α} {i : Nat} {x : α} (h : l[i]? = some x) : i < l.length := (List.getElem?_eq_some_iff.1 h).1
set_option maxHeartbeats 4000000 in
set_option maxRecDepth 100000 in
theorem trie_add.calls (k : Nat) (g : Nat) (i : Int) (A : Option Addr) (ca : Nat) (pat : List Int) (N N2 : List S107) (at2 : Nat) (x2 : S107) (w0 w : World) (hpl : pat.length ≤ 100000) (hP : Kd.C (Kd.int .i64) w0 A pat.length pat) (hb : Below w0.heap.size w0 w) (hT : TrieO w w0.heap.size g N)
    (h : addGo k N 0 pat = some (N2, at2)) (hx2 : N2[at2]? = some x2) (hsm : ∀ j N' a', j ≤ pat.length → addGo k N 0 (pat.take j) = some (N', a') → TrieS N' 100000) :
    Calls Try.prog 70 #[.pointer (some ⟨g, 0, none⟩), .int .i64 i, .slice A pat.length ca] w fun e w' => e = .returned (.tuple #[]) ∧ TrieO w' w0.heap.size g (N2.set at2 { x2 with f4 := x2.f4 ++ [i] }) ∧ Below w0.heap.size w0 w' := by
  have HP := Aside0.mk hP
  have HB := Aside0.mk hb
  have HT := Aside0.mk hT
  have H := Aside0.mk h
  have HX2 := Aside0.mk hx2
  have HSM := Aside0.mk hsm
  have HPLEN := Aside0.mk hpl
  clear hpl hP hb hT h hx2 hsm
  go_enter Try.func70, Try.ntmps70
  go_wp2
  go_loopg [6, 14] (pat.length + 1) (fun kq v6 v14 wr => ∃ (j a : Nat) (M : List S107), v14 = .int .i64 (j : Int) ∧ v6 = .int .i64 (a : Int) ∧ Aside0 (j + kq = pat.length + 1 ∧ j ≤ pat.length) ∧ Aside0 (addGo k N 0 (pat.take j) = some (M, a) ∧ addGo k M a (pat.drop j) = some (N2, at2)) ∧ Aside0 (TrieO wr w0.heap.size g M) ∧ Aside0 (Below w0.heap.size w0 wr))
  case atStart => exact ⟨0, 0, N, rfl, rfl, ⟨by omega, by omega⟩, ⟨rfl, H.out⟩, HT, HB⟩
  case round =>
    obtain ⟨j, a, M, rfl, rfl, HI, HG, HO, HBL⟩ := hrel
    cases gk with
    | zero => exact absurd HI.out (by omega)
    | succ kq =>
      by_cases c1 : (j : Int) < (pat.length : Int)
      · have hjl : j < pat.length := by omega
        obtain ⟨ch, hch⟩ : ∃ ch, ch = rd pat (j : Int) := ⟨_, rfl⟩
        have hg2 := HG.out.2
        rw [drop_cons pat j hjl, ← hch] at hg2
        obtain ⟨⟨M1, a1⟩, hst, hgo⟩ := Option.bind_eq_some_iff.mp (show (addStep k M a ch).bind (fun q => addGo k q.1 q.2 (pat.drop (j + 1))) = some (N2, at2) from hg2)
        have HGO := Aside0.mk hgo
        have HST := Aside0.mk hst
        have hsm := HSM.out j M a (by omega) HG.out.1
        obtain ⟨own, b, c, cur, hTP⟩ := HO.out
        unfold addStep at hst
        cases hMa : M[a]? with
        | none => rw [hMa] at hst; cases hst
        | some x =>
          rw [hMa] at hst
          obtain ⟨⟨r1, r2⟩, hpl, hst⟩ := Option.bind_eq_some_iff.mp hst
          obtain ⟨v3, v4, hx⟩ := hTP.el a x hMa
          obtain ⟨A3, c3, A4, c4, rfl, rfl, l3, rd3, l4, rd4⟩ := hx.reads
          obtain ⟨q0, q1, q2, q3, q4⟩ := hx.1
          have hcg : wr.cell? ⟨g, 0, none⟩ = some (.slice (some ⟨b, 0, none⟩) M.length c) := by simp only [World.cell?]; rw [hTP.hg]; rfl
          have hy2 := cell_at hTP.hb q2
          have hy3 := cell_at hTP.hb q3
          have hy4 := cell_at hTP.hb q4
          have hal : a < M.length := getEq hMa
          have hpc := Kd.reads_of_C (d := (0 : Int)) (Kd.C_below HP.out HBL.out)
          obtain ⟨pad, rfl, hpcell⟩ := hpc.2.2 (by omega)
          have hp : wr.cell? (pad.add j) = some (.int .i64 ch) := by rw [hpcell j hjl, hch]; rfl
          have e0 := eq_true c1
          have e1 : decide ((j : Int) < (pat.length : Int)) = true := decide_eq_true c1
          have b0 : 0 ≤ (j : Int) := by omega
          have b1 : (j : Int) < (pat.length : Int) := c1
          have b2 : 0 ≤ (a : Int) := by omega
          have b4 : (j : Int) ≤ 100000 := by have := HPLEN.out; omega
          have b5 : -1 ≤ x.f2 ∧ x.f2 ≤ 100000 := (hsm.2 x (List.mem_of_getElem? hMa)).2.2
          have b6 := b5.1
          have b7 := b5.2
          clear b5
          have b3 : ((a : Int) < (M.length : Int)) = True := eq_true (by omega)
          have HPL := Aside0.mk hpl
          have HTP := Aside0.mk hTP
          have HNX := Aside0.mk hx
          have HMA := Aside0.mk hMa
          have HAL := Aside0.mk hal
          have HJL := Aside0.mk hjl
          have HR3 := Aside0.mk rd3
          have HL3 := Aside0.mk l3
          have HSMM := Aside0.mk hsm
          have HST2 := Aside0.mk hst
          have HCH := Aside0.mk hch
          clear hpl hTP hx hMa hal hjl rd3 l3 rd4 l4 hsm hst hch hpc hpcell hg2 hgo q0 q1 q2 q3 q4 c1 b1
          have hsnoc : addGo k N 0 (pat.take (j + 1)) = some (M1, a1) := by
            rw [take_snoc pat j HJL.out, addGo_snoc, HG.out.1, ← HCH.out]
            exact HST.out
          have HSN := Aside0.mk hsnoc
          clear hsnoc
          cases r2 with
          | true =>
            have hst := HST2.out
            rw [if_pos rfl] at hst
            by_cases c2 : 0 ≤ r1 ∧ r1 < (x.f3.length : Int) ∧ 0 ≤ (rd_T112 x.f3 r1).f1
            · rw [if_pos c2] at hst
              obtain ⟨rfl, rfl⟩ := Prod.mk.inj (Option.some.inj hst)
              obtain ⟨ead, rfl, hw0, hw1⟩ := at_T112 HR3.out r1 c2.1 c2.2.1
              obtain ⟨tq, hto⟩ : ∃ tq : Nat, (rd_T112 x.f3 r1).f1 = (tq : Int) := Int.eq_ofNat_of_zero_le c2.2.2
              rw [hto] at hw1
              have HTO := Aside0.mk hto
              have e2 := eq_true c2.1
              have e3 := eq_true c2.2.1
              have d2 : decide (0 ≤ r1) = true := decide_eq_true c2.1
              clear hst HST2 c2 hto
              go_wp2_with (go_at_call 74; refine (trie_place.calls k ⟨b, a * 5, none⟩ (some ead) c3 x.f3 ch r1 true _ hy3 (by rw [Addr.add_lit]) HL3.out HR3.out HPL.out).mono ?_; rintro e w2 ⟨rfl, hb2⟩; have HB2 := Aside0.mk hb2; have hcg2 := (hb2.cell (World.block_lt_of_cell? wr _ hcg)).trans hcg; have hz2 := (hb2.cell (World.block_lt_of_cell? wr _ hy2)).trans hy2; have hz3 := (hb2.cell (World.block_lt_of_cell? wr _ hy3)).trans hy3; have hv1 := (hb2.cell (World.block_lt_of_cell? wr _ hw1)).trans hw1; clear hb2)
              go_roundg kq
              case measure => omega
              case rel =>
                have hi := HI.out
                have hjl := HJL.out
                refine ⟨j + 1, tq, M, by first | rfl | go_num, rfl, ⟨?_, ?_⟩, ⟨?_, ?_⟩, ⟨HO.out.keep HB2.out⟩, ⟨HBL.out.trans (HB2.out.mono HBL.out.size)⟩⟩
                · omega
                · omega
                · have := HSN.out; rw [HTO.out, Int.toNat_natCast] at this; exact this
                · have := HGO.out; rw [HTO.out, Int.toNat_natCast] at this; exact this
            · rw [if_neg c2] at hst; cases hst
          | false =>
            go_wp2_with (go_at_call 74; refine (trie_place.calls k ⟨b, a * 5, none⟩ A3 c3 x.f3 ch r1 false _ hy3 (by rw [Addr.add_lit]) HL3.out HR3.out HPL.out).mono ?_; rintro e w2 ⟨rfl, hb2⟩; have HB2 := Aside0.mk hb2; have hcg2 := (hb2.cell (World.block_lt_of_cell? wr _ hcg)).trans hcg; have hz2 := (hb2.cell (World.block_lt_of_cell? wr _ hy2)).trans hy2; have hz3 := (hb2.cell (World.block_lt_of_cell? wr _ hy3)).trans hy3; clear hb2)
            obtain ⟨i0, hi0, hii⟩ := Option.map_eq_some_iff.1 info_node
            have HTP2 : Aside0 (TrieP w2 w0.heap.size g own b c cur M) := ⟨HTP.out.keepP HB2.out⟩
            have HOW2 := Aside0.mk (HTP2.out.owns)
            have HBL2 : Aside0 (Below w0.heap.size w0 w2) := ⟨HBL.out.trans (HB2.out.mono HBL.out.size)⟩
            have HBD := Aside0.mk (below_drew1 HBL2.out)
            have hd12 : IntKind.i64.wrap (x.f2 + 1) = x.f2 + 1 := Go.IntWalk.i64_in _ (by omega)
            have HOD : Aside0 (w2.drew.ownsRow w0.heap.size 107 5 (.slice (some ⟨b, 0, none⟩) M.length c) M.length (cur.toList.take (M.length * 5))) := ⟨HOW2.out⟩
            have hcga : ∀ o, (w2.alloc o).cell? ⟨g, 0, none⟩ = some (.slice (some ⟨b, 0, none⟩) M.length c) := fun o => (World.cell?_alloc_lt _ _ _ (World.block_lt_of_cell? w2 _ hcg2)).trans hcg2
            have HN1 : ∃ N1, N1 = M ++ [(⟨(a : Int), ch, x.f2 + 1, [], []⟩ : S107)] := ⟨_, rfl⟩
            obtain ⟨N1, hN1⟩ := HN1
            have HN1 := Aside0.mk hN1
            clear hN1
            go_cut [] (fun wx => Aside0 (TrieO wx w0.heap.size g N1) ∧ Aside0 (Below w0.heap.size w0 wx))
            case first =>
                go_region_law (first
                                      | (refine step_append_any (W := w2.drew) (ys := [.int .i64 (a : Int), .int .i64 ch, .int .i64 (x.f2 + 1), .slice none 0 0, .slice none 0 0]) w0.heap.size ?hw (.tmp 51) (.tmp 64) 101 107 (.agg #[.int .i64 0, .int .i64 0, .int .i64 0, .slice none 0 0, .slice none 0 0]) 5 72 ?hW ?hop Try.underlying101 info_node rfl (by decide) (by decide) (.slice (some ⟨b, 0, none⟩) M.length c) M.length (cur.toList.take (M.length * 5)) ?hs ?hx rfl ?ho HOD.out HBD.out ?hb ?hl ?_
                                         (case hw => rfl)
                                         (case hW => rfl)
                                         (case hop => rfl)
                                         (case hs => rfl)
                                         (case hx => rfl)
                                         (case ho => intro u hu; simp at hu; rcases hu with rfl | rfl | rfl | rfl | rfl <;> rfl)
                                         (case hb => exact HBD.out.size)
                                         (case hl => have := HSMM.out.1; omega)
                                         intro v1 w3 hown1 hb1 hg1 hat1
                                         have HO3 := Aside0.mk hown1
                                         have HB3 := Aside0.mk hb1
                                         have HG3 := Aside0.mk hg1
                                         have hgb3 : w3.heap[g]? = some (.cells #[.slice (some ⟨b, 0, none⟩) M.length c] 103 (0, 0)) := ((hg1.block g (Array.getElem?_eq_some_iff.1 HTP2.out.hg).1 (HTP2.out.gne)).trans HTP2.out.hg)
                                         have hcg3 : w3.cell? ⟨g, 0, none⟩ = some (.slice (some ⟨b, 0, none⟩) M.length c) := (by simp only [World.cell?]; rw [hgb3]; rfl)
                                         have hfg3 : w3.frozen? ⟨g, 0, none⟩ = false := (by simp only [World.frozen?]; rw [hgb3]; rfl)
                                         obtain ⟨A7, c7, rfl⟩ := own_slice hown1
                                         clear hown1 hb1 hg1 hat1 hgb3))
                all_goals (go_wp2_with fail; go_meet; exact ⟨⟨by rw [HN1.out]; exact HTP2.out.node (grown_undrew HG3.out) HO3.out⟩, ⟨HB3.out.setCell (p := ⟨g, 0, none⟩) HTP2.out.bg _⟩⟩)
            case rest =>
                obtain ⟨HO4, HB4⟩ := hcut
                obtain ⟨own4, b4, c4', cur4, hTP4⟩ := HO4.out
                have hN1a : N1[a]? = some x := by rw [HN1.out, List.getElem?_append_left HAL.out]; exact HMA.out
                obtain ⟨u3, u4, hx4⟩ := hTP4.el a x hN1a
                obtain ⟨D3, m3, D4, m4, rfl, rfl, k3, rk3, k4, rk4⟩ := hx4.reads
                obtain ⟨z0, z1, z2, z3, z4⟩ := hx4.1
                have hcg4 : wc.cell? ⟨g, 0, none⟩ = some (.slice (some ⟨b4, 0, none⟩) N1.length c4') := by simp only [World.cell?]; rw [hTP4.hg]; rfl
                have hy43 := cell_at hTP4.hb z3
                have hcg4a : ∀ o, (wc.alloc o).cell? ⟨g, 0, none⟩ = some (.slice (some ⟨b4, 0, none⟩) N1.length c4') := fun o => (World.cell?_alloc_lt _ _ _ (World.block_lt_of_cell? wc _ hcg4)).trans hcg4
                have hy43a : ∀ o, (wc.alloc o).cell? ⟨b4, a * 5 + 3, none⟩ = some (.slice D3 x.f3.length m3) := fun o => (World.cell?_alloc_lt _ _ _ (World.block_lt_of_cell? wc _ hy43)).trans hy43
                have b8 : ((a : Int) < (N1.length : Int)) = True := eq_true (by rw [HN1.out, List.length_append]; have := HAL.out; simp; omega)
                have hst := HST2.out
                rw [if_neg (by decide)] at hst
                by_cases c2 : 0 ≤ r1 ∧ r1 ≤ (x.f3.length : Int)
                · rw [if_pos c2] at hst
                  obtain ⟨hM1, ha1⟩ := Prod.mk.inj (Option.some.inj hst)
                  obtain ⟨kk, hkk⟩ := Int.eq_ofNat_of_zero_le c2.1
                  subst hkk
                  have HKK : Aside0 (kk ≤ x.f3.length) := ⟨by omega⟩
                  have HM1 := Aside0.mk hM1
                  have HA1 := Aside0.mk ha1
                  have HTP4 := Aside0.mk hTP4
                  have HX4 := Aside0.mk hx4
                  have HN1A := Aside0.mk hN1a
                  have hnewv : ∀ o, (wc.alloc o).drew.heap[wc.heap.size]? = some o := fun o => heap_alloc_new wc o
                  have HNV := Aside0.mk hnewv
                  obtain ⟨E2, hE2⟩ : ∃ E2, E2 = x.f3.take kk ++ (⟨ch, M.length⟩ : S112) :: x.f3.drop kk := ⟨_, rfl⟩
                  have HE2 := Aside0.mk hE2
                  have HM3 : Aside0 (M1 = N1.set a { x with f3 := E2 }) := ⟨by rw [← hM1, HN1.out, hE2]; rfl⟩
                  clear hE2
                  clear hst HST2 c2 hM1 ha1 hTP4 hx4 hN1a z0 z1 z2 z3 z4 rk3 rk4 k3 k4 hnewv HTP2 HOW2 HBL2 HBD HOD hcga hcg2 hz2 hz3 hi0 hii
                  go_upto_region 9 with fail
                  go_cut [] (fun wx => Aside0 (TrieO wx w0.heap.size g M1) ∧ Aside0 (Below w0.heap.size w0 wx))
                  case first =>
                    go_region_law (first
                      | (go_simp
                         go_at_call 86
                         refine (edge_Insert.calls w0.heap.size (.slice D3 x.f3.length m3) x.f3 kk ⟨ch, M.length⟩ wc.heap.size 1 112 _ ?hR ?hi ?hsm ?hbase ?hv ?hvb).mono ?_
                         (case hR => exact Kd.R_drew (Kd.R_below (Kd.R_mono HX4.out.2.1 (fun _ _ => trivial)) ((Below.refl _ wc).alloc (Nat.le_refl _) _)))
                         (case hi => exact HKK.out)
                         (case hsm => have := (HSMM.out.2 x (List.mem_of_getElem? HMA.out)).1; omega)
                         (case hbase => have := HB4.out.size; simp; omega)
                         (case hv => exact HNV.out _)
                         (case hvb => exact fun e => by have := own_lt (Kd.R_own HX4.out.2.1).choose_spec _ e.symm; omega)
                         rintro e w5 ⟨v5, rfl, hR5, hb5, hg5, hat5⟩
                         rw [← HE2.out] at hR5
                         have hgw : wc.grownBy w5 (Value.slice D3 x.f3.length m3).ownBlock := World.grownBy.trans (World.grownBy_alloc wc _ _) (grown_undrew hg5)
                         have HGW := Aside0.mk hgw
                         have HR5 := Aside0.mk hR5
                         have HB5 := Aside0.mk hb5
                         have HAT5 := Aside0.mk hat5
                         have hb45 : w5.heap[b4]? = some (.cells cur4 107 (0, 0)) := (hgw.block b4 (Array.getElem?_eq_some_iff.1 HTP4.out.hb).1 (Kd.R_ne HX4.out.2.1 HTP4.out.hb (by decide))).trans HTP4.out.hb
                         have hy5 : w5.cell? ⟨b4, a * 5 + 3, none⟩ = some (.slice D3 x.f3.length m3) := cell_at hb45 HX4.out.1.2.2.2.1
                         have hf5 : w5.frozen? ⟨b4, a * 5 + 3, none⟩ = false := (by simp only [World.frozen?]; rw [hb45]; rfl)
                         have hcg5 : w5.cell? ⟨g, 0, none⟩ = some (.slice (some ⟨b4, 0, none⟩) N1.length c4') := cellKeep hgw (Kd.R_ne HX4.out.2.1 HTP4.out.hg (by decide)) hcg4
                         obtain ⟨A5, c5, rfl⟩ := Kd.R_slice hR5
                         clear hgw hR5 hb5 hg5 hat5 hb45))
                    all_goals (go_wp2_with fail; go_meet; exact ⟨⟨by rw [HM3.out]; exact HTP4.out.edges HN1A.out HX4.out HGW.out HR5.out (by rcases HAT5.out with h | ⟨d, h1, h2⟩ <;> first | exact .inl h | exact .inr ⟨d, h1, by simp at h2; omega⟩)⟩, ⟨(((HB4.out.alloc HB4.out.size _).drew).trans HB5.out).setCell (p := ⟨b4, a * 5 + 3, none⟩) HTP4.out.bb _⟩⟩)
                  case rest =>
                    obtain ⟨HO6, HB6⟩ := hcut
                    go_wp2
                    go_roundg kq
                    case measure => omega
                    case rel =>
                      have hi := HI.out
                      have hjl := HJL.out
                      refine ⟨j + 1, M.length, M1, by first | rfl | go_num, rfl, ⟨?_, ?_⟩, ⟨?_, ?_⟩, HO6, HB6⟩
                      · omega
                      · omega
                      · have := HSN.out; rw [← HA1.out] at this; exact this
                      · have := HGO.out; rw [← HA1.out] at this; exact this
                · rw [if_neg c2] at hst; cases hst
      · have hjl : j = pat.length := by have := HI.out; omega
        have hg1 := HG.out.2
        rw [hjl, List.drop_length] at hg1
        obtain ⟨rfl, rfl⟩ := Prod.mk.inj (Option.some.inj (show some (M, a) = some (N2, at2) from hg1))
        obtain ⟨own, b, c, cur, hTP⟩ := HO.out
        obtain ⟨v3, v4, hx⟩ := hTP.el a x2 HX2.out
        obtain ⟨A3, c3, A4, c4, rfl, rfl, l3, rd3, l4, rd4⟩ := hx.reads
        obtain ⟨q0, q1, q2, q3, q4⟩ := hx.1
        have hcg : wr.cell? ⟨g, 0, none⟩ = some (.slice (some ⟨b, 0, none⟩) M.length c) := by simp only [World.cell?]; rw [hTP.hg]; rfl
        have hy4 := cell_at hTP.hb q4
        have hal : a < M.length := getEq HX2.out
        have hcga : ∀ o, (wr.alloc o).cell? ⟨g, 0, none⟩ = some (.slice (some ⟨b, 0, none⟩) M.length c) := fun o => (World.cell?_alloc_lt _ _ _ (World.block_lt_of_cell? wr _ hcg)).trans hcg
        have hy4a : ∀ o, (wr.alloc o).cell? ⟨b, a * 5 + 4, none⟩ = some (.slice A4 x2.f4.length c4) := fun o => (World.cell?_alloc_lt _ _ _ (World.block_lt_of_cell? wr _ hy4)).trans hy4
        have hsm : x2.f4.length ≤ 100000 := ((HSM.out j M a (by omega) HG.out.1).2 x2 (List.mem_of_getElem? HX2.out)).2.1
        have HSM4 := Aside0.mk hsm
        have e0 := eq_false c1
        have e1 : decide ((j : Int) < (pat.length : Int)) = false := decide_eq_false c1
        have b2 : 0 ≤ (a : Int) := by omega
        have b3 : ((a : Int) < (M.length : Int)) = True := eq_true (by omega)
        have HTP := Aside0.mk hTP
        have HXX := Aside0.mk hx
        have HOWD : Aside0 (wr.drew.ownsRow w0.heap.size 3 1 (.slice A4 x2.f4.length c4) x2.f4.length (encs (Value.int .i64) x2.f4)) := ⟨Kd.own_of_R hx.2.2⟩
        have HBD := Aside0.mk (below_drew1 HBL.out)
        clear hjl hg1 hTP hx l3 rd3 l4 rd4 q0 q1 q2 q3 q4 hal hsm c1
        go_wp2
        go_region_law (first
          | (refine step_append_any (W := wr.drew) (ys := [.int .i64 i]) w0.heap.size ?hw (.tmp 103) (.tmp 105) 22 3 (.int .i64 0) 1 8 ?hW ?hop Try.underlying22 info_i64 rfl (by decide) (by decide) (.slice A4 x2.f4.length c4) x2.f4.length (encs (Value.int .i64) x2.f4) ?hs ?hx rfl ?ho HOWD.out HBD.out ?hb ?hl ?_
             (case hw => rfl)
             (case hW => rfl)
             (case hop => rfl)
             (case hs => rfl)
             (case hx => rfl)
             (case ho => intro u hu; simp at hu; subst hu; rfl)
             (case hb => exact HBD.out.size)
             (case hl => have := HSM4.out; omega)
             intro v1 w3 hown1 hb1 hg1 hat1
             have hgu : wr.grownBy w3 (Value.slice A4 x2.f4.length c4).ownBlock := grown_undrew hg1
             have HO3 := Aside0.mk hown1
             have HB3 := Aside0.mk hb1
             have HG3 := Aside0.mk hgu
             have HAT3 := Aside0.mk hat1
             have hb43 : w3.heap[b]? = some (.cells cur 107 (0, 0)) := (hgu.block b (Array.getElem?_eq_some_iff.1 HTP.out.hb).1 (Kd.R_ne HXX.out.2.2 HTP.out.hb (by decide))).trans HTP.out.hb
             have hy3 : w3.cell? ⟨b, a * 5 + 4, none⟩ = some (.slice A4 x2.f4.length c4) := cell_at hb43 HXX.out.1.2.2.2.2
             have hf3 : w3.frozen? ⟨b, a * 5 + 4, none⟩ = false := (by simp only [World.frozen?]; rw [hb43]; rfl)
             have hcg3 : w3.cell? ⟨g, 0, none⟩ = some (.slice (some ⟨b, 0, none⟩) M.length c) := cellKeep hgu (Kd.R_ne HXX.out.2.2 HTP.out.hg (by decide)) hcg
             obtain ⟨A7, c7, rfl⟩ := own_slice hown1
             clear hown1 hb1 hg1 hat1 hgu hb43))
        all_goals (go_end0; exact ⟨rfl, HTP.out.ends HX2.out HXX.out HG3.out (Kd.R_of_own (by have := HO3.out; rw [List.length_append]; simpa [encs] using this) (fun _ _ => trivial)) (by rcases HAT3.out with h | ⟨d, h1, h2⟩ <;> first | exact .inl h | exact .inr ⟨d, h1, h2⟩), HB3.out.setCell (p := ⟨b, a*5+4, none⟩) HTP.out.bb _⟩)
end Go.Proofs.Ytlipbiihemhieaa.Q

-- from Htnw
/- trie: New's search for an empty pattern. -/
namespace Go.Proofs.Ytlipbiihemhieaa.Q
open Go.RowKit Go.Proofs.YtlipbiihemhieaaW.PrintWords Go.Proofs.YtlipbiihemhieaaW.PrintLast Go.Proofs.YtlipbiihemhieaaW.PrintMore Go.Proofs.Ytlipbiihemhieaa.K
set_option linter.unusedVariables false
set_option linter.unusedSimpArgs false

theorem trie_New_1.calls (A : Option Addr) (ca : Nat) (p : List Int) (w : World) (hp : Kd.C (Kd.int .i64) w A p.length p) (hc : p.length ≤ ca) :
    Calls Try.prog 69 #[.slice A p.length ca] w fun e w' => e = .returned (.bool (decide (p.length = 0))) ∧ Drawn0 w w' := by
  by_cases c : p.length = 0
  · have c1 : ((p.length : Int) == 0) = true := beq_iff_eq.mpr (by omega)
    have d : decide (p.length = 0) = true := decide_eq_true c
    rw [d]
    have D := Aside0.mk d
    have C := Aside0.mk c
    clear d c
    go_enter Try.func69, Try.ntmps69
    go_wp2
    go_ret
    exact ⟨by first | rfl | (simp [*]; done), by repeat (first | exact Drawn0.refl _ | apply Drawn0.step)⟩
  · have c1 : ((p.length : Int) == 0) = false := beq_eq_false_iff_ne.mpr (by omega)
    have d : decide (p.length = 0) = false := decide_eq_false c
    rw [d]
    have D := Aside0.mk d
    have C := Aside0.mk c
    clear d c
    go_enter Try.func69, Try.ntmps69
    go_wp2
    go_ret
    exact ⟨by first | rfl | (simp [*]; done), by repeat (first | exact Drawn0.refl _ | apply Drawn0.step)⟩
/-- Where the first empty one is; -1: there is none. -/
def idxE : Nat → List (List Int) → Int
  | _, [] => -1
  | i, p :: r => if p.length = 0 then (i : Int) else idxE (i + 1) r
theorem idxE_t {i : Nat} {p : List Int} {r : List (List Int)} (h : p.length = 0) : idxE i (p :: r) = i := by unfold idxE; rw [if_pos h]
theorem idxE_f {i : Nat} {p : List Int} {r : List (List Int)} (h : ¬ p.length = 0) : idxE i (p :: r) = idxE (i + 1) r := by show (if p.length = 0 then (i : Int) else idxE (i + 1) r) = _; rw [if_neg h]
theorem drop_L1 (l : List (List Int)) (i : Nat) (h : i < l.length) : l.drop i = rd_L1 l (i : Int) :: l.drop (i + 1) := by
  have : rd_L1 l (i : Int) = l[i] := by show l.getD (i : Int).toNat [] = l[i]; rw [Int.toNat_natCast, List.getD_eq_getElem?_getD, List.getElem?_eq_getElem h]; rfl
  rw [this, List.drop_eq_getElem_cons h]
theorem trie_Index.calls (A : Option Addr) (ca : Nat) (P : List (List Int)) (w : World) (hp : Kd.C (Kd.slice 3 (Kd.int .i64)) w A P.length P) (hc : P.length ≤ ca) (hs : P.length ≤ 1000000) :
    Calls Try.prog 85 #[.slice A P.length ca, .func (.func 69) #[] #[]] w fun e w' => e = .returned (.int .i64 (idxE 0 P)) ∧ Drawn0 w w' := by
  have HP := Aside0.mk hp
  have HC := Aside0.mk hc
  have HS := Aside0.mk hs
  clear hp hc hs
  go_enter Try.func85, Try.ntmps85
  go_wp2
  go_loopg [8] (P.length + 1) (fun kq v8 wr => ∃ (j : Nat), v8 = .int .i64 (j : Int) ∧ Aside0 (j + kq = P.length + 1 ∧ j ≤ P.length) ∧ Aside0 (idxE j (P.drop j) = idxE 0 P) ∧ Drawn0 w wr)
  case atStart => exact ⟨0, rfl, ⟨by omega, by omega⟩, ⟨rfl⟩, by repeat (first | exact Drawn0.refl _ | apply Drawn0.step)⟩
  case round =>
    obtain ⟨j, rfl, HI, HG, ⟨m1, rfl⟩⟩ := hrel
    cases gk with
    | zero => exact absurd HI.out (by omega)
    | succ kq =>
      by_cases c1 : (j : Int) < (P.length : Int)
      · have hjl : j < P.length := by omega
        have hg := HG.out
        rw [drop_L1 P j hjl] at hg
        have b0 : 0 ≤ (j : Int) := by omega
        have hs := HS.out
        obtain ⟨ad, A1, n1, e1, hx, hl1, hi1⟩ := at_L1 HP.out (j : Int) b0 c1
        cases e1
        rw [Int.toNat_natCast] at hx
        have b4 : (j : Int) ≤ 1000000 := by omega
        have HJ : Aside0 (j < P.length) := ⟨hjl⟩
        have HR1 := Aside0.mk hi1
        have HC1 := Aside0.mk hl1
        have HGG := Aside0.mk hg
        have HS2 := Aside0.mk hs
        have e0 := eq_true c1
        have e1 : decide ((j : Int) < (P.length : Int)) = true := decide_eq_true c1
        clear hjl hi1 hl1 hg hs c1
        by_cases c2 : (rd_L1 P (j : Int)).length = 0
        · have d2 : decide ((rd_L1 P (j : Int)).length = 0) = true := decide_eq_true c2
          have D2 := Aside0.mk d2
          have C2 := Aside0.mk c2
          clear d2 c2
          go_wp2_with (go_at_call 69; (with_reducible refine (trie_New_1.calls _ _ _ _ (Kd.C_drewN HR1.out _) HC1.out).mono ?_); rintro e w2 ⟨rfl, ⟨m2, rfl⟩⟩; rw [D2.out])
          go_ret
          exact ⟨by rw [← HGG.out, idxE_t C2.out]; rfl, by repeat (first | exact Drawn0.refl _ | apply Drawn0.step)⟩
        · have d2 : decide ((rd_L1 P (j : Int)).length = 0) = false := decide_eq_false c2
          have D2 := Aside0.mk d2
          have C2 := Aside0.mk c2
          clear d2 c2
          go_wp2_with (go_at_call 69; (with_reducible refine (trie_New_1.calls _ _ _ _ (Kd.C_drewN HR1.out _) HC1.out).mono ?_); rintro e w2 ⟨rfl, ⟨m2, rfl⟩⟩; rw [D2.out])
          go_roundg kq
          case measure => omega
          case rel => exact ⟨j + 1, by first | rfl | go_num, ⟨by have := HI.out; omega, HJ.out⟩, ⟨by rw [← HGG.out, idxE_f C2.out]⟩, by repeat (first | exact Drawn0.refl _ | apply Drawn0.step)⟩
      · have hjl : j = P.length := by have := HI.out; omega
        have e0 := eq_false c1
        have e1 : decide ((j : Int) < (P.length : Int)) = false := decide_eq_false c1
        have hg := HG.out
        rw [hjl, List.drop_length] at hg
        have HGG := Aside0.mk hg
        clear hjl hg c1
        go_wp2
        go_ret
        exact ⟨by rw [← HGG.out]; rfl, by repeat (first | exact Drawn0.refl _ | apply Drawn0.step)⟩
theorem idxE_none : ∀ (P : List (List Int)) (i : Nat), (∀ p ∈ P, p ≠ []) → idxE i P = -1
  | [], _, _ => rfl
  | p :: r, i, h => by
    rw [idxE_f (fun e => h p (by simp) (List.length_eq_zero_iff.1 e))]
    exact idxE_none r (i + 1) (fun q hq => h q (by simp [hq]))
theorem idxE_some : ∀ (P : List (List Int)) (i : Nat), [] ∈ P → 0 ≤ idxE i P
  | p :: r, i, h => by
    by_cases c : p.length = 0
    · rw [idxE_t c]; omega
    · rw [idxE_f c]
      refine idxE_some r (i + 1) ?_
      rcases List.mem_cons.1 h with rfl | h
      · exact absurd rfl c
      · exact h
theorem trie_Contains.calls (A : Option Addr) (ca : Nat) (P : List (List Int)) (w : World) (hp : Kd.C (Kd.slice 3 (Kd.int .i64)) w A P.length P) (hc : P.length ≤ ca) (hs : P.length ≤ 1000000) (b : Bool) (hb : b = decide (idxE 0 P ≥ 0)) :
    Calls Try.prog 68 #[.slice A P.length ca, .func (.func 69) #[] #[]] w fun e w' => e = .returned (.bool b) ∧ Drawn0 w w' := by
  have HP := Aside0.mk hp
  have HC := Aside0.mk hc
  have HS := Aside0.mk hs
  have HB := Aside0.mk hb
  clear hp hc hs hb
  go_enter Try.func68, Try.ntmps68
  go_wp2_with (go_at_call 85; (with_reducible refine (trie_Index.calls _ _ P _ HP.out HC.out HS.out).mono ?_); rintro e w2 ⟨rfl, ⟨m2, rfl⟩⟩)
  go_ret
  exact ⟨by rw [HB.out]; rfl, by repeat (first | exact Drawn0.refl _ | apply Drawn0.step)⟩
end Go.Proofs.Ytlipbiihemhieaa.Q

-- from Htne
/- trie: New. -/
namespace Go.Proofs.Ytlipbiihemhieaa.Q
open Go.RowKit Go.Proofs.YtlipbiihemhieaaW.PrintWords Go.Proofs.YtlipbiihemhieaaW.PrintLast Go.Proofs.YtlipbiihemhieaaW.PrintMore Go.Proofs.Ytlipbiihemhieaa.K
set_option linter.unusedVariables false
set_option linter.unusedSimpArgs false

/-- One pattern, and what it ends. -/
def addOne (k : Nat) (N : List S107) (i : Nat) (p : List Int) : Option (List S107) :=
  (addGo k N 0 p).bind fun q => match q.1[q.2]? with
    | none => none
    | some x => some (q.1.set q.2 { x with f4 := x.f4 ++ [(i : Int)] })
def addAll (k : Nat) : List S107 → Nat → List (List Int) → Option (List S107)
  | N, _, [] => some N
  | N, i, p :: r => (addOne k N i p).bind fun N1 => addAll k N1 (i + 1) r
def root0 : List S107 := [⟨0, 0, 0, [], []⟩]
theorem addAll_snoc (k : Nat) (p : List Int) : ∀ (l : List (List Int)) (N : List S107) (i : Nat), addAll k N i (l ++ [p]) = (addAll k N i l).bind fun N1 => addOne k N1 (i + l.length) p
  | [], N, i => by
    simp only [List.nil_append, addAll, Option.bind_some, List.length_nil, Nat.add_zero]
    cases addOne k N i p <;> rfl
  | q :: l, N, i => by
    simp only [List.cons_append, addAll]
    cases h : addOne k N i q with
    | none => rfl
    | some N1 =>
      simp only [Option.bind_some]
      rw [addAll_snoc k p l N1 (i + 1)]
      simp only [List.length_cons]
      rw [show i + 1 + l.length = i + (l.length + 1) by omega]
theorem take_L1 (l : List (List Int)) (i : Nat) (h : i < l.length) : l.take (i + 1) = l.take i ++ [rd_L1 l (i : Int)] := by
  have : rd_L1 l (i : Int) = l[i] := by show l.getD (i : Int).toNat [] = l[i]; rw [Int.toNat_natCast, List.getD_eq_getElem?_getD, List.getElem?_eq_getElem h]; rfl
  rw [this, List.take_succ_eq_append_getElem h]
/-- All states on the way are small. -/
def AllS (k : Nat) (P : List (List Int)) : Prop := ∀ i N1, i < P.length → addAll k root0 0 (P.take i) = some N1 → ∀ j N2 a, j ≤ (rd_L1 P (i : Int)).length → addGo k N1 0 ((rd_L1 P (i : Int)).take j) = some (N2, a) → TrieS N2 100000
/-- The first trie. -/
theorem trie_first {W : World} {base g b : Nat} (hg : W.heap[g]? = some (.cells #[.slice (some ⟨b, 0, none⟩) 1 1] 103 (0, 0))) (hb : W.heap[b]? = some (.cells #[.int .i64 0, .int .i64 0, .int .i64 0, .slice none 0 0, .slice none 0 0] 107 (0, 0))) (h1 : base ≤ g) (h2 : base ≤ b) : TrieO W base g root0 := by
  refine ⟨fun _ => 0, b, 1, _, hg, hb, h1, h2, Nat.le_refl _, by decide, rfl, fun j x hj => ?_⟩
  have hj0 : j = 0 := by have := (List.getElem?_eq_some_iff.1 hj).1; simp [root0] at this; omega
  subst hj0
  obtain rfl := (Option.some.inj hj).symm
  exact ⟨.slice none 0 0, .slice none 0 0, ⟨rfl, rfl, rfl, rfl, rfl⟩, Kd.R_nil _ _ _ _ _, Kd.R_nil _ _ _ _ _⟩
theorem trie_made (w : World) (n : Nat) : TrieO (((w.drewN n).alloc (.cells #[.int .i64 0, .int .i64 0, .int .i64 0, .slice none 0 0, .slice none 0 0] 107)).alloc (.cells #[.slice (some ⟨w.heap.size, 0, none⟩) 1 1] 103)) w.heap.size (w.heap.size + 1) root0 ∧
    Below w.heap.size w (((w.drewN n).alloc (.cells #[.int .i64 0, .int .i64 0, .int .i64 0, .slice none 0 0, .slice none 0 0] 107)).alloc (.cells #[.slice (some ⟨w.heap.size, 0, none⟩) 1 1] 103)) := by
  have hb : Below w.heap.size w (w.drewN n) := by repeat (first | exact Below.refl _ _ | apply pw_below_drewN | apply below_drew1)
  have hs : (w.drewN n).heap.size = w.heap.size := rfl
  obtain ⟨W1, hW1⟩ : ∃ W1, W1 = (w.drewN n).alloc (.cells #[.int .i64 0, .int .i64 0, .int .i64 0, .slice none 0 0, .slice none 0 0] 107) := ⟨_, rfl⟩
  have h1 : W1.heap.size = w.heap.size + 1 := by rw [hW1, ← hs]; simp [World.alloc]
  have h2 : W1.heap[w.heap.size]? = some (.cells #[.int .i64 0, .int .i64 0, .int .i64 0, .slice none 0 0, .slice none 0 0] 107 (0, 0)) := by rw [hW1, ← hs]; exact heap_alloc_new _ _
  have h3 : Below w.heap.size w W1 := by rw [hW1]; exact hb.alloc (Nat.le_refl _) _
  rw [← hW1]
  refine ⟨trie_first (b := w.heap.size) (by rw [← h1]; exact heap_alloc_new _ _) ?_ (by omega) (Nat.le_refl _), h3.alloc (by omega) _⟩
  rw [← h2]
  exact heap_alloc_old _ _ (by omega)
set_option maxHeartbeats 4000000 in
set_option maxRecDepth 100000 in
theorem trie_New.calls (k : Nat) (A : Option Addr) (ca : Nat) (P : List (List Int)) (w : World) (hp : Kd.C (Kd.slice 3 (Kd.int .i64)) w A P.length P) (hc : P.length ≤ ca) (hs : P.length ≤ 1000) (hps : ∀ i : Nat, (rd_L1 P (i : Int)).length ≤ 1000)
    (b : Bool) (hb : b = decide (idxE 0 P ≥ 0)) (N : List S107) (hN : b = false → addAll k root0 0 P = some N ∧ AllS k P) :
    Calls Try.prog 44 #[.slice A P.length ca] w fun e w' => Below w.heap.size w w' ∧ ((b = true ∧ e = .returned (.tuple #[.pointer none, .int .i64 37])) ∨ (b = false ∧ ∃ g, e = .returned (.tuple #[.pointer (some ⟨g, 0, none⟩), .int .i64 0]) ∧ TrieO w' w.heap.size g N)) := by
  have HP := Aside0.mk hp
  have HC := Aside0.mk hc
  have HS := Aside0.mk hs
  have HPS := Aside0.mk hps
  have HBB := Aside0.mk hb
  have HN := Aside0.mk hN
  clear hp hc hs hps hb hN
  go_enter Try.func44, Try.ntmps44
  go_wp2
  go_loopg [4, 12] (P.length + 1) (fun kq v4 v12 wr => ∃ (j S : Nat), v12 = .int .i64 (j : Int) ∧ v4 = .int .i64 (S : Int) ∧ Aside0 (j + kq = P.length + 1 ∧ j ≤ P.length) ∧ Aside0 (S ≤ 1000 * j) ∧ Drawn0 w wr)
  case atStart => exact ⟨0, 0, rfl, rfl, ⟨by omega, by omega⟩, ⟨by omega⟩, by repeat (first | exact Drawn0.refl _ | apply Drawn0.step)⟩
  case round =>
    obtain ⟨j, S, rfl, rfl, HI, HSU, ⟨m1, rfl⟩⟩ := hrel
    cases gk with
    | zero => exact absurd HI.out (by omega)
    | succ kq =>
      by_cases c1 : (j : Int) < (P.length : Int)
      · have hjl : j < P.length := by omega
        have b0 : 0 ≤ (j : Int) := by omega
        obtain ⟨ad, A1, n1, e1, hx, hl1, hi1⟩ := at_L1 HP.out (j : Int) b0 c1
        cases e1
        rw [Int.toNat_natCast] at hx
        have hpj := HPS.out j
        obtain ⟨L, hL⟩ : ∃ L, L = (rd_L1 P (j : Int)).length := ⟨_, rfl⟩
        rw [← hL] at hx hpj
        have b4 : (j : Int) ≤ 1000000 := by have := HS.out; omega
        have hd : IntKind.i64.wrap ((S : Int) + (L : Int)) = ((S + L : Nat) : Int) := by
          have h1 := HSU.out
          have h2 := HS.out
          rw [Go.IntWalk.i64_in _ (by omega)]; omega
        have HJ : Aside0 (j < P.length) := ⟨hjl⟩
        have HPJ := Aside0.mk hpj
        have e0 := eq_true c1
        have e1 : decide ((j : Int) < (P.length : Int)) = true := decide_eq_true c1
        clear hjl hi1 hl1 c1 hL hpj
        go_wp2
        go_roundg kq
        case measure => omega
        case rel => exact ⟨j + 1, S + L, by first | rfl | go_num, by first | rfl | (rw [← hd]; rfl), ⟨by have := HI.out; omega, HJ.out⟩, ⟨by have := HSU.out; have := HPJ.out; omega⟩, by repeat (first | exact Drawn0.refl _ | apply Drawn0.step)⟩
      · have e0 := eq_false c1
        have e1 : decide ((j : Int) < (P.length : Int)) = false := decide_eq_false c1
        have hsu : S ≤ 1000000 := by have := HSU.out; have := HS.out; have := HI.out; omega
        have f1 : decide ((P.length : Int) > 65536) = false := decide_eq_false (by have := HS.out; omega)
        have f2 : decide ((S : Int) > 1000000) = false := decide_eq_false (by omega)
        have f3 : ((P.length : Int) > 65536) = False := eq_false (by have := HS.out; omega)
        have f4 : ((S : Int) > 1000000) = False := eq_false (by omega)
        have f5 : decide ((65536 : Int) < (P.length : Int)) = false := decide_eq_false (by have := HS.out; omega)
        have f6 : decide ((1000000 : Int) < (S : Int)) = false := decide_eq_false (by omega)
        clear hsu c1
        cases b with
        | true =>
          go_wp2_with (go_at_call 68; (with_reducible refine (trie_Contains.calls _ _ P _ (Kd.C_drewN HP.out _) HC.out ?hs1 true HBB.out).mono ?_); (case hs1 => have := HS.out; omega); rintro e w2 ⟨rfl, ⟨m2, rfl⟩⟩)
          go_ret2
          exact ⟨by repeat (first | exact Below.refl _ _ | apply pw_below_drewN | apply below_drew1), rfl⟩
        | false =>
          obtain ⟨hN1, hN2⟩ := HN.out rfl
          have HN1 := Aside0.mk hN1
          have HN2 := Aside0.mk hN2
          clear hN1 hN2 HN
          have hmk : ∀ w, (Instr.makeSlice 101 (.int .i64 1) (.int .i64 1)).run Try.prog w = .ok (.slice (some ⟨w.heap.size, 0, none⟩) 1 1) (w.alloc (.cells #[.int .i64 0, .int .i64 0, .int .i64 0, .slice none 0 0, .slice none 0 0] 107)) := fun _ => by kernel_rfl
          go_wp2_with (go_at_call 68; (with_reducible refine (trie_Contains.calls _ _ P _ (Kd.C_drewN HP.out _) HC.out ?hs1 false HBB.out).mono ?_); (case hs1 => have := HS.out; omega); rintro e w2 ⟨rfl, ⟨m2, rfl⟩⟩)
          clear hmk
          go_loopg [37] (P.length + 1) (fun kq v37 wr => ∃ (i : Nat) (M : List S107), v37 = .int .i64 (i : Int) ∧ Aside0 (i + kq = P.length + 1 ∧ i ≤ P.length) ∧ Aside0 (addAll k root0 0 (P.take i) = some M ∧ addAll k M i (P.drop i) = some N) ∧ Aside0 (TrieO wr w.heap.size (w.heap.size + 1) M) ∧ Aside0 (Below w.heap.size w wr))
          case atStart => exact ⟨0, root0, rfl, ⟨by omega, by omega⟩, ⟨rfl, HN1.out⟩, ⟨(trie_made w (m1 + m2)).1⟩, ⟨(trie_made w (m1 + m2)).2⟩⟩
          case round =>
            obtain ⟨i, M, rfl, HI2, HG2, HO2, HB2⟩ := hrel
            cases gk with
            | zero => exact absurd HI2.out (by omega)
            | succ kq2 =>
              by_cases c1 : (i : Int) < (P.length : Int)
              · have hil : i < P.length := by omega
                have b0 : 0 ≤ (i : Int) := by omega
                obtain ⟨ad, A1, n1, e1, hx, hl1, hi1⟩ := at_L1 HP.out (i : Int) b0 c1
                cases e1
                rw [Int.toNat_natCast] at hx
                replace hx := (HB2.out.cell (World.block_lt_of_cell? w _ hx)).trans hx
                have hg := HG2.out.2
                rw [drop_L1 P i hil] at hg
                obtain ⟨M1, hone, hall⟩ := Option.bind_eq_some_iff.mp (show (addOne k M i (rd_L1 P (i : Int))).bind (fun N1 => addAll k N1 (i + 1) (P.drop (i + 1))) = some N from hg)
                have hone0 := hone
                unfold addOne at hone
                obtain ⟨⟨N2, at2⟩, hgo, hone⟩ := Option.bind_eq_some_iff.mp hone
                have hone : (match N2[at2]? with | none => none | some x => some (N2.set at2 { x with f4 := x.f4 ++ [(i : Int)] })) = some M1 := hone
                cases hx2 : N2[at2]? with
                | none => rw [hx2] at hone; cases hone
                | some x2 =>
                  rw [hx2] at hone
                  obtain rfl := Option.some.inj hone
                  have hsm : ∀ j N' a', j ≤ (rd_L1 P (i : Int)).length → addGo k M 0 ((rd_L1 P (i : Int)).take j) = some (N', a') → TrieS N' 100000 := fun j N' a' hj h => HN2.out i M hil HG2.out.1 j N' a' hj h
                  have hpj := HPS.out i
                  obtain ⟨pat, hpat⟩ : ∃ pat, pat = rd_L1 P (i : Int) := ⟨_, rfl⟩
                  have hsnoc : addAll k root0 0 (P.take (i + 1)) = some (N2.set at2 { x2 with f4 := x2.f4 ++ [(i : Int)] }) := by
                    rw [take_L1 P i hil, addAll_snoc, HG2.out.1, List.length_take, Nat.min_eq_left (by omega), Nat.zero_add]
                    exact hone0
                  rw [← hpat] at hx hl1 hi1 hgo hsm hpj
                  have b4 : (i : Int) ≤ 1000000 := by have := HS.out; omega
                  have HIL := Aside0.mk hil
                  have HSN := Aside0.mk hsnoc
                  have HALL := Aside0.mk hall
                  have HGO := Aside0.mk hgo
                  have HX2 := Aside0.mk hx2
                  have HSM := Aside0.mk hsm
                  have HPJ := Aside0.mk hpj
                  have HI1 := Aside0.mk hi1
                  have e0 := eq_true c1
                  have e1 : decide ((i : Int) < (P.length : Int)) = true := decide_eq_true c1
                  clear hil hi1 hl1 c1 hpat hpj hsnoc hall hgo hx2 hsm hg hone hone0
                  go_wp2_with (go_at_call 70; (with_reducible refine (trie_add.calls k (w.heap.size + 1) (i : Int) A1 n1 pat M N2 at2 x2 w _ ?hq1 HI1.out HB2.out HO2.out HGO.out HX2.out HSM.out).mono ?_); (case hq1 => have := HPJ.out; omega); rintro e w5 ⟨rfl, hT5, hb5⟩; have HT5 := Aside0.mk hT5; have HB5 := Aside0.mk hb5; clear hT5 hb5)
                  go_roundg kq2
                  case measure => omega
                  case rel => exact ⟨i + 1, _, by first | rfl | go_num, ⟨by have := HI2.out; omega, HIL.out⟩, ⟨HSN.out, HALL.out⟩, HT5, HB5⟩
              · have hil : i = P.length := by have := HI2.out; omega
                have hg := HG2.out.2
                rw [hil, List.drop_length] at hg
                obtain rfl := Option.some.inj (show some M = some N from hg)
                have e0 := eq_false c1
                have e1 : decide ((i : Int) < (P.length : Int)) = false := decide_eq_false c1
                clear hil hg c1
                go_wp2
                go_ret2
                exact ⟨HB2.out, _, rfl, HO2.out⟩
end Go.Proofs.Ytlipbiihemhieaa.Q

-- from Ptri2
/- Layer 22 on lists: the nodes and their texts. -/
namespace Go.Proofs.Ytlipbiihemhieaa.K
set_option linter.unusedVariables false
set_option linter.unusedSimpArgs false
open Go.RowKit Go.Proofs.YtlipbiihemhieaaW.PrintWords Go.Proofs.YtlipbiihemhieaaW.PrintMore Go.Proofs.Ytlipbiihemhieaa.Q

/-- What a node is, with its text. -/
structure Nd (T : List (List Int)) (j : Nat) (x : S107) (s : List Int) : Prop where
  tx : T[j]? = some s
  dep : x.f2 = (s.length : Int)
  rise : Rise x.f3
  out : ∀ e ∈ x.f3, ∃ tq : Nat, e.f1 = (tq : Int) ∧ T[tq]? = some (s ++ [e.f0])
  all : ∀ (tq : Nat) (c : Int), T[tq]? = some (s ++ [c]) → ∃ e ∈ x.f3, e.f0 = c ∧ e.f1 = (tq : Int)
  up : s ≠ [] → ∃ (u : Nat) (s0 : List Int), x.f0 = (u : Int) ∧ u < j ∧ T[u]? = some s0 ∧ s = s0 ++ [x.f1]
  few : x.f3.length ≤ T.length
  low : s.length ≤ T.length
structure Tr (N : List S107) (T : List (List Int)) : Prop where
  len : N.length = T.length
  nd : T.Nodup
  root : T[0]? = some []
  at_ : ∀ j x, N[j]? = some x → ∃ s, Nd T j x s
def stepT (T : List (List Int)) (s : List Int) : List (List Int) := if s ∈ T then T else T ++ [s]
theorem uniq_at {T : List (List Int)} (h : T.Nodup) {i j : Nat} {s : List Int} (hi : T[i]? = some s) (hj : T[j]? = some s) : i = j := by
  obtain ⟨h1, e1⟩ := List.getElem?_eq_some_iff.1 hi
  obtain ⟨h2, e2⟩ := List.getElem?_eq_some_iff.1 hj
  have := List.pairwise_iff_getElem.1 h
  rcases Nat.lt_trichotomy i j with c | c | c
  · exact absurd (e1.trans e2.symm) (this i j h1 h2 c)
  · exact c
  · exact absurd (e2.trans e1.symm) (this j i h2 h1 c)
theorem eHas_t {L : List S112} {c : Int} (h : eHas L c = true) : ∃ hp : ePos L c < L.length, L[ePos L c].f0 = c := by
  unfold eHas at h
  split at h
  · rename_i hp; exact ⟨hp, of_decide_eq_true h⟩
  · cases h
theorem eHas_f {L : List S112} (hL : Rise L) {c : Int} (h : eHas L c = false) : ∀ e ∈ L, e.f0 ≠ c := by
  intro e he ec
  obtain ⟨i, hi, rfl⟩ := List.mem_iff_getElem.1 he
  have hge : ePos L c ≤ i := by
    apply Classical.byContradiction
    intro hn
    have := ePos_before (L := L) (c := c) (i := i) (by omega)
    omega
  have hp : ePos L c < L.length := by omega
  have h1 := ePos_at hp
  have h2 := hL.last hge hi
  unfold eHas at h
  rw [dif_pos hp] at h
  have := of_decide_eq_false h
  omega
theorem rise_ins {L : List S112} (hL : Rise L) {c t : Int} (h : eHas L c = false) : Rise (L.take (ePos L c) ++ ⟨c, t⟩ :: L.drop (ePos L c)) := by
  have hne := eHas_f hL h
  have hle := ePos_le L c
  refine List.pairwise_append.2 ⟨hL.sublist (List.take_sublist _ _), List.pairwise_cons.2 ⟨fun e he => ?_, hL.sublist (List.drop_sublist _ _)⟩, fun a ha b hb => ?_⟩
  · obtain ⟨i, hi, rfl⟩ := List.mem_iff_getElem.1 he
    rw [List.getElem_drop]
    have hi2 : ePos L c + i < L.length := by rw [List.length_drop] at hi; omega
    have h1 := ePos_at (L := L) (c := c) (by omega)
    have h2 := hL.last (i := ePos L c) (j := ePos L c + i) (by omega) hi2
    have h3 := hne _ (List.getElem_mem hi2)
    show c < L[ePos L c + i].f0
    omega
  · obtain ⟨i, hi, rfl⟩ := List.mem_iff_getElem.1 ha
    rw [List.length_take] at hi
    rw [List.getElem_take]
    have h1 := ePos_before (L := L) (c := c) (i := i) (by omega)
    rcases List.mem_cons.1 hb with rfl | hb
    · exact h1
    · obtain ⟨m, hm, rfl⟩ := List.mem_iff_getElem.1 hb
      rw [List.getElem_drop]
      have hi2 : ePos L c + m < L.length := by rw [List.length_drop] at hm; omega
      have h2 := ePos_at (L := L) (c := c) (by omega)
      have h3 := hL.last (i := ePos L c) (j := ePos L c + m) (by omega) hi2
      omega
theorem tr_root : Tr root0 [[]] := by
  refine ⟨rfl, by simp, rfl, fun j x hj => ?_⟩
  have hj0 : j = 0 := by have := (List.getElem?_eq_some_iff.1 hj).1; simp [root0] at this; omega
  subst hj0
  obtain rfl := (Option.some.inj hj).symm
  refine ⟨[], rfl, rfl, List.Pairwise.nil, (fun e he => by cases he), fun tq c h => ?_, fun h => absurd rfl h, by simp, by simp⟩
  have := (List.getElem?_eq_some_iff.1 h)
  obtain ⟨h1, h2⟩ := this
  have : tq = 0 := by simp at h1; omega
  subst this
  simp at h2
/-- A step that finds its edge. -/
theorem step_old {N : List S107} {T : List (List Int)} (h : Tr N T) {a : Nat} {x : S107} {s : List Int} (hx : Nd T a x s) {c : Int} (hc : eHas x.f3 c = true) : s ++ [c] ∈ T ∧ ∃ tq : Nat, (rd_T112 x.f3 (ePos x.f3 c : Int)).f1 = (tq : Int) ∧ T[tq]? = some (s ++ [c]) := by
  obtain ⟨hp, he⟩ := eHas_t hc
  obtain ⟨tq, h1, h2⟩ := hx.out _ (List.getElem_mem hp)
  rw [he] at h2
  refine ⟨List.mem_of_getElem? h2, tq, ?_, h2⟩
  rw [rd112 _ hp]; exact h1
/-- A step that makes a node. -/
theorem step_new {N : List S107} {T : List (List Int)} (h : Tr N T) {a : Nat} {x : S107} {s : List Int} (ha : N[a]? = some x) (hx : Nd T a x s) {c : Int} (hc : eHas x.f3 c = false) : s ++ [c] ∉ T ∧
    Tr ((N ++ [(⟨a, c, x.f2 + 1, [], []⟩ : S107)]).set a { x with f3 := x.f3.take (ePos x.f3 c) ++ ⟨c, N.length⟩ :: x.f3.drop (ePos x.f3 c) }) (T ++ [s ++ [c]]) := by
  have hne := eHas_f hx.rise hc
  have hal : a < N.length := (List.getElem?_eq_some_iff.1 ha).1
  have hle := ePos_le x.f3 c
  have hnew : s ++ [c] ∉ T := fun hm => by
    obtain ⟨tq, hto⟩ := List.mem_iff_getElem?.1 hm
    obtain ⟨e, he, h1, _⟩ := hx.all tq c hto
    exact hne e he h1
  have hl := h.len
  have hold : ∀ {i : Nat} {q : List Int}, T[i]? = some q → (T ++ [s ++ [c]])[i]? = some q := fun {i q} hi => by
    rw [List.getElem?_append_left (List.getElem?_eq_some_iff.1 hi).1]; exact hi
  have hlast : (T ++ [s ++ [c]])[N.length]? = some (s ++ [c]) := by rw [hl, List.getElem?_append_right (Nat.le_refl _), Nat.sub_self]; rfl
  have hinv : ∀ {i : Nat} {q : List Int}, (T ++ [s ++ [c]])[i]? = some q → T[i]? = some q ∨ (i = N.length ∧ q = s ++ [c]) := fun {i q} hi => by
    by_cases e : i < T.length
    · rw [List.getElem?_append_left e] at hi; exact .inl hi
    · have h1 := (List.getElem?_eq_some_iff.1 hi).1
      simp at h1
      have : i = T.length := by omega
      subst this
      rw [List.getElem?_append_right (Nat.le_refl _), Nat.sub_self] at hi
      exact .inr ⟨hl.symm, (Option.some.inj hi).symm⟩
  have hlen : (T ++ [s ++ [c]]).length = T.length + 1 := by simp
  refine ⟨hnew, by simp [hl], ?_, hold h.root, fun j y hj => ?_⟩
  · rw [List.nodup_append]
    refine ⟨h.nd, by simp, fun p hp q hq => ?_⟩
    rw [List.mem_singleton.1 hq]
    exact fun e => hnew (e ▸ hp)
  · by_cases e : j = a
    · subst e
      rw [List.getElem?_set_self (by simp; omega)] at hj
      obtain rfl := Option.some.inj hj
      refine ⟨s, hold hx.tx, hx.dep, rise_ins hx.rise hc, fun e he => ?_, fun tq c2 h2 => ?_, fun hs => ?_, ?_, by rw [hlen]; have := hx.low; omega⟩
      · rcases List.mem_append.1 he with he | he
        · obtain ⟨tq, h1, h2⟩ := hx.out e (List.mem_of_mem_take he)
          exact ⟨tq, h1, hold h2⟩
        · rcases List.mem_cons.1 he with rfl | he
          · exact ⟨N.length, rfl, hlast⟩
          · obtain ⟨tq, h1, h2⟩ := hx.out e (List.mem_of_mem_drop he)
            exact ⟨tq, h1, hold h2⟩
      · rcases hinv h2 with h2 | ⟨rfl, h9⟩
        · obtain ⟨e, he, h3⟩ := hx.all tq c2 h2
          refine ⟨e, ?_, h3⟩
          rw [← List.take_append_drop (ePos x.f3 c) x.f3] at he
          rcases List.mem_append.1 he with he | he
          · exact List.mem_append_left _ he
          · exact List.mem_append_right _ (List.mem_cons_of_mem _ he)
        · have : c2 = c := by simpa using h9
          subst this
          exact ⟨_, List.mem_append_right _ (List.mem_cons_self ..), rfl, rfl⟩
      · obtain ⟨u, s0, h1, h2, h3, h4⟩ := hx.up hs
        exact ⟨u, s0, h1, h2, hold h3, h4⟩
      · show (x.f3.take (ePos x.f3 c) ++ (⟨c, N.length⟩ : S112) :: x.f3.drop (ePos x.f3 c)).length ≤ _
        rw [hlen]
        have := hx.few
        simp only [List.length_append, List.length_cons, List.length_take, List.length_drop]
        omega
    · rw [List.getElem?_set_ne (fun e2 => e e2.symm)] at hj
      by_cases hjl : j < N.length
      · rw [List.getElem?_append_left hjl] at hj
        obtain ⟨q, hy⟩ := h.at_ j y hj
        refine ⟨q, hold hy.tx, hy.dep, hy.rise, fun e he => ?_, fun tq c2 h2 => ?_, fun hs => ?_, by rw [hlen]; have := hy.few; omega, by rw [hlen]; have := hy.low; omega⟩
        · obtain ⟨tq, h1, h2⟩ := hy.out e he
          exact ⟨tq, h1, hold h2⟩
        · rcases hinv h2 with h2 | ⟨rfl, h9⟩
          · exact hy.all tq c2 h2
          · obtain ⟨h3, _⟩ := List.append_inj' h9 rfl
            subst h3
            exact absurd (uniq_at h.nd hy.tx hx.tx) e
        · obtain ⟨u, s0, h1, h2, h3, h4⟩ := hy.up hs
          exact ⟨u, s0, h1, h2, hold h3, h4⟩
      · have hje : j = N.length := by have := (List.getElem?_eq_some_iff.1 hj).1; simp at this; omega
        subst hje
        rw [List.getElem?_append_right (Nat.le_refl _), Nat.sub_self] at hj
        obtain rfl := (Option.some.inj hj).symm
        refine ⟨s ++ [c], hlast, (by rw [List.length_append]; show x.f2 + 1 = _; rw [hx.dep]; simp), List.Pairwise.nil, (fun e he => by cases he), fun tq c2 h2 => ?_, fun _ => ⟨a, s, rfl, hal, hold hx.tx, rfl⟩, Nat.zero_le _, (by rw [hlen, List.length_append]; have := hx.low; simp; omega)⟩
        rcases hinv h2 with h2 | ⟨_, h2⟩
        · obtain ⟨y, hy⟩ : ∃ y, N[tq]? = some y := ⟨_, List.getElem?_eq_getElem (by rw [hl]; exact (List.getElem?_eq_some_iff.1 h2).1)⟩
          obtain ⟨q, hq⟩ := h.at_ tq y hy
          have he : q = s ++ [c] ++ [c2] := Option.some.inj (hq.tx.symm.trans h2)
          obtain ⟨u, s0, h5, h6, h7, h8⟩ := hq.up (by rw [he]; simp)
          rw [he] at h8
          obtain ⟨h9, _⟩ := List.append_inj' h8 rfl
          rw [← h9] at h7
          exact absurd (List.mem_of_getElem? h7) hnew
        · have := congrArg List.length h2
          simp at this
end Go.Proofs.Ytlipbiihemhieaa.K

-- from Ptri3
/- Layer 22 on lists: all patterns. -/
namespace Go.Proofs.Ytlipbiihemhieaa.K
set_option linter.unusedVariables false
set_option linter.unusedSimpArgs false
open Go.RowKit Go.Proofs.YtlipbiihemhieaaW.PrintWords Go.Proofs.YtlipbiihemhieaaW.PrintMore Go.Proofs.Ytlipbiihemhieaa.Q

/-- What became of the nodes' ends: they stay; a new node has none. -/
def Kept (N N' : List S107) : Prop := N.length ≤ N'.length ∧ ∀ j y, N'[j]? = some y → (∃ x, N[j]? = some x ∧ y.f4 = x.f4) ∨ (N.length ≤ j ∧ y.f4 = [])
theorem Kept.refl (N : List S107) : Kept N N := ⟨Nat.le_refl _, fun j y h => .inl ⟨y, h, rfl⟩⟩
theorem Kept.trans {N N1 N2 : List S107} (h : Kept N N1) (h2 : Kept N1 N2) : Kept N N2 := ⟨Nat.le_trans h.1 h2.1, fun j y hy => by
  rcases h2.2 j y hy with ⟨x, hx, e⟩ | ⟨hl, e⟩
  · rcases h.2 j x hx with ⟨z, hz, e2⟩ | ⟨hl2, e2⟩
    · exact .inl ⟨z, hz, e.trans e2⟩
    · exact .inr ⟨hl2, e.trans e2⟩
  · exact .inr ⟨Nat.le_trans h.1 hl, e⟩⟩
theorem stepT_pre (T : List (List Int)) (s : List Int) : T <+: stepT T s := by
  unfold stepT; split
  · exact List.prefix_refl _
  · exact List.prefix_append _ _
theorem stepT_len (T : List (List Int)) (s : List Int) : (stepT T s).length ≤ T.length + 1 := by
  unfold stepT; split
  · omega
  · simp
theorem addStep_spec {N : List S107} {T : List (List Int)} (h : Tr N T) (hl : T.length ≤ 1000000) {a : Nat} {s : List Int} (ha : T[a]? = some s) (c : Int) {k : Nat} {q : List S107 × Nat} (hq : addStep k N a c = some q) :
    Tr q.1 (stepT T (s ++ [c])) ∧ (stepT T (s ++ [c]))[q.2]? = some (s ++ [c]) ∧ Kept N q.1 := by
  have hal : a < N.length := by rw [h.len]; exact (List.getElem?_eq_some_iff.1 ha).1
  obtain ⟨x, hx⟩ : ∃ x, N[a]? = some x := ⟨_, List.getElem?_eq_getElem hal⟩
  obtain ⟨s', hn⟩ := h.at_ a x hx
  obtain rfl : s' = s := Option.some.inj (hn.tx.symm.trans ha)
  unfold addStep at hq
  rw [hx] at hq
  obtain ⟨r, hr, hq⟩ := Option.bind_eq_some_iff.mp hq
  have hr2 := place_any (by have := hn.few; omega) hn.rise hr
  subst hr2
  cases hc : eHas x.f3 c with
  | true =>
    obtain ⟨hm, t, ht, ht2⟩ := step_old h hn hc
    simp only [hc, if_true] at hq
    split at hq
    · obtain rfl := Option.some.inj hq
      have e : stepT T (s' ++ [c]) = T := by unfold stepT; rw [if_pos hm]
      rw [e]
      refine ⟨h, ?_, Kept.refl N⟩
      show T[(rd_T112 x.f3 (ePos x.f3 c : Int)).f1.toNat]? = _
      rw [ht, Int.toNat_natCast]; exact ht2
    · cases hq
  | false =>
    obtain ⟨hm, ht⟩ := step_new h hx hn hc
    simp only [hc, Bool.false_eq_true, if_false] at hq
    split at hq
    · obtain rfl := Option.some.inj hq
      have e : stepT T (s' ++ [c]) = T ++ [s' ++ [c]] := by unfold stepT; rw [if_neg hm]
      rw [e]
      refine ⟨by simpa only [Int.toNat_natCast] using ht, ?_, by simp, fun j y hy => ?_⟩
      · show (T ++ [s' ++ [c]])[N.length]? = _
        rw [h.len, List.getElem?_append_right (Nat.le_refl _), Nat.sub_self]; rfl
      · by_cases ej : j = a
        · subst ej
          rw [List.getElem?_set_self (by simp; omega)] at hy
          obtain rfl := Option.some.inj hy
          exact .inl ⟨x, hx, rfl⟩
        · rw [List.getElem?_set_ne (fun e2 => ej e2.symm)] at hy
          by_cases hjl : j < N.length
          · rw [List.getElem?_append_left hjl] at hy
            exact .inl ⟨y, hy, rfl⟩
          · have hje : j = N.length := by have := (List.getElem?_eq_some_iff.1 hy).1; simp at this; omega
            subst hje
            rw [List.getElem?_append_right (Nat.le_refl _), Nat.sub_self] at hy
            obtain rfl := (Option.some.inj hy).symm
            exact .inr ⟨Nat.le_refl _, rfl⟩
    · cases hq
theorem addStep_ev {N : List S107} {T : List (List Int)} (h : Tr N T) (hl : T.length ≤ 1000000) {a : Nat} {s : List Int} (ha : T[a]? = some s) (c : Int) : ∃ q, Ev (fun k => addStep k N a c) q := by
  have hal : a < N.length := by rw [h.len]; exact (List.getElem?_eq_some_iff.1 ha).1
  obtain ⟨x, hx⟩ : ∃ x, N[a]? = some x := ⟨_, List.getElem?_eq_getElem hal⟩
  obtain ⟨s', hn⟩ := h.at_ a x hx
  obtain rfl : s' = s := Option.some.inj (hn.tx.symm.trans ha)
  have hp := place_ev (by have := hn.few; omega) hn.rise c
  have hle := ePos_le x.f3 c
  cases hc : eHas x.f3 c with
  | true =>
    obtain ⟨hm, t, ht, ht2⟩ := step_old h hn hc
    obtain ⟨hlt, _⟩ := eHas_t hc
    refine ⟨(N, (rd_T112 x.f3 (ePos x.f3 c : Int)).f1.toNat), Ev.congr (f := fun k => (trie_place.f k x.f3 c).bind fun r => if r.2 = true then (if 0 ≤ r.1 ∧ r.1 < (x.f3.length : Int) ∧ 0 ≤ (rd_T112 x.f3 r.1).f1 then some (N, (rd_T112 x.f3 r.1).f1.toNat) else none) else (if 0 ≤ r.1 ∧ r.1 ≤ (x.f3.length : Int) then some ((N ++ [(⟨a, c, x.f2 + 1, [], []⟩ : S107)]).set a { x with f3 := x.f3.take r.1.toNat ++ ⟨c, N.length⟩ :: x.f3.drop r.1.toNat }, N.length) else none)) (fun k => by unfold addStep; rw [hx]) (Ev.bind hp ?_)⟩
    exact Ev.pos (by exact hc) (Ev.pos ⟨by omega, by omega, by rw [ht]; omega⟩ (Ev.now _))
  | false =>
    refine ⟨((N ++ [(⟨a, c, x.f2 + 1, [], []⟩ : S107)]).set a { x with f3 := x.f3.take (ePos x.f3 c : Int).toNat ++ ⟨c, N.length⟩ :: x.f3.drop (ePos x.f3 c : Int).toNat }, N.length), Ev.congr (f := fun k => (trie_place.f k x.f3 c).bind fun r => if r.2 = true then (if 0 ≤ r.1 ∧ r.1 < (x.f3.length : Int) ∧ 0 ≤ (rd_T112 x.f3 r.1).f1 then some (N, (rd_T112 x.f3 r.1).f1.toNat) else none) else (if 0 ≤ r.1 ∧ r.1 ≤ (x.f3.length : Int) then some ((N ++ [(⟨a, c, x.f2 + 1, [], []⟩ : S107)]).set a { x with f3 := x.f3.take r.1.toNat ++ ⟨c, N.length⟩ :: x.f3.drop r.1.toNat }, N.length) else none)) (fun k => by unfold addStep; rw [hx]) (Ev.bind hp ?_)⟩
    exact Ev.neg (by rw [hc]; exact fun e => by cases e) (Ev.pos ⟨by omega, by omega⟩ (Ev.now _))
/-- The texts behind a pattern. -/
def goT : List (List Int) → List Int → List Int → List (List Int)
  | T, _, [] => T
  | T, s, c :: r => goT (stepT T (s ++ [c])) (s ++ [c]) r
theorem goT_pre : ∀ (p : List Int) (T : List (List Int)) (s : List Int), T <+: goT T s p
  | [], T, s => List.prefix_refl _
  | c :: r, T, s => (stepT_pre T (s ++ [c])).trans (goT_pre r _ _)
theorem goT_len : ∀ (p : List Int) (T : List (List Int)) (s : List Int), (goT T s p).length ≤ T.length + p.length
  | [], T, s => by simp [goT]
  | c :: r, T, s => by
    have h1 := goT_len r (stepT T (s ++ [c])) (s ++ [c])
    have h2 := stepT_len T (s ++ [c])
    simp only [goT, List.length_cons]
    omega
theorem addGo_spec {k : Nat} : ∀ (p : List Int) {N : List S107} {T : List (List Int)} (h : Tr N T) (hl : T.length + p.length ≤ 1000000) {a : Nat} {s : List Int} (ha : T[a]? = some s) {q : List S107 × Nat} (hq : addGo k N a p = some q),
    Tr q.1 (goT T s p) ∧ (goT T s p)[q.2]? = some (s ++ p) ∧ Kept N q.1
  | [], N, T, h, hl, a, s, ha, q, hq => by
    obtain rfl := Option.some.inj (show some (N, a) = some q from hq)
    exact ⟨h, by simpa [goT] using ha, Kept.refl _⟩
  | c :: r, N, T, h, hl, a, s, ha, q, hq => by
    obtain ⟨q1, h1, h2⟩ := Option.bind_eq_some_iff.mp (show (addStep k N a c).bind (fun q => addGo k q.1 q.2 r) = some q from hq)
    simp only [List.length_cons] at hl
    obtain ⟨g1, g2, g3⟩ := addStep_spec h (by omega) ha c h1
    have := stepT_len T (s ++ [c])
    obtain ⟨g4, g5, g6⟩ := addGo_spec r g1 (by omega) g2 h2
    exact ⟨g4, by rw [List.append_assoc] at g5; exact g5, g3.trans g6⟩
theorem addGo_ev : ∀ (p : List Int) {N : List S107} {T : List (List Int)} (h : Tr N T) (hl : T.length + p.length ≤ 1000000) {a : Nat} {s : List Int} (ha : T[a]? = some s), ∃ q, Ev (fun k => addGo k N a p) q
  | [], N, T, h, hl, a, s, ha => ⟨(N, a), Ev.now _⟩
  | c :: r, N, T, h, hl, a, s, ha => by
    simp only [List.length_cons] at hl
    obtain ⟨q1, h1⟩ := addStep_ev h (by omega) ha c
    obtain ⟨k, hk⟩ := h1.rounds
    obtain ⟨g1, g2, _⟩ := addStep_spec h (by omega) ha c hk
    have := stepT_len T (s ++ [c])
    obtain ⟨q, h2⟩ := addGo_ev r g1 (by omega) g2
    exact ⟨q, Ev.bind h1 h2⟩
/-- The patterns that a text is. -/
def endsOf : Nat → List (List Int) → List Int → List Int
  | _, [], _ => []
  | i, p :: r, s => if p = s then (i : Int) :: endsOf (i + 1) r s else endsOf (i + 1) r s
theorem endsOf_snoc (p s : List Int) : ∀ (l : List (List Int)) (i : Nat), endsOf i (l ++ [p]) s = endsOf i l s ++ (if p = s then [((i + l.length : Nat) : Int)] else [])
  | [], i => by simp only [List.nil_append, endsOf, List.length_nil, Nat.add_zero]
  | q :: l, i => by
    simp only [List.cons_append, endsOf, List.length_cons]
    rw [endsOf_snoc p s l (i + 1), show i + 1 + l.length = i + (l.length + 1) by omega]
    split <;> rfl
theorem endsOf_none (s : List Int) : ∀ (l : List (List Int)) (i : Nat), s ∉ l → endsOf i l s = []
  | [], i, h => rfl
  | q :: l, i, h => by
    simp only [List.mem_cons, not_or] at h
    simp only [endsOf]
    rw [if_neg (fun e => h.1 e.symm)]
    exact endsOf_none s l (i + 1) h.2
theorem endsOf_len (s : List Int) : ∀ (l : List (List Int)) (i : Nat), (endsOf i l s).length ≤ l.length
  | [], i => Nat.le_refl _
  | q :: l, i => by
    have := endsOf_len s l (i + 1)
    simp only [endsOf, List.length_cons]
    split
    · simp only [List.length_cons]; omega
    · omega
structure Tri (N : List S107) (T P : List (List Int)) : Prop where
  tr : Tr N T
  ends : ∀ (j : Nat) (x : S107) (s : List Int), N[j]? = some x → T[j]? = some s → x.f4 = endsOf 0 P s
  mem : ∀ p ∈ P, p ∈ T
theorem nd_after {T T' : List (List Int)} (hp : T <+: T') (hn : T'.Nodup) {j : Nat} {s : List Int} (hj : T.length ≤ j) (hs : T'[j]? = some s) : s ∉ T := fun hm => by
  obtain ⟨i, hi⟩ := List.mem_iff_getElem?.1 hm
  have hil := (List.getElem?_eq_some_iff.1 hi).1
  obtain ⟨R, rfl⟩ := hp
  have : (T ++ R)[i]? = some s := by rw [List.getElem?_append_left hil]; exact hi
  have := uniq_at hn this hs
  omega
theorem Tr.ends_set {N : List S107} {T : List (List Int)} (h : Tr N T) {a : Nat} {x : S107} (ha : N[a]? = some x) (f : List Int) : Tr (N.set a { x with f4 := f }) T := by
  refine ⟨by rw [List.length_set]; exact h.len, h.nd, h.root, fun j y hj => ?_⟩
  by_cases e : j = a
  · subst e
    rw [List.getElem?_set_self (List.getElem?_eq_some_iff.1 ha).1] at hj
    obtain rfl := Option.some.inj hj
    obtain ⟨s, hs⟩ := h.at_ j x ha
    exact ⟨s, hs.tx, hs.dep, hs.rise, hs.out, hs.all, hs.up, hs.few, hs.low⟩
  · rw [List.getElem?_set_ne (fun e2 => e e2.symm)] at hj
    exact h.at_ j y hj
/-- Ends while a pattern is added. -/
theorem ends_kept {N N' : List S107} {T T' P : List (List Int)} (h : Tri N T P) (h' : Tr N' T') (hp : T <+: T') (hk : Kept N N') : ∀ (j : Nat) (x : S107) (s : List Int), N'[j]? = some x → T'[j]? = some s → x.f4 = endsOf 0 P s := by
  intro j x s hx hs
  rcases hk.2 j x hx with ⟨y, hy, e⟩ | ⟨hl, e⟩
  · have hjl : j < T.length := by rw [← h.tr.len]; exact (List.getElem?_eq_some_iff.1 hy).1
    obtain ⟨R, rfl⟩ := hp
    rw [List.getElem?_append_left hjl] at hs
    rw [e]; exact h.ends j y s hy hs
  · rw [e, endsOf_none]
    exact fun hm => nd_after hp h'.nd (by rw [← h.tr.len]; exact hl) hs (h.mem s hm)
theorem addOne_spec {k : Nat} {N N1 : List S107} {T P : List (List Int)} {p : List Int} (h : Tri N T P) (hl : T.length + p.length ≤ 1000000) (hq : addOne k N P.length p = some N1) : Tri N1 (goT T [] p) (P ++ [p]) := by
  obtain ⟨q, h1, h2⟩ := Option.bind_eq_some_iff.mp hq
  obtain ⟨g1, g2, g3⟩ := addGo_spec p h.tr hl h.tr.root h1
  have he := ends_kept h g1 (goT_pre p T []) g3
  rw [List.nil_append] at g2
  split at h2
  · cases h2
  · rename_i x hx
    obtain rfl := Option.some.inj h2
    refine ⟨g1.ends_set hx _, fun j y s hy hs => ?_, fun r hr => ?_⟩
    · rw [endsOf_snoc, Nat.zero_add]
      by_cases e : j = q.2
      · subst e
        obtain rfl : p = s := Option.some.inj (g2.symm.trans hs)
        rw [List.getElem?_set_self (List.getElem?_eq_some_iff.1 hx).1] at hy
        obtain rfl := Option.some.inj hy
        rw [if_pos rfl, ← he _ x _ hx hs]
      · rw [List.getElem?_set_ne (fun e2 => e e2.symm)] at hy
        rw [if_neg (show ¬ p = s from fun e2 => e (uniq_at g1.nd hs (by rw [← e2]; exact g2))), List.append_nil]
        exact he j y s hy hs
    · rcases List.mem_append.1 hr with hr | hr
      · exact (goT_pre p T []).subset (h.mem r hr)
      · rw [List.mem_singleton.1 hr]
        exact List.mem_of_getElem? g2
theorem addOne_ev {N : List S107} {T P : List (List Int)} {p : List Int} (h : Tri N T P) (hl : T.length + p.length ≤ 1000000) : ∃ N1, Ev (fun k => addOne k N P.length p) N1 := by
  obtain ⟨q, hq⟩ := addGo_ev p h.tr hl h.tr.root
  obtain ⟨k, hk⟩ := hq.rounds
  obtain ⟨g1, g2, g3⟩ := addGo_spec p h.tr hl h.tr.root hk
  obtain ⟨x, hx⟩ : ∃ x, q.1[q.2]? = some x := ⟨_, List.getElem?_eq_getElem (by rw [g1.len]; exact (List.getElem?_eq_some_iff.1 g2).1)⟩
  exact ⟨_, Ev.bind hq (Ev.val (by rw [hx]))⟩
/-- The texts of patterns. -/
def allT : List (List Int) → List (List Int) → List (List Int)
  | T, [] => T
  | T, p :: r => allT (goT T [] p) r
theorem allT_snoc (p : List Int) : ∀ (l : List (List Int)) (T : List (List Int)), allT T (l ++ [p]) = goT (allT T l) [] p
  | [], T => rfl
  | q :: l, T => allT_snoc p l (goT T [] q)
theorem addAll_spec {k : Nat} : ∀ (R : List (List Int)) {N N1 : List S107} {T P : List (List Int)} (h : Tri N T P) (hp : ∀ p ∈ R, p.length ≤ 300) (hl : T.length + 300 * R.length ≤ 1000000) (hq : addAll k N P.length R = some N1), Tri N1 (allT T R) (P ++ R)
  | [], N, N1, T, P, h, hp, hl, hq => by
    obtain rfl := Option.some.inj (show some N = some N1 from hq)
    simpa [allT] using h
  | p :: R, N, N1, T, P, h, hp, hl, hq => by
    obtain ⟨N2, h1, h2⟩ := Option.bind_eq_some_iff.mp (show (addOne k N P.length p).bind (fun N1 => addAll k N1 (P.length + 1) R) = some N1 from hq)
    have hp1 := hp p (by simp)
    simp only [List.length_cons] at hl
    have g1 := addOne_spec h (by omega) h1
    have h3 := goT_len p T []
    have := addAll_spec R g1 (fun r hr => hp r (by simp [hr])) (by omega) (by rw [List.length_append]; exact h2)
    simpa [allT] using this
theorem addAll_ev : ∀ (R : List (List Int)) {N : List S107} {T P : List (List Int)} (h : Tri N T P) (hp : ∀ p ∈ R, p.length ≤ 300) (hl : T.length + 300 * R.length ≤ 1000000), ∃ N1, Ev (fun k => addAll k N P.length R) N1
  | [], N, T, P, h, hp, hl => ⟨N, Ev.now _⟩
  | p :: R, N, T, P, h, hp, hl => by
    have hp1 := hp p (by simp)
    simp only [List.length_cons] at hl
    obtain ⟨N2, h1⟩ := addOne_ev (p := p) h (by omega)
    obtain ⟨k, hk⟩ := h1.rounds
    have g1 := addOne_spec h (by omega) hk
    have h3 := goT_len p T []
    obtain ⟨N1, h2⟩ := addAll_ev R g1 (fun r hr => hp r (by simp [hr])) (by omega)
    rw [List.length_append] at h2
    exact ⟨N1, Ev.bind h1 h2⟩
theorem tri_root : Tri root0 [[]] [] := by
  refine ⟨tr_root, fun j x s hx hs => ?_, fun p hp => by cases hp⟩
  have hj0 : j = 0 := by have := (List.getElem?_eq_some_iff.1 hx).1; simp [root0] at this; omega
  subst hj0
  obtain rfl := (Option.some.inj hx).symm
  rfl
theorem allT_len : ∀ (R T : List (List Int)) (hp : ∀ p ∈ R, p.length ≤ 300), (allT T R).length ≤ T.length + 300 * R.length
  | [], T, hp => by simp [allT]
  | p :: R, T, hp => by
    have h1 := allT_len R (goT T [] p) (fun r hr => hp r (by simp [hr]))
    have h2 := goT_len p T []
    have h3 := hp p (by simp)
    simp only [allT, List.length_cons]
    omega
theorem small_of {N : List S107} {T P : List (List Int)} (h : Tr N T) (he : ∀ x ∈ N, x.f4.length ≤ 100000) (hl : T.length ≤ 100000) : TrieS N 100000 := by
  refine ⟨by rw [h.len]; exact hl, fun x hx => ?_⟩
  obtain ⟨j, hj⟩ := List.mem_iff_getElem?.1 hx
  obtain ⟨s, hs⟩ := h.at_ j x hj
  have h1 := hs.few
  have h2 := hs.low
  have h3 := hs.dep
  exact ⟨by omega, he x hx, by omega, by omega⟩
/-- All there is of a trie of few patterns. -/
theorem trie_all {P : List (List Int)} (h1 : P.length ≤ 300) (h2 : ∀ p ∈ P, p.length ≤ 300) : ∃ N, Ev (fun k => addAll k root0 0 P) N ∧ Tri N (allT [[]] P) P ∧ ∀ k, AllS k P := by
  obtain ⟨N, hN⟩ := addAll_ev P tri_root h2 (by simp; omega)
  refine ⟨N, hN, ?_, fun k i N1 hi hN1 j N2 a hj hN2 => ?_⟩
  · obtain ⟨k, hk⟩ := hN.rounds
    have := addAll_spec P tri_root h2 (by simp; omega) hk
    simpa using this
  · have ht : ∀ p ∈ P.take i, p.length ≤ 300 := fun p hp => h2 p (List.mem_of_mem_take hp)
    have hl : (P.take i).length ≤ 300 := by rw [List.length_take]; omega
    have g1 := addAll_spec (P.take i) tri_root ht (by simp only [List.length_cons, List.length_nil]; omega) hN1
    rw [List.nil_append] at g1
    have h3 := allT_len (P.take i) [[]] ht
    have hpi : (rd_L1 P (i : Int)).length ≤ 300 := by
      have : rd_L1 P (i : Int) = P[i] := by show P.getD (i : Int).toNat [] = P[i]; rw [Int.toNat_natCast, List.getD_eq_getElem?_getD, List.getElem?_eq_getElem hi]; rfl
      rw [this]; exact h2 _ (List.getElem_mem hi)
    have hpj : ((rd_L1 P (i : Int)).take j).length ≤ 300 := by rw [List.length_take]; omega
    simp only [List.length_cons, List.length_nil] at h3
    obtain ⟨g2, _, g3⟩ := addGo_spec _ g1.tr (by omega) g1.tr.root hN2
    have h4 := goT_len ((rd_L1 P (i : Int)).take j) (allT [[]] (P.take i)) []
    refine small_of (P := P) g2 (fun x hx => ?_) (by omega)
    obtain ⟨m, hm⟩ := List.mem_iff_getElem?.1 hx
    obtain ⟨s, hs⟩ := g2.at_ m x hm
    rw [ends_kept g1 g2 (goT_pre _ _ _) g3 m x s hm hs.tx]
    have := endsOf_len s (P.take i) 0
    omega
end Go.Proofs.Ytlipbiihemhieaa.K

-- from Qf22
-- Made by hp.py, a program of this session, with the kit's printer. Not trusted: Lean checks it.
namespace Go.Proofs.Ytlipbiihemhieaa.Q
open Go.RowKit Go.Proofs.YtlipbiihemhieaaW.PrintWords Go.Proofs.YtlipbiihemhieaaW.PrintLast Go.Proofs.YtlipbiihemhieaaW.PrintMore
attribute [local go_sem] max2_int min2_int max_two min_two max_three min_three max_four min_four   -- for this text's walks alone
set_option linter.unusedVariables false
set_option linter.unusedSimpArgs false

/-! ### paronymref01_Compare: function 22 -/
mutual
def paronymref01_Compare.l0 : Nat → List Int → List Int → Int → Option (Int)
  | 0, _, _, _ => none
  | k + 1, x0, x1, x5 => if x5 < (x0.length : Int) then (paronymref01_Compare.j1 k x0 x1 x5 (decide (x5 < (x1.length : Int)))) else (paronymref01_Compare.j1 k x0 x1 x5 false)
def paronymref01_Compare.j1 : Nat → List Int → List Int → Int → Bool → Option (Int)
  | 0, _, _, _, _ => none
  | k + 1, x0, x1, x5, x15 => if x15 = true then (if 0 ≤ x5 then (if x5 < (x0.length : Int) then (if x5 < (x1.length : Int) then (if (rd x0 x5) < (rd x1 x5) then (some (-1)) else (if (rd x0 x5) > (rd x1 x5) then (some 1) else (paronymref01_Compare.l0 k x0 x1 (wrap64 (x5 + 1))))) else (none)) else (none)) else (none)) else (if (x0.length : Int) < (x1.length : Int) then (some (-1)) else (if (x0.length : Int) > (x1.length : Int) then (some 1) else (some 0)))
end
def paronymref01_Compare.f (k : Nat) (l0 : List Int) (l1 : List Int) : Option (Int) := paronymref01_Compare.l0 k l0 l1 0
theorem paronymref01_Compare.mono_l : ∀ k, (∀ y0 y1 y2, LeO (paronymref01_Compare.l0 k y0 y1 y2) (paronymref01_Compare.l0 (k + 1) y0 y1 y2)) ∧ (∀ y0 y1 y2 y3, LeO (paronymref01_Compare.j1 k y0 y1 y2 y3) (paronymref01_Compare.j1 (k + 1) y0 y1 y2 y3))
  | 0 => ⟨fun _ _ _ r h => by simp [paronymref01_Compare.l0] at h, fun _ _ _ _ r h => by simp [paronymref01_Compare.j1] at h⟩
  | k + 1 => by
    obtain ⟨ih0, ih1⟩ := paronymref01_Compare.mono_l k
    refine ⟨?_, ?_⟩
    · intro y0 y1 y2
      unfold paronymref01_Compare.l0
      repeat' first
      | (with_reducible exact ih0 _ _ _)
      | (with_reducible exact ih1 _ _ _ _)
      | (with_reducible exact LeO.refl _)
      | (with_reducible exact LeO.none _)
      | (with_reducible refine LeO.ite ?_ ?_)
      | (with_reducible refine LeO.bind ?_ (fun _ => ?_))
      | exact ih0 _ _ _
      | exact ih1 _ _ _ _
      | exact LeO.none _
      | refine LeO.ite ?_ ?_
      | refine LeO.bind ?_ (fun _ => ?_)
    · intro y0 y1 y2 y3
      unfold paronymref01_Compare.j1
      repeat' first
      | (with_reducible exact ih0 _ _ _)
      | (with_reducible exact ih1 _ _ _ _)
      | (with_reducible exact LeO.refl _)
      | (with_reducible exact LeO.none _)
      | (with_reducible refine LeO.ite ?_ ?_)
      | (with_reducible refine LeO.bind ?_ (fun _ => ?_))
      | exact ih0 _ _ _
      | exact ih1 _ _ _ _
      | exact LeO.none _
      | refine LeO.ite ?_ ?_
      | refine LeO.bind ?_ (fun _ => ?_)
theorem paronymref01_Compare.mono : ∀ a0 a1 k, LeO (paronymref01_Compare.f k a0 a1) (paronymref01_Compare.f (k + 1) a0 a1) := by
  intro a0 a1 k
  obtain ⟨ih0, ih1⟩ := paronymref01_Compare.mono_l k
  unfold paronymref01_Compare.f
  repeat' first
      | (with_reducible exact ih0 _ _ _)
      | (with_reducible exact ih1 _ _ _ _)
      | (with_reducible exact LeO.refl _)
      | (with_reducible exact LeO.none _)
      | (with_reducible refine LeO.ite ?_ ?_)
      | (with_reducible refine LeO.bind ?_ (fun _ => ?_))
      | exact ih0 _ _ _
      | exact ih1 _ _ _ _
      | exact LeO.none _
      | refine LeO.ite ?_ ?_
      | refine LeO.bind ?_ (fun _ => ?_)
set_option maxHeartbeats 8000000 in
set_option maxRecDepth 100000 in
theorem paronymref01_Compare.calls (k : Nat) (A0 : Option Addr) (c0 : Nat) (l0 : List Int) (A1 : Option Addr) (c1 : Nat) (l1 : List Int) (r : Int) (w : World) (hr0 : Kd.C (Kd.int .i64) w A0 l0.length l0) (hc0 : l0.length ≤ c0) (hr1 : Kd.C (Kd.int .i64) w A1 l1.length l1) (hc1 : l1.length ≤ c1) (h : paronymref01_Compare.f k l0 l1 = some r) :
    Calls Try.prog 22 #[.slice A0 l0.length c0, .slice A1 l1.length c1] w fun e w' => e = .returned (.int .i64 r) ∧ Drawn0 w w' := by
  have HR0 := Aside0.mk hr0
  have HC0 := Aside0.mk hc0
  clear hr0 hc0
  have HR1 := Aside0.mk hr1
  have HC1 := Aside0.mk hc1
  clear hr1 hc1
  have H : (paronymref01_Compare.l0 k l0 l1 0) = some r := h
  clear h
  have H' := Aside0.mk H
  clear H
  go_enter Try.func22, Try.ntmps22
  go_wp2
  repeat (go_quiet (fail); try go_wp2)
  go_loopg [5] k (fun kq v5 w' => ∃ (x5_1 : Int), v5 = .int .i64 x5_1 ∧ Aside0 (paronymref01_Compare.l0 kq l0 l1 x5_1 = some r) ∧ Aside0 (kq ≤ k) ∧ Drawn0 w w')
  case atStart => exact ⟨(0), (by first | rfl | (simp; done) | (simp [*]; done)), H', ⟨Nat.le_refl _⟩, by repeat (first | exact Drawn0.refl _ | apply Drawn0.step)⟩
  case round =>
    clear H'
    try clear c1
    try clear c2
    try clear p2
    obtain ⟨x5_1, rfl, HA, HK1, ⟨m1, rfl⟩⟩ := hrel
    cases gk with
    | zero => exact absurd HA.out (by simp [paronymref01_Compare.l0])
    | succ k1 =>
      have H := HA.out
      clear HA
      simp only [paronymref01_Compare.l0] at H
      have HC3 := Aside0.mk H
      clear H
      go_upto_region 2 with (fail)
      repeat (go_quiet (fail); go_upto_region 2 with (fail))
      go_cut [15] (fun v15 wc => ∃ (kq : Nat) (x15_2 : Bool), v15 = .bool x15_2 ∧ Aside0 (paronymref01_Compare.j1 kq l0 l1 x5_1 x15_2 = some r) ∧ Aside0 (kq ≤ k1) ∧ Drawn0 w wc)
      case first =>
        have H := HC3.out
        clear HC3
        by_cases c4 : x5_1 < (l0.length : Int)
        · rw [if_pos c4] at H
          have c4b0 : decide (x5_1 < (l0.length : Int)) = true := decide_eq_true c4
          clear c4
          (first | rw [c4b0] | (simp only [i64_w, i32_w]; rw [c4b0]) | rw [c4b1] | (simp only [i64_w, i32_w]; rw [c4b1]) | skip)
          have H' := Aside0.mk H
          clear H
          go_wp2
          repeat (go_quiet (fail); try go_wp2)
          go_meet
          case rel => exact ⟨_, (decide (x5_1 < (l1.length : Int))), (by first | rfl | (simp; done) | (simp [*]; done)), H', ⟨by have := HK1.out; first | omega | exact Nat.le_refl _⟩, by repeat (first | exact Drawn0.refl _ | apply Drawn0.step)⟩
        · rw [if_neg c4] at H
          have c4b0 : decide (x5_1 < (l0.length : Int)) = false := decide_eq_false c4
          clear c4
          (first | rw [c4b0] | (simp only [i64_w, i32_w]; rw [c4b0]) | rw [c4b1] | (simp only [i64_w, i32_w]; rw [c4b1]) | skip)
          have H' := Aside0.mk H
          clear H
          go_wp2
          repeat (go_quiet (fail); try go_wp2)
          go_meet
          case rel => exact ⟨_, (false), (by first | rfl | (simp; done) | (simp [*]; done)), H', ⟨by have := HK1.out; first | omega | exact Nat.le_refl _⟩, by repeat (first | exact Drawn0.refl _ | apply Drawn0.step)⟩
      case rest =>
        clear HC3
        try clear c1
        try clear c2
        try clear p2
        try clear c4
        try clear c4b0
        try clear c4b1
        try clear p2
        obtain ⟨kq, x15_2, rfl, HA, HJ2, ⟨mc2, rfl⟩⟩ := hcut
        cases kq with
        | zero => exact absurd HA.out (by simp [paronymref01_Compare.j1])
        | succ kj2 =>
          have H := HA.out
          clear HA
          simp only [paronymref01_Compare.j1] at H
          by_cases c5 : x15_2 = true
          · subst c5
            have H1 : (if 0 ≤ x5_1 then (if x5_1 < (l0.length : Int) then (if x5_1 < (l1.length : Int) then (if (rd l0 x5_1) < (rd l1 x5_1) then (some (-1)) else (if (rd l0 x5_1) > (rd l1 x5_1) then (some 1) else (paronymref01_Compare.l0 kj2 l0 l1 (wrap64 (x5_1 + 1))))) else (none)) else (none)) else (none)) = some r := by rw [if_pos rfl] at H; exact H
            clear H
            have H := H1
            clear H1
            by_cases c6 : 0 ≤ x5_1
            · rw [if_pos c6] at H
              have c6b0 : decide (0 ≤ x5_1) = true := decide_eq_true c6
              clear c6
              by_cases c7 : x5_1 < (l0.length : Int)
              · rw [if_pos c7] at H
                have c7b0 : decide (x5_1 < (l0.length : Int)) = true := decide_eq_true c7
                clear c7
                by_cases c8 : x5_1 < (l1.length : Int)
                · rw [if_pos c8] at H
                  have c8b0 : decide (x5_1 < (l1.length : Int)) = true := decide_eq_true c8
                  clear c8
                  by_cases c9 : (rd l0 x5_1) < (rd l1 x5_1)
                  · rw [if_pos c9] at H
                    have c9b0 : decide ((rd l0 x5_1) < (rd l1 x5_1)) = true := decide_eq_true c9
                    clear c9
                    obtain rfl := Option.some.inj H
                    have p101 : 0 ≤ (x5_1 : Int) := of_decide_eq_true (by first | (with_reducible assumption) | assumption)
                    have q101 : x5_1 < (l0.length : Int) := of_decide_eq_true (by first | (with_reducible assumption) | assumption)
                    obtain ⟨ad101, e101, hx101_0⟩ := Kd.at_int HR0.out x5_1 p101 q101
                    cases e101
                    replace p101 := eq_true p101
                    replace q101 := eq_true q101
                    have p102 : 0 ≤ (x5_1 : Int) := of_decide_eq_true (by first | (with_reducible assumption) | assumption)
                    have q102 : x5_1 < (l1.length : Int) := of_decide_eq_true (by first | (with_reducible assumption) | assumption)
                    obtain ⟨ad102, e102, hx102_0⟩ := Kd.at_int HR1.out x5_1 p102 q102
                    cases e102
                    replace p102 := eq_true p102
                    replace q102 := eq_true q102
                    go_wp2
                    repeat (go_quiet (fail); try go_wp2)
                    go_ret
                    exact ⟨by first | rfl | (simp; done) | (simp [*]; done), by repeat (first | exact Drawn0.refl _ | apply Drawn0.step)⟩
                  · rw [if_neg c9] at H
                    have c9b0 : decide ((rd l0 x5_1) < (rd l1 x5_1)) = false := decide_eq_false c9
                    clear c9
                    by_cases c10 : (rd l0 x5_1) > (rd l1 x5_1)
                    · rw [if_pos c10] at H
                      have c10b0 : decide ((rd l1 x5_1) < (rd l0 x5_1)) = true := decide_eq_true c10
                      clear c10
                      obtain rfl := Option.some.inj H
                      have p101 : 0 ≤ (x5_1 : Int) := of_decide_eq_true (by first | (with_reducible assumption) | assumption)
                      have q101 : x5_1 < (l0.length : Int) := of_decide_eq_true (by first | (with_reducible assumption) | assumption)
                      obtain ⟨ad101, e101, hx101_0⟩ := Kd.at_int HR0.out x5_1 p101 q101
                      cases e101
                      replace p101 := eq_true p101
                      replace q101 := eq_true q101
                      have p102 : 0 ≤ (x5_1 : Int) := of_decide_eq_true (by first | (with_reducible assumption) | assumption)
                      have q102 : x5_1 < (l1.length : Int) := of_decide_eq_true (by first | (with_reducible assumption) | assumption)
                      obtain ⟨ad102, e102, hx102_0⟩ := Kd.at_int HR1.out x5_1 p102 q102
                      cases e102
                      replace p102 := eq_true p102
                      replace q102 := eq_true q102
                      have p103 : 0 ≤ (x5_1 : Int) := of_decide_eq_true (by first | (with_reducible assumption) | assumption)
                      have q103 : x5_1 < (l0.length : Int) := of_decide_eq_true (by first | (with_reducible assumption) | assumption)
                      obtain ⟨ad103, e103, hx103_0⟩ := Kd.at_int HR0.out x5_1 p103 q103
                      obtain rfl : ad101 = ad103 := (by injection e103)
                      replace p103 := eq_true p103
                      replace q103 := eq_true q103
                      have p104 : 0 ≤ (x5_1 : Int) := of_decide_eq_true (by first | (with_reducible assumption) | assumption)
                      have q104 : x5_1 < (l1.length : Int) := of_decide_eq_true (by first | (with_reducible assumption) | assumption)
                      obtain ⟨ad104, e104, hx104_0⟩ := Kd.at_int HR1.out x5_1 p104 q104
                      obtain rfl : ad102 = ad104 := (by injection e104)
                      replace p104 := eq_true p104
                      replace q104 := eq_true q104
                      go_wp2
                      repeat (go_quiet (fail); try go_wp2)
                      go_ret
                      exact ⟨by first | rfl | (simp; done) | (simp [*]; done), by repeat (first | exact Drawn0.refl _ | apply Drawn0.step)⟩
                    · rw [if_neg c10] at H
                      have c10b0 : decide ((rd l1 x5_1) < (rd l0 x5_1)) = false := decide_eq_false c10
                      clear c10
                      have H' := Aside0.mk H
                      clear H
                      have p101 : 0 ≤ (x5_1 : Int) := of_decide_eq_true (by first | (with_reducible assumption) | assumption)
                      have q101 : x5_1 < (l0.length : Int) := of_decide_eq_true (by first | (with_reducible assumption) | assumption)
                      obtain ⟨ad101, e101, hx101_0⟩ := Kd.at_int HR0.out x5_1 p101 q101
                      cases e101
                      replace p101 := eq_true p101
                      replace q101 := eq_true q101
                      have p102 : 0 ≤ (x5_1 : Int) := of_decide_eq_true (by first | (with_reducible assumption) | assumption)
                      have q102 : x5_1 < (l1.length : Int) := of_decide_eq_true (by first | (with_reducible assumption) | assumption)
                      obtain ⟨ad102, e102, hx102_0⟩ := Kd.at_int HR1.out x5_1 p102 q102
                      cases e102
                      replace p102 := eq_true p102
                      replace q102 := eq_true q102
                      have p103 : 0 ≤ (x5_1 : Int) := of_decide_eq_true (by first | (with_reducible assumption) | assumption)
                      have q103 : x5_1 < (l0.length : Int) := of_decide_eq_true (by first | (with_reducible assumption) | assumption)
                      obtain ⟨ad103, e103, hx103_0⟩ := Kd.at_int HR0.out x5_1 p103 q103
                      obtain rfl : ad101 = ad103 := (by injection e103)
                      replace p103 := eq_true p103
                      replace q103 := eq_true q103
                      have p104 : 0 ≤ (x5_1 : Int) := of_decide_eq_true (by first | (with_reducible assumption) | assumption)
                      have q104 : x5_1 < (l1.length : Int) := of_decide_eq_true (by first | (with_reducible assumption) | assumption)
                      obtain ⟨ad104, e104, hx104_0⟩ := Kd.at_int HR1.out x5_1 p104 q104
                      obtain rfl : ad102 = ad104 := (by injection e104)
                      replace p104 := eq_true p104
                      replace q104 := eq_true q104
                      go_wp2
                      repeat (go_quiet (fail); try go_wp2)
                      go_roundg kj2
                      case measure => have := HK1.out; have := HJ2.out; omega
                      case rel => exact ⟨(wrap64 (x5_1 + 1)), (by first | rfl | (simp; done) | (simp [*]; done)), H', ⟨by have := HK1.out; have := HJ2.out; omega⟩, by repeat (first | exact Drawn0.refl _ | apply Drawn0.step)⟩
                · rw [if_neg c8] at H
                  exact absurd H (by simp)
              · rw [if_neg c7] at H
                exact absurd H (by simp)
            · rw [if_neg c6] at H
              exact absurd H (by simp)
          · replace c5 := Bool.eq_false_iff.mpr c5
            subst c5
            have H1 : (if (l0.length : Int) < (l1.length : Int) then (some (-1)) else (if (l0.length : Int) > (l1.length : Int) then (some 1) else (some 0))) = some r := by rw [if_neg (show ¬ (false = true) by decide)] at H; exact H
            clear H
            have H := H1
            clear H1
            by_cases c11 : (l0.length : Int) < (l1.length : Int)
            · rw [if_pos c11] at H
              have c11b0 : decide ((l0.length : Int) < (l1.length : Int)) = true := decide_eq_true c11
              have c11b1 : decide (l0.length < l1.length) = true := decide_eq_true (Int.ofNat_lt.mp c11)
              clear c11
              obtain rfl := Option.some.inj H
              go_wp2
              repeat (go_quiet (fail); try go_wp2)
              go_ret
              exact ⟨by first | rfl | (simp; done) | (simp [*]; done), by repeat (first | exact Drawn0.refl _ | apply Drawn0.step)⟩
            · rw [if_neg c11] at H
              have c11b0 : decide ((l0.length : Int) < (l1.length : Int)) = false := decide_eq_false c11
              have c11b1 : decide (l0.length < l1.length) = false := decide_eq_false (fun h => c11 (Int.ofNat_lt.mpr h))
              clear c11
              by_cases c12 : (l0.length : Int) > (l1.length : Int)
              · rw [if_pos c12] at H
                have c12b0 : decide ((l1.length : Int) < (l0.length : Int)) = true := decide_eq_true c12
                have c12b1 : decide (l1.length < l0.length) = true := decide_eq_true (Int.ofNat_lt.mp c12)
                clear c12
                obtain rfl := Option.some.inj H
                go_wp2
                repeat (go_quiet (fail); try go_wp2)
                go_ret
                exact ⟨by first | rfl | (simp; done) | (simp [*]; done), by repeat (first | exact Drawn0.refl _ | apply Drawn0.step)⟩
              · rw [if_neg c12] at H
                have c12b0 : decide ((l1.length : Int) < (l0.length : Int)) = false := decide_eq_false c12
                have c12b1 : decide (l1.length < l0.length) = false := decide_eq_false (fun h => c12 (Int.ofNat_lt.mpr h))
                clear c12
                obtain rfl := Option.some.inj H
                go_wp2
                repeat (go_quiet (fail); try go_wp2)
                go_ret
                exact ⟨by first | rfl | (simp; done) | (simp [*]; done), by repeat (first | exact Drawn0.refl _ | apply Drawn0.step)⟩

end Go.Proofs.Ytlipbiihemhieaa.Q

-- from Qf20
-- Made by hp.py, a program of this session, with the kit's printer. Not trusted: Lean checks it.
namespace Go.Proofs.Ytlipbiihemhieaa.Q
open Go.RowKit Go.Proofs.YtlipbiihemhieaaW.PrintWords Go.Proofs.YtlipbiihemhieaaW.PrintLast Go.Proofs.YtlipbiihemhieaaW.PrintMore
attribute [local go_sem] max2_int min2_int max_two min_two max_three min_three max_four min_four   -- for this text's walks alone
set_option linter.unusedVariables false
set_option linter.unusedSimpArgs false

/-! ### paronymref01_Same: function 20 -/
def paronymref01_Same.f (k : Nat) (l0 : List Int) (l1 : List Int) : Option (Bool) := (paronymref01_Compare.f k l0 l1).bind fun t101 => (some (t101 == 0))
theorem paronymref01_Same.mono : ∀ a0 a1 k, LeO (paronymref01_Same.f k a0 a1) (paronymref01_Same.f (k + 1) a0 a1) := by
  intro a0 a1 k
  unfold paronymref01_Same.f
  repeat' first
      | (with_reducible exact paronymref01_Compare.mono _ _ _)
      | (with_reducible exact LeO.refl _)
      | (with_reducible exact LeO.none _)
      | (with_reducible refine LeO.ite ?_ ?_)
      | (with_reducible refine LeO.bind ?_ (fun _ => ?_))
      | exact paronymref01_Compare.mono _ _ _
      | exact LeO.none _
      | refine LeO.ite ?_ ?_
      | refine LeO.bind ?_ (fun _ => ?_)
set_option maxHeartbeats 8000000 in
set_option maxRecDepth 100000 in
theorem paronymref01_Same.calls (k : Nat) (A0 : Option Addr) (c0 : Nat) (l0 : List Int) (A1 : Option Addr) (c1 : Nat) (l1 : List Int) (r : Bool) (w : World) (hr0 : Kd.C (Kd.int .i64) w A0 l0.length l0) (hc0 : l0.length ≤ c0) (hr1 : Kd.C (Kd.int .i64) w A1 l1.length l1) (hc1 : l1.length ≤ c1) (h : paronymref01_Same.f k l0 l1 = some r) :
    Calls Try.prog 20 #[.slice A0 l0.length c0, .slice A1 l1.length c1] w fun e w' => e = .returned (.bool r) ∧ Drawn0 w w' := by
  have HR0 := Aside0.mk hr0
  have HC0 := Aside0.mk hc0
  clear hr0 hc0
  have HR1 := Aside0.mk hr1
  have HC1 := Aside0.mk hc1
  clear hr1 hc1
  have H : ((paronymref01_Compare.f k l0 l1).bind fun t101 => (some (t101 == 0))) = some r := h
  clear h
  replace H := Option.bind_eq_some_iff.mp H
  obtain ⟨t101, A30, H⟩ := H
  replace H : (some (t101 == 0)) = some r := H
  have A3 := Aside0.mk A30
  clear A30
  obtain rfl := Option.some.inj H
  go_enter Try.func20, Try.ntmps20
  go_wp2_with (first | ((with_reducible refine gate_callee (f := 22) rfl ?_); refine goesL_ (some 7) rfl rfl Try.func22 (by kernel_rfl) rfl #[.slice A0 l0.length c0, .slice A1 l1.length c1] rfl (by (try simp only [List.map_toArray, List.map_cons, List.map_nil]); first | done | rfl | (simp only [List.length_drop, List.length_take]; rfl)) ?_; (with_reducible refine (paronymref01_Compare.calls k _ _ l0 _ _ l1 t101 _ ?side1 ?side2 ?side3 ?side4 A3.out).mono ?_); (case side1 => repeat (first | exact HR0.out | (with_reducible refine Kd.C_alloc ?_ _) | (with_reducible refine Kd.C_drewN ?_ _) | (with_reducible refine Kd.C_drew ?_))); (case side2 => exact HC0.out); (case side3 => repeat (first | exact HR1.out | (with_reducible refine Kd.C_alloc ?_ _) | (with_reducible refine Kd.C_drewN ?_ _) | (with_reducible refine Kd.C_drew ?_))); (case side4 => exact HC1.out); rintro e w' ⟨rfl, ⟨nd, rfl⟩⟩; refine ⟨_, rfl, ?_⟩))
  go_ret
  exact ⟨by first | rfl | (simp; done) | (simp [*]; done), by repeat (first | exact Drawn0.refl _ | apply Drawn0.step)⟩

end Go.Proofs.Ytlipbiihemhieaa.Q

-- from Pcmp
/- Texts compared: the reference's Compare and Same on lists. -/
namespace Go.Proofs.Ytlipbiihemhieaa.K
set_option linter.unusedVariables false
set_option linter.unusedSimpArgs false
open Go.RowKit Go.Proofs.YtlipbiihemhieaaW.PrintWords Go.Proofs.YtlipbiihemhieaaW.PrintMore Go.Proofs.Ytlipbiihemhieaa.Q

def cmpL : List Int → List Int → Int
  | [], [] => 0
  | [], _ :: _ => -1
  | _ :: _, [] => 1
  | x :: l, y :: m => if x < y then -1 else if x > y then 1 else cmpL l m
theorem cmpL_zero : ∀ (l m : List Int), cmpL l m = 0 ↔ l = m
  | [], [] => by simp [cmpL]
  | [], _ :: _ => by simp [cmpL]
  | _ :: _, [] => by simp [cmpL]
  | x :: l, y :: m => by
    unfold cmpL
    by_cases a : x < y
    · rw [if_pos a]; simp; omega
    · rw [if_neg a]
      by_cases b : x > y
      · rw [if_pos b]; simp; omega
      · rw [if_neg b, cmpL_zero l m]
        have : x = y := by omega
        simp [this]
theorem refCompare_ev (l m : List Int) (hl : l.length ≤ 1099511627776) (hm : m.length ≤ 1099511627776) : Ev (fun k => paronymref01_Compare.f k l m) (cmpL l m) := by
  have key : ∀ (d i : Nat), l.length - i = d → i ≤ l.length → i ≤ m.length → Ev (fun k => paronymref01_Compare.l0 k l m i) (cmpL (l.drop i) (m.drop i)) := by
    have hend : ∀ i : Nat, i ≤ l.length → i ≤ m.length → (i = l.length ∨ i = m.length) → ∀ b : Bool, b = false → Ev (fun k => paronymref01_Compare.j1 k l m i b) (cmpL (l.drop i) (m.drop i)) := by
      intro i h1 h2 h3 b hb
      refine Ev.step (fun k => rfl) (Ev.neg (by simp [hb]) ?_)
      by_cases a : l.length < m.length
      · have e : i = l.length := by omega
        subst e
        rw [List.drop_length, drop_cons m l.length a]
        exact Ev.pos (by omega) (Ev.ret (by simp [cmpL]))
      · by_cases b : m.length < l.length
        · have e : i = m.length := by omega
          subst e
          rw [List.drop_length, drop_cons l m.length b]
          exact Ev.neg (by omega) (Ev.pos (by omega) (Ev.ret (by simp [cmpL])))
        · have e : i = l.length := by omega
          have e2 : i = m.length := by omega
          rw [List.drop_of_length_le (by omega), List.drop_of_length_le (by omega)]
          exact Ev.neg (by omega) (Ev.neg (by omega) (Ev.ret (by simp [cmpL])))
    intro d
    induction d with
    | zero =>
      intro i h1 h2 h3
      exact Ev.step (fun k => rfl) (Ev.neg (by omega) (hend i h2 h3 (.inl (by omega)) false rfl))
    | succ d ih =>
      intro i h1 h2 h3
      have hi : i < l.length := by omega
      refine Ev.step (fun k => rfl) (Ev.pos (by omega) ?_)
      by_cases a : i < m.length
      · have e : decide ((i : Int) < (m.length : Int)) = true := by simpa using a
        refine Ev.step (fun k => rfl) (Ev.pos e (Ev.pos (by omega) (Ev.pos (by omega) (Ev.pos (by omega) ?_))))
        rw [drop_cons l i hi, drop_cons m i a]
        unfold cmpL
        by_cases b : rd l i < rd m i
        · exact Ev.pos b (Ev.ret (if_pos b).symm)
        · refine Ev.neg b ?_
          rw [show (if rd l i < rd m i then (-1 : Int) else if rd l i > rd m i then 1 else cmpL (l.drop (i + 1)) (m.drop (i + 1))) = (if rd l i > rd m i then 1 else cmpL (l.drop (i + 1)) (m.drop (i + 1))) from if_neg b]
          by_cases c : rd l i > rd m i
          · exact Ev.pos c (Ev.ret (if_pos c).symm)
          · rw [show (if rd l i > rd m i then (1 : Int) else cmpL (l.drop (i + 1)) (m.drop (i + 1))) = cmpL (l.drop (i + 1)) (m.drop (i + 1)) from if_neg c]
            refine Ev.neg c ?_
            rw [w64 (by omega) (by omega)]
            exact ih (i + 1) (by omega) (by omega) (by omega)
      · have e : decide ((i : Int) < (m.length : Int)) = false := by simpa using a
        exact hend i h2 h3 (.inr (by omega)) _ e
  have := key l.length 0 (by omega) (by omega) (by omega)
  unfold paronymref01_Compare.f
  simpa using this
theorem refSame_ev (l m : List Int) (hl : l.length ≤ 1099511627776) (hm : m.length ≤ 1099511627776) : Ev (fun k => paronymref01_Same.f k l m) (decide (l = m)) := by
  unfold paronymref01_Same.f
  refine Ev.bind (refCompare_ev l m hl hm) (Ev.ret ?_)
  rw [Bool.eq_iff_iff]
  simp [cmpL_zero]

end Go.Proofs.Ytlipbiihemhieaa.K

-- from Qf43
-- Made by hp.py, a program of this session, with the kit's printer. Not trusted: Lean checks it.
namespace Go.Proofs.Ytlipbiihemhieaa.Q
open Go.RowKit Go.Proofs.YtlipbiihemhieaaW.PrintWords Go.Proofs.YtlipbiihemhieaaW.PrintLast Go.Proofs.YtlipbiihemhieaaW.PrintMore
attribute [local go_sem] max2_int min2_int max_two min_two max_three min_three max_four min_four   -- for this text's walks alone
set_option linter.unusedVariables false
set_option linter.unusedSimpArgs false

/-! ### paronymref22_Small: function 43 -/
def paronymref22_Small.l0 : Nat → List (List Int) → Int → Int → Option (Bool)
  | 0, _, _, _ => none
  | k + 1, x0, x1, x5 => if x5 < (x0.length : Int) then (if 0 ≤ x5 then (if ((rd_L1 x0 x5).length : Int) > x1 then (some false) else (paronymref22_Small.l0 k x0 x1 (wrap64 (x5 + 1)))) else (none)) else (some true)
def paronymref22_Small.f (k : Nat) (l0 : List (List Int)) (a1 : Int) : Option (Bool) := if (l0.length : Int) > a1 then (some false) else (paronymref22_Small.l0 k l0 a1 0)
theorem paronymref22_Small.mono_l : ∀ k, (∀ y0 y1 y2, LeO (paronymref22_Small.l0 k y0 y1 y2) (paronymref22_Small.l0 (k + 1) y0 y1 y2))
  | 0 => fun _ _ _ r h => by simp [paronymref22_Small.l0] at h
  | k + 1 => by
    have ih0 := paronymref22_Small.mono_l k
    · intro y0 y1 y2
      unfold paronymref22_Small.l0
      repeat' first
      | (with_reducible exact ih0 _ _ _)
      | (with_reducible exact LeO.refl _)
      | (with_reducible exact LeO.none _)
      | (with_reducible refine LeO.ite ?_ ?_)
      | (with_reducible refine LeO.bind ?_ (fun _ => ?_))
      | exact ih0 _ _ _
      | exact LeO.none _
      | refine LeO.ite ?_ ?_
      | refine LeO.bind ?_ (fun _ => ?_)
theorem paronymref22_Small.mono : ∀ a0 a1 k, LeO (paronymref22_Small.f k a0 a1) (paronymref22_Small.f (k + 1) a0 a1) := by
  intro a0 a1 k
  have ih0 := paronymref22_Small.mono_l k
  unfold paronymref22_Small.f
  repeat' first
      | (with_reducible exact ih0 _ _ _)
      | (with_reducible exact LeO.refl _)
      | (with_reducible exact LeO.none _)
      | (with_reducible refine LeO.ite ?_ ?_)
      | (with_reducible refine LeO.bind ?_ (fun _ => ?_))
      | exact ih0 _ _ _
      | exact LeO.none _
      | refine LeO.ite ?_ ?_
      | refine LeO.bind ?_ (fun _ => ?_)
set_option maxHeartbeats 8000000 in
set_option maxRecDepth 100000 in
theorem paronymref22_Small.calls (k : Nat) (A0 : Option Addr) (c0 : Nat) (l0 : List (List Int)) (a1 : Int) (r : Bool) (w : World) (hr0 : Kd.C (Kd.slice 3 (Kd.int .i64)) w A0 l0.length l0) (hc0 : l0.length ≤ c0) (h : paronymref22_Small.f k l0 a1 = some r) :
    Calls Try.prog 43 #[.slice A0 l0.length c0, .int .i64 a1] w fun e w' => e = .returned (.bool r) ∧ Drawn0 w w' := by
  have HR0 := Aside0.mk hr0
  have HC0 := Aside0.mk hc0
  clear hr0 hc0
  have H : (if (l0.length : Int) > a1 then (some false) else (paronymref22_Small.l0 k l0 a1 0)) = some r := h
  clear h
  by_cases c3 : (l0.length : Int) > a1
  · rw [if_pos c3] at H
    have c3b0 : decide (a1 < (l0.length : Int)) = true := decide_eq_true c3
    clear c3
    obtain rfl := Option.some.inj H
    go_enter Try.func43, Try.ntmps43
    go_wp2
    go_ret
    exact ⟨by first | rfl | (simp; done) | (simp [*]; done), by repeat (first | exact Drawn0.refl _ | apply Drawn0.step)⟩
  · rw [if_neg c3] at H
    have c3b0 : decide (a1 < (l0.length : Int)) = false := decide_eq_false c3
    clear c3
    have H' := Aside0.mk H
    clear H
    go_enter Try.func43, Try.ntmps43
    go_wp2
    go_loopg [5] k (fun kq v5 w' => ∃ (x5_1 : Int), v5 = .int .i64 x5_1 ∧ Aside0 (paronymref22_Small.l0 kq l0 a1 x5_1 = some r) ∧ Aside0 (kq ≤ k) ∧ Drawn0 w w')
    case atStart => exact ⟨(0), (by first | rfl | (simp; done) | (simp [*]; done)), H', ⟨Nat.le_refl _⟩, by repeat (first | exact Drawn0.refl _ | apply Drawn0.step)⟩
    case round =>
      clear H'
      try clear p2
      try clear c3
      try clear c3b0
      obtain ⟨x5_1, rfl, HA, HK1, ⟨m1, rfl⟩⟩ := hrel
      cases gk with
      | zero => exact absurd HA.out (by simp [paronymref22_Small.l0])
      | succ k1 =>
        have H := HA.out
        clear HA
        simp only [paronymref22_Small.l0] at H
        by_cases c4 : x5_1 < (l0.length : Int)
        · rw [if_pos c4] at H
          have c4b0 : decide (x5_1 < (l0.length : Int)) = true := decide_eq_true c4
          clear c4
          by_cases c5 : 0 ≤ x5_1
          · rw [if_pos c5] at H
            have c5b0 : decide (0 ≤ x5_1) = true := decide_eq_true c5
            clear c5
            by_cases c6 : ((rd_L1 l0 x5_1).length : Int) > a1
            · rw [if_pos c6] at H
              have c6b0 : decide (a1 < ((rd_L1 l0 x5_1).length : Int)) = true := decide_eq_true c6
              clear c6
              obtain rfl := Option.some.inj H
              have p101 : 0 ≤ (x5_1 : Int) := of_decide_eq_true (by first | (with_reducible assumption) | assumption)
              have q101 : x5_1 < (l0.length : Int) := of_decide_eq_true (by first | (with_reducible assumption) | assumption)
              obtain ⟨ad101, A101_0, c101_0, e101, hx101_0, hl101_0, hi101_0⟩ := at_L1 HR0.out x5_1 p101 q101
              cases e101
              have HR101_0 := Aside0.mk hi101_0
              have HC101_0 := Aside0.mk hl101_0
              clear hi101_0 hl101_0
              replace p101 := eq_true p101
              replace q101 := eq_true q101
              go_wp2
              go_ret
              exact ⟨by first | rfl | (simp; done) | (simp [*]; done), by repeat (first | exact Drawn0.refl _ | apply Drawn0.step)⟩
            · rw [if_neg c6] at H
              have c6b0 : decide (a1 < ((rd_L1 l0 x5_1).length : Int)) = false := decide_eq_false c6
              clear c6
              have H' := Aside0.mk H
              clear H
              have p101 : 0 ≤ (x5_1 : Int) := of_decide_eq_true (by first | (with_reducible assumption) | assumption)
              have q101 : x5_1 < (l0.length : Int) := of_decide_eq_true (by first | (with_reducible assumption) | assumption)
              obtain ⟨ad101, A101_0, c101_0, e101, hx101_0, hl101_0, hi101_0⟩ := at_L1 HR0.out x5_1 p101 q101
              cases e101
              have HR101_0 := Aside0.mk hi101_0
              have HC101_0 := Aside0.mk hl101_0
              clear hi101_0 hl101_0
              replace p101 := eq_true p101
              replace q101 := eq_true q101
              go_wp2
              go_roundg k1
              case measure => have := HK1.out; omega
              case rel => exact ⟨(wrap64 (x5_1 + 1)), (by first | rfl | (simp; done) | (simp [*]; done)), H', ⟨by have := HK1.out; omega⟩, by repeat (first | exact Drawn0.refl _ | apply Drawn0.step)⟩
          · rw [if_neg c5] at H
            exact absurd H (by simp)
        · rw [if_neg c4] at H
          have c4b0 : decide (x5_1 < (l0.length : Int)) = false := decide_eq_false c4
          clear c4
          obtain rfl := Option.some.inj H
          go_wp2
          go_ret
          exact ⟨by first | rfl | (simp; done) | (simp [*]; done), by repeat (first | exact Drawn0.refl _ | apply Drawn0.step)⟩

end Go.Proofs.Ytlipbiihemhieaa.Q

-- from Qf45
-- Made by hp.py, a program of this session, with the kit's printer. Not trusted: Lean checks it.
namespace Go.Proofs.Ytlipbiihemhieaa.Q
open Go.RowKit Go.Proofs.YtlipbiihemhieaaW.PrintWords Go.Proofs.YtlipbiihemhieaaW.PrintLast Go.Proofs.YtlipbiihemhieaaW.PrintMore
attribute [local go_sem] max2_int min2_int max_two min_two max_three min_three max_four min_four   -- for this text's walks alone
set_option linter.unusedVariables false
set_option linter.unusedSimpArgs false

/-! ### paronymref22_Empty: function 45 -/
def paronymref22_Empty.l0 : Nat → List (List Int) → Int → Option (Bool)
  | 0, _, _ => none
  | k + 1, x0, x3 => if x3 < (x0.length : Int) then (if 0 ≤ x3 then (if ((rd_L1 x0 x3).length : Int) = 0 then (some true) else (paronymref22_Empty.l0 k x0 (wrap64 (x3 + 1)))) else (none)) else (some false)
def paronymref22_Empty.f (k : Nat) (l0 : List (List Int)) : Option (Bool) := paronymref22_Empty.l0 k l0 0
theorem paronymref22_Empty.mono_l : ∀ k, (∀ y0 y1, LeO (paronymref22_Empty.l0 k y0 y1) (paronymref22_Empty.l0 (k + 1) y0 y1))
  | 0 => fun _ _ r h => by simp [paronymref22_Empty.l0] at h
  | k + 1 => by
    have ih0 := paronymref22_Empty.mono_l k
    · intro y0 y1
      unfold paronymref22_Empty.l0
      repeat' first
      | (with_reducible exact ih0 _ _)
      | (with_reducible exact LeO.refl _)
      | (with_reducible exact LeO.none _)
      | (with_reducible refine LeO.ite ?_ ?_)
      | (with_reducible refine LeO.bind ?_ (fun _ => ?_))
      | exact ih0 _ _
      | exact LeO.none _
      | refine LeO.ite ?_ ?_
      | refine LeO.bind ?_ (fun _ => ?_)
theorem paronymref22_Empty.mono : ∀ a0 k, LeO (paronymref22_Empty.f k a0) (paronymref22_Empty.f (k + 1) a0) := by
  intro a0 k
  have ih0 := paronymref22_Empty.mono_l k
  unfold paronymref22_Empty.f
  repeat' first
      | (with_reducible exact ih0 _ _)
      | (with_reducible exact LeO.refl _)
      | (with_reducible exact LeO.none _)
      | (with_reducible refine LeO.ite ?_ ?_)
      | (with_reducible refine LeO.bind ?_ (fun _ => ?_))
      | exact ih0 _ _
      | exact LeO.none _
      | refine LeO.ite ?_ ?_
      | refine LeO.bind ?_ (fun _ => ?_)
set_option maxHeartbeats 8000000 in
set_option maxRecDepth 100000 in
theorem paronymref22_Empty.calls (k : Nat) (A0 : Option Addr) (c0 : Nat) (l0 : List (List Int)) (r : Bool) (w : World) (hr0 : Kd.C (Kd.slice 3 (Kd.int .i64)) w A0 l0.length l0) (hc0 : l0.length ≤ c0) (h : paronymref22_Empty.f k l0 = some r) :
    Calls Try.prog 45 #[.slice A0 l0.length c0] w fun e w' => e = .returned (.bool r) ∧ Drawn0 w w' := by
  have HR0 := Aside0.mk hr0
  have HC0 := Aside0.mk hc0
  clear hr0 hc0
  have H : (paronymref22_Empty.l0 k l0 0) = some r := h
  clear h
  have H' := Aside0.mk H
  clear H
  go_enter Try.func45, Try.ntmps45
  go_wp2
  go_loopg [3] k (fun kq v3 w' => ∃ (x3_1 : Int), v3 = .int .i64 x3_1 ∧ Aside0 (paronymref22_Empty.l0 kq l0 x3_1 = some r) ∧ Aside0 (kq ≤ k) ∧ Drawn0 w w')
  case atStart => exact ⟨(0), (by first | rfl | (simp; done) | (simp [*]; done)), H', ⟨Nat.le_refl _⟩, by repeat (first | exact Drawn0.refl _ | apply Drawn0.step)⟩
  case round =>
    clear H'
    obtain ⟨x3_1, rfl, HA, HK1, ⟨m1, rfl⟩⟩ := hrel
    cases gk with
    | zero => exact absurd HA.out (by simp [paronymref22_Empty.l0])
    | succ k1 =>
      have H := HA.out
      clear HA
      simp only [paronymref22_Empty.l0] at H
      by_cases c2 : x3_1 < (l0.length : Int)
      · rw [if_pos c2] at H
        have c2b0 : decide (x3_1 < (l0.length : Int)) = true := decide_eq_true c2
        clear c2
        by_cases c3 : 0 ≤ x3_1
        · rw [if_pos c3] at H
          have c3b0 : decide (0 ≤ x3_1) = true := decide_eq_true c3
          clear c3
          by_cases c4 : ((rd_L1 l0 x3_1).length : Int) = 0
          · rw [if_pos c4] at H
            have c4b0 : (((rd_L1 l0 x3_1).length : Int) == 0) = true := beq_iff_eq.mpr c4
            have c4b1 : (((rd_L1 l0 x3_1).length : Int) != 0) = false := bne_eq_false_iff_eq.mpr c4
            clear c4
            obtain rfl := Option.some.inj H
            have p101 : 0 ≤ (x3_1 : Int) := of_decide_eq_true (by first | (with_reducible assumption) | assumption)
            have q101 : x3_1 < (l0.length : Int) := of_decide_eq_true (by first | (with_reducible assumption) | assumption)
            obtain ⟨ad101, A101_0, c101_0, e101, hx101_0, hl101_0, hi101_0⟩ := at_L1 HR0.out x3_1 p101 q101
            cases e101
            have HR101_0 := Aside0.mk hi101_0
            have HC101_0 := Aside0.mk hl101_0
            clear hi101_0 hl101_0
            replace p101 := eq_true p101
            replace q101 := eq_true q101
            go_wp2
            go_ret
            exact ⟨by first | rfl | (simp; done) | (simp [*]; done), by repeat (first | exact Drawn0.refl _ | apply Drawn0.step)⟩
          · rw [if_neg c4] at H
            have c4b0 : (((rd_L1 l0 x3_1).length : Int) == 0) = false := beq_eq_false_iff_ne.mpr c4
            have c4b1 : (((rd_L1 l0 x3_1).length : Int) != 0) = true := bne_iff_ne.mpr c4
            have c4b2 : ¬ ((rd_L1 l0 x3_1) = []) := fun h_ => c4 (by rw [h_]; rfl)
            have H' := Aside0.mk H
            clear H
            have p101 : 0 ≤ (x3_1 : Int) := of_decide_eq_true (by first | (with_reducible assumption) | assumption)
            have q101 : x3_1 < (l0.length : Int) := of_decide_eq_true (by first | (with_reducible assumption) | assumption)
            obtain ⟨ad101, A101_0, c101_0, e101, hx101_0, hl101_0, hi101_0⟩ := at_L1 HR0.out x3_1 p101 q101
            cases e101
            have HR101_0 := Aside0.mk hi101_0
            have HC101_0 := Aside0.mk hl101_0
            clear hi101_0 hl101_0
            replace p101 := eq_true p101
            replace q101 := eq_true q101
            go_wp2
            go_roundg k1
            case measure => have := HK1.out; omega
            case rel => exact ⟨(wrap64 (x3_1 + 1)), (by first | rfl | (simp; done) | (simp [*]; done)), H', ⟨by have := HK1.out; omega⟩, by repeat (first | exact Drawn0.refl _ | apply Drawn0.step)⟩
        · rw [if_neg c3] at H
          exact absurd H (by simp)
      · rw [if_neg c2] at H
        have c2b0 : decide (x3_1 < (l0.length : Int)) = false := decide_eq_false c2
        clear c2
        obtain rfl := Option.some.inj H
        go_wp2
        go_ret
        exact ⟨by first | rfl | (simp; done) | (simp [*]; done), by repeat (first | exact Drawn0.refl _ | apply Drawn0.step)⟩

end Go.Proofs.Ytlipbiihemhieaa.Q

-- from Qf51
-- Made by hp.py, a program of this session, with the kit's printer. Not trusted: Lean checks it.
namespace Go.Proofs.Ytlipbiihemhieaa.Q
open Go.RowKit Go.Proofs.YtlipbiihemhieaaW.PrintWords Go.Proofs.YtlipbiihemhieaaW.PrintLast Go.Proofs.YtlipbiihemhieaaW.PrintMore
attribute [local go_sem] max2_int min2_int max_two min_two max_three min_three max_four min_four   -- for this text's walks alone
set_option linter.unusedVariables false
set_option linter.unusedSimpArgs false

/-! ### paronymref22_Ends: function 51 -/
def paronymref22_Ends.l0 : Nat → List (List Int) → List Int → List Int → Int → Option (List Int)
  | 0, _, _, _, _ => none
  | k + 1, x0, x1, x5, x6 => if x6 < (x0.length : Int) then (if 0 ≤ x6 then ((paronymref01_Same.f k (rd_L1 x0 x6) x1).bind fun t102 => (if t102 = true then (if x5.length < 17592186044416 then (paronymref22_Ends.l0 k x0 x1 (x5 ++ [x6]) (wrap64 (x6 + 1))) else (none)) else (paronymref22_Ends.l0 k x0 x1 x5 (wrap64 (x6 + 1))))) else (none)) else (some x5)
def paronymref22_Ends.f (k : Nat) (l0 : List (List Int)) (l1 : List Int) : Option (List Int) := paronymref22_Ends.l0 k l0 l1 ([] : List Int) 0
theorem paronymref22_Ends.mono_l : ∀ k, (∀ y0 y1 y2 y3, LeO (paronymref22_Ends.l0 k y0 y1 y2 y3) (paronymref22_Ends.l0 (k + 1) y0 y1 y2 y3))
  | 0 => fun _ _ _ _ r h => by simp [paronymref22_Ends.l0] at h
  | k + 1 => by
    have ih0 := paronymref22_Ends.mono_l k
    · intro y0 y1 y2 y3
      unfold paronymref22_Ends.l0
      repeat' first
      | (with_reducible exact ih0 _ _ _ _)
      | (with_reducible exact paronymref01_Same.mono _ _ _)
      | (with_reducible exact LeO.refl _)
      | (with_reducible exact LeO.none _)
      | (with_reducible refine LeO.ite ?_ ?_)
      | (with_reducible refine LeO.bind ?_ (fun _ => ?_))
      | exact ih0 _ _ _ _
      | exact paronymref01_Same.mono _ _ _
      | exact LeO.none _
      | refine LeO.ite ?_ ?_
      | refine LeO.bind ?_ (fun _ => ?_)
theorem paronymref22_Ends.mono : ∀ a0 a1 k, LeO (paronymref22_Ends.f k a0 a1) (paronymref22_Ends.f (k + 1) a0 a1) := by
  intro a0 a1 k
  have ih0 := paronymref22_Ends.mono_l k
  unfold paronymref22_Ends.f
  repeat' first
      | (with_reducible exact ih0 _ _ _ _)
      | (with_reducible exact paronymref01_Same.mono _ _ _)
      | (with_reducible exact LeO.refl _)
      | (with_reducible exact LeO.none _)
      | (with_reducible refine LeO.ite ?_ ?_)
      | (with_reducible refine LeO.bind ?_ (fun _ => ?_))
      | exact ih0 _ _ _ _
      | exact paronymref01_Same.mono _ _ _
      | exact LeO.none _
      | refine LeO.ite ?_ ?_
      | refine LeO.bind ?_ (fun _ => ?_)
set_option maxHeartbeats 8000000 in
set_option maxRecDepth 100000 in
theorem paronymref22_Ends.calls (k : Nat) (A0 : Option Addr) (c0 : Nat) (l0 : List (List Int)) (A1 : Option Addr) (c1 : Nat) (l1 : List Int) (r : List Int) (w : World) (hr0 : Kd.C (Kd.slice 3 (Kd.int .i64)) w A0 l0.length l0) (hc0 : l0.length ≤ c0) (hr1 : Kd.C (Kd.int .i64) w A1 l1.length l1) (hc1 : l1.length ≤ c1) (h : paronymref22_Ends.f k l0 l1 = some r) :
    Calls Try.prog 51 #[.slice A0 l0.length c0, .slice A1 l1.length c1] w fun e w' => ∃ v0_ : Value, e = .returned (v0_) ∧ Kd.R (Kd.int .i64) 3 w' w.heap.size (fun _ => True) v0_ r ∧ Below w.heap.size w w' := by
  have HR0 := Aside0.mk hr0
  have HC0 := Aside0.mk hc0
  clear hr0 hc0
  have HR1 := Aside0.mk hr1
  have HC1 := Aside0.mk hc1
  clear hr1 hc1
  have HB := Aside0.mk (Below.refl w.heap.size w)
  have H : (paronymref22_Ends.l0 k l0 l1 ([] : List Int) 0) = some r := h
  clear h
  have H' := Aside0.mk H
  clear H
  go_enter Try.func51, Try.ntmps51
  go_wp2
  go_loopg [5, 6] k (fun kq v5 v6 w' => ∃ (x5_1 : List Int) (x6_1 : Int), v6 = .int .i64 x6_1 ∧ Aside0 (paronymref22_Ends.l0 kq l0 l1 x5_1 x6_1 = some r) ∧ Aside0 (kq ≤ k) ∧ Aside0 (Kd.R (Kd.int .i64) 3 w' w.heap.size (fun _ => True) v5 x5_1) ∧ Aside0 (Below w.heap.size w w'))
  case atStart => exact ⟨(([] : List Int)), (0), (by first | rfl | (simp; done) | (simp [*]; done)), H', ⟨Nat.le_refl _⟩, ⟨by first | exact Kd.R_nil _ _ _ _ _ | exact Kd.N_nil _ _ _ _ _ | exact Kd.V_nil _ _ _ _ _ | exact Kd.Q_nil _ _ _ _ _ | exact Kd.S_nil _ _ _ _ _⟩, ⟨by repeat (first | (with_reducible first | exact HB.out | apply below_alloc | apply pw_below_drewN | apply below_drew1) | exact HB.out)⟩⟩
  case round =>
    clear H'
    try clear c1
    try clear p2
    obtain ⟨x5_1, x6_1, rfl, HA, HK1, HO_5, HB⟩ := hrel
    cases gk with
    | zero => exact absurd HA.out (by simp [paronymref22_Ends.l0])
    | succ k1 =>
      have H := HA.out
      clear HA
      simp only [paronymref22_Ends.l0] at H
      by_cases c3 : x6_1 < (l0.length : Int)
      · rw [if_pos c3] at H
        have c3b0 : decide (x6_1 < (l0.length : Int)) = true := decide_eq_true c3
        clear c3
        by_cases c4 : 0 ≤ x6_1
        · rw [if_pos c4] at H
          have c4b0 : decide (0 ≤ x6_1) = true := decide_eq_true c4
          clear c4
          replace H := Option.bind_eq_some_iff.mp H
          obtain ⟨t102, A50, H⟩ := H
          replace H : (if t102 = true then (if x5_1.length < 17592186044416 then (paronymref22_Ends.l0 k1 l0 l1 (x5_1 ++ [x6_1]) (wrap64 (x6_1 + 1))) else (none)) else (paronymref22_Ends.l0 k1 l0 l1 x5_1 (wrap64 (x6_1 + 1)))) = some r := H
          have A5 := Aside0.mk A50
          clear A50
          by_cases c6 : t102 = true
          · subst c6
            have H1 : (if x5_1.length < 17592186044416 then (paronymref22_Ends.l0 k1 l0 l1 (x5_1 ++ [x6_1]) (wrap64 (x6_1 + 1))) else (none)) = some r := by rw [if_pos rfl] at H; exact H
            clear H
            have H := H1
            clear H1
            by_cases c7 : x5_1.length < 17592186044416
            · rw [if_pos c7] at H
              have LMc7 := Aside0.mk c7
              clear c7
              obtain ⟨y103, hy103⟩ : ∃ y_ : List Int, y_ = (x5_1 ++ [x6_1]) := ⟨_, rfl⟩
              replace H : (paronymref22_Ends.l0 k1 l0 l1 y103 (wrap64 (x6_1 + 1))) = some r := by first | (rw [hy103]; with_reducible exact H) | (have H2_ := (Option.bind_some _ _).symm.trans H; rw [hy103]; with_reducible exact H2_) | (have H2_ := (Option.bind_some _ _).symm.trans H; with_reducible exact H2_) | with_reducible exact H | (rw [hy103]; exact H) | exact H
              have Ny103 := Aside0.mk hy103
              clear hy103
              have H' := Aside0.mk H
              clear H
              have p101 : 0 ≤ (x6_1 : Int) := of_decide_eq_true (by first | (with_reducible assumption) | assumption)
              have q101 : x6_1 < (l0.length : Int) := of_decide_eq_true (by first | (with_reducible assumption) | assumption)
              obtain ⟨ad101, A101_0, c101_0, e101, hx101_0, hl101_0, hi101_0⟩ := at_L1 HR0.out x6_1 p101 q101
              cases e101
              replace hx101_0 := (HB.out.cell (World.block_lt_of_cell? w _ hx101_0)).trans hx101_0
              have HR101_0 := Aside0.mk hi101_0
              have HC101_0 := Aside0.mk hl101_0
              clear hi101_0 hl101_0
              replace p101 := eq_true p101
              replace q101 := eq_true q101
              go_wp2_with (first | ((with_reducible refine gate_callee (f := 20) rfl ?_); refine goesL_ (some 18) rfl rfl Try.func20 (by kernel_rfl) rfl #[.slice A101_0 (rd_L1 l0 x6_1).length c101_0, .slice A1 l1.length c1] rfl (by (try simp only [List.map_toArray, List.map_cons, List.map_nil]); first | done | rfl | (simp only [List.length_drop, List.length_take]; rfl)) ?_; (with_reducible refine (paronymref01_Same.calls k1 _ _ (rd_L1 l0 x6_1) _ _ l1 true _ ?side1 ?side2 ?side3 ?side4 A5.out).mono ?_); (case side1 => repeat (first | exact (Kd.C_below HR101_0.out HB.out) | (with_reducible refine Kd.C_alloc ?_ _) | (with_reducible refine Kd.C_drewN ?_ _) | (with_reducible refine Kd.C_drew ?_))); (case side2 => exact HC101_0.out); (case side3 => repeat (first | exact (Kd.C_below HR1.out HB.out) | (with_reducible refine Kd.C_alloc ?_ _) | (with_reducible refine Kd.C_drewN ?_ _) | (with_reducible refine Kd.C_drew ?_))); (case side4 => exact HC1.out); rintro e w' ⟨rfl, ⟨nd, rfl⟩⟩; refine ⟨_, rfl, ?_⟩) | ((with_reducible refine gate_builtin (b := .append) (xs := #[.tmp 19, .tmp 21]) rfl ?_); at_builtin; refine Kd.R_append (Kd.int .i64) (w0 := w) w.heap.size rfl (.tmp 19) (.tmp 21) 22 3 (.int .i64 0) 8 rfl Try.underlying22 info3 rfl (by decide) (by omega) u5 x5_1 x6_1 [.int .i64 x6_1] (fun _ => True) (fun _ => False) rfl rfl ?aP (fun _ hk => hk.elim) ?aF ?aO ?aB ?aS ?aL ?_; (case aP => exact rfl); (case aB => exact (by repeat (first | (with_reducible first | exact HB.out | apply below_alloc | apply pw_below_drewN | apply below_drew1) | exact HB.out))); (case aF => exact (fun _ _ => trivial)); (case aO => exact (by (with_reducible repeat (first | apply Kd.R_alloc | apply Kd.R_drewN | apply Kd.R_drew)); exact HO_5.out)); (case aS => exact (below_size (by repeat (first | (with_reducible first | exact HB.out | apply below_alloc | apply pw_below_drewN | apply below_drew1) | exact HB.out)))); (case aL => have := LMc7.out; omega); intro v104 w8 ho hb hg hat; rw [← Ny103.out] at ho; have n0_ := Aside0.mk (hb); have n1_ := Aside0.mk (ho); clear HB; clear HO_5; have HB := n0_; have HO105 := n1_; clear n0_ n1_; clear ho hb hg hat))
              go_roundg k1
              case measure => have := HK1.out; omega
              case rel => exact ⟨(y103), (wrap64 (x6_1 + 1)), (by first | rfl | (simp; done) | (simp [*]; done)), H', ⟨by have := HK1.out; omega⟩, ⟨by (with_reducible repeat (first | apply Kd.R_alloc | apply Kd.R_drewN | apply Kd.R_drew)); exact HO105.out⟩, ⟨by repeat (first | (with_reducible first | exact HB.out | apply below_alloc | apply pw_below_drewN | apply below_drew1) | exact HB.out)⟩⟩
            · rw [if_neg c7] at H
              exact absurd H (by simp)
          · replace c6 := Bool.eq_false_iff.mpr c6
            subst c6
            have H1 : (paronymref22_Ends.l0 k1 l0 l1 x5_1 (wrap64 (x6_1 + 1))) = some r := by rw [if_neg (show ¬ (false = true) by decide)] at H; exact H
            clear H
            have H := H1
            clear H1
            have H' := Aside0.mk H
            clear H
            have p101 : 0 ≤ (x6_1 : Int) := of_decide_eq_true (by first | (with_reducible assumption) | assumption)
            have q101 : x6_1 < (l0.length : Int) := of_decide_eq_true (by first | (with_reducible assumption) | assumption)
            obtain ⟨ad101, A101_0, c101_0, e101, hx101_0, hl101_0, hi101_0⟩ := at_L1 HR0.out x6_1 p101 q101
            cases e101
            replace hx101_0 := (HB.out.cell (World.block_lt_of_cell? w _ hx101_0)).trans hx101_0
            have HR101_0 := Aside0.mk hi101_0
            have HC101_0 := Aside0.mk hl101_0
            clear hi101_0 hl101_0
            replace p101 := eq_true p101
            replace q101 := eq_true q101
            go_wp2_with (first | ((with_reducible refine gate_callee (f := 20) rfl ?_); refine goesL_ (some 18) rfl rfl Try.func20 (by kernel_rfl) rfl #[.slice A101_0 (rd_L1 l0 x6_1).length c101_0, .slice A1 l1.length c1] rfl (by (try simp only [List.map_toArray, List.map_cons, List.map_nil]); first | done | rfl | (simp only [List.length_drop, List.length_take]; rfl)) ?_; (with_reducible refine (paronymref01_Same.calls k1 _ _ (rd_L1 l0 x6_1) _ _ l1 false _ ?side1 ?side2 ?side3 ?side4 A5.out).mono ?_); (case side1 => repeat (first | exact (Kd.C_below HR101_0.out HB.out) | (with_reducible refine Kd.C_alloc ?_ _) | (with_reducible refine Kd.C_drewN ?_ _) | (with_reducible refine Kd.C_drew ?_))); (case side2 => exact HC101_0.out); (case side3 => repeat (first | exact (Kd.C_below HR1.out HB.out) | (with_reducible refine Kd.C_alloc ?_ _) | (with_reducible refine Kd.C_drewN ?_ _) | (with_reducible refine Kd.C_drew ?_))); (case side4 => exact HC1.out); rintro e w' ⟨rfl, ⟨nd, rfl⟩⟩; refine ⟨_, rfl, ?_⟩))
            go_roundg k1
            case measure => have := HK1.out; omega
            case rel => exact ⟨(x5_1), (wrap64 (x6_1 + 1)), (by first | rfl | (simp; done) | (simp [*]; done)), H', ⟨by have := HK1.out; omega⟩, ⟨by (with_reducible repeat (first | apply Kd.R_alloc | apply Kd.R_drewN | apply Kd.R_drew)); exact HO_5.out⟩, ⟨by repeat (first | (with_reducible first | exact HB.out | apply below_alloc | apply pw_below_drewN | apply below_drew1) | exact HB.out)⟩⟩
        · rw [if_neg c4] at H
          exact absurd H (by simp)
      · rw [if_neg c3] at H
        have c3b0 : decide (x6_1 < (l0.length : Int)) = false := decide_eq_false c3
        clear c3
        obtain rfl := Option.some.inj H
        go_wp2
        go_ret
        exact ⟨_, by first | rfl | (simp [errW_none, errW_some] <;> rfl) | (simp [*, errW_none, errW_some] <;> rfl), by (with_reducible repeat (first | apply Kd.R_alloc | apply Kd.R_drewN | apply Kd.R_drew)); exact HO_5.out, by repeat (first | (with_reducible first | exact HB.out | apply below_alloc | apply pw_below_drewN | apply below_drew1) | exact HB.out)⟩

end Go.Proofs.Ytlipbiihemhieaa.Q

-- from Qf54
-- Made by hp.py, a program of this session, with the kit's printer. Not trusted: Lean checks it.
namespace Go.Proofs.Ytlipbiihemhieaa.Q
open Go.RowKit Go.Proofs.YtlipbiihemhieaaW.PrintWords Go.Proofs.YtlipbiihemhieaaW.PrintLast Go.Proofs.YtlipbiihemhieaaW.PrintMore
attribute [local go_sem] max2_int min2_int max_two min_two max_three min_three max_four min_four   -- for this text's walks alone
set_option linter.unusedVariables false
set_option linter.unusedSimpArgs false

/-! ### paronymref22_Find: function 54 -/
def paronymref22_Find.l0 : Nat → List (List Int) → List Int → Int → Option (Int)
  | 0, _, _, _ => none
  | k + 1, x0, x1, x5 => if x5 < (x0.length : Int) then (if 0 ≤ x5 then ((paronymref01_Same.f k (rd_L1 x0 x5) x1).bind fun t102 => (if t102 = true then (some x5) else (paronymref22_Find.l0 k x0 x1 (wrap64 (x5 + 1))))) else (none)) else (some (-1))
def paronymref22_Find.f (k : Nat) (l0 : List (List Int)) (l1 : List Int) : Option (Int) := paronymref22_Find.l0 k l0 l1 0
theorem paronymref22_Find.mono_l : ∀ k, (∀ y0 y1 y2, LeO (paronymref22_Find.l0 k y0 y1 y2) (paronymref22_Find.l0 (k + 1) y0 y1 y2))
  | 0 => fun _ _ _ r h => by simp [paronymref22_Find.l0] at h
  | k + 1 => by
    have ih0 := paronymref22_Find.mono_l k
    · intro y0 y1 y2
      unfold paronymref22_Find.l0
      repeat' first
      | (with_reducible exact ih0 _ _ _)
      | (with_reducible exact paronymref01_Same.mono _ _ _)
      | (with_reducible exact LeO.refl _)
      | (with_reducible exact LeO.none _)
      | (with_reducible refine LeO.ite ?_ ?_)
      | (with_reducible refine LeO.bind ?_ (fun _ => ?_))
      | exact ih0 _ _ _
      | exact paronymref01_Same.mono _ _ _
      | exact LeO.none _
      | refine LeO.ite ?_ ?_
      | refine LeO.bind ?_ (fun _ => ?_)
theorem paronymref22_Find.mono : ∀ a0 a1 k, LeO (paronymref22_Find.f k a0 a1) (paronymref22_Find.f (k + 1) a0 a1) := by
  intro a0 a1 k
  have ih0 := paronymref22_Find.mono_l k
  unfold paronymref22_Find.f
  repeat' first
      | (with_reducible exact ih0 _ _ _)
      | (with_reducible exact paronymref01_Same.mono _ _ _)
      | (with_reducible exact LeO.refl _)
      | (with_reducible exact LeO.none _)
      | (with_reducible refine LeO.ite ?_ ?_)
      | (with_reducible refine LeO.bind ?_ (fun _ => ?_))
      | exact ih0 _ _ _
      | exact paronymref01_Same.mono _ _ _
      | exact LeO.none _
      | refine LeO.ite ?_ ?_
      | refine LeO.bind ?_ (fun _ => ?_)
set_option maxHeartbeats 8000000 in
set_option maxRecDepth 100000 in
theorem paronymref22_Find.calls (k : Nat) (A0 : Option Addr) (c0 : Nat) (l0 : List (List Int)) (A1 : Option Addr) (c1 : Nat) (l1 : List Int) (r : Int) (w : World) (hr0 : Kd.C (Kd.slice 3 (Kd.int .i64)) w A0 l0.length l0) (hc0 : l0.length ≤ c0) (hr1 : Kd.C (Kd.int .i64) w A1 l1.length l1) (hc1 : l1.length ≤ c1) (h : paronymref22_Find.f k l0 l1 = some r) :
    Calls Try.prog 54 #[.slice A0 l0.length c0, .slice A1 l1.length c1] w fun e w' => e = .returned (.int .i64 r) ∧ Drawn0 w w' := by
  have HR0 := Aside0.mk hr0
  have HC0 := Aside0.mk hc0
  clear hr0 hc0
  have HR1 := Aside0.mk hr1
  have HC1 := Aside0.mk hc1
  clear hr1 hc1
  have H : (paronymref22_Find.l0 k l0 l1 0) = some r := h
  clear h
  have H' := Aside0.mk H
  clear H
  go_enter Try.func54, Try.ntmps54
  go_wp2
  go_loopg [5] k (fun kq v5 w' => ∃ (x5_1 : Int), v5 = .int .i64 x5_1 ∧ Aside0 (paronymref22_Find.l0 kq l0 l1 x5_1 = some r) ∧ Aside0 (kq ≤ k) ∧ Drawn0 w w')
  case atStart => exact ⟨(0), (by first | rfl | (simp; done) | (simp [*]; done)), H', ⟨Nat.le_refl _⟩, by repeat (first | exact Drawn0.refl _ | apply Drawn0.step)⟩
  case round =>
    clear H'
    try clear c1
    try clear p2
    obtain ⟨x5_1, rfl, HA, HK1, ⟨m1, rfl⟩⟩ := hrel
    cases gk with
    | zero => exact absurd HA.out (by simp [paronymref22_Find.l0])
    | succ k1 =>
      have H := HA.out
      clear HA
      simp only [paronymref22_Find.l0] at H
      by_cases c3 : x5_1 < (l0.length : Int)
      · rw [if_pos c3] at H
        have c3b0 : decide (x5_1 < (l0.length : Int)) = true := decide_eq_true c3
        clear c3
        by_cases c4 : 0 ≤ x5_1
        · rw [if_pos c4] at H
          have c4b0 : decide (0 ≤ x5_1) = true := decide_eq_true c4
          clear c4
          replace H := Option.bind_eq_some_iff.mp H
          obtain ⟨t102, A50, H⟩ := H
          replace H : (if t102 = true then (some x5_1) else (paronymref22_Find.l0 k1 l0 l1 (wrap64 (x5_1 + 1)))) = some r := H
          have A5 := Aside0.mk A50
          clear A50
          by_cases c6 : t102 = true
          · subst c6
            have H1 : (some x5_1) = some r := by rw [if_pos rfl] at H; exact H
            clear H
            have H := H1
            clear H1
            obtain rfl := Option.some.inj H
            have p101 : 0 ≤ (x5_1 : Int) := of_decide_eq_true (by first | (with_reducible assumption) | assumption)
            have q101 : x5_1 < (l0.length : Int) := of_decide_eq_true (by first | (with_reducible assumption) | assumption)
            obtain ⟨ad101, A101_0, c101_0, e101, hx101_0, hl101_0, hi101_0⟩ := at_L1 HR0.out x5_1 p101 q101
            cases e101
            have HR101_0 := Aside0.mk hi101_0
            have HC101_0 := Aside0.mk hl101_0
            clear hi101_0 hl101_0
            replace p101 := eq_true p101
            replace q101 := eq_true q101
            go_wp2_with (first | ((with_reducible refine gate_callee (f := 20) rfl ?_); refine goesL_ (some 17) rfl rfl Try.func20 (by kernel_rfl) rfl #[.slice A101_0 (rd_L1 l0 x5_1).length c101_0, .slice A1 l1.length c1] rfl (by (try simp only [List.map_toArray, List.map_cons, List.map_nil]); first | done | rfl | (simp only [List.length_drop, List.length_take]; rfl)) ?_; (with_reducible refine (paronymref01_Same.calls k1 _ _ (rd_L1 l0 x5_1) _ _ l1 true _ ?side1 ?side2 ?side3 ?side4 A5.out).mono ?_); (case side1 => repeat (first | exact HR101_0.out | (with_reducible refine Kd.C_alloc ?_ _) | (with_reducible refine Kd.C_drewN ?_ _) | (with_reducible refine Kd.C_drew ?_))); (case side2 => exact HC101_0.out); (case side3 => repeat (first | exact HR1.out | (with_reducible refine Kd.C_alloc ?_ _) | (with_reducible refine Kd.C_drewN ?_ _) | (with_reducible refine Kd.C_drew ?_))); (case side4 => exact HC1.out); rintro e w' ⟨rfl, ⟨nd, rfl⟩⟩; refine ⟨_, rfl, ?_⟩))
            go_ret
            exact ⟨by first | rfl | (simp; done) | (simp [*]; done), by repeat (first | exact Drawn0.refl _ | apply Drawn0.step)⟩
          · replace c6 := Bool.eq_false_iff.mpr c6
            subst c6
            have H1 : (paronymref22_Find.l0 k1 l0 l1 (wrap64 (x5_1 + 1))) = some r := by rw [if_neg (show ¬ (false = true) by decide)] at H; exact H
            clear H
            have H := H1
            clear H1
            have H' := Aside0.mk H
            clear H
            have p101 : 0 ≤ (x5_1 : Int) := of_decide_eq_true (by first | (with_reducible assumption) | assumption)
            have q101 : x5_1 < (l0.length : Int) := of_decide_eq_true (by first | (with_reducible assumption) | assumption)
            obtain ⟨ad101, A101_0, c101_0, e101, hx101_0, hl101_0, hi101_0⟩ := at_L1 HR0.out x5_1 p101 q101
            cases e101
            have HR101_0 := Aside0.mk hi101_0
            have HC101_0 := Aside0.mk hl101_0
            clear hi101_0 hl101_0
            replace p101 := eq_true p101
            replace q101 := eq_true q101
            go_wp2_with (first | ((with_reducible refine gate_callee (f := 20) rfl ?_); refine goesL_ (some 17) rfl rfl Try.func20 (by kernel_rfl) rfl #[.slice A101_0 (rd_L1 l0 x5_1).length c101_0, .slice A1 l1.length c1] rfl (by (try simp only [List.map_toArray, List.map_cons, List.map_nil]); first | done | rfl | (simp only [List.length_drop, List.length_take]; rfl)) ?_; (with_reducible refine (paronymref01_Same.calls k1 _ _ (rd_L1 l0 x5_1) _ _ l1 false _ ?side1 ?side2 ?side3 ?side4 A5.out).mono ?_); (case side1 => repeat (first | exact HR101_0.out | (with_reducible refine Kd.C_alloc ?_ _) | (with_reducible refine Kd.C_drewN ?_ _) | (with_reducible refine Kd.C_drew ?_))); (case side2 => exact HC101_0.out); (case side3 => repeat (first | exact HR1.out | (with_reducible refine Kd.C_alloc ?_ _) | (with_reducible refine Kd.C_drewN ?_ _) | (with_reducible refine Kd.C_drew ?_))); (case side4 => exact HC1.out); rintro e w' ⟨rfl, ⟨nd, rfl⟩⟩; refine ⟨_, rfl, ?_⟩))
            go_roundg k1
            case measure => have := HK1.out; omega
            case rel => exact ⟨(wrap64 (x5_1 + 1)), (by first | rfl | (simp; done) | (simp [*]; done)), H', ⟨by have := HK1.out; omega⟩, by repeat (first | exact Drawn0.refl _ | apply Drawn0.step)⟩
        · rw [if_neg c4] at H
          exact absurd H (by simp)
      · rw [if_neg c3] at H
        have c3b0 : decide (x5_1 < (l0.length : Int)) = false := decide_eq_false c3
        clear c3
        obtain rfl := Option.some.inj H
        go_wp2
        go_ret
        exact ⟨by first | rfl | (simp; done) | (simp [*]; done), by repeat (first | exact Drawn0.refl _ | apply Drawn0.step)⟩

end Go.Proofs.Ytlipbiihemhieaa.Q
