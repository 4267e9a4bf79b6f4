/- Part 1 of 2 of the proof of FieldRemarks: remarks behind lines' bodies, and byte 0D ahead of their ends, change no fields For every input; no condition. -/
import Derived.Test.YtdnfmilnkoocdaaDoorProg
import Derived.Below
import Derived.Deep.Draws
import Derived.Deep.AppendLies
import Derived.Maps.AppendAt
import Derived.OwnWalk
import Derived.Laws.BytesArg
import Derived.Laws.MakeOwn
import Derived.Laws.OwnMore
import Derived.Deep.OwnRows
import Derived.Tactics
import Derived.Lib.ConvBytes
import Derived.Laws.Slices
import Derived.WalkKit
import Derived.KernelRfl
import Derived.RowKit3
import Derived.Deep.LoopGhost
import Derived.Deep.QuietTactic
import Derived.BigQuiet
import Derived.WideLaws
import Derived.Deep.DeepCutAuto
import Derived.Deep.CutBlock
import Derived.Deep.RegionHeld3
import Derived.Laws.Rows
import Derived.Lib.AppendStr
import Derived.ArgAppend
import Derived.Laws.IdiomCopy
import Derived.OrdersHeld
import Derived.Laws.BitsLemmas
import Derived.RowKit
import Derived.Test.YtdnfmilnkoocdaaDoorWWords
import Derived.Test.YtdnfmilnkoocdaaDoorWLast
import Derived.Test.YtdnfmilnkoocdaaDoorWTab
import Derived.Test.YtdnfmilnkoocdaaDoorWFour
import Derived.Test.YtdnfmilnkoocdaaDoorWQPut
import Derived.Test.YtdnfmilnkoocdaaDoorWApart
import Derived.Test.YtdnfmilnkoocdaaDoorWArr
import Derived.Test.YtdnfmilnkoocdaaDoorWZeros
import Derived.Test.YtdnfmilnkoocdaaDoorWFoot
import Derived.Test.YtdnfmilnkoocdaaDoorWKept
import Derived.Test.YtdnfmilnkoocdaaDoorWShare
import Derived.Test.YtdnfmilnkoocdaaDoorWN
import Derived.Test.YtdnfmilnkoocdaaDoorWFootNe
import Derived.Test.YtdnfmilnkoocdaaDoorWAt
import Derived.Test.YtdnfmilnkoocdaaDoorWEqStruct
import Derived.Test.YtdnfmilnkoocdaaDoorWRepsOne
import Derived.Test.YtdnfmilnkoocdaaDoorWInv
import Derived.Test.YtdnfmilnkoocdaaDoorWInvWords
import Derived.Test.YtdnfmilnkoocdaaDoorWGuard
import Derived.Test.YtdnfmilnkoocdaaDoorWNEv
import Derived.Test.YtdnfmilnkoocdaaDoorWMore
import Derived.Ground.NamesProg
import Derived.Shelf.Lay
import Derived.Shelf.Strings.SlTrimAscii
import Derived.Shelf.Strings.Cut
import Derived.Shelf.Strings.Split
import Derived.Shelf.Strings.Prefix
import Derived.Shelf.Strings.Repeat
import Derived.Shelf.Strings.OnBuilder
import Derived.Lib.Bytes
import Derived.IntWalk
import Derived.WalkSmall
import Derived.Lib.Split
import Derived.Lib.CountLaws
import Derived.Lib.SlTrimSet
import Derived.Lib.Case
import Derived.Lib.Repeat
import Derived.Lib.IndexMore
import Derived.Test.YtdnfmilnkoocdaaDoorRows
import Derived.Shelf.Vars
import Derived.Handed
import Derived.LaidSub
import Derived.ProofKit
import Derived.OpenShut
import Derived.ShutString
import Derived.LaidMore
import Derived.ChangeOld
import Derived.Ground.SlbSplitProg
import Derived.Ground.SlbCloneProg
import Derived.Shelf.Bytes.SlClone
import Derived.Shelf.Bytes.SlSplit
import Derived.Shelf.Bytes.SlSplitNil
import Derived.Shelf.Bytes.SlSmallAll
import Derived.RangeFuncNested
import Derived.RangeFuncBound
import Derived.RangeFuncCalls
import Derived.RangeFuncLeaves
import Derived.Shelf.Abstract
import Derived.OwnWalkIn
import Derived.TacticsInMore
import Derived.LoopNIn
import Derived.LoopIn
import Derived.RangeFuncBox
import Derived.Sort.LoopGhostIn
import Derived.Laws.Cover3
import Derived.Lib.Strings
import Derived.Lib.Slices
import Derived.Lib.Walk
import Derived.Lib.Bytealg

-- from Qh
-- Made by hp.py, a program of this session, with the kit's printer. Not trusted: Lean checks it.
namespace Go.Proofs.YtdnfmilnkoocdaaDoor.Q
open Go.RowKit Go.Proofs.YtdnfmilnkoocdaaDoorW.PrintWords Go.Proofs.YtdnfmilnkoocdaaDoorW.PrintLast Go.Proofs.YtdnfmilnkoocdaaDoorW.PrintMore
attribute [local go_sem] max2_int min2_int max_two min_two max_three min_three max_four min_four   -- for this text's walks alone
set_option linter.unusedVariables false
set_option linter.unusedSimpArgs false



def errW : Option Int → Value
  | none => .nilIface
  | some c => .iface 0 (.int .i64 c)
theorem errW_none : errW none = .nilIface := rfl
theorem errW_some (c : Int) : errW (some c) = .iface 0 (.int .i64 c) := rfl

theorem info3 : (Tryd.prog.info? 3).map (fun i => (i.zero, i.size, i.bytes)) = some (some (.int .i64 0), 1, 8) := by kernel_rfl
theorem info5 : (Tryd.prog.info? 5).map (fun i => (i.zero, i.size, i.bytes)) = some (some (.int .u8 0), 1, 1) := by kernel_rfl
theorem info9 : (Tryd.prog.info? 9).map (fun i => (i.zero, i.size, i.bytes)) = some (some (.string ⟨#[]⟩), 1, 16) := by kernel_rfl
theorem info22 : (Tryd.prog.info? 22).map (fun i => (i.zero, i.size, i.bytes)) = some (some (.slice none 0 0), 1, 24) := by kernel_rfl
theorem info60 : (Tryd.prog.info? 60).map (fun i => (i.zero, i.size, i.bytes)) = some (some (.agg #[(.int .i64 0), (.slice none 0 0)]), 2, 32) := by kernel_rfl
-- the values' own types
def rd_L2 (xs : List (List Int)) (i : Int) : (List Int) := xs.getD i.toNat ([] : List Int)
theorem at_L2 {w : World} {A : Option Addr} {n : Nat} {xs : List (List Int)} (h : Kd.C (Kd.slice 5 (Kd.int .u8)) w A n xs) (i : Int) (h0 : 0 ≤ i) (h1 : i < n) : ∃ ad A0 c0, A = some ad ∧ w.cell? (ad.add i.toNat) = some (.slice A0 (rd_L2 xs i).length c0) ∧ (rd_L2 xs i).length ≤ c0 ∧ (Kd.int .u8).C w A0 (rd_L2 xs i).length (rd_L2 xs i) := by
  obtain ⟨ad, c, e, _, hK, hc0⟩ := Kd.C_get h ([] : List Int) i h0 h1
  have hc : ∀ j u, c[j]? = some u → w.cell? (ad.add (i.toNat * 1 + j)) = some u := hc0
  obtain ⟨A0, c0, rfl, l0, g0⟩ := hK
  exact ⟨ad, A0, c0, e, by have hq := hc 0 _ rfl; rwa [Nat.mul_one, Nat.add_zero] at hq, l0, g0⟩

def rd_L4 (xs : List (List ByteArray)) (i : Int) : (List ByteArray) := xs.getD i.toNat ([] : List ByteArray)
theorem at_L4 {w : World} {A : Option Addr} {n : Nat} {xs : List (List ByteArray)} (h : Kd.C (Kd.slice 9 Kd.string) w A n xs) (i : Int) (h0 : 0 ≤ i) (h1 : i < n) : ∃ ad A0 c0, A = some ad ∧ w.cell? (ad.add i.toNat) = some (.slice A0 (rd_L4 xs i).length c0) ∧ (rd_L4 xs i).length ≤ c0 ∧ Kd.string.C w A0 (rd_L4 xs i).length (rd_L4 xs i) := by
  obtain ⟨ad, c, e, _, hK, hc0⟩ := Kd.C_get h ([] : List ByteArray) i h0 h1
  have hc : ∀ j u, c[j]? = some u → w.cell? (ad.add (i.toNat * 1 + j)) = some u := hc0
  obtain ⟨A0, c0, rfl, l0, g0⟩ := hK
  exact ⟨ad, A0, c0, e, by have hq := hc 0 _ rfl; rwa [Nat.mul_one, Nat.add_zero] at hq, l0, g0⟩

/-! #### struct type 60 -/
structure S60 where
  f0 : Int
  f1 : (List ByteArray)
def z60 : S60 := ⟨(0 : Int), ([] : List ByteArray)⟩
def k60 : Kd S60 := Kd.iso (Kd.pair (Kd.int .i64) (Kd.slice 9 Kd.string)) (fun x : S60 => (x.f0, x.f1))
theorem k60_open {w : World} {x : S60} {cs : List Value} (h : k60.K w x cs) : ∃ A1 c1, cs = [.int .i64 x.f0, .slice A1 x.f1.length c1] ∧ x.f1.length ≤ c1 ∧ Kd.string.C w A1 x.f1.length x.f1 := by
  obtain ⟨_, _, rfl, rfl, ⟨A1, c1, rfl, l1, g1⟩⟩ := h
  exact ⟨A1, c1, rfl, l1, g1⟩
theorem k60_openM {w : World} {base : Nat} {ok : Nat → Prop} {x : S60} {cs : List Value} (h : k60.M w base ok x cs) : ∃ v1, cs = [.int .i64 x.f0, v1] ∧ Kd.string.R 9 w base ok v1 x.f1 := by
  obtain ⟨_, _, rfl, rfl, ⟨v1, rfl, g1⟩⟩ := h
  exact ⟨v1, rfl, g1⟩
theorem k60_mk (w : World) (x : S60) {A1 : Option Addr} {c1 : Nat} (l1 : x.f1.length ≤ c1) (g1 : Kd.string.C w A1 x.f1.length x.f1) : k60.K w x [.int .i64 x.f0, .slice A1 x.f1.length c1] := ⟨[.int .i64 x.f0], [.slice A1 x.f1.length c1], rfl, rfl, ⟨A1, c1, rfl, l1, g1⟩⟩
theorem k60_mkM (w : World) (base : Nat) (ok : Nat → Prop) (x : S60) {v1 : Value} (g1 : Kd.string.R 9 w base ok v1 x.f1) : k60.M w base ok x [.int .i64 x.f0, v1] := ⟨[.int .i64 x.f0], [v1], rfl, rfl, ⟨v1, rfl, g1⟩⟩
theorem k60_openF {W : World} {ok : Nat → Prop} {x : S60} {cs : List Value} (h : Kd.FK k60 W ok x cs) : ∃ A1 c1, cs = [.int .i64 x.f0, .slice A1 x.f1.length c1] ∧ x.f1.length ≤ c1 ∧ Kd.F Kd.string W ok A1 x.f1.length x.f1 := by
  obtain ⟨A1, c1, rfl, l1, _⟩ := k60_open (Kd.FK_now h)
  exact ⟨A1, c1, rfl, l1, (fun W' hW => by obtain ⟨A1_, c1_, he, l1_, g1_⟩ := k60_open (h W' hW); injection (Option.some.inj (show some (Value.slice A1 x.f1.length c1) = some (Value.slice A1_ x.f1.length c1_) from congrArg (fun l => l[1]?) he)) with ha_ _ _; rw [ha_]; exact g1_)⟩
theorem k60_mkF (W : World) (ok : Nat → Prop) (x : S60) {A1 : Option Addr} {c1 : Nat} (l1 : x.f1.length ≤ c1) (g1 : Kd.F Kd.string W ok A1 x.f1.length x.f1) : Kd.FK k60 W ok x [.int .i64 x.f0, .slice A1 x.f1.length c1] := fun W2 hW => k60_mk W2 x l1 (g1 W2 hW)
def rd_T60 (xs : List S60) (i : Int) : S60 := xs.getD i.toNat z60
theorem at_T60 {w : World} {A : Option Addr} {n : Nat} {xs : List S60} (h : Kd.C k60 w A n xs) (i : Int) (h0 : 0 ≤ i) (h1 : i < n) : ∃ ad A1 c1, A = some ad ∧ w.cell? (ad.add (i.toNat * 2)) = some (.int .i64 (rd_T60 xs i).f0) ∧ w.cell? ⟨(ad.add (i.toNat * 2)).block, (ad.add (i.toNat * 2)).off + 1, none⟩ = some (.slice A1 (rd_T60 xs i).f1.length c1) ∧ (rd_T60 xs i).f1.length ≤ c1 ∧ Kd.string.C w A1 (rd_T60 xs i).f1.length (rd_T60 xs i).f1 := by
  obtain ⟨ad, c, e, _, hK, hc0⟩ := Kd.C_get h z60 i h0 h1
  have hc : ∀ j u, c[j]? = some u → w.cell? (ad.add (i.toNat * 2 + j)) = some u := hc0
  obtain ⟨A1, c1, rfl, l1, g1⟩ := k60_open hK
  exact ⟨ad, A1, c1, e, hc 0 _ rfl, by rw [← add_field _ _ 1 (by omega)]; exact hc 1 _ rfl, l1, g1⟩

end Go.Proofs.YtdnfmilnkoocdaaDoor.Q

-- from Hflay
/- The shelf's walks that layer 2 wants, laid for this program. -/
namespace Go.Proofs
open Go.Shelf
def Tryd.lays160_ren : Go.Shelf.Ren := ⟨fun | 160 => 84 | 232 => 105 | 231 => 72 | 227 => 73 | 234 => 106 | 233 => 74 | 236 => 107 | 235 => 75 | 228 => 93 | 271 => 127 | 151 => 95 | 197 => 94 | 120 => 150 | 152 => 118 | 260 => 117 | 137 => 46 | 119 => 142 | 224 => 139 | 225 => 138 | 217 => 76 | 266 => 96 | n => n, fun | 9 => 9 | 4 => 4 | 3 => 3 | 5 => 5 | 117 => 117 | 116 => 116 | 0 => 0 | 124 => 120 | 21 => 21 | 105 => 133 | 46 => 103 | 119 => 166 | 139 => 169 | 138 => 168 | n => n, fun | 3 => 1 | 4 => 2 | n => n⟩
theorem Tryd.lays160 : Go.Proofs.Lays.n160 Tryd.prog Tryd.lays160_ren := {
  mixed := by kernel_rfl
  f119 := Tryd.func142.trans (congrArg some (by kernel_rfl))
  f120 := Tryd.func150.trans (congrArg some (by kernel_rfl))
  f137 := Tryd.func46.trans (congrArg some (by kernel_rfl))
  f151 := Tryd.func95.trans (congrArg some (by kernel_rfl))
  f152 := Tryd.func118.trans (congrArg some (by kernel_rfl))
  f160 := Tryd.func84.trans (congrArg some (by kernel_rfl))
  f197 := Tryd.func94.trans (congrArg some (by kernel_rfl))
  f217 := Tryd.func76.trans (congrArg some (by kernel_rfl))
  f224 := Tryd.func139.trans (congrArg some (by kernel_rfl))
  f225 := Tryd.func138.trans (congrArg some (by kernel_rfl))
  f227 := Tryd.func73.trans (congrArg some (by kernel_rfl))
  f228 := Tryd.func93.trans (congrArg some (by kernel_rfl))
  f231 := Tryd.func72.trans (congrArg some (by kernel_rfl))
  f232 := Tryd.func105.trans (congrArg some (by kernel_rfl))
  f233 := Tryd.func74.trans (congrArg some (by kernel_rfl))
  f234 := Tryd.func106.trans (congrArg some (by kernel_rfl))
  f235 := Tryd.func75.trans (congrArg some (by kernel_rfl))
  f236 := Tryd.func107.trans (congrArg some (by kernel_rfl))
  f260 := Tryd.func117.trans (congrArg some (by kernel_rfl))
  f266 := Tryd.func96.trans (congrArg some (by kernel_rfl))
  f271 := Tryd.func127.trans (congrArg some (by kernel_rfl))
  t0 := Tryd.underlying0
  a0 := Tryd.isAgg0
  z0 := Tryd.sizeOf0
  v0 := Tryd.zeroValue0
  t3 := Tryd.underlying3
  a3 := Tryd.isAgg3
  z3 := Tryd.sizeOf3
  v3 := Tryd.zeroValue3
  t4 := Tryd.underlying4
  a4 := Tryd.isAgg4
  z4 := Tryd.sizeOf4
  v4 := Tryd.zeroValue4
  t5 := Tryd.underlying5
  a5 := Tryd.isAgg5
  z5 := Tryd.sizeOf5
  v5 := Tryd.zeroValue5
  t9 := Tryd.underlying9
  a9 := Tryd.isAgg9
  z9 := Tryd.sizeOf9
  v9 := Tryd.zeroValue9
  t21 := Tryd.underlying21
  a21 := Tryd.isAgg21
  z21 := Tryd.sizeOf21
  v21 := Tryd.zeroValue21
  t46 := Tryd.underlying103
  a46 := Tryd.isAgg103
  z46 := Tryd.sizeOf103
  v46 := Tryd.zeroValue103
  t105 := Tryd.underlying133
  a105 := Tryd.isAgg133
  z105 := Tryd.sizeOf133
  v105 := Tryd.zeroValue133
  t116 := Tryd.underlying116
  a116 := Tryd.isAgg116
  z116 := Tryd.sizeOf116
  t117 := Tryd.underlying117
  a117 := Tryd.isAgg117
  z117 := Tryd.sizeOf117
  v117 := Tryd.zeroValue117
  t119 := Tryd.underlying166
  a119 := Tryd.isAgg166
  z119 := Tryd.sizeOf166
  t124 := Tryd.underlying120
  a124 := Tryd.isAgg120
  z124 := Tryd.sizeOf120
  v124 := Tryd.zeroValue120
  t138 := Tryd.underlying168
  a138 := Tryd.isAgg168
  z138 := Tryd.sizeOf168
  v138 := Tryd.zeroValue168
  t139 := Tryd.underlying169
  a139 := Tryd.isAgg169
  z139 := Tryd.sizeOf169
  v139 := Tryd.zeroValue169
  g3 := by kernel_rfl
  g4 := by kernel_rfl }
def Tryd.lays145_ren : Go.Shelf.Ren := ⟨fun | 145 => 66 | 220 => 89 | 219 => 114 | 217 => 76 | 225 => 138 | 224 => 139 | 267 => 140 | 266 => 96 | 314 => 158 | n => n, fun | 9 => 9 | 4 => 4 | 59 => 105 | 3 => 3 | 5 => 5 | 46 => 103 | 146 => 161 | 51 => 160 | n => n, fun | 1 => 0 | n => n⟩
theorem Tryd.lays145 : Go.Proofs.Lays.n145 Tryd.prog Tryd.lays145_ren := {
  mixed := by kernel_rfl
  f145 := Tryd.func66.trans (congrArg some (by kernel_rfl))
  f217 := Tryd.func76.trans (congrArg some (by kernel_rfl))
  f219 := Tryd.func114.trans (congrArg some (by kernel_rfl))
  f220 := Tryd.func89.trans (congrArg some (by kernel_rfl))
  f224 := Tryd.func139.trans (congrArg some (by kernel_rfl))
  f225 := Tryd.func138.trans (congrArg some (by kernel_rfl))
  f266 := Tryd.func96.trans (congrArg some (by kernel_rfl))
  f267 := Tryd.func140.trans (congrArg some (by kernel_rfl))
  f314 := Tryd.func158.trans (congrArg some (by kernel_rfl))
  t3 := Tryd.underlying3
  a3 := Tryd.isAgg3
  z3 := Tryd.sizeOf3
  v3 := Tryd.zeroValue3
  t4 := Tryd.underlying4
  a4 := Tryd.isAgg4
  z4 := Tryd.sizeOf4
  v4 := Tryd.zeroValue4
  t5 := Tryd.underlying5
  a5 := Tryd.isAgg5
  z5 := Tryd.sizeOf5
  v5 := Tryd.zeroValue5
  t9 := Tryd.underlying9
  a9 := Tryd.isAgg9
  z9 := Tryd.sizeOf9
  v9 := Tryd.zeroValue9
  t46 := Tryd.underlying103
  a46 := Tryd.isAgg103
  z46 := Tryd.sizeOf103
  v46 := Tryd.zeroValue103
  t51 := Tryd.underlying160
  a51 := Tryd.isAgg160
  z51 := Tryd.sizeOf160
  v51 := Tryd.zeroValue160
  t59 := Tryd.underlying105
  a59 := Tryd.isAgg105
  z59 := Tryd.sizeOf105
  v59 := Tryd.zeroValue105
  t146 := Tryd.underlying161
  a146 := Tryd.isAgg161
  z146 := Tryd.sizeOf161
  v146 := Tryd.zeroValue161
  g1 := by kernel_rfl }
def Tryd.lays146_ren : Go.Shelf.Ren := ⟨fun | 146 => 59 | 221 => 83 | 268 => 102 | 138 => 103 | 143 => 104 | 195 => 125 | 197 => 94 | 218 => 126 | 219 => 114 | 260 => 117 | 217 => 76 | 225 => 138 | 224 => 139 | 267 => 140 | 266 => 96 | 314 => 158 | n => n, fun | 9 => 9 | 31 => 24 | 3 => 3 | 4 => 4 | 0 => 0 | 105 => 133 | 21 => 21 | 5 => 5 | 46 => 103 | 119 => 166 | 139 => 169 | 138 => 168 | 146 => 161 | 51 => 160 | n => n, fun | 1 => 0 | 3 => 1 | 4 => 2 | n => n⟩
theorem Tryd.lays146 : Go.Proofs.Lays.n146 Tryd.prog Tryd.lays146_ren := {
  mixed := by kernel_rfl
  f138 := Tryd.func103.trans (congrArg some (by kernel_rfl))
  f143 := Tryd.func104.trans (congrArg some (by kernel_rfl))
  f146 := Tryd.func59.trans (congrArg some (by kernel_rfl))
  f195 := Tryd.func125.trans (congrArg some (by kernel_rfl))
  f197 := Tryd.func94.trans (congrArg some (by kernel_rfl))
  f217 := Tryd.func76.trans (congrArg some (by kernel_rfl))
  f218 := Tryd.func126.trans (congrArg some (by kernel_rfl))
  f219 := Tryd.func114.trans (congrArg some (by kernel_rfl))
  f221 := Tryd.func83.trans (congrArg some (by kernel_rfl))
  f224 := Tryd.func139.trans (congrArg some (by kernel_rfl))
  f225 := Tryd.func138.trans (congrArg some (by kernel_rfl))
  f260 := Tryd.func117.trans (congrArg some (by kernel_rfl))
  f266 := Tryd.func96.trans (congrArg some (by kernel_rfl))
  f267 := Tryd.func140.trans (congrArg some (by kernel_rfl))
  f268 := Tryd.func102.trans (congrArg some (by kernel_rfl))
  f314 := Tryd.func158.trans (congrArg some (by kernel_rfl))
  t0 := Tryd.underlying0
  a0 := Tryd.isAgg0
  z0 := Tryd.sizeOf0
  v0 := Tryd.zeroValue0
  t3 := Tryd.underlying3
  a3 := Tryd.isAgg3
  z3 := Tryd.sizeOf3
  v3 := Tryd.zeroValue3
  t4 := Tryd.underlying4
  a4 := Tryd.isAgg4
  z4 := Tryd.sizeOf4
  v4 := Tryd.zeroValue4
  t5 := Tryd.underlying5
  a5 := Tryd.isAgg5
  z5 := Tryd.sizeOf5
  v5 := Tryd.zeroValue5
  t9 := Tryd.underlying9
  a9 := Tryd.isAgg9
  z9 := Tryd.sizeOf9
  v9 := Tryd.zeroValue9
  t21 := Tryd.underlying21
  a21 := Tryd.isAgg21
  z21 := Tryd.sizeOf21
  v21 := Tryd.zeroValue21
  t31 := Tryd.underlying24
  a31 := Tryd.isAgg24
  z31 := Tryd.sizeOf24
  v31 := Tryd.zeroValue24
  t46 := Tryd.underlying103
  a46 := Tryd.isAgg103
  z46 := Tryd.sizeOf103
  v46 := Tryd.zeroValue103
  t51 := Tryd.underlying160
  a51 := Tryd.isAgg160
  z51 := Tryd.sizeOf160
  v51 := Tryd.zeroValue160
  t105 := Tryd.underlying133
  a105 := Tryd.isAgg133
  z105 := Tryd.sizeOf133
  v105 := Tryd.zeroValue133
  t119 := Tryd.underlying166
  a119 := Tryd.isAgg166
  z119 := Tryd.sizeOf166
  t138 := Tryd.underlying168
  a138 := Tryd.isAgg168
  z138 := Tryd.sizeOf168
  v138 := Tryd.zeroValue168
  t139 := Tryd.underlying169
  a139 := Tryd.isAgg169
  z139 := Tryd.sizeOf169
  v139 := Tryd.zeroValue169
  t146 := Tryd.underlying161
  a146 := Tryd.isAgg161
  z146 := Tryd.sizeOf161
  v146 := Tryd.zeroValue161
  g1 := by kernel_rfl
  g3 := by kernel_rfl
  g4 := by kernel_rfl }
def Tryd.lays102_ren : Go.Shelf.Ren := ⟨fun | 102 => 63 | 209 => 85 | 207 => 108 | n => n, fun | 9 => 9 | 4 => 4 | 3 => 3 | n => n, fun | n => n⟩
theorem Tryd.lays102 : Go.Proofs.Lays.n102 Tryd.prog Tryd.lays102_ren := {
  mixed := by kernel_rfl
  f102 := Tryd.func63.trans (congrArg some (by kernel_rfl))
  f207 := Tryd.func108.trans (congrArg some (by kernel_rfl))
  f209 := Tryd.func85.trans (congrArg some (by kernel_rfl))
  t3 := Tryd.underlying3
  a3 := Tryd.isAgg3
  z3 := Tryd.sizeOf3
  v3 := Tryd.zeroValue3
  t4 := Tryd.underlying4
  a4 := Tryd.isAgg4
  z4 := Tryd.sizeOf4
  v4 := Tryd.zeroValue4
  t9 := Tryd.underlying9
  a9 := Tryd.isAgg9
  z9 := Tryd.sizeOf9
  v9 := Tryd.zeroValue9 }
def Tryd.lays105_ren : Go.Shelf.Ren := ⟨fun | 105 => 88 | 212 => 112 | 99 => 56 | 165 => 92 | 166 => 47 | 170 => 113 | 169 => 50 | 263 => 136 | 264 => 137 | 206 => 79 | 240 => 77 | 241 => 116 | 276 => 97 | 277 => 141 | n => n, fun | 9 => 9 | 3 => 3 | 4 => 4 | 20 => 20 | 0 => 0 | 46 => 103 | 109 => 145 | 5 => 5 | 72 => 81 | 76 => 85 | 51 => 160 | 146 => 161 | 53 => 155 | 148 => 163 | 70 => 79 | 37 => 22 | 75 => 84 | 127 => 121 | 164 => 136 | 80 => 89 | n => n, fun | n => n⟩
theorem Tryd.lays105 : Go.Proofs.Lays.n105 Tryd.prog Tryd.lays105_ren := {
  mixed := by kernel_rfl
  f99 := Tryd.func56.trans (congrArg some (by kernel_rfl))
  f105 := Tryd.func88.trans (congrArg some (by kernel_rfl))
  f165 := Tryd.func92.trans (congrArg some (by kernel_rfl))
  f166 := Tryd.func47.trans (congrArg some (by kernel_rfl))
  f169 := Tryd.func50.trans (congrArg some (by kernel_rfl))
  f170 := Tryd.func113.trans (congrArg some (by kernel_rfl))
  f206 := Tryd.func79.trans (congrArg some (by kernel_rfl))
  f212 := Tryd.func112.trans (congrArg some (by kernel_rfl))
  f240 := Tryd.func77.trans (congrArg some (by kernel_rfl))
  f241 := Tryd.func116.trans (congrArg some (by kernel_rfl))
  f263 := Tryd.func136.trans (congrArg some (by kernel_rfl))
  f264 := Tryd.func137.trans (congrArg some (by kernel_rfl))
  f276 := Tryd.func97.trans (congrArg some (by kernel_rfl))
  f277 := Tryd.func141.trans (congrArg some (by kernel_rfl))
  t0 := Tryd.underlying0
  a0 := Tryd.isAgg0
  z0 := Tryd.sizeOf0
  v0 := Tryd.zeroValue0
  t3 := Tryd.underlying3
  a3 := Tryd.isAgg3
  z3 := Tryd.sizeOf3
  v3 := Tryd.zeroValue3
  t4 := Tryd.underlying4
  a4 := Tryd.isAgg4
  z4 := Tryd.sizeOf4
  v4 := Tryd.zeroValue4
  t5 := Tryd.underlying5
  a5 := Tryd.isAgg5
  z5 := Tryd.sizeOf5
  v5 := Tryd.zeroValue5
  t9 := Tryd.underlying9
  a9 := Tryd.isAgg9
  z9 := Tryd.sizeOf9
  v9 := Tryd.zeroValue9
  t20 := Tryd.underlying20
  a20 := Tryd.isAgg20
  z20 := Tryd.sizeOf20
  v20 := Tryd.zeroValue20
  t37 := Tryd.underlying22
  a37 := Tryd.isAgg22
  z37 := Tryd.sizeOf22
  v37 := Tryd.zeroValue22
  t46 := Tryd.underlying103
  a46 := Tryd.isAgg103
  z46 := Tryd.sizeOf103
  v46 := Tryd.zeroValue103
  t51 := Tryd.underlying160
  a51 := Tryd.isAgg160
  z51 := Tryd.sizeOf160
  v51 := Tryd.zeroValue160
  t53 := Tryd.underlying155
  a53 := Tryd.isAgg155
  z53 := Tryd.sizeOf155
  v53 := Tryd.zeroValue155
  t70 := Tryd.underlying79
  a70 := Tryd.isAgg79
  z70 := Tryd.sizeOf79
  v70 := Tryd.zeroValue79
  t72 := Tryd.underlying81
  a72 := Tryd.isAgg81
  z72 := Tryd.sizeOf81
  v72 := Tryd.zeroValue81
  t75 := Tryd.underlying84
  a75 := Tryd.isAgg84
  z75 := Tryd.sizeOf84
  v75 := Tryd.zeroValue84
  t76 := Tryd.underlying85
  a76 := Tryd.isAgg85
  z76 := Tryd.sizeOf85
  v76 := Tryd.zeroValue85
  t109 := Tryd.underlying145
  a109 := Tryd.isAgg145
  z109 := Tryd.sizeOf145
  v109 := Tryd.zeroValue145
  t127 := Tryd.underlying121
  a127 := Tryd.isAgg121
  z127 := Tryd.sizeOf121
  v127 := Tryd.zeroValue121
  t146 := Tryd.underlying161
  a146 := Tryd.isAgg161
  z146 := Tryd.sizeOf161
  v146 := Tryd.zeroValue161
  t148 := Tryd.underlying163
  a148 := Tryd.isAgg163
  z148 := Tryd.sizeOf163
  v148 := Tryd.zeroValue163
  t164 := Tryd.underlying136
  a164 := Tryd.isAgg136
  z164 := Tryd.sizeOf136
  v164 := Tryd.zeroValue136 }
def Tryd.lays158_ren : Go.Shelf.Ren := ⟨fun | 158 => 86 | 165 => 92 | 166 => 47 | 167 => 48 | 169 => 50 | 230 => 109 | 203 => 110 | 240 => 77 | 241 => 116 | 197 => 94 | 118 => 128 | 168 => 129 | 270 => 130 | 262 => 131 | 276 => 97 | 277 => 141 | 260 => 117 | 242 => 151 | 313 => 152 | 278 => 162 | 274 => 163 | 275 => 164 | n => n, fun | 9 => 9 | 4 => 4 | 3 => 3 | 5 => 5 | 72 => 81 | 0 => 0 | 76 => 85 | 75 => 84 | 107 => 144 | 70 => 79 | 20 => 20 | 37 => 22 | 127 => 121 | 21 => 21 | 105 => 133 | 164 => 136 | 162 => 177 | 203 => 175 | 119 => 166 | 46 => 103 | 139 => 169 | 138 => 168 | 51 => 160 | 160 => 184 | 208 => 191 | 206 => 189 | 80 => 89 | n => n, fun | 13 => 3 | 3 => 1 | 4 => 2 | n => n⟩
theorem Tryd.lays158 : Go.Proofs.Lays.n158 Tryd.prog Tryd.lays158_ren := {
  mixed := by kernel_rfl
  f118 := Tryd.func128.trans (congrArg some (by kernel_rfl))
  f158 := Tryd.func86.trans (congrArg some (by kernel_rfl))
  f165 := Tryd.func92.trans (congrArg some (by kernel_rfl))
  f166 := Tryd.func47.trans (congrArg some (by kernel_rfl))
  f167 := Tryd.func48.trans (congrArg some (by kernel_rfl))
  f168 := Tryd.func129.trans (congrArg some (by kernel_rfl))
  f169 := Tryd.func50.trans (congrArg some (by kernel_rfl))
  f197 := Tryd.func94.trans (congrArg some (by kernel_rfl))
  f203 := Tryd.func110.trans (congrArg some (by kernel_rfl))
  f230 := Tryd.func109.trans (congrArg some (by kernel_rfl))
  f240 := Tryd.func77.trans (congrArg some (by kernel_rfl))
  f241 := Tryd.func116.trans (congrArg some (by kernel_rfl))
  f242 := Tryd.func151.trans (congrArg some (by kernel_rfl))
  f260 := Tryd.func117.trans (congrArg some (by kernel_rfl))
  f262 := Tryd.func131.trans (congrArg some (by kernel_rfl))
  f270 := Tryd.func130.trans (congrArg some (by kernel_rfl))
  f274 := Tryd.func163.trans (congrArg some (by kernel_rfl))
  f275 := Tryd.func164.trans (congrArg some (by kernel_rfl))
  f276 := Tryd.func97.trans (congrArg some (by kernel_rfl))
  f277 := Tryd.func141.trans (congrArg some (by kernel_rfl))
  f278 := Tryd.func162.trans (congrArg some (by kernel_rfl))
  f313 := Tryd.func152.trans (congrArg some (by kernel_rfl))
  t0 := Tryd.underlying0
  a0 := Tryd.isAgg0
  z0 := Tryd.sizeOf0
  v0 := Tryd.zeroValue0
  t3 := Tryd.underlying3
  a3 := Tryd.isAgg3
  z3 := Tryd.sizeOf3
  v3 := Tryd.zeroValue3
  t4 := Tryd.underlying4
  a4 := Tryd.isAgg4
  z4 := Tryd.sizeOf4
  v4 := Tryd.zeroValue4
  t5 := Tryd.underlying5
  a5 := Tryd.isAgg5
  z5 := Tryd.sizeOf5
  v5 := Tryd.zeroValue5
  t9 := Tryd.underlying9
  a9 := Tryd.isAgg9
  z9 := Tryd.sizeOf9
  v9 := Tryd.zeroValue9
  t20 := Tryd.underlying20
  a20 := Tryd.isAgg20
  z20 := Tryd.sizeOf20
  v20 := Tryd.zeroValue20
  t21 := Tryd.underlying21
  a21 := Tryd.isAgg21
  z21 := Tryd.sizeOf21
  v21 := Tryd.zeroValue21
  t37 := Tryd.underlying22
  a37 := Tryd.isAgg22
  z37 := Tryd.sizeOf22
  v37 := Tryd.zeroValue22
  t46 := Tryd.underlying103
  a46 := Tryd.isAgg103
  z46 := Tryd.sizeOf103
  v46 := Tryd.zeroValue103
  t51 := Tryd.underlying160
  a51 := Tryd.isAgg160
  z51 := Tryd.sizeOf160
  v51 := Tryd.zeroValue160
  t70 := Tryd.underlying79
  a70 := Tryd.isAgg79
  z70 := Tryd.sizeOf79
  v70 := Tryd.zeroValue79
  t72 := Tryd.underlying81
  a72 := Tryd.isAgg81
  z72 := Tryd.sizeOf81
  v72 := Tryd.zeroValue81
  t75 := Tryd.underlying84
  a75 := Tryd.isAgg84
  z75 := Tryd.sizeOf84
  v75 := Tryd.zeroValue84
  t76 := Tryd.underlying85
  a76 := Tryd.isAgg85
  z76 := Tryd.sizeOf85
  v76 := Tryd.zeroValue85
  t105 := Tryd.underlying133
  a105 := Tryd.isAgg133
  z105 := Tryd.sizeOf133
  v105 := Tryd.zeroValue133
  t107 := Tryd.underlying144
  a107 := Tryd.isAgg144
  z107 := Tryd.sizeOf144
  v107 := Tryd.zeroValue144
  t119 := Tryd.underlying166
  a119 := Tryd.isAgg166
  z119 := Tryd.sizeOf166
  t127 := Tryd.underlying121
  a127 := Tryd.isAgg121
  z127 := Tryd.sizeOf121
  v127 := Tryd.zeroValue121
  t138 := Tryd.underlying168
  a138 := Tryd.isAgg168
  z138 := Tryd.sizeOf168
  v138 := Tryd.zeroValue168
  t139 := Tryd.underlying169
  a139 := Tryd.isAgg169
  z139 := Tryd.sizeOf169
  v139 := Tryd.zeroValue169
  t160 := Tryd.underlying184
  a160 := Tryd.isAgg184
  z160 := Tryd.sizeOf184
  v160 := Tryd.zeroValue184
  t162 := Tryd.underlying177
  a162 := Tryd.isAgg177
  z162 := Tryd.sizeOf177
  v162 := Tryd.zeroValue177
  t164 := Tryd.underlying136
  a164 := Tryd.isAgg136
  z164 := Tryd.sizeOf136
  v164 := Tryd.zeroValue136
  t203 := Tryd.underlying175
  a203 := Tryd.isAgg175
  z203 := Tryd.sizeOf175
  v203 := Tryd.zeroValue175
  t206 := Tryd.underlying189
  a206 := Tryd.isAgg189
  z206 := Tryd.sizeOf189
  v206 := Tryd.zeroValue189
  t208 := Tryd.underlying191
  a208 := Tryd.isAgg191
  z208 := Tryd.sizeOf191
  v208 := Tryd.zeroValue191
  g3 := by kernel_rfl
  g4 := by kernel_rfl
  g13 := by kernel_rfl }
def Tryd.lays156_ren : Go.Shelf.Ren := ⟨fun | 156 => 71 | 165 => 92 | 166 => 47 | 169 => 50 | 240 => 77 | 241 => 116 | 276 => 97 | 277 => 141 | n => n, fun | 31 => 24 | 9 => 9 | 3 => 3 | 4 => 4 | 0 => 0 | 20 => 20 | 72 => 81 | 76 => 85 | 70 => 79 | 37 => 22 | 75 => 84 | 127 => 121 | 164 => 136 | 5 => 5 | 80 => 89 | n => n, fun | n => n⟩
theorem Tryd.lays156 : Go.Proofs.Lays.n156 Tryd.prog Tryd.lays156_ren := {
  mixed := by kernel_rfl
  f156 := Tryd.func71.trans (congrArg some (by kernel_rfl))
  f165 := Tryd.func92.trans (congrArg some (by kernel_rfl))
  f166 := Tryd.func47.trans (congrArg some (by kernel_rfl))
  f169 := Tryd.func50.trans (congrArg some (by kernel_rfl))
  f240 := Tryd.func77.trans (congrArg some (by kernel_rfl))
  f241 := Tryd.func116.trans (congrArg some (by kernel_rfl))
  f276 := Tryd.func97.trans (congrArg some (by kernel_rfl))
  f277 := Tryd.func141.trans (congrArg some (by kernel_rfl))
  t0 := Tryd.underlying0
  a0 := Tryd.isAgg0
  z0 := Tryd.sizeOf0
  v0 := Tryd.zeroValue0
  t3 := Tryd.underlying3
  a3 := Tryd.isAgg3
  z3 := Tryd.sizeOf3
  v3 := Tryd.zeroValue3
  t4 := Tryd.underlying4
  a4 := Tryd.isAgg4
  z4 := Tryd.sizeOf4
  v4 := Tryd.zeroValue4
  t9 := Tryd.underlying9
  a9 := Tryd.isAgg9
  z9 := Tryd.sizeOf9
  v9 := Tryd.zeroValue9
  t20 := Tryd.underlying20
  a20 := Tryd.isAgg20
  z20 := Tryd.sizeOf20
  v20 := Tryd.zeroValue20
  t31 := Tryd.underlying24
  a31 := Tryd.isAgg24
  z31 := Tryd.sizeOf24
  v31 := Tryd.zeroValue24
  t37 := Tryd.underlying22
  a37 := Tryd.isAgg22
  z37 := Tryd.sizeOf22
  v37 := Tryd.zeroValue22
  t70 := Tryd.underlying79
  a70 := Tryd.isAgg79
  z70 := Tryd.sizeOf79
  v70 := Tryd.zeroValue79
  t72 := Tryd.underlying81
  a72 := Tryd.isAgg81
  z72 := Tryd.sizeOf81
  v72 := Tryd.zeroValue81
  t75 := Tryd.underlying84
  a75 := Tryd.isAgg84
  z75 := Tryd.sizeOf84
  v75 := Tryd.zeroValue84
  t76 := Tryd.underlying85
  a76 := Tryd.isAgg85
  z76 := Tryd.sizeOf85
  v76 := Tryd.zeroValue85
  t127 := Tryd.underlying121
  a127 := Tryd.isAgg121
  z127 := Tryd.sizeOf121
  v127 := Tryd.zeroValue121
  t164 := Tryd.underlying136
  a164 := Tryd.isAgg136
  z164 := Tryd.sizeOf136
  v164 := Tryd.zeroValue136 }
theorem Tryd.bldX105 : Builder.Extra Tryd.prog Tryd.lays105_ren := {
  sizeBuilder := by kernel_rfl
  liesBuilder := by kernel_rfl
  t5 := Tryd.underlying5
  a5 := Tryd.isAgg5
  z5 := Tryd.sizeOf5
  v5 := Tryd.zeroValue5
  infoByte := by kernel_rfl
  cellsByte := by kernel_rfl
  sizeByte := by kernel_rfl
  neB5 := by decide }
theorem Tryd.bldX158 : Builder.Extra Tryd.prog Tryd.lays158_ren := {
  sizeBuilder := by kernel_rfl
  liesBuilder := by kernel_rfl
  t5 := Tryd.underlying5
  a5 := Tryd.isAgg5
  z5 := Tryd.sizeOf5
  v5 := Tryd.zeroValue5
  infoByte := by kernel_rfl
  cellsByte := by kernel_rfl
  sizeByte := by kernel_rfl
  neB5 := by decide }
theorem Tryd.bldX156 : Builder.Extra Tryd.prog Tryd.lays156_ren := {
  sizeBuilder := by kernel_rfl
  liesBuilder := by kernel_rfl
  t5 := Tryd.underlying5
  a5 := Tryd.isAgg5
  z5 := Tryd.sizeOf5
  v5 := Tryd.zeroValue5
  infoByte := by kernel_rfl
  cellsByte := by kernel_rfl
  sizeByte := by kernel_rfl
  neB5 := by decide }
end Go.Proofs

-- from K
/- Small lemmas on lists, octets and rounds, for the plain laws of this seat. No condition. -/
namespace Go.Proofs.YtdnfmilnkoocdaaDoor.K
set_option linter.unusedVariables false
set_option linter.unusedSimpArgs false
open Go.RowKit Go.Proofs.YtdnfmilnkoocdaaDoorW.PrintWords

theorem w64 {n : Int} (h0 : -9223372036854775808 ≤ n) (h1 : n ≤ 9223372036854775807) : wrap64 n = n := by unfold wrap64; omega
theorem rd_nat (l : List Int) (i : Nat) (h : i < l.length) : rd l (i : Int) = l[i] := by
  unfold rd; simp [List.getD_eq_getElem?_getD, List.getElem?_eq_getElem h]
theorem rd_mem {l : List Int} {i : Int} (h0 : 0 ≤ i) (h1 : i < (l.length : Int)) : rd l i ∈ l := by
  obtain ⟨n, rfl⟩ := Int.eq_ofNat_of_zero_le h0
  rw [rd_nat l n (by omega)]
  exact List.getElem_mem _
theorem rd_append_left {l m : List Int} {i : Int} (h0 : 0 ≤ i) (h1 : i < (l.length : Int)) : rd (l ++ m) i = rd l i := by
  unfold rd
  simp only [List.getD_eq_getElem?_getD]
  rw [List.getElem?_append_left (by omega)]
theorem rd_append_right {l m : List Int} {i : Int} (h0 : (l.length : Int) ≤ i) : rd (l ++ m) i = rd m (i - l.length) := by
  unfold rd
  simp only [List.getD_eq_getElem?_getD]
  rw [List.getElem?_append_right (by omega)]
  congr 2
  omega
theorem rd_map {f : Int → Int} {l : List Int} {i : Int} (h0 : 0 ≤ i) (h1 : i < (l.length : Int)) : rd (l.map f) i = f (rd l i) := by
  obtain ⟨n, rfl⟩ := Int.eq_ofNat_of_zero_le h0
  rw [rd_nat _ n (by simpa using h1), rd_nat l n (by omega)]
  simp
theorem rd_cons_zero (x : Int) (l : List Int) : rd (x :: l) 0 = x := rfl
theorem rd_drop {l : List Int} {n : Nat} {i : Int} (h0 : 0 ≤ i) : rd (l.drop n) i = rd l (n + i) := by
  unfold rd
  simp only [List.getD_eq_getElem?_getD, List.getElem?_drop]
  congr 2
  omega
theorem rd_take {l : List Int} {n : Nat} {i : Int} (h0 : 0 ≤ i) (h1 : i < (n : Int)) : rd (l.take n) i = rd l i := by
  unfold rd
  simp only [List.getD_eq_getElem?_getD]
  rw [List.getElem?_take_of_lt (by omega)]
theorem take_snoc (l : List Int) (i : Nat) (h : i < l.length) : l.take (i + 1) = l.take i ++ [rd l (i : Int)] := by
  rw [rd_nat l i h, List.take_succ_eq_append_getElem h]
theorem drop_cons (l : List Int) (i : Nat) (h : i < l.length) : l.drop i = rd l (i : Int) :: l.drop (i + 1) := by
  rw [rd_nat l i h, List.drop_eq_getElem_cons h]

/-! octets -/
def Oct (l : List Int) : Prop := ∀ x ∈ l, 0 ≤ x ∧ x ≤ 255
theorem oct_of_wf {l : List Int} (h : ∀ x ∈ l, (Lit.int .u8 x).wf = true) : Oct l := fun x hx => by
  have := h x hx
  simp only [Lit.wf, Bool.and_eq_true, decide_eq_true_eq] at this
  have e1 : IntKind.u8.min = 0 := rfl
  have e2 : IntKind.u8.max = 255 := rfl
  omega
theorem i64_of_wf {x : Int} (h : (Lit.int .i64 x).wf = true) : -9223372036854775808 ≤ x ∧ x ≤ 9223372036854775807 := by
  simp only [Lit.wf, Bool.and_eq_true, decide_eq_true_eq] at h
  have e1 : IntKind.i64.min = -9223372036854775808 := rfl
  have e2 : IntKind.i64.max = 9223372036854775807 := rfl
  omega
theorem u8_of_wf {x : Int} (h : (Lit.int .u8 x).wf = true) : 0 ≤ x ∧ x ≤ 255 := by
  simp only [Lit.wf, Bool.and_eq_true, decide_eq_true_eq] at h
  have e1 : IntKind.u8.min = 0 := rfl
  have e2 : IntKind.u8.max = 255 := rfl
  omega
theorem Oct.map {l : List Int} {f : Int → Int} (h : ∀ x, 0 ≤ x → x ≤ 255 → 0 ≤ f x ∧ f x ≤ 255) (hl : Oct l) : Oct (l.map f) := fun y hy => by
  obtain ⟨x, hx, rfl⟩ := List.mem_map.1 hy
  exact h x (hl x hx).1 (hl x hx).2
theorem Oct.append {l m : List Int} (h : Oct l) (k : Oct m) : Oct (l ++ m) := fun x hx => by
  rcases List.mem_append.1 hx with hx | hx
  · exact h x hx
  · exact k x hx
theorem Oct.take {l : List Int} (h : Oct l) (n : Nat) : Oct (l.take n) := fun x hx => h x (List.mem_of_mem_take hx)
theorem Oct.drop {l : List Int} (h : Oct l) (n : Nat) : Oct (l.drop n) := fun x hx => h x (List.mem_of_mem_drop hx)
theorem Oct.rd {l : List Int} (h : Oct l) {i : Int} (h0 : 0 ≤ i) (h1 : i < (l.length : Int)) : 0 ≤ rd l i ∧ rd l i ≤ 255 := h _ (rd_mem h0 h1)
theorem u8_back {x : Int} (h : 0 ≤ x ∧ x ≤ 255) : ((UInt8.ofNat x.toNat).toNat : Int) = x := by
  simp only [UInt8.toNat_ofNat']
  omega
theorem bt_str {l : List Int} (h : Oct l) {i : Int} (h0 : 0 ≤ i) (h1 : i < (l.length : Int)) : bt (strOfNums l) i = rd l i := by
  obtain ⟨n, rfl⟩ := Int.eq_ofNat_of_zero_le h0
  have hn : n < l.length := by omega
  have hs : n < (strOfNums l).size := by rw [strOfNums_size]; exact hn
  have hb := h.rd h0 h1
  rw [rd_nat l n hn] at hb ⊢
  unfold bt
  simp only [Int.toNat_natCast, hs, dif_pos]
  have : (strOfNums l)[n] = UInt8.ofNat (l[n]).toNat := by
    show (strOfNums l).data[n] = _
    simp [strOfNums]
  rw [this]
  exact u8_back hb
theorem size_str (l : List Int) : (strOfNums l).size = l.length := strOfNums_size l
theorem str_inj {l m : List Int} (hl : Oct l) (hm : Oct m) (h : strOfNums l = strOfNums m) : l = m := by
  have hlen : l.length = m.length := by rw [← size_str l, ← size_str m, h]
  apply List.ext_getElem hlen
  intro i h1 h2
  have a := bt_str hl (i := (i : Int)) (by omega) (by omega)
  have b := bt_str hm (i := (i : Int)) (by omega) (by omega)
  rw [rd_nat l i h1] at a
  rw [rd_nat m i h2] at b
  rw [← a, ← b, h]
theorem ba_toList (s : ByteArray) : s.toList = s.data.toList := ByteArray.toList_eq s
theorem toList_inj {s t : ByteArray} (h : s.toList = t.toList) : s = t := by
  rw [ba_toList, ba_toList] at h
  cases s; cases t
  simp at h
  exact congrArg _ h
theorem toList_eq_iff {s t : ByteArray} : s.toList = t.toList ↔ s = t := ⟨toList_inj, fun h => by rw [h]⟩
theorem str_append (l m : List Int) : strOfNums l ++ strOfNums m = strOfNums (l ++ m) := by
  apply toList_inj
  rw [ba_toList, ba_toList]
  simp [strOfNums]
theorem bytesOf_str {l : List Int} (h : Oct l) : Go.Proofs.YtdnfmilnkoocdaaDoorW.PrintWords.bytesOf (strOfNums l) = l := by
  unfold Go.Proofs.YtdnfmilnkoocdaaDoorW.PrintWords.bytesOf
  rw [strOfNums_data, List.map_map]
  conv => rhs; rw [← List.map_id l]
  apply List.map_congr_left
  intro x hx
  exact u8_back (h x hx)
theorem oct_bytesOf (s : ByteArray) : Oct (Go.Proofs.YtdnfmilnkoocdaaDoorW.PrintWords.bytesOf s) := fun x hx => by
  unfold Go.Proofs.YtdnfmilnkoocdaaDoorW.PrintWords.bytesOf at hx
  obtain ⟨b, _, rfl⟩ := List.mem_map.1 hx
  have := b.toNat_lt
  omega
theorem str_bytesOf (s : ByteArray) : strOfNums (Go.Proofs.YtdnfmilnkoocdaaDoorW.PrintWords.bytesOf s) = s := by
  unfold Go.Proofs.YtdnfmilnkoocdaaDoorW.PrintWords.bytesOf strOfNums
  cases s with
  | mk a =>
    congr 1
    apply Array.ext'
    simp [Function.comp_def]
theorem extract_str {l : List Int} {a b : Nat} : (strOfNums l).extract a b = strOfNums ((l.take b).drop a) := by
  apply toList_inj
  rw [ba_toList, ba_toList]
  rw [ByteArray.data_extract]
  simp [strOfNums, List.map_drop, List.map_take, List.drop_take]

/-! rounds -/
theorem Ev.pos {α : Type} {c : Prop} [Decidable c] {f g : Nat → Option α} {r : α} (h : c) (k : Ev f r) : Ev (fun n => if c then f n else g n) r := Ev.congr (fun _ => if_pos h) k
theorem Ev.neg {α : Type} {c : Prop} [Decidable c] {f g : Nat → Option α} {r : α} (h : ¬ c) (k : Ev g r) : Ev (fun n => if c then f n else g n) r := Ev.congr (fun _ => if_neg h) k
theorem Ev.bindS {α β : Type} {o : Option α} {f : Nat → α → Option β} {a : α} {r : β} (h : o = some a) (k : Ev (fun n => f n a) r) : Ev (fun n => o.bind (f n)) r := by
  subst h; exact k
theorem Ev.ret {α : Type} {a r : α} (h : a = r) : Ev (fun _ => some a) r := by subst h; exact Ev.now _
theorem Ev.val {α : Type} {o : Option α} {r : α} (h : o = some r) : Ev (fun _ => o) r := ⟨0, fun _ _ => h⟩

/-- 'slices.IndexFunc', as it is printed at a function value: the place of the first element that the predicate takes, or -1. -/
def firstAt (q : Int → Bool) : List Int → Int → Int
  | [], _ => -1
  | x :: l, i => if q x = true then i else firstAt q l (i + 1)
theorem index_loop {p : Int → Option Bool} {q : Int → Bool} {l : Nat → List Int → Int → Int → Option Int}
    (hl : ∀ k x n i, l (k + 1) x n i = if i < n then (if 0 ≤ i then (if i < (x.length : Int) then ((p (rd x i)).bind fun t => (if t = true then (some i) else (l k x n (wrap64 (i + 1))))) else none) else none) else some (-1))
    (x : List Int) (hx : x.length ≤ 9223372036854775806) (hp : ∀ y ∈ x, p y = some (q y)) : ∀ (d i : Nat), x.length - i = d → i ≤ x.length → Ev (fun k => l k x (x.length : Int) (i : Int)) (firstAt q (x.drop i) i) := by
  intro d
  induction d with
  | zero =>
    intro i h1 h2
    have : i = x.length := by omega
    subst this
    refine Ev.step (fun k => hl k _ _ _) (Ev.neg (by omega) ?_)
    simp only [List.drop_length, firstAt]
    exact Ev.now _
  | succ d ih =>
    intro i h1 h2
    have hi : i < x.length := by omega
    refine Ev.step (fun k => hl k _ _ _) (Ev.pos (by omega) (Ev.pos (by omega) (Ev.pos (by omega) (Ev.bindS (hp _ (rd_mem (by omega) (by omega))) ?_))))
    rw [drop_cons x i hi]
    simp only [firstAt]
    by_cases hq : q (rd x i) = true
    · rw [if_pos hq]
      exact Ev.pos hq (Ev.now _)
    · rw [if_neg hq]
      refine Ev.neg hq ?_
      have := ih (i + 1) (by omega) (by omega)
      rw [w64 (by omega) (by omega)]
      exact this
theorem firstAt_any (q : Int → Bool) : ∀ (l : List Int) (i : Int), 0 ≤ i → decide (firstAt q l i ≥ 0) = l.any q
  | [], _, _ => by simp [firstAt]
  | x :: l, i, h => by
    by_cases hq : q x = true
    · simp [firstAt, hq, h]
    · have ih := firstAt_any q l (i + 1) (by omega)
      simp only [Bool.not_eq_true] at hq
      simp [firstAt, hq]
      simpa using ih
/-- 'slices.ContainsFunc' at a function value. -/
theorem contains_ev {p : Int → Option Bool} {q : Int → Bool} {l : Nat → List Int → Int → Int → Option Int}
    (hl : ∀ k x n i, l (k + 1) x n i = if i < n then (if 0 ≤ i then (if i < (x.length : Int) then ((p (rd x i)).bind fun t => (if t = true then (some i) else (l k x n (wrap64 (i + 1))))) else none) else none) else some (-1))
    (x : List Int) (hx : x.length ≤ 9223372036854775806) (hp : ∀ y ∈ x, p y = some (q y)) : Ev (fun k => (l k x (x.length : Int) 0).bind fun t => some (decide (t ≥ 0))) (x.any q) := by
  have h := index_loop hl x hx hp x.length 0 (by omega) (by omega)
  refine Ev.bind h (Ev.ret ?_)
  rw [firstAt_any q _ _ (by simp)]
  simp

end Go.Proofs.YtdnfmilnkoocdaaDoor.K

-- from Htl
/- strings.TrimLeft, at a cutset of ASCII. The walk is the shelf's, laid for this program. -/
namespace Go.Proofs
open Go.Shelf
def Tryd.lays161_ren : Go.Shelf.Ren := ⟨fun | 161 => 44 | 231 => 72 | 227 => 73 | 233 => 74 | 235 => 75 | 228 => 93 | 197 => 94 | 151 => 95 | 260 => 117 | 152 => 118 | 137 => 46 | 119 => 142 | 224 => 139 | 225 => 138 | 217 => 76 | 266 => 96 | n => n, fun | 9 => 9 | 4 => 4 | 3 => 3 | 5 => 5 | 117 => 117 | 116 => 116 | 0 => 0 | 124 => 120 | 105 => 133 | 21 => 21 | 119 => 166 | 46 => 103 | 139 => 169 | 138 => 168 | n => n, fun | 3 => 1 | 4 => 2 | n => n⟩
theorem Tryd.lays161 : Go.Proofs.Lays.n161 Tryd.prog Tryd.lays161_ren := {
  mixed := by kernel_rfl
  f119 := Tryd.func142.trans (congrArg some (by kernel_rfl))
  f137 := Tryd.func46.trans (congrArg some (by kernel_rfl))
  f151 := Tryd.func95.trans (congrArg some (by kernel_rfl))
  f152 := Tryd.func118.trans (congrArg some (by kernel_rfl))
  f161 := Tryd.func44.trans (congrArg some (by kernel_rfl))
  f197 := Tryd.func94.trans (congrArg some (by kernel_rfl))
  f217 := Tryd.func76.trans (congrArg some (by kernel_rfl))
  f224 := Tryd.func139.trans (congrArg some (by kernel_rfl))
  f225 := Tryd.func138.trans (congrArg some (by kernel_rfl))
  f227 := Tryd.func73.trans (congrArg some (by kernel_rfl))
  f228 := Tryd.func93.trans (congrArg some (by kernel_rfl))
  f231 := Tryd.func72.trans (congrArg some (by kernel_rfl))
  f233 := Tryd.func74.trans (congrArg some (by kernel_rfl))
  f235 := Tryd.func75.trans (congrArg some (by kernel_rfl))
  f260 := Tryd.func117.trans (congrArg some (by kernel_rfl))
  f266 := Tryd.func96.trans (congrArg some (by kernel_rfl))
  t0 := Tryd.underlying0
  a0 := Tryd.isAgg0
  z0 := Tryd.sizeOf0
  v0 := Tryd.zeroValue0
  t3 := Tryd.underlying3
  a3 := Tryd.isAgg3
  z3 := Tryd.sizeOf3
  v3 := Tryd.zeroValue3
  t4 := Tryd.underlying4
  a4 := Tryd.isAgg4
  z4 := Tryd.sizeOf4
  v4 := Tryd.zeroValue4
  t5 := Tryd.underlying5
  a5 := Tryd.isAgg5
  z5 := Tryd.sizeOf5
  v5 := Tryd.zeroValue5
  t9 := Tryd.underlying9
  a9 := Tryd.isAgg9
  z9 := Tryd.sizeOf9
  v9 := Tryd.zeroValue9
  t21 := Tryd.underlying21
  a21 := Tryd.isAgg21
  z21 := Tryd.sizeOf21
  v21 := Tryd.zeroValue21
  t46 := Tryd.underlying103
  a46 := Tryd.isAgg103
  z46 := Tryd.sizeOf103
  v46 := Tryd.zeroValue103
  t105 := Tryd.underlying133
  a105 := Tryd.isAgg133
  z105 := Tryd.sizeOf133
  v105 := Tryd.zeroValue133
  t116 := Tryd.underlying116
  a116 := Tryd.isAgg116
  z116 := Tryd.sizeOf116
  t117 := Tryd.underlying117
  a117 := Tryd.isAgg117
  z117 := Tryd.sizeOf117
  v117 := Tryd.zeroValue117
  t119 := Tryd.underlying166
  a119 := Tryd.isAgg166
  z119 := Tryd.sizeOf166
  t124 := Tryd.underlying120
  a124 := Tryd.isAgg120
  z124 := Tryd.sizeOf120
  v124 := Tryd.zeroValue120
  t138 := Tryd.underlying168
  a138 := Tryd.isAgg168
  z138 := Tryd.sizeOf168
  v138 := Tryd.zeroValue168
  t139 := Tryd.underlying169
  a139 := Tryd.isAgg169
  z139 := Tryd.sizeOf169
  v139 := Tryd.zeroValue169
  g3 := by kernel_rfl
  g4 := by kernel_rfl }
end Go.Proofs
namespace Go.Proofs.YtdnfmilnkoocdaaDoor.Q
open Go.RowKit Go.Shelf Go.Proofs.YtdnfmilnkoocdaaDoorW.PrintWords Go.Proofs.YtdnfmilnkoocdaaDoorW.PrintLast Go.Proofs.YtdnfmilnkoocdaaDoorW.PrintMore
set_option linter.unusedVariables false
set_option linter.unusedSimpArgs false

def strings_TrimLeft.f (s c : ByteArray) : Option ByteArray := if c.data.toList.all (fun b => decide (b.toNat < 128)) = true ∧ c.size < 4294967281 then some ⟨(Lib.trimLeftS s.data.toList c.data.toList).toArray⟩ else none
set_option maxHeartbeats 1000000 in
theorem strings_TrimLeft.calls (s c r : ByteArray) (w : World) (h : strings_TrimLeft.f s c = some r) :
    Calls Tryd.prog 44 #[.string s, .string c] w fun e w' => e = .returned (.string r) ∧ Below w.heap.size w w' := by
  unfold strings_TrimLeft.f at h
  split at h
  case isFalse => cases h
  case isTrue hc =>
  obtain ⟨h1, h2⟩ := hc
  obtain rfl := Option.some.inj h
  refine (Any.strings_TrimLeft_laid Tryd.lays161 (by kernel_rfl) s c w h2 (fun j b hj => ?_)).mono ?_
  · have := List.all_eq_true.1 h1 b (List.mem_of_getElem? hj)
    simpa using this
  · rintro e w' ⟨rfl, hb⟩
    exact ⟨rfl, hb⟩

end Go.Proofs.YtdnfmilnkoocdaaDoor.Q

-- from Hfmt
/- internal/strconv.formatBits at base 16; strconv.FormatInt. -/
namespace Go.Proofs.YtdnfmilnkoocdaaDoor.Q
open Go.RowKit Go.Shelf Go.Proofs.YtdnfmilnkoocdaaDoorW.PrintWords Go.Proofs.YtdnfmilnkoocdaaDoorW.PrintLast Go.Proofs.YtdnfmilnkoocdaaDoorW.PrintMore Go.Proofs.YtdnfmilnkoocdaaDoor.K
set_option linter.unusedVariables false
set_option linter.unusedSimpArgs false

theorem tz16.calls (w : World) (h : w.cell? ⟨6, 15, none⟩ = some (.int .u8 4)) : Calls Tryd.prog 157 #[.int .u64 16] w fun e w' => e = .returned (.int .i64 4) ∧ w' = w := by
  have n1 : IntKind.u64.wrap (-16) = 18446744073709551600 := by kernel_rfl
  have n2 : bits BinOp.and IntKind.u64 16 18446744073709551600 = 16 := by kernel_rfl
  have n3 : IntKind.u64.wrap (16 * 285870213051353865) = 4573923408821661840 := by kernel_rfl
  have n4 : (4573923408821661840 : Int) / 288230376151711744 = 15 := by decide
  have n5 : IntKind.u64.wrap 4573923408821661840 = 4573923408821661840 := by kernel_rfl
  go_enter Tryd.func157, Tryd.ntmps157
  go_wp2
  go_ret
  exact ⟨rfl, rfl⟩
/-- The digits of a number at base 16, in small letters. -/
def hexD (d : Nat) : Int := if d < 10 then 48 + (d : Int) else 87 + (d : Int)
def hexL (u : Nat) : List Int := if h : u < 16 then [hexD u] else hexL (u / 16) ++ [hexD (u % 16)]
termination_by u
abbrev digs : ByteArray := ⟨#[48, 49, 50, 51, 52, 53, 54, 55, 56, 57, 97, 98, 99, 100, 101, 102, 103, 104, 105, 106, 107, 108, 109, 110, 111, 112, 113, 114, 115, 116, 117, 118, 119, 120, 121, 122]⟩
theorem hexAt : ∀ (d : Nat) (h : d < 16) (hb : d < digs.size), ((digs[d]'hb).toNat : Int) = hexD d := by
  have key : ∀ d : Fin 16, ((digs[d.val]'(Nat.lt_trans d.isLt (by decide))).toNat : Int) = hexD d.val := by decide
  exact fun d h hb => key ⟨d, h⟩
theorem hexL_step {v : Nat} (h : 16 ≤ v) : hexL v = hexL (v / 16) ++ [hexD (v % 16)] := by
  conv => lhs; unfold hexL
  rw [dif_neg (by omega)]
theorem hexL_one {v : Nat} (h : v < 16) : hexL v = [hexD v] := by unfold hexL; rw [dif_pos h]
theorem hexD_oct {d : Nat} (h : d < 16) : 0 ≤ hexD d ∧ hexD d ≤ 255 := by unfold hexD; split <;> omega
theorem row_at {W : World} {g p : Nat} {arr : Array Value} {T : TypeId} {l : List Int} (h : W.heap[g]? = some (.cells arr T (0, 0))) (hl : l.length ≤ 1000) (ha : ∀ j, j < l.length → arr[p + j]? = some (.int .u8 (l.getD j 0))) : Kd.C (Kd.int .u8) W (some ⟨g, p, none⟩) l.length l := by
  refine Kd.C_of_reads (d := (0 : Int)) ⟨rfl, by omega, fun _ => ⟨_, rfl, fun j hj => ?_⟩⟩
  rw [Addr.add_lit]
  unfold World.cell?
  rw [h]
  exact ha j hj
/-- One more digit ahead of those that are laid. -/
theorem digs_put {arr : Array Value} {p : Nat} {ds : List Int} {x : Int} (hp : p ≤ 64) (hs : arr.size = 65) (hl : ds.length = 65 - (p + 1)) (h : ∀ j, j < ds.length → arr[p + 1 + j]? = some (.int .u8 (ds.getD j 0))) :
    (x :: ds).length = 65 - p ∧ (arr.setIfInBounds p (.int .u8 x)).size = 65 ∧ ∀ j, j < (x :: ds).length → (arr.setIfInBounds p (.int .u8 x))[p + j]? = some (.int .u8 ((x :: ds).getD j 0)) := by
  refine ⟨by rw [List.length_cons]; omega, by rw [Array.size_setIfInBounds]; exact hs, fun j hj => ?_⟩
  cases j with
  | zero => rw [Nat.add_zero, Array.getElem?_setIfInBounds_self_of_lt (by omega)]; rfl
  | succ j =>
    rw [Array.getElem?_setIfInBounds_ne (by omega), show p + (j + 1) = p + 1 + j by omega]
    rw [List.length_cons] at hj
    have := h j (by omega)
    rw [this]; simp
set_option maxHeartbeats 4000000 in
set_option maxRecDepth 100000 in
theorem fmtBits.calls (u : Nat) (hu : u < 4294967296) (w : World) (ht : w.cell? ⟨6, 15, none⟩ = some (.int .u8 4)) (h6 : 6 < w.heap.size) :
    Calls Tryd.prog 135 #[.slice none 0 0, .int .u64 (u : Int), .int .i64 16, .bool false, .bool false] w fun e w' => e = .returned (.tuple #[.slice none 0 0, .string (strOfNums (hexL u))]) ∧ Below w.heap.size w w' := by
  have HT := Aside0.mk ht
  have HU := Aside0.mk hu
  have H6 := Aside0.mk h6
  clear ht hu h6
  have n5 : IntKind.u64.wrap 16 = 16 := by kernel_rfl
  go_enter Tryd.func135, Tryd.ntmps135
  go_wp2_with (first
    | (go_at_call 157; refine (tz16.calls _ ((World.cell?_alloc_lt _ _ _ (World.block_lt_of_cell? w _ HT.out)).trans HT.out)).mono ?_; rintro e w1 ⟨rfl, rfl⟩)
    | go_in)
  have hz : (Tryd.zeroCells180 : Array Value).size = 65 := by kernel_rfl
  have hg0 := heap_alloc_new w (.cells Tryd.zeroCells180 180)
  obtain ⟨g, hg⟩ : ∃ g, g = w.heap.size := ⟨_, rfl⟩
  rw [← hg] at hg0 ⊢
  have HG := Aside0.mk hg
  go_loopg [1, 13] (u + 1) (fun kq s1 s13 wr => ∃ (i v : Nat) (arr : Array Value) (ds : List Int), s13 = .int .i64 (i : Int) ∧ s1 = .int .u64 (v : Int) ∧ Aside0 (v < kq ∧ 58 ≤ i ∧ i ≤ 65 ∧ v * 16 ^ (65 - i) ≤ u ∧ v ≤ u) ∧
    Aside0 (hexL u = hexL v ++ ds ∧ ds.length = 65 - i ∧ arr.size = 65 ∧ ∀ j, j < ds.length → arr[i + j]? = some (.int .u8 (ds.getD j 0))) ∧ Aside0 (wr.heap[g]? = some (.cells arr 180 (0, 0))) ∧ Aside0 (Below g w wr))
  case atStart => exact ⟨65, u, _, [], rfl, rfl, ⟨by omega, by omega, by omega, by simp, by omega⟩, ⟨by simp, rfl, hz, fun j h => by simp at h⟩, ⟨hg0⟩, ⟨by rw [hg]; exact (Below.refl _ w).alloc (Nat.le_refl _) _⟩⟩
  case round =>
    clear hz hg0 hg
    obtain ⟨i, v, arr, ds, rfl, rfl, HI, HD, HH, HB⟩ := hrel
    by_cases c1 : (16 : Int) ≤ (v : Int)
    · have e0 := eq_true c1
      have e1 : decide ((16 : Int) ≤ (v : Int)) = true := decide_eq_true c1
      have hv : v < 4294967296 := by have := HI.out; have := HU.out; omega
      have hi : 59 ≤ i := by
        have := HI.out
        have := HU.out
        rcases Nat.lt_or_ge i 59 with h | h
        · have h58 : i = 58 := by omega
          subst h58
          omega
        · exact h
      obtain ⟨p, rfl⟩ : ∃ p, i = p + 1 := ⟨i - 1, by omega⟩
      have hgl : g < wr.heap.size := (Array.getElem?_eq_some_iff.1 HH.out).1
      have hp64 : p ≤ 64 := by have := HI.out; omega
      have hx0 : ∃ x, wr.cell? ⟨g, p, none⟩ = some x := by
        have h1 : p < arr.size := by have := HD.out.2.2.1; omega
        exact ⟨arr[p], by unfold World.cell?; rw [HH.out]; simp [h1]⟩
      obtain ⟨x0, hx0⟩ := hx0
      have hf0 : wr.frozen? ⟨g, p, none⟩ = false := by unfold World.frozen?; rw [HH.out]; rfl
      have HP := Aside0.mk (And.intro hi hp64)
      obtain ⟨d, hd⟩ : ∃ d, d = v % 16 := ⟨_, rfl⟩
      have hd16 : d < 16 := by omega
      have HDD := Aside0.mk (And.intro hd hd16)
      have nA : bits BinOp.and IntKind.u64 (v : Int) 15 = (d : Int) := by
        have h := bits_and_u64_nat v 15 (by omega) (by omega)
        rw [show (15 : Nat) = 2 ^ 4 - 1 from rfl, Nat.and_two_pow_sub_one_eq_mod, ← hd] at h
        exact h
      have m1 : IntKind.i64.wrap (p : Int) = (p : Int) := Go.IntWalk.i64_in _ (by omega)
      have m2 : wrap64 (p : Int) = (p : Int) := w64 (by omega) (by omega)
      have m5 : ((p : Int) < 65) = True := eq_true (by omega)
      have m6 : ((d : Int) < 36) = True := eq_true (by omega)
      have m7 : (d < 36) = True := eq_true (by omega)
      have m8 : (p < 65) = True := eq_true (by omega)
      clear c1 hd hd16 hp64 hi hgl hv
      have HX := Aside0.mk (hexAt d HDD.out.2 (Nat.lt_trans HDD.out.2 (by decide)))
      have HV := Aside0.mk e1
      go_wp2
      go_roundg v
      case measure => exact HI.out.1
      case rel =>
        have h16 : 16 ≤ v := by have := of_decide_eq_true HV.out; omega
        obtain ⟨g1, g2, g3, g4⟩ := HD.out
        obtain ⟨q1, q2, q3⟩ := digs_put (x := hexD d) HP.out.2 g3 g2 g4
        refine ⟨p, v / 16, arr.setIfInBounds p (.int .u8 (hexD d)), hexD d :: ds, rfl, by simp, ⟨by omega, by have := HP.out; omega, by have := HP.out; omega, ?_, by have := HI.out; omega⟩, ⟨?_, q1, q2, q3⟩, ⟨?_⟩, ⟨HB.out.setCell (Nat.le_refl _) _⟩⟩
        · have h1 := HI.out.2.2.2.1
          rw [show 65 - p = (65 - (p + 1)) + 1 by have := HP.out; omega, Nat.pow_succ, Nat.mul_comm (16 ^ _) 16, ← Nat.mul_assoc]
          exact Nat.le_trans (Nat.mul_le_mul_right _ (Nat.div_mul_le_self v 16)) h1
        · rw [g1, hexL_step h16, HDD.out.1, List.append_assoc]; rfl
        · have := heap_setCell_same wr g p arr 180 (.int .u8 (hexD d)) HH.out
          rw [← HX.out] at this ⊢
          exact this
    · have e0 := eq_false c1
      have e1 : decide ((16 : Int) ≤ (v : Int)) = false := decide_eq_false c1
      obtain ⟨p, rfl⟩ : ∃ p, i = p + 1 := ⟨i - 1, by have := HI.out; omega⟩
      have hp64 : p ≤ 64 := by have := HI.out; omega
      have hx0 : ∃ x, wr.cell? ⟨g, p, none⟩ = some x := by
        have h1 : p < arr.size := by have := HD.out.2.2.1; omega
        exact ⟨arr[p], by unfold World.cell?; rw [HH.out]; simp [h1]⟩
      obtain ⟨x0, hx0⟩ := hx0
      have hf0 : wr.frozen? ⟨g, p, none⟩ = false := by unfold World.frozen?; rw [HH.out]; rfl
      have hv16 : v < 16 := by omega
      have HP := Aside0.mk hp64
      have HV := Aside0.mk hv16
      have HX := Aside0.mk (hexAt v HV.out (Nat.lt_trans HV.out (by decide)))
      have m1 : IntKind.i64.wrap (p : Int) = (p : Int) := Go.IntWalk.i64_in _ (by omega)
      have m2 : wrap64 (p : Int) = (p : Int) := w64 (by omega) (by omega)
      have m5 : ((p : Int) < 65) = True := eq_true (by omega)
      have m6 : ((v : Int) < 36) = True := eq_true (by omega)
      have m7 : (v < 36) = True := eq_true (by omega)
      have m8 : (p < 65) = True := eq_true (by omega)
      have m9 : ((p : Int) ≤ 65) = True := eq_true (by omega)
      have m10 : (65 = p) = False := eq_false (by omega)
      obtain ⟨g1, g2, g3, g4⟩ := HD.out
      obtain ⟨q1, q2, q3⟩ := digs_put (x := hexD v) hp64 g3 g2 g4
      have hh : (wr.setCell ⟨g, p, none⟩ (.int .u8 ((digs[v]'(Nat.lt_trans HV.out (by decide))).toNat : Int))).heap[g]? = some (.cells (arr.setIfInBounds p (.int .u8 (hexD v))) 180 (0, 0)) := by
        rw [HX.out]; exact heap_setCell_same wr g p arr 180 (.int .u8 (hexD v)) HH.out
      have hC := row_at hh (by rw [q1]; omega) q3
      rw [q1] at hC
      have hcv := Kd.C_string (P := Tryd.prog) (c := 65 - p) Tryd.underlying22 Tryd.underlying5 Tryd.underlying9 hC
      clear c1 hp64 hv16 g1 g2 g3 g4 q1 q2 q3 hC hh
      go_wp2
      go_ret2
      refine ⟨?_, by rw [← HG.out]; exact HB.out.setCell (p := ⟨g, p, none⟩) (Nat.le_refl _) _⟩
      rw [HD.out.1, hexL_one HV.out]
      rfl
/-- strconv.FormatInt at base 16. -/
theorem fmt16.calls (u : Nat) (hu : u < 4294967296) (w : World) (ht : w.cell? ⟨6, 15, none⟩ = some (.int .u8 4)) :
    Calls Tryd.prog 87 #[.int .i64 (u : Int), .int .i64 16] w fun e w' => e = .returned (.string (strOfNums (hexL u))) ∧ Below w.heap.size w w' := by
  have HT := Aside0.mk ht
  have HU := Aside0.mk hu
  have n1 : IntKind.u64.wrap (u : Int) = (u : Int) := by
    show (u : Int) % 18446744073709551616 = u
    omega
  have n2 : ((u : Int) < 0) = False := eq_false (by omega)
  have n3 : decide ((u : Int) < 0) = false := decide_eq_false (by omega)
  clear ht hu
  go_enter Tryd.func87, Tryd.ntmps87
  go_wp2_with (first
    | (go_at_call 135; refine (fmtBits.calls u HU.out _ HT.out (World.block_lt_of_cell? w _ HT.out)).mono ?_; rintro e w1 ⟨rfl, hb⟩; have HB := Aside0.mk hb; clear hb)
    | go_in)
  go_ret
  exact ⟨rfl, HB.out⟩
end Go.Proofs.YtdnfmilnkoocdaaDoor.Q

-- from Pspl
/- Texts parted by an octet. -/
namespace Go.Proofs.YtdnfmilnkoocdaaDoor.K
set_option linter.unusedVariables false
set_option linter.unusedSimpArgs false
open Go.RowKit Go.Proofs.YtdnfmilnkoocdaaDoorW.PrintWords Go.Proofs.YtdnfmilnkoocdaaDoorW.PrintMore Go.Proofs.YtdnfmilnkoocdaaDoor.Q

/-- Parted by what p tells. -/
def splP {α : Type} (p : α → Bool) : List α → List (List α)
  | [] => [[]]
  | x :: l => if p x then [] :: splP p l else match splP p l with
    | [] => [[x]]
    | q :: r => (x :: q) :: r
theorem splP_cons {α : Type} (p : α → Bool) (x : α) (l : List α) : splP p (x :: l) = if p x then [] :: splP p l else match splP p l with
    | [] => [[x]]
    | q :: r => (x :: q) :: r := rfl
theorem splP_ne {α : Type} (p : α → Bool) : ∀ l, splP p l ≠ []
  | [] => by simp [splP]
  | x :: l => by
    unfold splP
    split
    · simp
    · split <;> simp
/-- The first one, and the rest. -/
theorem splP_hit {α : Type} {p : α → Bool} : ∀ {l a b : List α} {x : α}, l = a ++ x :: b → (∀ y ∈ a, p y = false) → p x = true → splP p l = a :: splP p b
  | _, [], b, x, rfl, _, hx => by simp [splP, hx]
  | _, y :: a, b, x, rfl, ha, hx => by
    have hy := ha y (by simp)
    have ih := splP_hit (l := a ++ x :: b) (a := a) rfl (fun z hz => ha z (by simp [hz])) hx
    rw [List.cons_append, splP_cons, hy, ih]
    rfl
theorem splP_miss {α : Type} {p : α → Bool} : ∀ {l : List α}, (∀ y ∈ l, p y = false) → splP p l = [l]
  | [], _ => rfl
  | y :: l, h => by
    have ih := splP_miss (l := l) (fun z hz => h z (by simp [hz]))
    rw [splP_cons, h y (by simp), ih]
    rfl
theorem splP_map {α β : Type} (f : α → β) {p : α → Bool} {q : β → Bool} : ∀ {l : List α}, (∀ x ∈ l, q (f x) = p x) → splP q (l.map f) = (splP p l).map (List.map f)
  | [], _ => rfl
  | x :: l, h => by
    have ih := splP_map f (l := l) (fun z hz => h z (by simp [hz]))
    rw [List.map_cons, splP_cons, splP_cons, h x (by simp), ih]
    cases hp : p x with
    | true => simp
    | false =>
      cases hs : splP p l with
      | nil => exact absurd hs (splP_ne p l)
      | cons a r => simp
/-- Where the library finds the first one. -/
theorem index_one {b : UInt8} : ∀ (l : List UInt8), (Lib.index l [b] = -1 ∧ ∀ y ∈ l, (y == b) = false) ∨ ∃ i : Nat, Lib.index l [b] = i ∧ i < l.length ∧ l = l.take i ++ b :: l.drop (i + 1) ∧ ∀ y ∈ l.take i, (y == b) = false
  | [] => .inl ⟨rfl, fun y h => by cases h⟩
  | x :: l => by
    by_cases hx : b = x
    · subst hx
      exact .inr ⟨0, by simp [Lib.index], by simp, by simp, by simp⟩
    · have hp : [b].isPrefixOf (x :: l) = false := by simp [List.isPrefixOf, hx]
      have hxb : (x == b) = false := beq_eq_false_iff_ne.mpr (fun e => hx e.symm)
      rcases index_one l with ⟨h1, h2⟩ | ⟨i, h1, h2, h3, h4⟩
      · refine .inl ⟨?_, fun y hy => ?_⟩
        · unfold Lib.index
          rw [hp, h1]
          rfl
        · rcases List.mem_cons.1 hy with rfl | hy
          · exact hxb
          · exact h2 y hy
      · refine .inr ⟨i + 1, ?_, by simpa using h2, by rw [List.take_succ_cons, List.drop_succ_cons, List.cons_append, ← h3], fun y hy => ?_⟩
        · unfold Lib.index
          rw [hp, h1]
          have : ((i : Int) == -1) = false := beq_eq_false_iff_ne.mpr (by omega)
          simp [this]
        · rw [List.take_succ_cons] at hy
          rcases List.mem_cons.1 hy with rfl | hy
          · exact hxb
          · exact h4 y hy
theorem split_one (b : UInt8) : ∀ (n : Nat) (l : List UInt8), l.length ≤ n → Lib.splitK [b] 0 (Lib.count l [b]) l = splP (· == b) l ∧ Lib.count l [b] + 1 = (splP (· == b) l).length := by
  intro n
  induction n with
  | zero =>
    intro l hl
    obtain rfl : l = [] := List.length_eq_zero_iff.1 (by omega)
    exact ⟨rfl, rfl⟩
  | succ n ih =>
    intro l hl
    rcases index_one (b := b) l with ⟨h1, h2⟩ | ⟨i, h1, h2, h3, h4⟩
    · rw [Lib.count_miss h1, splP_miss (p := (· == b)) h2]
      exact ⟨rfl, rfl⟩
    · rw [Lib.count_hit (by simp) h1, splP_hit (p := (· == b)) h3 h4 (by simp)]
      have hd : (l.drop (i + 1)).length ≤ n := by rw [List.length_drop]; omega
      obtain ⟨g1, g2⟩ := ih _ hd
      constructor
      · rw [show [b].length = 1 from rfl, Nat.add_comm 1]
        unfold Lib.splitK
        have hm : (Lib.index l [b] == -1) = false := by rw [h1]; exact beq_eq_false_iff_ne.mpr (by omega)
        rw [hm, h1]
        simp only [Bool.false_eq_true, if_false, Int.toNat_natCast, Nat.add_zero, List.length_cons, List.length_nil, Nat.zero_add]
        rw [g1]
      · show 1 + Lib.count (l.drop (i + 1)) [b] + 1 = _
        rw [List.length_cons, ← g2]; omega
/-- Octets parted by an octet. -/
def spl (c : Int) (l : List Int) : List (List Int) := splP (fun x => decide (x = c)) l
theorem spl_ne (c : Int) (l : List Int) : spl c l ≠ [] := splP_ne _ _
theorem spl_flat {α : Type} (p : α → Bool) : ∀ (l q : List α), q ∈ splP p l → ∀ x ∈ q, x ∈ l
  | [], q, h, x, hx => by
    have : q = [] := by simpa [splP] using h
    subst this
    cases hx
  | y :: l, q, h, x, hx => by
    unfold splP at h
    split at h
    · rcases List.mem_cons.1 h with rfl | h
      · cases hx
      · exact List.mem_cons_of_mem _ (spl_flat p l q h x hx)
    · split at h
      · rename_i e
        exact absurd e (splP_ne p l)
      · rename_i a r e
        rcases List.mem_cons.1 h with rfl | h
        · rcases List.mem_cons.1 hx with rfl | hx
          · simp
          · exact List.mem_cons_of_mem _ (spl_flat p l a (by rw [e]; simp) x hx)
        · exact List.mem_cons_of_mem _ (spl_flat p l q (by rw [e]; simp [h]) x hx)
theorem splP_sum {α : Type} (p : α → Bool) : ∀ l : List α, ((splP p l).map List.length).sum + (splP p l).length = l.length + 1
  | [] => rfl
  | x :: l => by
    have ih := splP_sum p l
    unfold splP
    split
    · simp at ih ⊢; omega
    · split
      · rename_i e
        exact absurd e (splP_ne p l)
      · rename_i a r e
        rw [e] at ih
        simp at ih ⊢; omega
theorem sum_mem : ∀ (L : List Nat) (n : Nat), n ∈ L → n ≤ L.sum
  | x :: L, n, h => by
    rw [List.sum_cons]
    rcases List.mem_cons.1 h with rfl | h
    · omega
    · have := sum_mem L n h; omega
theorem splP_len {α : Type} (p : α → Bool) (l q : List α) (h : q ∈ splP p l) : q.length ≤ l.length := by
  have h1 := splP_sum p l
  have h2 := sum_mem _ _ (List.mem_map_of_mem (f := List.length) h)
  have h3 := List.length_pos_iff.2 (splP_ne p l)
  omega
theorem splP_count {α : Type} (p : α → Bool) (l : List α) : (splP p l).length ≤ l.length + 1 := by
  have := splP_sum p l
  omega
end Go.Proofs.YtdnfmilnkoocdaaDoor.K

-- from Qf29
-- Made by hp.py, a program of this session, with the kit's printer. Not trusted: Lean checks it.
namespace Go.Proofs.YtdnfmilnkoocdaaDoor.Q
open Go.RowKit Go.Proofs.YtdnfmilnkoocdaaDoorW.PrintWords Go.Proofs.YtdnfmilnkoocdaaDoorW.PrintLast Go.Proofs.YtdnfmilnkoocdaaDoorW.PrintMore
attribute [local go_sem] max2_int min2_int max_two min_two max_three min_three max_four min_four   -- for this text's walks alone
set_option linter.unusedVariables false
set_option linter.unusedSimpArgs false

/-! ### paronymref02_Cut: function 29 -/
def paronymref02_Cut.l0 : Nat → ByteArray → Int → List ByteArray → Int → Int → Option (List ByteArray)
  | 0, _, _, _, _, _ => none
  | k + 1, x0, x1, x5, x6, x7 => if x7 ≤ (x0.size : Int) then (if x7 = (x0.size : Int) then (if 0 ≤ x6 then (if x6 ≤ x7 then (if x5.length < 8796093022208 then (paronymref02_Cut.l0 k x0 x1 (x5 ++ [x0.extract (x6 : Int).toNat (x7 : Int).toNat]) (wrap64 (x7 + 1)) (wrap64 (x7 + 1))) else (none)) else (none)) else (none)) else (if 0 ≤ x7 then (if x7 < (x0.size : Int) then (if (bt x0 x7) = x1 then (if 0 ≤ x6 then (if x6 ≤ x7 then (if x5.length < 8796093022208 then (paronymref02_Cut.l0 k x0 x1 (x5 ++ [x0.extract (x6 : Int).toNat (x7 : Int).toNat]) (wrap64 (x7 + 1)) (wrap64 (x7 + 1))) else (none)) else (none)) else (none)) else (paronymref02_Cut.l0 k x0 x1 x5 x6 (wrap64 (x7 + 1)))) else (none)) else (none))) else (some x5)
def paronymref02_Cut.f (k : Nat) (a0 : ByteArray) (a1 : Int) : Option (List ByteArray) := paronymref02_Cut.l0 k a0 a1 ([] : List ByteArray) 0 0
theorem paronymref02_Cut.mono_l : ∀ k, (∀ y0 y1 y2 y3 y4, LeO (paronymref02_Cut.l0 k y0 y1 y2 y3 y4) (paronymref02_Cut.l0 (k + 1) y0 y1 y2 y3 y4))
  | 0 => fun _ _ _ _ _ r h => by simp [paronymref02_Cut.l0] at h
  | k + 1 => by
    have ih0 := paronymref02_Cut.mono_l k
    · intro y0 y1 y2 y3 y4
      unfold paronymref02_Cut.l0
      repeat' first
      | (with_reducible exact ih0 _ _ _ _ _)
      | (with_reducible exact LeO.refl _)
      | (with_reducible exact LeO.none _)
      | (with_reducible refine LeO.ite ?_ ?_)
      | (with_reducible refine LeO.bind ?_ (fun _ => ?_))
      | exact ih0 _ _ _ _ _
      | exact LeO.none _
      | refine LeO.ite ?_ ?_
      | refine LeO.bind ?_ (fun _ => ?_)
theorem paronymref02_Cut.mono : ∀ a0 a1 k, LeO (paronymref02_Cut.f k a0 a1) (paronymref02_Cut.f (k + 1) a0 a1) := by
  intro a0 a1 k
  have ih0 := paronymref02_Cut.mono_l k
  unfold paronymref02_Cut.f
  repeat' first
      | (with_reducible exact ih0 _ _ _ _ _)
      | (with_reducible exact LeO.refl _)
      | (with_reducible exact LeO.none _)
      | (with_reducible refine LeO.ite ?_ ?_)
      | (with_reducible refine LeO.bind ?_ (fun _ => ?_))
      | exact ih0 _ _ _ _ _
      | exact LeO.none _
      | refine LeO.ite ?_ ?_
      | refine LeO.bind ?_ (fun _ => ?_)
set_option maxHeartbeats 8000000 in
set_option maxRecDepth 100000 in
theorem paronymref02_Cut.calls (k : Nat) (a0 : ByteArray) (a1 : Int) (r : List ByteArray) (w : World) (h : paronymref02_Cut.f k a0 a1 = some r) :
    Calls Tryd.prog 29 #[.string a0, .int .u8 a1] w fun e w' => ∃ v0_ : Value, e = .returned (v0_) ∧ Kd.R Kd.string 9 w' w.heap.size (fun _ => True) v0_ r ∧ Below w.heap.size w w' := by
  have HB := Aside0.mk (Below.refl w.heap.size w)
  have H : (paronymref02_Cut.l0 k a0 a1 ([] : List ByteArray) 0 0) = some r := h
  clear h
  have H' := Aside0.mk H
  clear H
  go_enter Tryd.func29, Tryd.ntmps29
  go_wp2
  go_loopg [5, 6, 7] k (fun kq v5 v6 v7 w' => ∃ (x5_1 : List ByteArray) (x6_1 : Int) (x7_1 : Int), v6 = .int .i64 x6_1 ∧ v7 = .int .i64 x7_1 ∧ Aside0 (paronymref02_Cut.l0 kq a0 a1 x5_1 x6_1 x7_1 = some r) ∧ Aside0 (kq ≤ k) ∧ Aside0 (Kd.R Kd.string 9 w' w.heap.size (fun _ => True) v5 x5_1) ∧ Aside0 (Below w.heap.size w w'))
  case atStart => exact ⟨(([] : List ByteArray)), (0), (0), (by first | rfl | (simp; done) | (simp [*]; done)), (by first | rfl | (simp; done) | (simp [*]; done)), H', ⟨Nat.le_refl _⟩, ⟨by first | exact Kd.R_nil _ _ _ _ _ | exact Kd.N_nil _ _ _ _ _ | exact Kd.V_nil _ _ _ _ _ | exact Kd.Q_nil _ _ _ _ _ | exact Kd.S_nil _ _ _ _ _⟩, ⟨by repeat (first | (with_reducible first | exact HB.out | apply below_alloc | apply pw_below_drewN | apply below_drew1) | exact HB.out)⟩⟩
  case round =>
    clear H'
    try clear c2
    try clear p2
    obtain ⟨x5_1, x6_1, x7_1, rfl, rfl, HA, HK1, HO_5, HB⟩ := hrel
    cases gk with
    | zero => exact absurd HA.out (by simp [paronymref02_Cut.l0])
    | succ k1 =>
      have H := HA.out
      clear HA
      simp only [paronymref02_Cut.l0] at H
      by_cases c3 : x7_1 ≤ (a0.size : Int)
      · rw [if_pos c3] at H
        have c3b0 : decide (x7_1 ≤ (a0.size : Int)) = true := decide_eq_true c3
        clear c3
        by_cases c4 : x7_1 = (a0.size : Int)
        · rw [if_pos c4] at H
          have c4b0 : (x7_1 == (a0.size : Int)) = true := beq_iff_eq.mpr c4
          have c4b1 : (x7_1 != (a0.size : Int)) = false := bne_eq_false_iff_eq.mpr c4
          clear c4
          by_cases c5 : 0 ≤ x6_1
          · rw [if_pos c5] at H
            have c5b0 := eq_true c5
            have c5b1 : decide (0 ≤ x6_1) = true := decide_eq_true c5
            clear c5
            by_cases c6 : x6_1 ≤ x7_1
            · rw [if_pos c6] at H
              have c6b0 := eq_true c6
              have c6b1 : decide (x6_1 ≤ x7_1) = true := decide_eq_true c6
              clear c6
              have c7b0 := eq_true (of_decide_eq_true (by first | (with_reducible assumption) | assumption) : x7_1 ≤ (a0.size : Int))
              by_cases c8 : x5_1.length < 8796093022208
              · rw [if_pos c8] at H
                have LMc8 := Aside0.mk c8
                clear c8
                obtain ⟨y101, hy101⟩ : ∃ y_ : List ByteArray, y_ = (x5_1 ++ [a0.extract (x6_1 : Int).toNat (x7_1 : Int).toNat]) := ⟨_, rfl⟩
                replace H : (paronymref02_Cut.l0 k1 a0 a1 y101 (wrap64 (x7_1 + 1)) (wrap64 (x7_1 + 1))) = some r := by first | (rw [hy101]; with_reducible exact H) | (have H2_ := (Option.bind_some _ _).symm.trans H; rw [hy101]; with_reducible exact H2_) | (have H2_ := (Option.bind_some _ _).symm.trans H; with_reducible exact H2_) | with_reducible exact H | (rw [hy101]; exact H) | exact H
                have Ny101 := Aside0.mk hy101
                clear hy101
                have H' := Aside0.mk H
                clear H
                go_wp2_with (first | ((with_reducible refine gate_builtin (b := .append) (xs := #[.tmp 25, .tmp 30]) rfl ?_); at_builtin; refine Kd.R_append Kd.string (w0 := w) w.heap.size rfl (.tmp 25) (.tmp 30) 24 9 (.string ⟨#[]⟩) 16 rfl Tryd.underlying24 info9 rfl (by decide) (by omega) u5 x5_1 (a0.extract (x6_1 : Int).toNat (x7_1 : Int).toNat) [.string (a0.extract (x6_1 : Int).toNat (x7_1 : Int).toNat)] (fun _ => True) (fun _ => False) rfl rfl ?aP (fun _ hk => hk.elim) ?aF ?aO ?aB ?aS ?aL ?_; (case aP => exact rfl); (case aB => exact (by repeat (first | (with_reducible first | exact HB.out | apply below_alloc | apply pw_below_drewN | apply below_drew1) | exact HB.out))); (case aF => exact (fun _ _ => trivial)); (case aO => exact (by (with_reducible repeat (first | apply Kd.R_alloc | apply Kd.R_drewN | apply Kd.R_drew)); exact HO_5.out)); (case aS => exact (below_size (by repeat (first | (with_reducible first | exact HB.out | apply below_alloc | apply pw_below_drewN | apply below_drew1) | exact HB.out)))); (case aL => have := LMc8.out; omega); intro v102 w9 ho hb hg hat; rw [← Ny101.out] at ho; have n0_ := Aside0.mk (hb); have n1_ := Aside0.mk (ho); clear HB; clear HO_5; have HB := n0_; have HO103 := n1_; clear n0_ n1_; clear ho hb hg hat))
                go_roundg k1
                case measure => have := HK1.out; omega
                case rel => exact ⟨(y101), (wrap64 (x7_1 + 1)), (wrap64 (x7_1 + 1)), (by first | rfl | (simp; done) | (simp [*]; done)), (by first | rfl | (simp; done) | (simp [*]; done)), H', ⟨by have := HK1.out; omega⟩, ⟨by (with_reducible repeat (first | apply Kd.R_alloc | apply Kd.R_drewN | apply Kd.R_drew)); exact HO103.out⟩, ⟨by repeat (first | (with_reducible first | exact HB.out | apply below_alloc | apply pw_below_drewN | apply below_drew1) | exact HB.out)⟩⟩
              · rw [if_neg c8] at H
                exact absurd H (by simp)
            · rw [if_neg c6] at H
              exact absurd H (by simp)
          · rw [if_neg c5] at H
            exact absurd H (by simp)
        · rw [if_neg c4] at H
          have c4b0 : (x7_1 == (a0.size : Int)) = false := beq_eq_false_iff_ne.mpr c4
          have c4b1 : (x7_1 != (a0.size : Int)) = true := bne_iff_ne.mpr c4
          by_cases c10 : 0 ≤ x7_1
          · rw [if_pos c10] at H
            have c10b0 : decide (0 ≤ x7_1) = true := decide_eq_true c10
            clear c10
            by_cases c11 : x7_1 < (a0.size : Int)
            · rw [if_pos c11] at H
              have c11b0 : decide (x7_1 < (a0.size : Int)) = true := decide_eq_true c11
              clear c11
              by_cases c13 : (bt a0 x7_1) = a1
              · rw [if_pos c13] at H
                have c13b0 : ((bt a0 x7_1) == a1) = true := beq_iff_eq.mpr c13
                have c13b1 : ((bt a0 x7_1) != a1) = false := bne_eq_false_iff_eq.mpr c13
                clear c13
                by_cases c14 : 0 ≤ x6_1
                · rw [if_pos c14] at H
                  have c14b0 := eq_true c14
                  have c14b1 : decide (0 ≤ x6_1) = true := decide_eq_true c14
                  clear c14
                  by_cases c15 : x6_1 ≤ x7_1
                  · rw [if_pos c15] at H
                    have c15b0 := eq_true c15
                    have c15b1 : decide (x6_1 ≤ x7_1) = true := decide_eq_true c15
                    clear c15
                    have c16b0 := eq_true (of_decide_eq_true (by first | (with_reducible assumption) | assumption) : x7_1 ≤ (a0.size : Int))
                    by_cases c17 : x5_1.length < 8796093022208
                    · rw [if_pos c17] at H
                      have LMc17 := Aside0.mk c17
                      clear c17
                      obtain ⟨y104, hy104⟩ : ∃ y_ : List ByteArray, y_ = (x5_1 ++ [a0.extract (x6_1 : Int).toNat (x7_1 : Int).toNat]) := ⟨_, rfl⟩
                      replace H : (paronymref02_Cut.l0 k1 a0 a1 y104 (wrap64 (x7_1 + 1)) (wrap64 (x7_1 + 1))) = some r := by first | (rw [hy104]; with_reducible exact H) | (have H2_ := (Option.bind_some _ _).symm.trans H; rw [hy104]; with_reducible exact H2_) | (have H2_ := (Option.bind_some _ _).symm.trans H; with_reducible exact H2_) | with_reducible exact H | (rw [hy104]; exact H) | exact H
                      have Ny104 := Aside0.mk hy104
                      clear hy104
                      have H' := Aside0.mk H
                      clear H
                      have p12 : 0 ≤ (x7_1 : Int) := of_decide_eq_true (by first | (with_reducible assumption) | assumption)
                      have q12 : x7_1 < (a0.size : Int) := of_decide_eq_true (by first | (with_reducible assumption) | assumption)
                      have hx12 := bt_at a0 x7_1
                      replace p12 := eq_true p12
                      replace q12 := eq_true q12
                      go_wp2_with (first | ((with_reducible refine gate_builtin (b := .append) (xs := #[.tmp 25, .tmp 30]) rfl ?_); at_builtin; refine Kd.R_append Kd.string (w0 := w) w.heap.size rfl (.tmp 25) (.tmp 30) 24 9 (.string ⟨#[]⟩) 16 rfl Tryd.underlying24 info9 rfl (by decide) (by omega) u5 x5_1 (a0.extract (x6_1 : Int).toNat (x7_1 : Int).toNat) [.string (a0.extract (x6_1 : Int).toNat (x7_1 : Int).toNat)] (fun _ => True) (fun _ => False) rfl rfl ?aP (fun _ hk => hk.elim) ?aF ?aO ?aB ?aS ?aL ?_; (case aP => exact rfl); (case aB => exact (by repeat (first | (with_reducible first | exact HB.out | apply below_alloc | apply pw_below_drewN | apply below_drew1) | exact HB.out))); (case aF => exact (fun _ _ => trivial)); (case aO => exact (by (with_reducible repeat (first | apply Kd.R_alloc | apply Kd.R_drewN | apply Kd.R_drew)); exact HO_5.out)); (case aS => exact (below_size (by repeat (first | (with_reducible first | exact HB.out | apply below_alloc | apply pw_below_drewN | apply below_drew1) | exact HB.out)))); (case aL => have := LMc17.out; omega); intro v105 w18 ho hb hg hat; rw [← Ny104.out] at ho; have n0_ := Aside0.mk (hb); have n1_ := Aside0.mk (ho); clear HB; clear HO_5; have HB := n0_; have HO106 := n1_; clear n0_ n1_; clear ho hb hg hat))
                      go_roundg k1
                      case measure => have := HK1.out; omega
                      case rel => exact ⟨(y104), (wrap64 (x7_1 + 1)), (wrap64 (x7_1 + 1)), (by first | rfl | (simp; done) | (simp [*]; done)), (by first | rfl | (simp; done) | (simp [*]; done)), H', ⟨by have := HK1.out; omega⟩, ⟨by (with_reducible repeat (first | apply Kd.R_alloc | apply Kd.R_drewN | apply Kd.R_drew)); exact HO106.out⟩, ⟨by repeat (first | (with_reducible first | exact HB.out | apply below_alloc | apply pw_below_drewN | apply below_drew1) | exact HB.out)⟩⟩
                    · rw [if_neg c17] at H
                      exact absurd H (by simp)
                  · rw [if_neg c15] at H
                    exact absurd H (by simp)
                · rw [if_neg c14] at H
                  exact absurd H (by simp)
              · rw [if_neg c13] at H
                have c13b0 : ((bt a0 x7_1) == a1) = false := beq_eq_false_iff_ne.mpr c13
                have c13b1 : ((bt a0 x7_1) != a1) = true := bne_iff_ne.mpr c13
                have H' := Aside0.mk H
                clear H
                have p12 : 0 ≤ (x7_1 : Int) := of_decide_eq_true (by first | (with_reducible assumption) | assumption)
                have q12 : x7_1 < (a0.size : Int) := of_decide_eq_true (by first | (with_reducible assumption) | assumption)
                have hx12 := bt_at a0 x7_1
                replace p12 := eq_true p12
                replace q12 := eq_true q12
                go_wp2
                go_roundg k1
                case measure => have := HK1.out; omega
                case rel => exact ⟨(x5_1), (x6_1), (wrap64 (x7_1 + 1)), (by first | rfl | (simp; done) | (simp [*]; done)), (by first | rfl | (simp; done) | (simp [*]; done)), H', ⟨by have := HK1.out; omega⟩, ⟨by (with_reducible repeat (first | apply Kd.R_alloc | apply Kd.R_drewN | apply Kd.R_drew)); exact HO_5.out⟩, ⟨by repeat (first | (with_reducible first | exact HB.out | apply below_alloc | apply pw_below_drewN | apply below_drew1) | exact HB.out)⟩⟩
            · rw [if_neg c11] at H
              exact absurd H (by simp)
          · rw [if_neg c10] at H
            exact absurd H (by simp)
      · rw [if_neg c3] at H
        have c3b0 : decide (x7_1 ≤ (a0.size : Int)) = false := decide_eq_false c3
        clear c3
        obtain rfl := Option.some.inj H
        go_wp2
        go_ret
        exact ⟨_, by first | rfl | (simp [errW_none, errW_some] <;> rfl) | (simp [*, errW_none, errW_some] <;> rfl), by (with_reducible repeat (first | apply Kd.R_alloc | apply Kd.R_drewN | apply Kd.R_drew)); exact HO_5.out, by repeat (first | (with_reducible first | exact HB.out | apply below_alloc | apply pw_below_drewN | apply below_drew1) | exact HB.out)⟩

end Go.Proofs.YtdnfmilnkoocdaaDoor.Q

-- from Pcut
/- Layer 2's reference on lists: Cut. -/
namespace Go.Proofs.YtdnfmilnkoocdaaDoor.K
set_option linter.unusedVariables false
set_option linter.unusedSimpArgs false
open Go.RowKit Go.Proofs.YtdnfmilnkoocdaaDoorW.PrintWords Go.Proofs.YtdnfmilnkoocdaaDoorW.PrintMore Go.Proofs.YtdnfmilnkoocdaaDoor.Q

/-- What stands ahead of the first one joins it. -/
def onto (pre : List Int) : List (List Int) → List (List Int)
  | [] => []
  | q :: r => (pre ++ q) :: r
theorem spl_step (c : Int) {L : List Int} (i : Nat) (h : i < L.length) : spl c (L.drop i) = if L[i] = c then [] :: spl c (L.drop (i + 1)) else onto [L[i]] (spl c (L.drop (i + 1))) := by
  rw [List.drop_eq_getElem_cons h]
  show splP _ (_ :: _) = _
  rw [splP_cons]
  by_cases hc : L[i] = c
  · rw [if_pos (decide_eq_true hc), if_pos hc]; rfl
  · rw [if_neg (by simpa using hc), if_neg hc]
    show _ = onto [L[i]] (splP _ _)
    cases hs : splP (fun x => decide (x = c)) (L.drop (i + 1)) with
    | nil => exact absurd hs (splP_ne _ _)
    | cons a r => rfl
theorem onto_onto (a b : List Int) (X : List (List Int)) : onto a (onto b X) = onto (a ++ b) X := by cases X <;> simp [onto]
theorem onto_nil (X : List (List Int)) : onto [] X = X := by cases X <;> simp [onto]
theorem cut_loop {L : List Int} (ho : Oct L) (hL : L.length ≤ 1000000) (c : Int) : ∀ (d i fr : Nat) (acc : List ByteArray), L.length - i = d → fr ≤ i → i ≤ L.length → acc.length ≤ i →
    Ev (fun k => paronymref02_Cut.l0 k (strOfNums L) c acc (fr : Int) (i : Int)) (acc ++ (onto ((L.take i).drop fr) (spl c (L.drop i))).map strOfNums) := by
  intro d
  induction d with
  | zero =>
    intro i fr acc h1 h2 h3 h4
    have hi : i = L.length := by omega
    have e1 : (L.take i).drop fr = L.drop fr := by rw [hi, List.take_length]
    have e2 : spl c (L.drop i) = [[]] := by rw [hi, List.drop_length]; rfl
    have hz := size_str L
    refine Ev.step (fun k => rfl) (Ev.pos (by omega) (Ev.pos (by omega) (Ev.pos (by omega) (Ev.pos (by omega) (Ev.pos (by omega) ?_)))))
    rw [w64 (by omega) (by omega)]
    refine Ev.step (fun k => rfl) (Ev.neg (by omega) (Ev.ret ?_))
    rw [Int.toNat_natCast, Int.toNat_natCast, extract_str, e2]
    simp [onto]
  | succ d ih =>
    intro i fr acc h1 h2 h3 h4
    have hi : i < L.length := by omega
    have hb : bt (strOfNums L) (i : Int) = L[i] := by rw [bt_str ho (by omega) (by omega), rd_nat L i hi]
    have hz := size_str L
    rw [spl_step c i hi]
    refine Ev.step (fun k => rfl) (Ev.pos (by omega) (Ev.neg (by omega) (Ev.pos (by omega) (Ev.pos (by omega) ?_))))
    by_cases hc : L[i] = c
    · rw [if_pos hc]
      refine Ev.pos (by rw [hb]; exact hc) (Ev.pos (by omega) (Ev.pos (by omega) (Ev.pos (by omega) ?_)))
      rw [w64 (by omega) (by omega)]
      have next := ih (i + 1) (i + 1) (acc ++ [(strOfNums L).extract fr i]) (by omega) (Nat.le_refl _) (by omega) (by simp; omega)
      rw [show (L.take (i + 1)).drop (i + 1) = [] from by rw [List.drop_eq_nil_iff, List.length_take]; omega, onto_nil] at next
      rw [Int.toNat_natCast, Int.toNat_natCast]
      have e : acc ++ List.map strOfNums (onto ((L.take i).drop fr) ([] :: spl c (L.drop (i + 1)))) = (acc ++ [(strOfNums L).extract fr i]) ++ (spl c (L.drop (i + 1))).map strOfNums := by
        rw [extract_str]; simp [onto]
      rw [e]
      exact next
    · rw [if_neg hc]
      refine Ev.neg (by rw [hb]; exact hc) ?_
      rw [w64 (by omega) (by omega)]
      have next := ih (i + 1) fr acc (by omega) (by omega) (by omega) (by omega)
      rw [onto_onto]
      have e : (L.take i).drop fr ++ [L[i]] = (L.take (i + 1)).drop fr := by
        rw [← List.take_append_getElem hi, List.drop_append_of_le_length (by rw [List.length_take]; omega)]
      rw [e]
      exact next
theorem cut_ev {L : List Int} (ho : Oct L) (hL : L.length ≤ 1000000) (c : Int) : Ev (fun k => paronymref02_Cut.f k (strOfNums L) c) ((spl c L).map strOfNums) := by
  have := cut_loop ho hL c L.length 0 0 [] (by omega) (Nat.le_refl _) (Nat.zero_le _) (Nat.zero_le _)
  rw [List.nil_append, List.take_zero, List.drop_nil, onto_nil, List.drop_zero] at this
  exact this
end Go.Proofs.YtdnfmilnkoocdaaDoor.K

-- from Qf58
-- Made by hp.py, a program of this session, with the kit's printer. Not trusted: Lean checks it.
namespace Go.Proofs.YtdnfmilnkoocdaaDoor.Q
open Go.RowKit Go.Proofs.YtdnfmilnkoocdaaDoorW.PrintWords Go.Proofs.YtdnfmilnkoocdaaDoorW.PrintLast Go.Proofs.YtdnfmilnkoocdaaDoorW.PrintMore
attribute [local go_sem] max2_int min2_int max_two min_two max_three min_three max_four min_four   -- for this text's walks alone
set_option linter.unusedVariables false
set_option linter.unusedSimpArgs false

/-! ### paronymref02_Trim: function 58 -/
mutual
def paronymref02_Trim.j1 : Nat → ByteArray → Option (ByteArray)
  | 0, _ => none
  | k + 1, x0 => paronymref02_Trim.l1 k x0
def paronymref02_Trim.l1 : Nat → ByteArray → Option (ByteArray)
  | 0, _ => none
  | k + 1, x0 => if (x0.size : Int) > 0 then (if 0 ≤ (wrap64 ((x0.size : Int) - 1)) then (if (wrap64 ((x0.size : Int) - 1)) < (x0.size : Int) then (if (bt x0 (wrap64 ((x0.size : Int) - 1))) = 32 then (if (wrap64 ((x0.size : Int) - 1)) ≤ (x0.size : Int) then (paronymref02_Trim.l1 k (x0.extract 0 ((wrap64 ((x0.size : Int) - 1)) : Int).toNat)) else (none)) else (if (bt x0 (wrap64 ((x0.size : Int) - 1))) = 9 then (if (wrap64 ((x0.size : Int) - 1)) ≤ (x0.size : Int) then (paronymref02_Trim.l1 k (x0.extract 0 ((wrap64 ((x0.size : Int) - 1)) : Int).toNat)) else (none)) else (some x0))) else (none)) else (none)) else (some x0)
def paronymref02_Trim.l0 : Nat → ByteArray → Option (ByteArray)
  | 0, _ => none
  | k + 1, x0 => if (x0.size : Int) > 0 then (if 0 < (x0.size : Int) then (if (bt x0 0) = 32 then (if 1 ≤ (x0.size : Int) then (paronymref02_Trim.l0 k (x0.extract 1 x0.size)) else (none)) else (if (bt x0 0) = 9 then (if 1 ≤ (x0.size : Int) then (paronymref02_Trim.l0 k (x0.extract 1 x0.size)) else (none)) else (paronymref02_Trim.j1 k x0))) else (none)) else (paronymref02_Trim.j1 k x0)
end
def paronymref02_Trim.f (k : Nat) (a0 : ByteArray) : Option (ByteArray) := paronymref02_Trim.l0 k a0
theorem paronymref02_Trim.mono_l : ∀ k, (∀ y0, LeO (paronymref02_Trim.j1 k y0) (paronymref02_Trim.j1 (k + 1) y0)) ∧ (∀ y0, LeO (paronymref02_Trim.l1 k y0) (paronymref02_Trim.l1 (k + 1) y0)) ∧ (∀ y0, LeO (paronymref02_Trim.l0 k y0) (paronymref02_Trim.l0 (k + 1) y0))
  | 0 => ⟨fun _ r h => by simp [paronymref02_Trim.j1] at h, fun _ r h => by simp [paronymref02_Trim.l1] at h, fun _ r h => by simp [paronymref02_Trim.l0] at h⟩
  | k + 1 => by
    obtain ⟨ih0, ih1, ih2⟩ := paronymref02_Trim.mono_l k
    refine ⟨?_, ?_, ?_⟩
    · intro y0
      unfold paronymref02_Trim.j1
      repeat' first
      | (with_reducible exact ih0 _)
      | (with_reducible exact ih1 _)
      | (with_reducible exact ih2 _)
      | (with_reducible exact LeO.refl _)
      | (with_reducible exact LeO.none _)
      | (with_reducible refine LeO.ite ?_ ?_)
      | (with_reducible refine LeO.bind ?_ (fun _ => ?_))
      | exact ih0 _
      | exact ih1 _
      | exact ih2 _
      | exact LeO.none _
      | refine LeO.ite ?_ ?_
      | refine LeO.bind ?_ (fun _ => ?_)
    · intro y0
      unfold paronymref02_Trim.l1
      repeat' first
      | (with_reducible exact ih0 _)
      | (with_reducible exact ih1 _)
      | (with_reducible exact ih2 _)
      | (with_reducible exact LeO.refl _)
      | (with_reducible exact LeO.none _)
      | (with_reducible refine LeO.ite ?_ ?_)
      | (with_reducible refine LeO.bind ?_ (fun _ => ?_))
      | exact ih0 _
      | exact ih1 _
      | exact ih2 _
      | exact LeO.none _
      | refine LeO.ite ?_ ?_
      | refine LeO.bind ?_ (fun _ => ?_)
    · intro y0
      unfold paronymref02_Trim.l0
      repeat' first
      | (with_reducible exact ih0 _)
      | (with_reducible exact ih1 _)
      | (with_reducible exact ih2 _)
      | (with_reducible exact LeO.refl _)
      | (with_reducible exact LeO.none _)
      | (with_reducible refine LeO.ite ?_ ?_)
      | (with_reducible refine LeO.bind ?_ (fun _ => ?_))
      | exact ih0 _
      | exact ih1 _
      | exact ih2 _
      | exact LeO.none _
      | refine LeO.ite ?_ ?_
      | refine LeO.bind ?_ (fun _ => ?_)
theorem paronymref02_Trim.mono : ∀ a0 k, LeO (paronymref02_Trim.f k a0) (paronymref02_Trim.f (k + 1) a0) := by
  intro a0 k
  obtain ⟨ih0, ih1, ih2⟩ := paronymref02_Trim.mono_l k
  unfold paronymref02_Trim.f
  repeat' first
      | (with_reducible exact ih0 _)
      | (with_reducible exact ih1 _)
      | (with_reducible exact ih2 _)
      | (with_reducible exact LeO.refl _)
      | (with_reducible exact LeO.none _)
      | (with_reducible refine LeO.ite ?_ ?_)
      | (with_reducible refine LeO.bind ?_ (fun _ => ?_))
      | exact ih0 _
      | exact ih1 _
      | exact ih2 _
      | exact LeO.none _
      | refine LeO.ite ?_ ?_
      | refine LeO.bind ?_ (fun _ => ?_)
set_option maxHeartbeats 8000000 in
set_option maxRecDepth 100000 in
theorem paronymref02_Trim.calls (k : Nat) (a0 : ByteArray) (r : ByteArray) (w : World) (h : paronymref02_Trim.f k a0 = some r) :
    Calls Tryd.prog 58 #[.string a0] w fun e w' => e = .returned (.string r) ∧ Drawn0 w w' := by
  have H : (paronymref02_Trim.l0 k a0) = some r := h
  clear h
  have HC2 := Aside0.mk H
  clear H
  go_enter Tryd.func58, Tryd.ntmps58
  go_upto_block 0 with (fail)
  go_cut [0] (fun v0 wc => ∃ (kq : Nat) (x0_1 : ByteArray), v0 = .string x0_1 ∧ Aside0 (paronymref02_Trim.j1 kq x0_1 = some r) ∧ Aside0 (kq ≤ k) ∧ Drawn0 w wc)
  case first =>
    have H := HC2.out
    clear HC2
    have H' := Aside0.mk H
    clear H
    go_wp2
    go_loopg [0] k (fun kq v0 w' => ∃ (x0_1 : ByteArray), v0 = .string x0_1 ∧ Aside0 (paronymref02_Trim.l0 kq x0_1 = some r) ∧ Aside0 (kq ≤ k) ∧ Drawn0 w w')
    case atStart => exact ⟨(a0), (by first | rfl | (simp; done) | (simp [*]; done)), H', ⟨Nat.le_refl _⟩, by repeat (first | exact Drawn0.refl _ | apply Drawn0.step)⟩
    case round =>
      clear H'
      try clear p2
      obtain ⟨x0_1, rfl, HA, HK1, ⟨m1, rfl⟩⟩ := hrel
      cases gk with
      | zero => exact absurd HA.out (by simp [paronymref02_Trim.l0])
      | succ k1 =>
        have H := HA.out
        clear HA
        simp only [paronymref02_Trim.l0] at H
        by_cases c3 : (x0_1.size : Int) > 0
        · rw [if_pos c3] at H
          have c3b0 : decide (0 < (x0_1.size : Int)) = true := decide_eq_true c3
          have c3b1 : decide (0 < x0_1.size) = true := decide_eq_true (by omega)
          clear c3
          (first | rw [c3b0] | (simp only [i64_w, i32_w]; rw [c3b0]) | rw [c3b1] | (simp only [i64_w, i32_w]; rw [c3b1]) | skip)
          by_cases c4 : 0 < (x0_1.size : Int)
          · rw [if_pos c4] at H
            have c4b0 : decide (0 < (x0_1.size : Int)) = true := decide_eq_true c4
            have c4b1 : decide (0 < x0_1.size) = true := decide_eq_true (by omega)
            clear c4
            by_cases c6 : (bt x0_1 0) = 32
            · rw [if_pos c6] at H
              have c6b0 : ((bt x0_1 0) == 32) = true := beq_iff_eq.mpr c6
              have c6b1 : ((bt x0_1 0) != 32) = false := bne_eq_false_iff_eq.mpr c6
              clear c6
              by_cases c7 : 1 ≤ (x0_1.size : Int)
              · rw [if_pos c7] at H
                have c7b0 := eq_true c7
                have c7b1 : decide (1 ≤ (x0_1.size : Int)) = true := decide_eq_true c7
                clear c7
                have H' := Aside0.mk H
                clear H
                have p5 : 0 ≤ (0 : Int) := (by omega)
                have q5 : 0 < x0_1.size := (by have : (0 : Int) < (x0_1.size : Int) := of_decide_eq_true (by first | (with_reducible assumption) | assumption); omega)
                have hx5 : ∀ h : 0 < x0_1.size, ((x0_1[0]'h).toNat : Int) = bt x0_1 0 := bt_at x0_1 0
                clear p5
                have qi5 : (0 < (x0_1.size : Int)) = True := eq_true (of_decide_eq_true (by first | (with_reducible assumption) | assumption))
                replace q5 := eq_true q5
                go_wp2
                go_roundg k1
                case measure => have := HK1.out; omega
                case rel => exact ⟨(x0_1.extract 1 x0_1.size), (by first | rfl | (simp; done) | (simp [*]; done)), H', ⟨by have := HK1.out; omega⟩, by repeat (first | exact Drawn0.refl _ | apply Drawn0.step)⟩
              · rw [if_neg c7] at H
                exact absurd H (by simp)
            · rw [if_neg c6] at H
              have c6b0 : ((bt x0_1 0) == 32) = false := beq_eq_false_iff_ne.mpr c6
              have c6b1 : ((bt x0_1 0) != 32) = true := bne_iff_ne.mpr c6
              by_cases c9 : (bt x0_1 0) = 9
              · rw [if_pos c9] at H
                have c9b0 : ((bt x0_1 0) == 9) = true := beq_iff_eq.mpr c9
                have c9b1 : ((bt x0_1 0) != 9) = false := bne_eq_false_iff_eq.mpr c9
                clear c9
                by_cases c10 : 1 ≤ (x0_1.size : Int)
                · rw [if_pos c10] at H
                  have c10b0 := eq_true c10
                  have c10b1 : decide (1 ≤ (x0_1.size : Int)) = true := decide_eq_true c10
                  clear c10
                  have H' := Aside0.mk H
                  clear H
                  have p5 : 0 ≤ (0 : Int) := (by omega)
                  have q5 : 0 < x0_1.size := (by have : (0 : Int) < (x0_1.size : Int) := of_decide_eq_true (by first | (with_reducible assumption) | assumption); omega)
                  have hx5 : ∀ h : 0 < x0_1.size, ((x0_1[0]'h).toNat : Int) = bt x0_1 0 := bt_at x0_1 0
                  clear p5
                  have qi5 : (0 < (x0_1.size : Int)) = True := eq_true (of_decide_eq_true (by first | (with_reducible assumption) | assumption))
                  replace q5 := eq_true q5
                  have p8 : 0 ≤ (0 : Int) := (by omega)
                  have q8 : 0 < x0_1.size := (by have : (0 : Int) < (x0_1.size : Int) := of_decide_eq_true (by first | (with_reducible assumption) | assumption); omega)
                  have hx8 : ∀ h : 0 < x0_1.size, ((x0_1[0]'h).toNat : Int) = bt x0_1 0 := bt_at x0_1 0
                  clear p8
                  have qi8 : (0 < (x0_1.size : Int)) = True := eq_true (of_decide_eq_true (by first | (with_reducible assumption) | assumption))
                  replace q8 := eq_true q8
                  go_wp2
                  go_roundg k1
                  case measure => have := HK1.out; omega
                  case rel => exact ⟨(x0_1.extract 1 x0_1.size), (by first | rfl | (simp; done) | (simp [*]; done)), H', ⟨by have := HK1.out; omega⟩, by repeat (first | exact Drawn0.refl _ | apply Drawn0.step)⟩
                · rw [if_neg c10] at H
                  exact absurd H (by simp)
              · rw [if_neg c9] at H
                have c9b0 : ((bt x0_1 0) == 9) = false := beq_eq_false_iff_ne.mpr c9
                have c9b1 : ((bt x0_1 0) != 9) = true := bne_iff_ne.mpr c9
                have H' := Aside0.mk H
                clear H
                have p5 : 0 ≤ (0 : Int) := (by omega)
                have q5 : 0 < x0_1.size := (by have : (0 : Int) < (x0_1.size : Int) := of_decide_eq_true (by first | (with_reducible assumption) | assumption); omega)
                have hx5 : ∀ h : 0 < x0_1.size, ((x0_1[0]'h).toNat : Int) = bt x0_1 0 := bt_at x0_1 0
                clear p5
                have qi5 : (0 < (x0_1.size : Int)) = True := eq_true (of_decide_eq_true (by first | (with_reducible assumption) | assumption))
                replace q5 := eq_true q5
                have p8 : 0 ≤ (0 : Int) := (by omega)
                have q8 : 0 < x0_1.size := (by have : (0 : Int) < (x0_1.size : Int) := of_decide_eq_true (by first | (with_reducible assumption) | assumption); omega)
                have hx8 : ∀ h : 0 < x0_1.size, ((x0_1[0]'h).toNat : Int) = bt x0_1 0 := bt_at x0_1 0
                clear p8
                have qi8 : (0 < (x0_1.size : Int)) = True := eq_true (of_decide_eq_true (by first | (with_reducible assumption) | assumption))
                replace q8 := eq_true q8
                go_wp2
                go_meet
                case rel => exact ⟨_, (x0_1), (by first | rfl | (simp; done) | (simp [*]; done)), H', ⟨by have := HK1.out; first | omega | exact Nat.le_refl _⟩, by repeat (first | exact Drawn0.refl _ | apply Drawn0.step)⟩
          · rw [if_neg c4] at H
            exact absurd H (by simp)
        · rw [if_neg c3] at H
          have c3b0 : decide (0 < (x0_1.size : Int)) = false := decide_eq_false c3
          have c3b1 : decide (0 < x0_1.size) = false := decide_eq_false (by omega)
          clear c3
          (first | rw [c3b0] | (simp only [i64_w, i32_w]; rw [c3b0]) | rw [c3b1] | (simp only [i64_w, i32_w]; rw [c3b1]) | skip)
          have H' := Aside0.mk H
          clear H
          go_wp2
          go_meet
          case rel => exact ⟨_, (x0_1), (by first | rfl | (simp; done) | (simp [*]; done)), H', ⟨by have := HK1.out; first | omega | exact Nat.le_refl _⟩, by repeat (first | exact Drawn0.refl _ | apply Drawn0.step)⟩
  case rest =>
    clear HC2
    try clear c1
    try clear p2
    try clear c3
    try clear c3b0
    try clear c3b1
    try clear c4
    try clear c4b0
    try clear c4b1
    try clear c5
    try clear p5
    try clear q5
    try clear hx5
    try clear qi5
    try clear c6
    try clear c6b0
    try clear c6b1
    try clear c7
    try clear c7b0
    try clear c7b1
    try clear p8
    try clear q8
    try clear hx8
    try clear qi8
    try clear c9
    try clear c9b0
    try clear c9b1
    try clear c10
    try clear c10b0
    try clear c10b1
    try clear p2
    try clear p5
    try clear p8
    try clear q5
    try clear q8
    obtain ⟨kq, x0_1, rfl, HA, HJ1, ⟨mc1, rfl⟩⟩ := hcut
    cases kq with
    | zero => exact absurd HA.out (by simp [paronymref02_Trim.j1])
    | succ kj1 =>
      have H := HA.out
      clear HA
      simp only [paronymref02_Trim.j1] at H
      have H' := Aside0.mk H
      clear H
      go_wp2
      go_loopg [0] kj1 (fun kq v0 w' => ∃ (x0_2 : ByteArray), v0 = .string x0_2 ∧ Aside0 (paronymref02_Trim.l1 kq x0_2 = some r) ∧ Aside0 (kq ≤ kj1) ∧ Drawn0 w w')
      case atStart => exact ⟨(x0_1), (by first | rfl | (simp; done) | (simp [*]; done)), H', ⟨Nat.le_refl _⟩, by repeat (first | exact Drawn0.refl _ | apply Drawn0.step)⟩
      case round =>
        clear H'
        try clear c1
        try clear p2
        try clear c3
        try clear c3b0
        try clear c3b1
        try clear c4
        try clear c4b0
        try clear c4b1
        try clear c5
        try clear p5
        try clear q5
        try clear hx5
        try clear qi5
        try clear c6
        try clear c6b0
        try clear c6b1
        try clear c7
        try clear c7b0
        try clear c7b1
        try clear p8
        try clear q8
        try clear hx8
        try clear qi8
        try clear c9
        try clear c9b0
        try clear c9b1
        try clear c10
        try clear c10b0
        try clear c10b1
        try clear p2
        try clear p5
        try clear p8
        try clear q5
        try clear q8
        obtain ⟨x0_2, rfl, HA, HK2, ⟨m2, rfl⟩⟩ := hrel
        cases gk with
        | zero => exact absurd HA.out (by simp [paronymref02_Trim.l1])
        | succ k2 =>
          have H := HA.out
          clear HA
          simp only [paronymref02_Trim.l1] at H
          by_cases c11 : (x0_2.size : Int) > 0
          · rw [if_pos c11] at H
            have c11b0 : decide (0 < (x0_2.size : Int)) = true := decide_eq_true c11
            have c11b1 : decide (0 < x0_2.size) = true := decide_eq_true (by omega)
            clear c11
            obtain ⟨ji12, hji12⟩ : ∃ j_ : Int, (wrap64 ((x0_2.size : Int) - 1)) = j_ := ⟨_, rfl⟩
            replace H : (if 0 ≤ (ji12) then (if (ji12) < (x0_2.size : Int) then (if (bt x0_2 (ji12)) = 32 then (if (ji12) ≤ (x0_2.size : Int) then (paronymref02_Trim.l1 k2 (x0_2.extract 0 ((ji12) : Int).toNat)) else (none)) else (if (bt x0_2 (ji12)) = 9 then (if (ji12) ≤ (x0_2.size : Int) then (paronymref02_Trim.l1 k2 (x0_2.extract 0 ((ji12) : Int).toNat)) else (none)) else (some x0_2))) else (none)) else (none)) = some r := by first | (rw [hji12] at H; exact H) | (simp only [hji12] at H ⊢; exact H)
            have hji12w : (IntKind.i64.wrap ((x0_2.size : Int) - 1)) = ji12 := (i64_w _).trans hji12
            by_cases c13 : 0 ≤ (ji12)
            · rw [if_pos c13] at H
              have c13b0 : decide (0 ≤ (ji12)) = true := decide_eq_true c13
              clear c13
              by_cases c14 : (ji12) < (x0_2.size : Int)
              · rw [if_pos c14] at H
                have c14b0 : decide ((ji12) < (x0_2.size : Int)) = true := decide_eq_true c14
                clear c14
                by_cases c16 : (bt x0_2 (ji12)) = 32
                · rw [if_pos c16] at H
                  have c16b0 : ((bt x0_2 (ji12)) == 32) = true := beq_iff_eq.mpr c16
                  have c16b1 : ((bt x0_2 (ji12)) != 32) = false := bne_eq_false_iff_eq.mpr c16
                  clear c16
                  have c17b0 := eq_true (of_decide_eq_true (by first | (with_reducible assumption) | assumption) : 0 ≤ (ji12))
                  by_cases c18 : (ji12) ≤ (x0_2.size : Int)
                  · rw [if_pos c18] at H
                    have c18b0 := eq_true c18
                    have c18b1 : decide ((ji12) ≤ (x0_2.size : Int)) = true := decide_eq_true c18
                    clear c18
                    have H' := Aside0.mk H
                    clear H
                    have p15 : 0 ≤ ((ji12) : Int) := of_decide_eq_true (by first | (with_reducible assumption) | assumption)
                    have q15 : (ji12) < (x0_2.size : Int) := of_decide_eq_true (by first | (with_reducible assumption) | assumption)
                    have hx15 := bt_at x0_2 (ji12)
                    replace p15 := eq_true p15
                    replace q15 := eq_true q15
                    go_wp2
                    go_roundg k2
                    case measure => have := HJ1.out; have := HK2.out; omega
                    case rel => exact ⟨(x0_2.extract 0 ((ji12) : Int).toNat), (by first | rfl | (simp; done) | (simp only [← hji12] <;> (first | rfl | simp)) | (simp [*]; done)), H', ⟨by have := HJ1.out; have := HK2.out; omega⟩, by repeat (first | exact Drawn0.refl _ | apply Drawn0.step)⟩
                  · rw [if_neg c18] at H
                    exact absurd H (by simp)
                · rw [if_neg c16] at H
                  have c16b0 : ((bt x0_2 (ji12)) == 32) = false := beq_eq_false_iff_ne.mpr c16
                  have c16b1 : ((bt x0_2 (ji12)) != 32) = true := bne_iff_ne.mpr c16
                  by_cases c20 : (bt x0_2 (ji12)) = 9
                  · rw [if_pos c20] at H
                    have c20b0 : ((bt x0_2 (ji12)) == 9) = true := beq_iff_eq.mpr c20
                    have c20b1 : ((bt x0_2 (ji12)) != 9) = false := bne_eq_false_iff_eq.mpr c20
                    clear c20
                    have c21b0 := eq_true (of_decide_eq_true (by first | (with_reducible assumption) | assumption) : 0 ≤ (ji12))
                    by_cases c22 : (ji12) ≤ (x0_2.size : Int)
                    · rw [if_pos c22] at H
                      have c22b0 := eq_true c22
                      have c22b1 : decide ((ji12) ≤ (x0_2.size : Int)) = true := decide_eq_true c22
                      clear c22
                      have H' := Aside0.mk H
                      clear H
                      have p15 : 0 ≤ ((ji12) : Int) := of_decide_eq_true (by first | (with_reducible assumption) | assumption)
                      have q15 : (ji12) < (x0_2.size : Int) := of_decide_eq_true (by first | (with_reducible assumption) | assumption)
                      have hx15 := bt_at x0_2 (ji12)
                      replace p15 := eq_true p15
                      replace q15 := eq_true q15
                      have p19 : 0 ≤ ((ji12) : Int) := of_decide_eq_true (by first | (with_reducible assumption) | assumption)
                      have q19 : (ji12) < (x0_2.size : Int) := of_decide_eq_true (by first | (with_reducible assumption) | assumption)
                      have hx19 := bt_at x0_2 (ji12)
                      replace p19 := eq_true p19
                      replace q19 := eq_true q19
                      go_wp2
                      go_roundg k2
                      case measure => have := HJ1.out; have := HK2.out; omega
                      case rel => exact ⟨(x0_2.extract 0 ((ji12) : Int).toNat), (by first | rfl | (simp; done) | (simp only [← hji12] <;> (first | rfl | simp)) | (simp [*]; done)), H', ⟨by have := HJ1.out; have := HK2.out; omega⟩, by repeat (first | exact Drawn0.refl _ | apply Drawn0.step)⟩
                    · rw [if_neg c22] at H
                      exact absurd H (by simp)
                  · rw [if_neg c20] at H
                    have c20b0 : ((bt x0_2 (ji12)) == 9) = false := beq_eq_false_iff_ne.mpr c20
                    have c20b1 : ((bt x0_2 (ji12)) != 9) = true := bne_iff_ne.mpr c20
                    obtain rfl := Option.some.inj H
                    have p15 : 0 ≤ ((ji12) : Int) := of_decide_eq_true (by first | (with_reducible assumption) | assumption)
                    have q15 : (ji12) < (x0_2.size : Int) := of_decide_eq_true (by first | (with_reducible assumption) | assumption)
                    have hx15 := bt_at x0_2 (ji12)
                    replace p15 := eq_true p15
                    replace q15 := eq_true q15
                    have p19 : 0 ≤ ((ji12) : Int) := of_decide_eq_true (by first | (with_reducible assumption) | assumption)
                    have q19 : (ji12) < (x0_2.size : Int) := of_decide_eq_true (by first | (with_reducible assumption) | assumption)
                    have hx19 := bt_at x0_2 (ji12)
                    replace p19 := eq_true p19
                    replace q19 := eq_true q19
                    go_wp2
                    go_ret
                    exact ⟨by first | rfl | (simp; done) | (simp only [← hji12] <;> (first | rfl | simp)) | (simp [*]; done), by repeat (first | exact Drawn0.refl _ | apply Drawn0.step)⟩
              · rw [if_neg c14] at H
                exact absurd H (by simp)
            · rw [if_neg c13] at H
              exact absurd H (by simp)
          · rw [if_neg c11] at H
            have c11b0 : decide (0 < (x0_2.size : Int)) = false := decide_eq_false c11
            have c11b1 : decide (0 < x0_2.size) = false := decide_eq_false (by omega)
            clear c11
            obtain rfl := Option.some.inj H
            go_wp2
            go_ret
            exact ⟨by first | rfl | (simp; done) | (simp [*]; done), by repeat (first | exact Drawn0.refl _ | apply Drawn0.step)⟩

end Go.Proofs.YtdnfmilnkoocdaaDoor.Q

-- from Qf33
-- Made by hp.py, a program of this session, with the kit's printer. Not trusted: Lean checks it.
namespace Go.Proofs.YtdnfmilnkoocdaaDoor.Q
open Go.RowKit Go.Proofs.YtdnfmilnkoocdaaDoorW.PrintWords Go.Proofs.YtdnfmilnkoocdaaDoorW.PrintLast Go.Proofs.YtdnfmilnkoocdaaDoorW.PrintMore
attribute [local go_sem] max2_int min2_int max_two min_two max_three min_three max_four min_four   -- for this text's walks alone
set_option linter.unusedVariables false
set_option linter.unusedSimpArgs false

/-! ### paronymref02_Lines: function 33 -/
mutual
def paronymref02_Lines.l0 : Nat → List (S60) → List ByteArray → Int → Option ((List (S60)))
  | 0, _, _, _ => none
  | k + 1, x3, x4, x5 => if x5 < (x4.length : Int) then (if 0 ≤ x5 then (if ((rdOf ByteArray.empty x4 x5).size : Int) > 0 then (if 0 ≤ (wrap64 (((rdOf ByteArray.empty x4 x5).size : Int) - 1)) then (if (wrap64 (((rdOf ByteArray.empty x4 x5).size : Int) - 1)) < ((rdOf ByteArray.empty x4 x5).size : Int) then (paronymref02_Lines.j1 k x3 x4 x5 (rdOf ByteArray.empty x4 x5) ((bt (rdOf ByteArray.empty x4 x5) (wrap64 (((rdOf ByteArray.empty x4 x5).size : Int) - 1))) == 13)) else (none)) else (none)) else (paronymref02_Lines.j1 k x3 x4 x5 (rdOf ByteArray.empty x4 x5) false)) else (none)) else (some x3)
def paronymref02_Lines.j1 : Nat → List (S60) → List ByteArray → Int → ByteArray → Bool → Option ((List (S60)))
  | 0, _, _, _, _, _ => none
  | k + 1, x3, x4, x5, x6, x32 => if x32 = true then (if 0 ≤ (wrap64 ((x6.size : Int) - 1)) then (if (wrap64 ((x6.size : Int) - 1)) ≤ (x6.size : Int) then (paronymref02_Lines.j2 k x3 x4 x5 (x6.extract 0 ((wrap64 ((x6.size : Int) - 1)) : Int).toNat)) else (none)) else (none)) else (paronymref02_Lines.j2 k x3 x4 x5 x6)
def paronymref02_Lines.j2 : Nat → List (S60) → List ByteArray → Int → ByteArray → Option ((List (S60)))
  | 0, _, _, _, _ => none
  | k + 1, x3, x4, x5, x6 => (paronymref02_Cut.f k x6 35).bind fun t105 => (if 0 < (t105.length : Int) then ((paronymref02_Trim.f k (rdOf ByteArray.empty t105 0)).bind fun t109 => (if t109.toList = ([] : List UInt8) then (paronymref02_Lines.l0 k x3 x4 (wrap64 (x5 + 1))) else ((paronymref02_Cut.f k (rdOf ByteArray.empty t105 0) 59).bind fun t110 => (paronymref02_Lines.l1 k x3 x4 x5 t110 ([] : List ByteArray) 0)))) else (none))
def paronymref02_Lines.l1 : Nat → List (S60) → List ByteArray → Int → List ByteArray → List ByteArray → Int → Option ((List (S60)))
  | 0, _, _, _, _, _, _ => none
  | k + 1, x3, x4, x5, x7, x8, x9 => if x9 < (x7.length : Int) then (if 0 ≤ x9 then ((paronymref02_Trim.f k (rdOf ByteArray.empty x7 x9)).bind fun t114 => (if x8.length < 8796093022208 then (paronymref02_Lines.l1 k x3 x4 x5 x7 (x8 ++ [t114]) (wrap64 (x9 + 1))) else (none))) else (none)) else (if x3.length < 4398046511104 then (paronymref02_Lines.l0 k (x3 ++ [(⟨wrap64 (x5 + 1), x8⟩ : S60)]) x4 (wrap64 (x5 + 1))) else (none))
end
def paronymref02_Lines.f (k : Nat) (a0 : ByteArray) : Option ((List (S60))) := (paronymref02_Cut.f k a0 10).bind fun t101 => (paronymref02_Lines.l0 k ([] : List (S60)) t101 0)
theorem paronymref02_Lines.mono_l : ∀ k, (∀ y0 y1 y2, LeO (paronymref02_Lines.l0 k y0 y1 y2) (paronymref02_Lines.l0 (k + 1) y0 y1 y2)) ∧ (∀ y0 y1 y2 y3 y4, LeO (paronymref02_Lines.j1 k y0 y1 y2 y3 y4) (paronymref02_Lines.j1 (k + 1) y0 y1 y2 y3 y4)) ∧ (∀ y0 y1 y2 y3, LeO (paronymref02_Lines.j2 k y0 y1 y2 y3) (paronymref02_Lines.j2 (k + 1) y0 y1 y2 y3)) ∧ (∀ y0 y1 y2 y3 y4 y5, LeO (paronymref02_Lines.l1 k y0 y1 y2 y3 y4 y5) (paronymref02_Lines.l1 (k + 1) y0 y1 y2 y3 y4 y5))
  | 0 => ⟨fun _ _ _ r h => by simp [paronymref02_Lines.l0] at h, fun _ _ _ _ _ r h => by simp [paronymref02_Lines.j1] at h, fun _ _ _ _ r h => by simp [paronymref02_Lines.j2] at h, fun _ _ _ _ _ _ r h => by simp [paronymref02_Lines.l1] at h⟩
  | k + 1 => by
    obtain ⟨ih0, ih1, ih2, ih3⟩ := paronymref02_Lines.mono_l k
    refine ⟨?_, ?_, ?_, ?_⟩
    · intro y0 y1 y2
      unfold paronymref02_Lines.l0
      repeat' first
      | (with_reducible exact ih0 _ _ _)
      | (with_reducible exact ih1 _ _ _ _ _)
      | (with_reducible exact ih2 _ _ _ _)
      | (with_reducible exact ih3 _ _ _ _ _ _)
      | (with_reducible exact paronymref02_Cut.mono _ _ _)
      | (with_reducible exact paronymref02_Trim.mono _ _)
      | (with_reducible exact LeO.refl _)
      | (with_reducible exact LeO.none _)
      | (with_reducible refine LeO.ite ?_ ?_)
      | (with_reducible refine LeO.bind ?_ (fun _ => ?_))
      | exact ih0 _ _ _
      | exact ih1 _ _ _ _ _
      | exact ih2 _ _ _ _
      | exact ih3 _ _ _ _ _ _
      | exact paronymref02_Cut.mono _ _ _
      | exact paronymref02_Trim.mono _ _
      | exact LeO.none _
      | refine LeO.ite ?_ ?_
      | refine LeO.bind ?_ (fun _ => ?_)
    · intro y0 y1 y2 y3 y4
      unfold paronymref02_Lines.j1
      repeat' first
      | (with_reducible exact ih0 _ _ _)
      | (with_reducible exact ih1 _ _ _ _ _)
      | (with_reducible exact ih2 _ _ _ _)
      | (with_reducible exact ih3 _ _ _ _ _ _)
      | (with_reducible exact paronymref02_Cut.mono _ _ _)
      | (with_reducible exact paronymref02_Trim.mono _ _)
      | (with_reducible exact LeO.refl _)
      | (with_reducible exact LeO.none _)
      | (with_reducible refine LeO.ite ?_ ?_)
      | (with_reducible refine LeO.bind ?_ (fun _ => ?_))
      | exact ih0 _ _ _
      | exact ih1 _ _ _ _ _
      | exact ih2 _ _ _ _
      | exact ih3 _ _ _ _ _ _
      | exact paronymref02_Cut.mono _ _ _
      | exact paronymref02_Trim.mono _ _
      | exact LeO.none _
      | refine LeO.ite ?_ ?_
      | refine LeO.bind ?_ (fun _ => ?_)
    · intro y0 y1 y2 y3
      unfold paronymref02_Lines.j2
      repeat' first
      | (with_reducible exact ih0 _ _ _)
      | (with_reducible exact ih1 _ _ _ _ _)
      | (with_reducible exact ih2 _ _ _ _)
      | (with_reducible exact ih3 _ _ _ _ _ _)
      | (with_reducible exact paronymref02_Cut.mono _ _ _)
      | (with_reducible exact paronymref02_Trim.mono _ _)
      | (with_reducible exact LeO.refl _)
      | (with_reducible exact LeO.none _)
      | (with_reducible refine LeO.ite ?_ ?_)
      | (with_reducible refine LeO.bind ?_ (fun _ => ?_))
      | exact ih0 _ _ _
      | exact ih1 _ _ _ _ _
      | exact ih2 _ _ _ _
      | exact ih3 _ _ _ _ _ _
      | exact paronymref02_Cut.mono _ _ _
      | exact paronymref02_Trim.mono _ _
      | exact LeO.none _
      | refine LeO.ite ?_ ?_
      | refine LeO.bind ?_ (fun _ => ?_)
    · intro y0 y1 y2 y3 y4 y5
      unfold paronymref02_Lines.l1
      repeat' first
      | (with_reducible exact ih0 _ _ _)
      | (with_reducible exact ih1 _ _ _ _ _)
      | (with_reducible exact ih2 _ _ _ _)
      | (with_reducible exact ih3 _ _ _ _ _ _)
      | (with_reducible exact paronymref02_Cut.mono _ _ _)
      | (with_reducible exact paronymref02_Trim.mono _ _)
      | (with_reducible exact LeO.refl _)
      | (with_reducible exact LeO.none _)
      | (with_reducible refine LeO.ite ?_ ?_)
      | (with_reducible refine LeO.bind ?_ (fun _ => ?_))
      | exact ih0 _ _ _
      | exact ih1 _ _ _ _ _
      | exact ih2 _ _ _ _
      | exact ih3 _ _ _ _ _ _
      | exact paronymref02_Cut.mono _ _ _
      | exact paronymref02_Trim.mono _ _
      | exact LeO.none _
      | refine LeO.ite ?_ ?_
      | refine LeO.bind ?_ (fun _ => ?_)
theorem paronymref02_Lines.mono : ∀ a0 k, LeO (paronymref02_Lines.f k a0) (paronymref02_Lines.f (k + 1) a0) := by
  intro a0 k
  obtain ⟨ih0, ih1, ih2, ih3⟩ := paronymref02_Lines.mono_l k
  unfold paronymref02_Lines.f
  repeat' first
      | (with_reducible exact ih0 _ _ _)
      | (with_reducible exact ih1 _ _ _ _ _)
      | (with_reducible exact ih2 _ _ _ _)
      | (with_reducible exact ih3 _ _ _ _ _ _)
      | (with_reducible exact paronymref02_Cut.mono _ _ _)
      | (with_reducible exact paronymref02_Trim.mono _ _)
      | (with_reducible exact LeO.refl _)
      | (with_reducible exact LeO.none _)
      | (with_reducible refine LeO.ite ?_ ?_)
      | (with_reducible refine LeO.bind ?_ (fun _ => ?_))
      | exact ih0 _ _ _
      | exact ih1 _ _ _ _ _
      | exact ih2 _ _ _ _
      | exact ih3 _ _ _ _ _ _
      | exact paronymref02_Cut.mono _ _ _
      | exact paronymref02_Trim.mono _ _
      | exact LeO.none _
      | refine LeO.ite ?_ ?_
      | refine LeO.bind ?_ (fun _ => ?_)
set_option maxHeartbeats 8000000 in
set_option maxRecDepth 100000 in
theorem paronymref02_Lines.calls (k : Nat) (a0 : ByteArray) (r : List (S60)) (w : World) (h : paronymref02_Lines.f k a0 = some r) :
    Calls Tryd.prog 33 #[.string a0] w fun e w' => ∃ v0_ : Value, e = .returned (v0_) ∧ Kd.S k60 60 w' w.heap.size (fun _ => True) v0_ r ∧ Below w.heap.size w w' := by
  have hu60 := Tryd.underlying60
  have HB := Aside0.mk (Below.refl w.heap.size w)
  have H : ((paronymref02_Cut.f k a0 10).bind fun t101 => (paronymref02_Lines.l0 k ([] : List (S60)) t101 0)) = some r := h
  clear h
  replace H := Option.bind_eq_some_iff.mp H
  obtain ⟨t101, A20, H⟩ := H
  replace H : (paronymref02_Lines.l0 k ([] : List (S60)) t101 0) = some r := H
  have A2 := Aside0.mk A20
  clear A20
  have H' := Aside0.mk H
  clear H
  go_enter Tryd.func33, Tryd.ntmps33
  go_wp2_with (first | ((with_reducible refine gate_callee (f := 29) rfl ?_); refine goesL_ (some 11) rfl rfl Tryd.func29 (by kernel_rfl) rfl #[.string a0, .int .u8 10] rfl (by (try simp only [List.map_toArray, List.map_cons, List.map_nil]); first | done | rfl | (simp only [List.length_drop, List.length_take]; rfl)) ?_; (with_reducible refine (paronymref02_Cut.calls k a0 10 t101 _ A2.out).mono ?_); rintro e w3 ⟨v102, rfl, ho0, hb⟩; refine ⟨_, rfl, ?_⟩; have n0_ := Aside0.mk (Kd.R_lower ho0 (below_size (by repeat (first | (with_reducible first | exact HB.out | apply below_alloc | apply pw_below_drewN | apply below_drew1) | exact HB.out)))); have n1_ := Aside0.mk (below_step (by repeat (first | (with_reducible first | exact HB.out | apply below_alloc | apply pw_below_drewN | apply below_drew1) | exact HB.out)) hb); clear HB; have HO103 := n0_; have HB := n1_; clear n0_ n1_; (try clear hb); (try clear hb2); (try clear hk); (try clear hi); (try clear ho0)))
  go_loopg [3, 5] k (fun kq v3 v5 w' => ∃ (x3_1 : List (S60)) (x5_1 : Int), v5 = .int .i64 x5_1 ∧ Aside0 (paronymref02_Lines.l0 kq x3_1 t101 x5_1 = some r) ∧ Aside0 (kq ≤ k) ∧ Aside0 (Kd.S k60 60 w' w.heap.size (fun k_ => some k_ ≠ (v102 : Value).ownBlock) v3 x3_1) ∧ Aside0 (Kd.R Kd.string 9 w' w.heap.size (fun _ => True) v102 t101) ∧ Aside0 (Below w.heap.size w w'))
  case atStart => exact ⟨(([] : List (S60))), (0), (by first | rfl | (simp; done) | (simp [*]; done)), H', ⟨Nat.le_refl _⟩, ⟨by first | exact Kd.S_nil _ _ _ _ _ | exact Kd.N_nil _ _ _ _ _ | exact Kd.V_nil _ _ _ _ _ | exact Kd.Q_nil _ _ _ _ _ | exact Kd.R_nil _ _ _ _ _⟩, ⟨by (with_reducible repeat (first | apply Kd.R_alloc | apply Kd.R_drewN | apply Kd.R_drew)); exact HO103.out⟩, ⟨by repeat (first | (with_reducible first | exact HB.out | apply below_alloc | apply pw_below_drewN | apply below_drew1) | exact HB.out)⟩⟩
  case round =>
    clear H'
    try clear c2
    try clear p2
    try clear c3
    obtain ⟨x3_1, x5_1, rfl, HA, HK1, HO_3, HO_4, HB⟩ := hrel
    cases gk with
    | zero => exact absurd HA.out (by simp [paronymref02_Lines.l0])
    | succ k1 =>
      have H := HA.out
      clear HA
      simp only [paronymref02_Lines.l0] at H
      by_cases c4 : x5_1 < (t101.length : Int)
      · rw [if_pos c4] at H
        have c4b0 : decide (x5_1 < (t101.length : Int)) = true := decide_eq_true c4
        clear c4
        by_cases c5 : 0 ≤ x5_1
        · rw [if_pos c5] at H
          have c5b0 : decide (0 ≤ x5_1) = true := decide_eq_true c5
          clear c5
          have HC6 := Aside0.mk H
          clear H
          obtain ⟨Ao7, co7, eo7⟩ := Kd.R_slice HO_4.out
          subst eo7
          have p104 : 0 ≤ (x5_1 : Int) := of_decide_eq_true (by first | (with_reducible assumption) | assumption)
          have q104 : x5_1 < (t101.length : Int) := of_decide_eq_true (by first | (with_reducible assumption) | assumption)
          obtain ⟨ad104, e104, hx104_0⟩ := Kd.at_string (Kd.R_reads' HO_4.out).2.2 x5_1 p104 q104
          cases e104
          replace p104 := eq_true p104
          replace q104 := eq_true q104
          go_upto_region 7 with (fail)
          go_cut [32] (fun v32 wc => ∃ (kq : Nat) (x32_5 : Bool), v32 = .bool x32_5 ∧ Aside0 (paronymref02_Lines.j1 kq x3_1 t101 x5_1 (rdOf ByteArray.empty t101 x5_1) x32_5 = some r) ∧ Aside0 (kq ≤ k1) ∧ Aside0 (Kd.S k60 60 wc w.heap.size (fun k_ => some k_ ≠ ((.slice (some ad104) t101.length co7) : Value).ownBlock) u3 x3_1) ∧ Aside0 (Kd.R Kd.string 9 wc w.heap.size (fun _ => True) (.slice (some ad104) t101.length co7) t101) ∧ Aside0 (Below w.heap.size w wc))
          case first =>
            have H := HC6.out
            clear HC6
            by_cases c8 : ((rdOf ByteArray.empty t101 x5_1).size : Int) > 0
            · rw [if_pos c8] at H
              have c8b0 : decide (0 < ((rdOf ByteArray.empty t101 x5_1).size : Int)) = true := decide_eq_true c8
              have c8b1 : decide (0 < (rdOf ByteArray.empty t101 x5_1).size) = true := decide_eq_true (by omega)
              clear c8
              (first | rw [c8b0] | (simp only [i64_w, i32_w]; rw [c8b0]) | rw [c8b1] | (simp only [i64_w, i32_w]; rw [c8b1]) | skip)
              obtain ⟨ji9, hji9⟩ : ∃ j_ : Int, (wrap64 (((rdOf ByteArray.empty t101 x5_1).size : Int) - 1)) = j_ := ⟨_, rfl⟩
              replace H : (if 0 ≤ (ji9) then (if (ji9) < ((rdOf ByteArray.empty t101 x5_1).size : Int) then (paronymref02_Lines.j1 k1 x3_1 t101 x5_1 (rdOf ByteArray.empty t101 x5_1) ((bt (rdOf ByteArray.empty t101 x5_1) (ji9)) == 13)) else (none)) else (none)) = some r := by first | (rw [hji9] at H; exact H) | (simp only [hji9] at H ⊢; exact H)
              have hji9w : (IntKind.i64.wrap (((rdOf ByteArray.empty t101 x5_1).size : Int) - 1)) = ji9 := (i64_w _).trans hji9
              by_cases c10 : 0 ≤ (ji9)
              · rw [if_pos c10] at H
                have c10b0 : decide (0 ≤ (ji9)) = true := decide_eq_true c10
                clear c10
                by_cases c11 : (ji9) < ((rdOf ByteArray.empty t101 x5_1).size : Int)
                · rw [if_pos c11] at H
                  have c11b0 : decide ((ji9) < ((rdOf ByteArray.empty t101 x5_1).size : Int)) = true := decide_eq_true c11
                  clear c11
                  have H' := Aside0.mk H
                  clear H
                  have p12 : 0 ≤ ((ji9) : Int) := of_decide_eq_true (by first | (with_reducible assumption) | assumption)
                  have q12 : (ji9) < ((rdOf ByteArray.empty t101 x5_1).size : Int) := of_decide_eq_true (by first | (with_reducible assumption) | assumption)
                  have hx12 := bt_at (rdOf ByteArray.empty t101 x5_1) (ji9)
                  replace p12 := eq_true p12
                  replace q12 := eq_true q12
                  go_wp2
                  go_meet
                  case rel => exact ⟨_, (((bt (rdOf ByteArray.empty t101 x5_1) (ji9)) == 13)), (by first | rfl | (simp; done) | (simp only [← hji9] <;> (first | rfl | simp)) | (simp [*]; done)), H', ⟨by have := HK1.out; first | omega | exact Nat.le_refl _⟩, ⟨by (with_reducible repeat (first | apply Kd.S_alloc | apply Kd.S_drewN | apply Kd.S_drew)); exact HO_3.out⟩, ⟨by (with_reducible repeat (first | apply Kd.R_alloc | apply Kd.R_drewN | apply Kd.R_drew)); exact HO_4.out⟩, ⟨by repeat (first | (with_reducible first | exact HB.out | apply below_alloc | apply pw_below_drewN | apply below_drew1) | exact HB.out)⟩⟩
                · rw [if_neg c11] at H
                  exact absurd H (by simp)
              · rw [if_neg c10] at H
                exact absurd H (by simp)
            · rw [if_neg c8] at H
              have c8b0 : decide (0 < ((rdOf ByteArray.empty t101 x5_1).size : Int)) = false := decide_eq_false c8
              have c8b1 : decide (0 < (rdOf ByteArray.empty t101 x5_1).size) = false := decide_eq_false (by omega)
              clear c8
              (first | rw [c8b0] | (simp only [i64_w, i32_w]; rw [c8b0]) | rw [c8b1] | (simp only [i64_w, i32_w]; rw [c8b1]) | skip)
              have H' := Aside0.mk H
              clear H
              go_wp2
              go_meet
              case rel => exact ⟨_, (false), (by first | rfl | (simp; done) | (simp [*]; done)), H', ⟨by have := HK1.out; first | omega | exact Nat.le_refl _⟩, ⟨by (with_reducible repeat (first | apply Kd.S_alloc | apply Kd.S_drewN | apply Kd.S_drew)); exact HO_3.out⟩, ⟨by (with_reducible repeat (first | apply Kd.R_alloc | apply Kd.R_drewN | apply Kd.R_drew)); exact HO_4.out⟩, ⟨by repeat (first | (with_reducible first | exact HB.out | apply below_alloc | apply pw_below_drewN | apply below_drew1) | exact HB.out)⟩⟩
          case rest =>
            clear HC6
            try clear c1
            try clear p1
            try clear q1
            try clear hx1
            try clear c2
            try clear p2
            try clear c3
            try clear c4
            try clear c4b0
            try clear c5
            try clear c5b0
            try clear p6
            try clear c8
            try clear c8b0
            try clear c8b1
            try clear c10
            try clear c10b0
            try clear p10
            try clear q10
            try clear hx10
            try clear c11
            try clear c11b0
            try clear p12
            try clear q12
            try clear hx12
            try clear hx104_0
            try clear p104
            try clear p12
            try clear p2
            try clear q104
            try clear q12
            obtain ⟨kq, x32_5, rfl, HA, HJ5, HO_3, HO_4, HB⟩ := hcut
            cases kq with
            | zero => exact absurd HA.out (by simp [paronymref02_Lines.j1])
            | succ kj5 =>
              have H := HA.out
              clear HA
              simp only [paronymref02_Lines.j1] at H
              have HC13 := Aside0.mk H
              clear H
              go_upto_if 32 with (fail)
              go_cut [6] (fun v6 wc => ∃ (kq : Nat) (x6_12 : ByteArray), v6 = .string x6_12 ∧ Aside0 (paronymref02_Lines.j2 kq x3_1 t101 x5_1 x6_12 = some r) ∧ Aside0 (kq ≤ kj5) ∧ Aside0 (Kd.S k60 60 wc w.heap.size (fun k_ => some k_ ≠ ((.slice (some ad104) t101.length co7) : Value).ownBlock) u3 x3_1) ∧ Aside0 (Kd.R Kd.string 9 wc w.heap.size (fun _ => True) (.slice (some ad104) t101.length co7) t101) ∧ Aside0 (Below w.heap.size w wc))
              case first =>
                have H := HC13.out
                clear HC13
                by_cases c14 : x32_5 = true
                · subst c14
                  have H1 : (if 0 ≤ (wrap64 (((rdOf ByteArray.empty t101 x5_1).size : Int) - 1)) then (if (wrap64 (((rdOf ByteArray.empty t101 x5_1).size : Int) - 1)) ≤ ((rdOf ByteArray.empty t101 x5_1).size : Int) then (paronymref02_Lines.j2 kj5 x3_1 t101 x5_1 ((rdOf ByteArray.empty t101 x5_1).extract 0 ((wrap64 (((rdOf ByteArray.empty t101 x5_1).size : Int) - 1)) : Int).toNat)) else (none)) else (none)) = some r := by rw [if_pos rfl] at H; exact H
                  clear H
                  have H := H1
                  clear H1
                  obtain ⟨ji15, hji15⟩ : ∃ j_ : Int, (wrap64 (((rdOf ByteArray.empty t101 x5_1).size : Int) - 1)) = j_ := ⟨_, rfl⟩
                  replace H : (if 0 ≤ (ji15) then (if (ji15) ≤ ((rdOf ByteArray.empty t101 x5_1).size : Int) then (paronymref02_Lines.j2 kj5 x3_1 t101 x5_1 ((rdOf ByteArray.empty t101 x5_1).extract 0 ((ji15) : Int).toNat)) else (none)) else (none)) = some r := by first | (rw [hji15] at H; exact H) | (simp only [hji15] at H ⊢; exact H)
                  have hji15w : (IntKind.i64.wrap (((rdOf ByteArray.empty t101 x5_1).size : Int) - 1)) = ji15 := (i64_w _).trans hji15
                  by_cases c16 : 0 ≤ (ji15)
                  · rw [if_pos c16] at H
                    have c16b0 := eq_true c16
                    have c16b1 : decide (0 ≤ (ji15)) = true := decide_eq_true c16
                    clear c16
                    by_cases c17 : (ji15) ≤ ((rdOf ByteArray.empty t101 x5_1).size : Int)
                    · rw [if_pos c17] at H
                      have c17b0 := eq_true c17
                      have c17b1 : decide ((ji15) ≤ ((rdOf ByteArray.empty t101 x5_1).size : Int)) = true := decide_eq_true c17
                      clear c17
                      have H' := Aside0.mk H
                      clear H
                      go_wp2
                      go_meet
                      case rel => exact ⟨_, ((rdOf ByteArray.empty t101 x5_1).extract 0 ((ji15) : Int).toNat), (by first | rfl | (simp; done) | (simp only [← hji15] <;> (first | rfl | simp)) | (simp [*]; done)), H', ⟨by have := HK1.out; have := HJ5.out; first | omega | exact Nat.le_refl _⟩, ⟨by (with_reducible repeat (first | apply Kd.S_alloc | apply Kd.S_drewN | apply Kd.S_drew)); exact HO_3.out⟩, ⟨by (with_reducible repeat (first | apply Kd.R_alloc | apply Kd.R_drewN | apply Kd.R_drew)); exact HO_4.out⟩, ⟨by repeat (first | (with_reducible first | exact HB.out | apply below_alloc | apply pw_below_drewN | apply below_drew1) | exact HB.out)⟩⟩
                    · rw [if_neg c17] at H
                      exact absurd H (by simp)
                  · rw [if_neg c16] at H
                    exact absurd H (by simp)
                · replace c14 := Bool.eq_false_iff.mpr c14
                  subst c14
                  have H1 : (paronymref02_Lines.j2 kj5 x3_1 t101 x5_1 (rdOf ByteArray.empty t101 x5_1)) = some r := by rw [if_neg (show ¬ (false = true) by decide)] at H; exact H
                  clear H
                  have H := H1
                  clear H1
                  have H' := Aside0.mk H
                  clear H
                  go_wp2
                  go_meet
                  case rel => exact ⟨_, ((rdOf ByteArray.empty t101 x5_1)), (by first | rfl | (simp; done) | (simp [*]; done)), H', ⟨by have := HK1.out; have := HJ5.out; first | omega | exact Nat.le_refl _⟩, ⟨by (with_reducible repeat (first | apply Kd.S_alloc | apply Kd.S_drewN | apply Kd.S_drew)); exact HO_3.out⟩, ⟨by (with_reducible repeat (first | apply Kd.R_alloc | apply Kd.R_drewN | apply Kd.R_drew)); exact HO_4.out⟩, ⟨by repeat (first | (with_reducible first | exact HB.out | apply below_alloc | apply pw_below_drewN | apply below_drew1) | exact HB.out)⟩⟩
              case rest =>
                clear HC13
                try clear c1
                try clear p1
                try clear q1
                try clear hx1
                try clear c2
                try clear p2
                try clear c3
                try clear c4
                try clear c4b0
                try clear c5
                try clear c5b0
                try clear p6
                try clear c8
                try clear c8b0
                try clear c8b1
                try clear c10
                try clear c10b0
                try clear p10
                try clear q10
                try clear hx10
                try clear c11
                try clear c11b0
                try clear p12
                try clear q12
                try clear hx12
                try clear c14
                try clear c16
                try clear c16b0
                try clear c16b1
                try clear c17
                try clear c17b0
                try clear c17b1
                try clear hx104_0
                try clear p1
                try clear p10
                try clear p104
                try clear p12
                try clear p2
                try clear p6
                try clear q1
                try clear q10
                try clear q104
                try clear q12
                obtain ⟨kq, x6_12, rfl, HA, HJ12, HO_3, HO_4, HB⟩ := hcut
                cases kq with
                | zero => exact absurd HA.out (by simp [paronymref02_Lines.j2])
                | succ kj12 =>
                  have H := HA.out
                  clear HA
                  simp only [paronymref02_Lines.j2] at H
                  replace H := Option.bind_eq_some_iff.mp H
                  obtain ⟨t105, A180, H⟩ := H
                  replace H : (if 0 < (t105.length : Int) then ((paronymref02_Trim.f kj12 (rdOf ByteArray.empty t105 0)).bind fun t109 => (if t109.toList = ([] : List UInt8) then (paronymref02_Lines.l0 kj12 x3_1 t101 (wrap64 (x5_1 + 1))) else ((paronymref02_Cut.f kj12 (rdOf ByteArray.empty t105 0) 59).bind fun t110 => (paronymref02_Lines.l1 kj12 x3_1 t101 x5_1 t110 ([] : List ByteArray) 0)))) else (none)) = some r := H
                  have A18 := Aside0.mk A180
                  clear A180
                  by_cases c19 : 0 < (t105.length : Int)
                  · rw [if_pos c19] at H
                    have c19b0 : decide (0 < (t105.length : Int)) = true := decide_eq_true c19
                    have c19b1 : decide (0 < t105.length) = true := decide_eq_true (by omega)
                    clear c19
                    replace H := Option.bind_eq_some_iff.mp H
                    obtain ⟨t109, A200, H⟩ := H
                    replace H : (if t109.toList = ([] : List UInt8) then (paronymref02_Lines.l0 kj12 x3_1 t101 (wrap64 (x5_1 + 1))) else ((paronymref02_Cut.f kj12 (rdOf ByteArray.empty t105 0) 59).bind fun t110 => (paronymref02_Lines.l1 kj12 x3_1 t101 x5_1 t110 ([] : List ByteArray) 0))) = some r := H
                    have A20 := Aside0.mk A200
                    clear A200
                    by_cases c21 : t109.toList = ([] : List UInt8)
                    · rw [if_pos c21] at H
                      have c21b0 : (t109.toList == ([] : List UInt8)) = true := beq_iff_eq.mpr c21
                      have c21b1 : (t109.toList != ([] : List UInt8)) = false := bne_eq_false_iff_eq.mpr c21
                      clear c21
                      have H' := Aside0.mk H
                      clear H
                      go_wp2_with (first | ((with_reducible refine gate_callee (f := 29) rfl ?_); refine goesL_ (some 39) rfl rfl Tryd.func29 (by kernel_rfl) rfl #[.string x6_12, .int .u8 35] rfl (by (try simp only [List.map_toArray, List.map_cons, List.map_nil]); first | done | rfl | (simp only [List.length_drop, List.length_take]; rfl)) ?_; (with_reducible refine (paronymref02_Cut.calls kj12 x6_12 35 t105 _ A18.out).mono ?_); rintro e w22 ⟨v106, rfl, ho0, hb⟩; refine ⟨_, rfl, ?_⟩; have n0_ := Aside0.mk (Kd.S_elder' (by (with_reducible repeat (first | apply Kd.S_alloc | apply Kd.S_drewN | apply Kd.S_drew)); exact HO_3.out) (Kd.R_base ho0) hb); have n1_ := Aside0.mk (Kd.R_elder' (by (with_reducible repeat (first | apply Kd.R_alloc | apply Kd.R_drewN | apply Kd.R_drew)); exact HO_4.out) (Kd.R_base ho0) hb); have n2_ := Aside0.mk (Kd.R_lower (Kd.R_new' ho0 (Kd.R_lt (by (with_reducible repeat (first | apply Kd.R_alloc | apply Kd.R_drewN | apply Kd.R_drew)); exact HO_4.out))) (below_size (by repeat (first | (with_reducible first | exact HB.out | apply below_alloc | apply pw_below_drewN | apply below_drew1) | exact HB.out)))); have n3_ := Aside0.mk (below_step (by repeat (first | (with_reducible first | exact HB.out | apply below_alloc | apply pw_below_drewN | apply below_drew1) | exact HB.out)) hb); clear HO_3; clear HO_4; clear HB; have HO_3 := n0_; have HO_4 := n1_; have HO107 := n2_; have HB := n3_; clear n0_ n1_ n2_ n3_; (try clear hb); (try clear hb2); (try clear hk); (try clear hi); (try clear ho0); obtain ⟨Ao23, co23, eo23⟩ := Kd.R_slice HO107.out; subst eo23; have p108 : 0 ≤ (0 : Int) := (by omega); have q108 : 0 < (t105.length : Int) := of_decide_eq_true (by first | (with_reducible assumption) | assumption); obtain ⟨ad108, e108, hx108_0⟩ := Kd.at_string (Kd.R_reads' HO107.out).2.2 0 p108 q108; cases e108; have qi108 : (0 < t105.length) = True := eq_true (by omega); (try rw [show ((0 : Int)).toNat = 0 from rfl] at hx108_0); (try rw [Addr.add_zero'] at hx108_0); replace p108 := eq_true p108; replace q108 := eq_true q108) | ((with_reducible refine gate_callee (f := 58) rfl ?_); refine goesL_ (some 43) rfl rfl Tryd.func58 (by kernel_rfl) rfl #[.string (rdOf ByteArray.empty t105 0)] rfl (by (try simp only [List.map_toArray, List.map_cons, List.map_nil]); first | done | rfl | (simp only [List.length_drop, List.length_take]; rfl)) ?_; (with_reducible refine (paronymref02_Trim.calls kj12 (rdOf ByteArray.empty t105 0) t109 _ A20.out).mono ?_); rintro e w' ⟨rfl, ⟨nd, rfl⟩⟩; refine ⟨_, rfl, ?_⟩))
                      go_roundg kj12
                      case measure => have := HK1.out; have := HJ5.out; have := HJ12.out; omega
                      case rel => exact ⟨(x3_1), (wrap64 (x5_1 + 1)), (by first | rfl | (simp; done) | (simp [*]; done)), H', ⟨by have := HK1.out; have := HJ5.out; have := HJ12.out; omega⟩, ⟨by (with_reducible repeat (first | apply Kd.S_alloc | apply Kd.S_drewN | apply Kd.S_drew)); exact Kd.S_mono HO_3.out (fun _ hk => hk.1)⟩, ⟨by (with_reducible repeat (first | apply Kd.R_alloc | apply Kd.R_drewN | apply Kd.R_drew)); exact Kd.R_mono HO_4.out (fun _ hk => trivial)⟩, ⟨by repeat (first | (with_reducible first | exact HB.out | apply below_alloc | apply pw_below_drewN | apply below_drew1) | exact HB.out)⟩⟩
                    · rw [if_neg c21] at H
                      have c21b0 : (t109.toList == ([] : List UInt8)) = false := beq_eq_false_iff_ne.mpr c21
                      have c21b1 : (t109.toList != ([] : List UInt8)) = true := bne_iff_ne.mpr c21
                      replace H := Option.bind_eq_some_iff.mp H
                      obtain ⟨t110, A240, H⟩ := H
                      replace H : (paronymref02_Lines.l1 kj12 x3_1 t101 x5_1 t110 ([] : List ByteArray) 0) = some r := H
                      have A24 := Aside0.mk A240
                      clear A240
                      have H' := Aside0.mk H
                      clear H
                      go_wp2_with (first | ((with_reducible refine gate_callee (f := 29) rfl ?_); refine goesL_ (some 39) rfl rfl Tryd.func29 (by kernel_rfl) rfl #[.string x6_12, .int .u8 35] rfl (by (try simp only [List.map_toArray, List.map_cons, List.map_nil]); first | done | rfl | (simp only [List.length_drop, List.length_take]; rfl)) ?_; (with_reducible refine (paronymref02_Cut.calls kj12 x6_12 35 t105 _ A18.out).mono ?_); rintro e w25 ⟨v106, rfl, ho0, hb⟩; refine ⟨_, rfl, ?_⟩; have n0_ := Aside0.mk (Kd.S_elder' (by (with_reducible repeat (first | apply Kd.S_alloc | apply Kd.S_drewN | apply Kd.S_drew)); exact HO_3.out) (Kd.R_base ho0) hb); have n1_ := Aside0.mk (Kd.R_elder' (by (with_reducible repeat (first | apply Kd.R_alloc | apply Kd.R_drewN | apply Kd.R_drew)); exact HO_4.out) (Kd.R_base ho0) hb); have n2_ := Aside0.mk (Kd.R_lower (Kd.R_new' ho0 (Kd.R_lt (by (with_reducible repeat (first | apply Kd.R_alloc | apply Kd.R_drewN | apply Kd.R_drew)); exact HO_4.out))) (below_size (by repeat (first | (with_reducible first | exact HB.out | apply below_alloc | apply pw_below_drewN | apply below_drew1) | exact HB.out)))); have n3_ := Aside0.mk (below_step (by repeat (first | (with_reducible first | exact HB.out | apply below_alloc | apply pw_below_drewN | apply below_drew1) | exact HB.out)) hb); clear HO_3; clear HO_4; clear HB; have HO_3 := n0_; have HO_4 := n1_; have HO107 := n2_; have HB := n3_; clear n0_ n1_ n2_ n3_; (try clear hb); (try clear hb2); (try clear hk); (try clear hi); (try clear ho0); obtain ⟨Ao26, co26, eo26⟩ := Kd.R_slice HO107.out; subst eo26; have p108 : 0 ≤ (0 : Int) := (by omega); have q108 : 0 < (t105.length : Int) := of_decide_eq_true (by first | (with_reducible assumption) | assumption); obtain ⟨ad108, e108, hx108_0⟩ := Kd.at_string (Kd.R_reads' HO107.out).2.2 0 p108 q108; cases e108; have qi108 : (0 < t105.length) = True := eq_true (by omega); (try rw [show ((0 : Int)).toNat = 0 from rfl] at hx108_0); (try rw [Addr.add_zero'] at hx108_0); replace p108 := eq_true p108; replace q108 := eq_true q108) | ((with_reducible refine gate_callee (f := 58) rfl ?_); refine goesL_ (some 43) rfl rfl Tryd.func58 (by kernel_rfl) rfl #[.string (rdOf ByteArray.empty t105 0)] rfl (by (try simp only [List.map_toArray, List.map_cons, List.map_nil]); first | done | rfl | (simp only [List.length_drop, List.length_take]; rfl)) ?_; (with_reducible refine (paronymref02_Trim.calls kj12 (rdOf ByteArray.empty t105 0) t109 _ A20.out).mono ?_); rintro e w' ⟨rfl, ⟨nd, rfl⟩⟩; refine ⟨_, rfl, ?_⟩) | ((with_reducible refine gate_callee (f := 29) rfl ?_); refine goesL_ (some 46) rfl rfl Tryd.func29 (by kernel_rfl) rfl #[.string (rdOf ByteArray.empty t105 0), .int .u8 59] rfl (by (try simp only [List.map_toArray, List.map_cons, List.map_nil]); first | done | rfl | (simp only [List.length_drop, List.length_take]; rfl)) ?_; (with_reducible refine (paronymref02_Cut.calls kj12 (rdOf ByteArray.empty t105 0) 59 t110 _ A24.out).mono ?_); rintro e w27 ⟨v111, rfl, ho0, hb⟩; refine ⟨_, rfl, ?_⟩; have n0_ := Aside0.mk (Kd.S_elder' (by (with_reducible repeat (first | apply Kd.S_alloc | apply Kd.S_drewN | apply Kd.S_drew)); exact HO_3.out) (Kd.R_base ho0) hb); have n1_ := Aside0.mk (Kd.R_elder' (by (with_reducible repeat (first | apply Kd.R_alloc | apply Kd.R_drewN | apply Kd.R_drew)); exact HO_4.out) (Kd.R_base ho0) hb); have n2_ := Aside0.mk (Kd.R_elder' (by (with_reducible repeat (first | apply Kd.R_alloc | apply Kd.R_drewN | apply Kd.R_drew)); exact HO107.out) (Kd.R_base ho0) hb); have n3_ := Aside0.mk (Kd.R_lower (Kd.R_new' (Kd.R_new' ho0 (Kd.R_lt (by (with_reducible repeat (first | apply Kd.R_alloc | apply Kd.R_drewN | apply Kd.R_drew)); exact HO_4.out))) (Kd.R_lt (by (with_reducible repeat (first | apply Kd.R_alloc | apply Kd.R_drewN | apply Kd.R_drew)); exact HO107.out))) (below_size (by repeat (first | (with_reducible first | exact HB.out | apply below_alloc | apply pw_below_drewN | apply below_drew1) | exact HB.out)))); have n4_ := Aside0.mk (below_step (by repeat (first | (with_reducible first | exact HB.out | apply below_alloc | apply pw_below_drewN | apply below_drew1) | exact HB.out)) hb); clear HO_3; clear HO_4; clear HO107; clear HB; have HO_3 := n0_; have HO_4 := n1_; have HO107 := n2_; have HO112 := n3_; have HB := n4_; clear n0_ n1_ n2_ n3_ n4_; (try clear hb); (try clear hb2); (try clear hk); (try clear hi); (try clear ho0)))
                      go_loopg [8, 9] kj12 (fun kq v8 v9 w' => ∃ (x8_4 : List ByteArray) (x9_4 : Int), v9 = .int .i64 x9_4 ∧ Aside0 (paronymref02_Lines.l1 kq x3_1 t101 x5_1 t110 x8_4 x9_4 = some r) ∧ Aside0 (kq ≤ kj12) ∧ Aside0 (Kd.S k60 60 w' w.heap.size (fun k_ => some k_ ≠ ((.slice (some ad104) t101.length co7) : Value).ownBlock ∧ some k_ ≠ (v111 : Value).ownBlock ∧ some k_ ≠ (v8 : Value).ownBlock) u3 x3_1) ∧ Aside0 (Kd.R Kd.string 9 w' w.heap.size (fun k_ => some k_ ≠ (v111 : Value).ownBlock ∧ some k_ ≠ (v8 : Value).ownBlock) (.slice (some ad104) t101.length co7) t101) ∧ Aside0 (Kd.R Kd.string 9 w' w.heap.size (fun k_ => some k_ ≠ ((.slice (some ad104) t101.length co7) : Value).ownBlock ∧ some k_ ≠ (v8 : Value).ownBlock) v111 t110) ∧ Aside0 (Kd.R Kd.string 9 w' w.heap.size (fun k_ => some k_ ≠ ((.slice (some ad104) t101.length co7) : Value).ownBlock ∧ some k_ ≠ (v111 : Value).ownBlock) v8 x8_4) ∧ Aside0 (Below w.heap.size w w'))
                      case atStart => exact ⟨(([] : List ByteArray)), (0), (by first | rfl | (simp; done) | (simp [*]; done)), H', ⟨Nat.le_refl _⟩, ⟨by (with_reducible repeat (first | apply Kd.S_alloc | apply Kd.S_drewN | apply Kd.S_drew)); exact Kd.S_mono HO_3.out (fun _ hk => ⟨hk.1.1, ⟨hk.2, (by simp [Value.ownBlock])⟩⟩)⟩, ⟨by (with_reducible repeat (first | apply Kd.R_alloc | apply Kd.R_drewN | apply Kd.R_drew)); exact Kd.R_mono HO_4.out (fun _ hk => ⟨hk.2, (by simp [Value.ownBlock])⟩)⟩, ⟨by (with_reducible repeat (first | apply Kd.R_alloc | apply Kd.R_drewN | apply Kd.R_drew)); exact Kd.R_mono HO112.out (fun _ hk => ⟨hk.1.2, (by simp [Value.ownBlock])⟩)⟩, ⟨by first | exact Kd.R_nil _ _ _ _ _ | exact Kd.N_nil _ _ _ _ _ | exact Kd.V_nil _ _ _ _ _ | exact Kd.Q_nil _ _ _ _ _ | exact Kd.S_nil _ _ _ _ _⟩, ⟨by repeat (first | (with_reducible first | exact HB.out | apply below_alloc | apply pw_below_drewN | apply below_drew1) | exact HB.out)⟩⟩
                      case round =>
                        clear H'
                        try clear c1
                        try clear p1
                        try clear q1
                        try clear hx1
                        try clear qi1
                        try clear c2
                        try clear p2
                        try clear c3
                        try clear c4
                        try clear c4b0
                        try clear c5
                        try clear c5b0
                        try clear p6
                        try clear c8
                        try clear c8b0
                        try clear c8b1
                        try clear c10
                        try clear c10b0
                        try clear p10
                        try clear q10
                        try clear hx10
                        try clear qi10
                        try clear c11
                        try clear c11b0
                        try clear p12
                        try clear q12
                        try clear hx12
                        try clear c14
                        try clear c16
                        try clear c16b0
                        try clear c16b1
                        try clear c17
                        try clear c17b0
                        try clear c17b1
                        try clear c19
                        try clear c19b0
                        try clear c19b1
                        try clear c21
                        try clear c21b0
                        try clear c21b1
                        try clear hx104_0
                        try clear hx108_0
                        try clear p1
                        try clear p10
                        try clear p104
                        try clear p108
                        try clear p12
                        try clear p2
                        try clear p6
                        try clear q1
                        try clear q10
                        try clear q104
                        try clear q108
                        try clear q12
                        obtain ⟨x8_4, x9_4, rfl, HA, HK4, HO_3, HO_4, HO_7, HO_8, HB⟩ := hrel
                        cases gk with
                        | zero => exact absurd HA.out (by simp [paronymref02_Lines.l1])
                        | succ k4 =>
                          have H := HA.out
                          clear HA
                          simp only [paronymref02_Lines.l1] at H
                          by_cases c28 : x9_4 < (t110.length : Int)
                          · rw [if_pos c28] at H
                            have c28b0 : decide (x9_4 < (t110.length : Int)) = true := decide_eq_true c28
                            clear c28
                            by_cases c29 : 0 ≤ x9_4
                            · rw [if_pos c29] at H
                              have c29b0 : decide (0 ≤ x9_4) = true := decide_eq_true c29
                              clear c29
                              replace H := Option.bind_eq_some_iff.mp H
                              obtain ⟨t114, A300, H⟩ := H
                              replace H : (if x8_4.length < 8796093022208 then (paronymref02_Lines.l1 k4 x3_1 t101 x5_1 t110 (x8_4 ++ [t114]) (wrap64 (x9_4 + 1))) else (none)) = some r := H
                              have A30 := Aside0.mk A300
                              clear A300
                              by_cases c31 : x8_4.length < 8796093022208
                              · rw [if_pos c31] at H
                                have LMc31 := Aside0.mk c31
                                clear c31
                                obtain ⟨y115, hy115⟩ : ∃ y_ : List ByteArray, y_ = (x8_4 ++ [t114]) := ⟨_, rfl⟩
                                replace H : (paronymref02_Lines.l1 k4 x3_1 t101 x5_1 t110 y115 (wrap64 (x9_4 + 1))) = some r := by first | (rw [hy115]; with_reducible exact H) | (have H2_ := (Option.bind_some _ _).symm.trans H; rw [hy115]; with_reducible exact H2_) | (have H2_ := (Option.bind_some _ _).symm.trans H; with_reducible exact H2_) | with_reducible exact H | (rw [hy115]; exact H) | exact H
                                have Ny115 := Aside0.mk hy115
                                clear hy115
                                have H' := Aside0.mk H
                                clear H
                                obtain ⟨Ao32, co32, eo32⟩ := Kd.R_slice HO_7.out
                                subst eo32
                                have p113 : 0 ≤ (x9_4 : Int) := of_decide_eq_true (by first | (with_reducible assumption) | assumption)
                                have q113 : x9_4 < (t110.length : Int) := of_decide_eq_true (by first | (with_reducible assumption) | assumption)
                                obtain ⟨ad113, e113, hx113_0⟩ := Kd.at_string (Kd.R_reads' HO_7.out).2.2 x9_4 p113 q113
                                cases e113
                                replace p113 := eq_true p113
                                replace q113 := eq_true q113
                                go_wp2_with (first | ((with_reducible refine gate_callee (f := 58) rfl ?_); refine goesL_ (some 58) rfl rfl Tryd.func58 (by kernel_rfl) rfl #[.string (rdOf ByteArray.empty t110 x9_4)] rfl (by (try simp only [List.map_toArray, List.map_cons, List.map_nil]); first | done | rfl | (simp only [List.length_drop, List.length_take]; rfl)) ?_; (with_reducible refine (paronymref02_Trim.calls k4 (rdOf ByteArray.empty t110 x9_4) t114 _ A30.out).mono ?_); rintro e w' ⟨rfl, ⟨nd, rfl⟩⟩; refine ⟨_, rfl, ?_⟩) | ((with_reducible refine gate_builtin (b := .append) (xs := #[.tmp 53, .tmp 59]) rfl ?_); (try (refine gate_guard (by rfl) ?_; dsimp only)); at_builtin; refine Kd.R_append Kd.string (w0 := w) w.heap.size rfl (.tmp 53) (.tmp 59) 24 9 (.string ⟨#[]⟩) 16 rfl Tryd.underlying24 info9 rfl (by decide) (by omega) u8 x8_4 t114 [.string t114] (fun k_ => some k_ ≠ (.slice (some ad104) t101.length co7 : Value).ownBlock ∧ some k_ ≠ (.slice (some ad113) t110.length co32 : Value).ownBlock) (fun _ => False) rfl rfl ?aP (fun _ hk => hk.elim) ?aF ?aO ?aB ?aS ?aL ?_; (case aP => exact rfl); (case aB => exact (by repeat (first | (with_reducible first | exact HB.out | apply below_alloc | apply pw_below_drewN | apply below_drew1) | exact HB.out))); (case aF => exact (fun k_ hk => ⟨Kd.fresh' (Kd.R_lt (by (with_reducible repeat (first | apply Kd.R_alloc | apply Kd.R_drewN | apply Kd.R_drew)); exact HO_4.out)) k_ hk, Kd.fresh' (Kd.R_lt (by (with_reducible repeat (first | apply Kd.R_alloc | apply Kd.R_drewN | apply Kd.R_drew)); exact HO_7.out)) k_ hk⟩)); (case aO => exact (by (with_reducible repeat (first | apply Kd.R_alloc | apply Kd.R_drewN | apply Kd.R_drew)); exact HO_8.out)); (case aS => exact (below_size (by repeat (first | (with_reducible first | exact HB.out | apply below_alloc | apply pw_below_drewN | apply below_drew1) | exact HB.out)))); (case aL => have := LMc31.out; omega); intro v116 w33 ho hb hg hat; rw [← Ny115.out] at ho; have n0_ := Aside0.mk (Kd.S_after (ok := (fun k_ => some k_ ≠ (.slice (some ad104) t101.length co7 : Value).ownBlock ∧ some k_ ≠ (.slice (some ad113) t110.length co32 : Value).ownBlock)) (by (with_reducible repeat (first | apply Kd.S_alloc | apply Kd.S_drewN | apply Kd.S_drew)); exact Kd.S_mono HO_3.out (fun _ hk => ⟨⟨hk.1, hk.2.1⟩, hk.2.2⟩)) hg hat); have n1_ := Aside0.mk (Kd.R_after (ok := (fun k_ => some k_ ≠ (.slice (some ad113) t110.length co32 : Value).ownBlock)) (by (with_reducible repeat (first | apply Kd.R_alloc | apply Kd.R_drewN | apply Kd.R_drew)); exact HO_4.out) hg hat); have n2_ := Aside0.mk (Kd.R_after (ok := (fun k_ => some k_ ≠ (.slice (some ad104) t101.length co7 : Value).ownBlock)) (by (with_reducible repeat (first | apply Kd.R_alloc | apply Kd.R_drewN | apply Kd.R_drew)); exact HO_7.out) hg hat); have n3_ := Aside0.mk (hb); have n4_ := Aside0.mk (ho); clear HO_3; clear HO_4; clear HO_7; clear HB; clear HO_8; have HO_3 := n0_; have HO_4 := n1_; have HO_7 := n2_; have HB := n3_; have HO117 := n4_; clear n0_ n1_ n2_ n3_ n4_; clear ho hb hg hat))
                                go_roundg k4
                                case measure => have := HK1.out; have := HJ5.out; have := HJ12.out; have := HK4.out; omega
                                case rel => exact ⟨(y115), (wrap64 (x9_4 + 1)), (by first | rfl | (simp; done) | (simp [*]; done)), H', ⟨by have := HK1.out; have := HJ5.out; have := HJ12.out; have := HK4.out; omega⟩, ⟨by (with_reducible repeat (first | apply Kd.S_alloc | apply Kd.S_drewN | apply Kd.S_drew)); exact Kd.S_mono HO_3.out (fun _ hk => ⟨hk.1.1, ⟨hk.1.2, hk.2⟩⟩)⟩, ⟨by (with_reducible repeat (first | apply Kd.R_alloc | apply Kd.R_drewN | apply Kd.R_drew)); exact HO_4.out⟩, ⟨by (with_reducible repeat (first | apply Kd.R_alloc | apply Kd.R_drewN | apply Kd.R_drew)); exact HO_7.out⟩, ⟨by (with_reducible repeat (first | apply Kd.R_alloc | apply Kd.R_drewN | apply Kd.R_drew)); exact HO117.out⟩, ⟨by repeat (first | (with_reducible first | exact HB.out | apply below_alloc | apply pw_below_drewN | apply below_drew1) | exact HB.out)⟩⟩
                              · rw [if_neg c31] at H
                                exact absurd H (by simp)
                            · rw [if_neg c29] at H
                              exact absurd H (by simp)
                          · rw [if_neg c28] at H
                            have c28b0 : decide (x9_4 < (t110.length : Int)) = false := decide_eq_false c28
                            clear c28
                            by_cases c34 : x3_1.length < 4398046511104
                            · rw [if_pos c34] at H
                              have LMc34 := Aside0.mk c34
                              clear c34
                              obtain ⟨y118, hy118⟩ : ∃ y_ : List (S60), y_ = (x3_1 ++ [(⟨wrap64 (x5_1 + 1), x8_4⟩ : S60)]) := ⟨_, rfl⟩
                              replace H : (paronymref02_Lines.l0 k4 y118 t101 (wrap64 (x5_1 + 1))) = some r := by first | (rw [hy118]; with_reducible exact H) | (have H2_ := (Option.bind_some _ _).symm.trans H; rw [hy118]; with_reducible exact H2_) | (have H2_ := (Option.bind_some _ _).symm.trans H; with_reducible exact H2_) | with_reducible exact H | (rw [hy118]; exact H) | exact H
                              have Ny118 := Aside0.mk hy118
                              clear hy118
                              have H' := Aside0.mk H
                              clear H
                              obtain ⟨Ao35, co35, eo35⟩ := Kd.R_slice HO_7.out
                              subst eo35
                              obtain ⟨Ao36, co36, eo36⟩ := Kd.R_slice HO_8.out
                              subst eo36
                              go_wp2_with (first | ((with_reducible refine gate_builtin (b := .append) (xs := #[.tmp 61, .tmp 66]) rfl ?_); (try (refine gate_guard (by rfl) ?_; dsimp only)); at_builtin; refine Kd.S_append k60 (w0 := w) w.heap.size rfl (.tmp 61) (.tmp 66) 53 60 (.agg #[(.int .i64 0), (.slice none 0 0)]) 32 rfl Tryd.underlying53 info60 rfl (by decide) (by omega) u3 x3_1 (⟨wrap64 (x5_1 + 1), x8_4⟩ : S60) [.int .i64 (wrap64 (x5_1 + 1)), .slice Ao36 x8_4.length co36] (fun k_ => some k_ ≠ (.slice (some ad104) t101.length co7 : Value).ownBlock ∧ some k_ ≠ (.slice Ao35 t110.length co35 : Value).ownBlock) (fun k_ => some k_ = (.slice Ao36 x8_4.length co36 : Value).ownBlock) rfl rfl ?aP (fun k_ hk_ => ((Kd.R_mono (ok' := fun k_ => ((fun k_ => some k_ ≠ (.slice (some ad104) t101.length co7 : Value).ownBlock ∧ some k_ ≠ (.slice Ao35 t110.length co35 : Value).ownBlock)) k_ ∧ some k_ ≠ (u3 : Value).ownBlock) (Kd.R_apart' (HO_8.out) (Kd.S_typed HO_3.out) (by decide)) (fun k_ hk => ⟨⟨hk.1.1, hk.1.2⟩, hk.2⟩))).1 k_ hk_.symm) ?aF ?aO ?aB ?aS ?aL ?_; (case aP => exact k60_mkM _ _ _ (⟨wrap64 (x5_1 + 1), x8_4⟩ : S60) (Kd.R_mono (Kd.R_tight rfl (Kd.R_mono (ok' := fun k_ => ((fun k_ => some k_ ≠ (.slice (some ad104) t101.length co7 : Value).ownBlock ∧ some k_ ≠ (.slice Ao35 t110.length co35 : Value).ownBlock)) k_ ∧ some k_ ≠ (u3 : Value).ownBlock) (Kd.R_apart' (HO_8.out) (Kd.S_typed HO_3.out) (by decide)) (fun k_ hk => ⟨⟨hk.1.1, hk.1.2⟩, hk.2⟩))) (fun _ h_ => h_))); (case aB => exact (by repeat (first | (with_reducible first | exact HB.out | apply below_alloc | apply pw_below_drewN | apply below_drew1) | exact HB.out))); (case aF => exact (fun k_ hk => ⟨Kd.fresh' (Kd.R_lt (by (with_reducible repeat (first | apply Kd.R_alloc | apply Kd.R_drewN | apply Kd.R_drew)); exact HO_4.out)) k_ hk, Kd.fresh' (Kd.R_lt (by (with_reducible repeat (first | apply Kd.R_alloc | apply Kd.R_drewN | apply Kd.R_drew)); exact HO_7.out)) k_ hk⟩)); (case aO => exact (by (with_reducible repeat (first | apply Kd.S_alloc | apply Kd.S_drewN | apply Kd.S_drew)); exact Kd.S_mono HO_3.out (fun k_ hk => ⟨⟨hk.1, hk.2.1⟩, fun e_ => hk.2.2 e_⟩))); (case aS => exact (below_size (by repeat (first | (with_reducible first | exact HB.out | apply below_alloc | apply pw_below_drewN | apply below_drew1) | exact HB.out)))); (case aL => have := LMc34.out; omega); intro v119 w37 ho hb hg hat; rw [← Ny118.out] at ho; have n0_ := Aside0.mk (Kd.R_over' (by (with_reducible repeat (first | apply Kd.R_alloc | apply Kd.R_drewN | apply Kd.R_drew)); exact HO_4.out) (Kd.S_typed (by (with_reducible repeat (first | apply Kd.S_alloc | apply Kd.S_drewN | apply Kd.S_drew)); exact HO_3.out)) (by decide) hg); have n1_ := Aside0.mk (Kd.R_over' (by (with_reducible repeat (first | apply Kd.R_alloc | apply Kd.R_drewN | apply Kd.R_drew)); exact HO_7.out) (Kd.S_typed (by (with_reducible repeat (first | apply Kd.S_alloc | apply Kd.S_drewN | apply Kd.S_drew)); exact HO_3.out)) (by decide) hg); have n2_ := Aside0.mk (hb); have n3_ := Aside0.mk (ho); clear HO_4; clear HO_7; clear HB; clear HO_3; clear HO_8; have HO_4 := n0_; have HO_7 := n1_; have HB := n2_; have HO120 := n3_; clear n0_ n1_ n2_ n3_; clear ho hb hg hat))
                              go_roundg k4
                              case measure => have := HK1.out; have := HJ5.out; have := HJ12.out; have := HK4.out; omega
                              case rel => exact ⟨(y118), (wrap64 (x5_1 + 1)), (by first | rfl | (simp; done) | (simp [*]; done)), H', ⟨by have := HK1.out; have := HJ5.out; have := HJ12.out; have := HK4.out; omega⟩, ⟨by (with_reducible repeat (first | apply Kd.S_alloc | apply Kd.S_drewN | apply Kd.S_drew)); exact Kd.S_mono HO120.out (fun _ hk => hk.1)⟩, ⟨by (with_reducible repeat (first | apply Kd.R_alloc | apply Kd.R_drewN | apply Kd.R_drew)); exact Kd.R_mono HO_4.out (fun _ hk => trivial)⟩, ⟨by repeat (first | (with_reducible first | exact HB.out | apply below_alloc | apply pw_below_drewN | apply below_drew1) | exact HB.out)⟩⟩
                            · rw [if_neg c34] at H
                              exact absurd H (by simp)
                  · rw [if_neg c19] at H
                    exact absurd H (by simp)
        · rw [if_neg c5] at H
          exact absurd H (by simp)
      · rw [if_neg c4] at H
        have c4b0 : decide (x5_1 < (t101.length : Int)) = false := decide_eq_false c4
        clear c4
        obtain rfl := Option.some.inj H
        obtain ⟨Ao38, co38, eo38⟩ := Kd.R_slice HO_4.out
        subst eo38
        go_wp2
        go_ret
        exact ⟨_, by first | rfl | (simp [errW_none, errW_some] <;> rfl) | (simp [*, errW_none, errW_some] <;> rfl), by (with_reducible repeat (first | apply Kd.S_alloc | apply Kd.S_drewN | apply Kd.S_drew)); exact Kd.S_mono HO_3.out (fun _ hk => trivial), by repeat (first | (with_reducible first | exact HB.out | apply below_alloc | apply pw_below_drewN | apply below_drew1) | exact HB.out)⟩

end Go.Proofs.YtdnfmilnkoocdaaDoor.Q

-- from Plns
/- Layer 2's reference on lists: Trim, Lines. -/
namespace Go.Proofs.YtdnfmilnkoocdaaDoor.K
set_option linter.unusedVariables false
set_option linter.unusedSimpArgs false
open Go.RowKit Go.Proofs.YtdnfmilnkoocdaaDoorW.PrintWords Go.Proofs.YtdnfmilnkoocdaaDoorW.PrintMore Go.Proofs.YtdnfmilnkoocdaaDoor.Q

def blk (c : Int) : Bool := decide (c = 32 ∨ c = 9)
def trimR (l : List Int) : List Int := (l.reverse.dropWhile blk).reverse
def trimL (l : List Int) : List Int := trimR (l.dropWhile blk)
theorem trimR_snoc (l : List Int) (x : Int) : trimR (l ++ [x]) = if blk x then trimR l else l ++ [x] := by
  unfold trimR
  rw [List.reverse_append, List.reverse_singleton, List.singleton_append, List.dropWhile_cons]
  split
  · rfl
  · simp
theorem str_front {x : Int} {l : List Int} : (strOfNums (x :: l)).extract 1 (strOfNums (x :: l)).size = strOfNums l := by
  rw [extract_str, size_str, List.take_length]; rfl
theorem str_init {l : List Int} {x : Int} : (strOfNums (l ++ [x])).extract 0 l.length = strOfNums l := by
  rw [extract_str, List.drop_zero, List.take_left]
theorem trimR_ev : ∀ (n : Nat) (L : List Int), L.length = n → Oct L → L.length ≤ 1000000 → Ev (fun k => paronymref02_Trim.l1 k (strOfNums L)) (strOfNums (trimR L)) := by
  intro n
  induction n with
  | zero =>
    intro L hn ho hl
    obtain rfl := List.length_eq_zero_iff.1 hn
    exact Ev.step (fun k => rfl) (Ev.neg (by rw [size_str]; simp) (Ev.ret rfl))
  | succ n ih =>
    intro L hn ho hl
    obtain ⟨l, x, rfl⟩ : ∃ l x, L = l ++ [x] := ⟨L.dropLast, L.getLast (fun e => by rw [e] at hn; simp at hn), (List.dropLast_concat_getLast _).symm⟩
    have hl1 : l.length = n := by simpa using hn
    have hz : (strOfNums (l ++ [x])).size = n + 1 := by rw [size_str, hn]
    have hw : wrap64 (((strOfNums (l ++ [x])).size : Int) - 1) = (n : Int) := by rw [hz, w64 (by omega) (by omega)]; omega
    have hb : bt (strOfNums (l ++ [x])) (n : Int) = x := by
      rw [bt_str ho (by omega) (by simp; omega), rd_nat _ n (by simp; omega)]
      simp [← hl1]
    have next := ih l hl1 (fun y hy => ho y (by simp [hy])) (by omega)
    rw [trimR_snoc]
    refine Ev.step (fun k => rfl) ?_
    by_cases h1 : x = 32
    · rw [if_pos (by simp [blk, h1])]
      refine Ev.pos (by omega) (Ev.pos (by omega) (Ev.pos (by omega) (Ev.pos (by rw [hw, hb]; exact h1) (Ev.pos (by omega) ?_))))
      rw [hw, Int.toNat_natCast, ← hl1, str_init]
      exact next
    · by_cases h2 : x = 9
      · rw [if_pos (by simp [blk, h2])]
        refine Ev.pos (by omega) (Ev.pos (by omega) (Ev.pos (by omega) (Ev.neg (by rw [hw, hb]; exact h1) (Ev.pos (by rw [hw, hb]; exact h2) (Ev.pos (by omega) ?_)))))
        rw [hw, Int.toNat_natCast, ← hl1, str_init]
        exact next
      · rw [if_neg (by simp [blk, h1, h2])]
        exact Ev.pos (by omega) (Ev.pos (by omega) (Ev.pos (by omega) (Ev.neg (by rw [hw, hb]; exact h1) (Ev.neg (by rw [hw, hb]; exact h2) (Ev.ret rfl)))))
theorem trim0_ev : ∀ (L : List Int), Oct L → L.length ≤ 1000000 → Ev (fun k => paronymref02_Trim.l0 k (strOfNums L)) (strOfNums (trimL L))
  | [], ho, hl => Ev.step (fun k => rfl) (Ev.neg (by rw [size_str]; simp) (Ev.step (fun k => rfl) (trimR_ev 0 [] rfl ho hl)))
  | x :: L, ho, hl => by
    have hz : (strOfNums (x :: L)).size = L.length + 1 := size_str _
    have hb : bt (strOfNums (x :: L)) 0 = x := by rw [bt_str ho (by omega) (by simp)]; rfl
    have hl' : L.length ≤ 1000000 := by simp at hl; omega
    have next := trim0_ev L (fun y hy => ho y (by simp [hy])) hl'
    unfold trimL
    rw [List.dropWhile_cons]
    by_cases h1 : x = 32
    · rw [if_pos (by simp [blk, h1])]
      refine Ev.step (fun k => rfl) (Ev.pos (by omega) (Ev.pos (by omega) (Ev.pos (by rw [hb]; exact h1) (Ev.pos (by omega) ?_))))
      rw [str_front]
      exact next
    · by_cases h2 : x = 9
      · rw [if_pos (by simp [blk, h2])]
        refine Ev.step (fun k => rfl) (Ev.pos (by omega) (Ev.pos (by omega) (Ev.neg (by rw [hb]; exact h1) (Ev.pos (by rw [hb]; exact h2) (Ev.pos (by omega) ?_)))))
        rw [str_front]
        exact next
      · rw [if_neg (by simp [blk, h1, h2])]
        exact Ev.step (fun k => rfl) (Ev.pos (by omega) (Ev.pos (by omega) (Ev.neg (by rw [hb]; exact h1) (Ev.neg (by rw [hb]; exact h2) (Ev.step (fun k => rfl) (trimR_ev _ _ rfl ho hl))))))
theorem trim_ev (L : List Int) (ho : Oct L) (hl : L.length ≤ 1000000) : Ev (fun k => paronymref02_Trim.f k (strOfNums L)) (strOfNums (trimL L)) := trim0_ev L ho hl
end Go.Proofs.YtdnfmilnkoocdaaDoor.K

-- from Plns2
/- Layer 2's reference on lists: Lines. -/
namespace Go.Proofs.YtdnfmilnkoocdaaDoor.K
set_option linter.unusedVariables false
set_option linter.unusedSimpArgs false
open Go.RowKit Go.Proofs.YtdnfmilnkoocdaaDoorW.PrintWords Go.Proofs.YtdnfmilnkoocdaaDoorW.PrintMore Go.Proofs.YtdnfmilnkoocdaaDoor.Q

def stripCR (l : List Int) : List Int := if l.getLast? = some 13 then l.dropLast else l
def bodyL (l : List Int) : List Int := (spl 35 l).headD []
/-- A line's fields. -/
def fieldsL (l : List Int) : Option (List (List Int)) := if trimL (bodyL l) = [] then none else some ((spl 59 (bodyL l)).map trimL)
def linesS : Nat → List (List Int) → List S60
  | _, [] => []
  | i, l :: r => match fieldsL (stripCR l) with
    | none => linesS (i + 1) r
    | some f => ⟨(i : Int) + 1, f.map strOfNums⟩ :: linesS (i + 1) r
theorem str_nilU {L : List Int} : (strOfNums L).toList = ([] : List UInt8) ↔ L = [] := by
  rw [ba_toList]
  constructor
  · intro h
    have h1 : (strOfNums L).data.toList.length = 0 := by rw [h]; rfl
    have h2 := size_str L
    have h3 : (strOfNums L).size = (strOfNums L).data.toList.length := by rw [Array.length_toList]; rfl
    exact List.length_eq_zero_iff.1 (by omega)
  · rintro rfl; rfl
theorem oct_spl {c : Int} {l q : List Int} (ho : Oct l) (h : q ∈ spl c l) : Oct q := fun x hx => ho x (spl_flat _ l q h x hx)
theorem len_spl {c : Int} {l q : List Int} (h : q ∈ spl c l) : q.length ≤ l.length := splP_len _ l q h
theorem oct_strip {l : List Int} (ho : Oct l) : Oct (stripCR l) := by
  unfold stripCR
  split
  · exact fun x hx => ho x (List.dropLast_subset l hx)
  · exact ho
theorem len_strip (l : List Int) : (stripCR l).length ≤ l.length := by
  unfold stripCR
  split
  · rw [List.length_dropLast]; omega
  · exact Nat.le_refl _
theorem body_mem (l : List Int) : bodyL l ∈ spl 35 l := by
  unfold bodyL
  cases h : spl 35 l with
  | nil => exact absurd h (spl_ne _ _)
  | cons a r => simp
theorem body_cons (l : List Int) : ∃ r, spl 35 l = bodyL l :: r := by
  unfold bodyL
  cases h : spl 35 l with
  | nil => exact absurd h (spl_ne _ _)
  | cons a r => exact ⟨r, rfl⟩
theorem rdOf_map2 (X : List (List Int)) (i : Nat) (h : i < X.length) : rdOf ByteArray.empty (X.map strOfNums) (i : Int) = strOfNums X[i] := by
  unfold rdOf
  rw [Int.toNat_natCast, List.getD_eq_getElem?_getD, List.getElem?_map, List.getElem?_eq_getElem h]; rfl
theorem fields_loop {Y : List (List Int)} (ho : ∀ l ∈ Y, Oct l) (hl : ∀ l ∈ Y, l.length ≤ 1000000) (hY : Y.length ≤ 1000000) (x3 : List S60) (x4 : List ByteArray) (i : Int) {r : List S60} (h3 : x3.length ≤ 1000000)
    (next : Ev (fun k => paronymref02_Lines.l0 k (x3 ++ [⟨wrap64 (i + 1), (Y.map trimL).map strOfNums⟩]) x4 (wrap64 (i + 1))) r) : ∀ (d j : Nat), Y.length - j = d → j ≤ Y.length → Ev (fun k => paronymref02_Lines.l1 k x3 x4 i (Y.map strOfNums) (((Y.take j).map trimL).map strOfNums) (j : Int)) r := by
  intro d
  induction d with
  | zero =>
    intro j h1 h2
    rw [List.take_of_length_le (by omega)]
    exact Ev.step (fun k => rfl) (Ev.neg (by rw [List.length_map]; omega) (Ev.pos (by omega) next))
  | succ d ih =>
    intro j h1 h2
    have hj : j < Y.length := by omega
    have nx := ih (j + 1) (by omega) (by omega)
    refine Ev.step (fun k => rfl) (Ev.pos (by rw [List.length_map]; omega) (Ev.pos (by omega) (Ev.bind (a := strOfNums (trimL Y[j])) ?_ (Ev.pos (by simp; omega) ?_))))
    · rw [rdOf_map2 Y j hj]
      exact trim_ev _ (ho _ (List.getElem_mem hj)) (hl _ (List.getElem_mem hj))
    · rw [w64 (by omega) (by omega)]
      rw [← List.take_append_getElem hj, List.map_append, List.map_append] at nx
      exact nx
theorem lines_loop {X : List (List Int)} (ho : ∀ l ∈ X, Oct l) (hl : ∀ l ∈ X, l.length ≤ 100000) (hX : X.length ≤ 100001) : ∀ (d i : Nat) (acc : List S60), X.length - i = d → i ≤ X.length → acc.length ≤ i →
    Ev (fun k => paronymref02_Lines.l0 k acc (X.map strOfNums) (i : Int)) (acc ++ linesS i (X.drop i)) := by
  intro d
  induction d with
  | zero =>
    intro i acc h1 h2 h3
    rw [List.drop_eq_nil_iff.2 (by omega)]
    exact Ev.step (fun k => rfl) (Ev.neg (by rw [List.length_map]; omega) (Ev.ret (by simp [linesS])))
  | succ d ih =>
    intro i acc h1 h2 h3
    have hi : i < X.length := by omega
    obtain ⟨s, hs⟩ : ∃ s, s = X[i] := ⟨_, rfl⟩
    have hos : Oct s := hs ▸ ho _ (List.getElem_mem hi)
    have hls : s.length ≤ 100000 := hs ▸ hl _ (List.getElem_mem hi)
    have hrd := rdOf_map2 X i hi
    rw [← hs] at hrd
    rw [List.drop_eq_getElem_cons hi, ← hs]
    have hsz := size_str s
    -- behind the line's end
    have h2 : ∀ t, Oct t → t.length ≤ 100000 → t = stripCR s → Ev (fun k => paronymref02_Lines.j2 k acc (X.map strOfNums) (i : Int) (strOfNums t)) (acc ++ linesS i (s :: X.drop (i + 1))) := fun t hot hlt e => by
      have hlen := List.length_pos_iff.2 (spl_ne 35 t)
      have hbm := body_mem t
      have hob := oct_spl hot hbm
      have hlb := len_spl hbm
      have hr0 : rdOf ByteArray.empty ((spl 35 t).map strOfNums) 0 = strOfNums (bodyL t) := by
        obtain ⟨r, hr⟩ := body_cons t
        rw [hr]; rfl
      refine Ev.step (fun k => rfl) (Ev.bind (cut_ev hot (by omega) 35) (Ev.pos (by rw [List.length_map]; omega) (Ev.bind (a := strOfNums (trimL (bodyL t))) ?_ ?_)))
      · rw [hr0]; exact trim_ev _ hob (by omega)
      · by_cases hn : trimL (bodyL t) = []
        · refine Ev.pos (str_nilU.2 hn) ?_
          rw [w64 (by omega) (by omega)]
          have nx := ih (i + 1) acc (by omega) (by omega) (by omega)
          have : fieldsL (stripCR s) = none := by rw [← e]; unfold fieldsL; rw [if_pos hn]
          unfold linesS
          rw [this]
          exact nx
        · refine Ev.neg (fun h => hn (str_nilU.1 h)) (Ev.bind (a := (spl 59 (bodyL t)).map strOfNums) ?_ ?_)
          · rw [hr0]; exact cut_ev hob (by omega) 59
          · have hf : fieldsL (stripCR s) = some ((spl 59 (bodyL t)).map trimL) := by rw [← e]; unfold fieldsL; rw [if_neg hn]
            have hcnt := splP_count (fun x => decide (x = (59 : Int))) (bodyL t)
            refine fields_loop (Y := spl 59 (bodyL t)) (fun l hm => oct_spl hob hm) (fun l hm => by have := len_spl hm; omega) (by unfold spl; omega) acc _ (i : Int) (by omega) ?_ _ 0 rfl (Nat.zero_le _)
            rw [w64 (by omega) (by omega)]
            have nx := ih (i + 1) (acc ++ [⟨(i : Int) + 1, ((spl 59 (bodyL t)).map trimL).map strOfNums⟩]) (by omega) (by omega) (by simp; omega)
            have e2 : acc ++ linesS i (s :: X.drop (i + 1)) = acc ++ [⟨(i : Int) + 1, ((spl 59 (bodyL t)).map trimL).map strOfNums⟩] ++ linesS (i + 1) (X.drop (i + 1)) := by
              rw [show linesS i (s :: X.drop (i + 1)) = _ from rfl]
              conv => lhs; unfold linesS
              rw [hf, List.append_assoc]
              rfl
            rw [e2]
            exact nx
    by_cases hz : s.length = 0
    · obtain rfl := List.length_eq_zero_iff.1 hz
      refine Ev.step (fun k => rfl) (Ev.pos (by rw [List.length_map]; omega) (Ev.pos (by omega) (Ev.neg (by rw [hrd, hsz]; simp) ?_)))
      rw [hrd]
      exact Ev.step (f := fun k => paronymref02_Lines.j2 k acc (X.map strOfNums) (i : Int) (strOfNums [])) (fun k => rfl) (h2 [] hos hls rfl)
    · have hne : s ≠ [] := fun e => hz (by rw [e]; rfl)
      have hw : wrap64 (((strOfNums s).size : Int) - 1) = ((s.length - 1 : Nat) : Int) := by rw [hsz, w64 (by omega) (by omega)]; omega
      have hb : bt (strOfNums s) ((s.length - 1 : Nat) : Int) = s.getLast hne := by
        rw [bt_str hos (by omega) (by omega), rd_nat s _ (by omega), List.getLast_eq_getElem]
      refine Ev.step (fun k => rfl) (Ev.pos (by rw [List.length_map]; omega) (Ev.pos (by omega) (Ev.pos (by rw [hrd]; omega) (Ev.pos (by rw [hrd, hw]; omega) (Ev.pos (by rw [hrd, hw]; omega) ?_)))))
      rw [hrd, hw, hb]
      by_cases h13 : s.getLast hne = 13
      · have hst : stripCR s = s.dropLast := by unfold stripCR; rw [if_pos (by rw [List.getLast?_eq_some_getLast hne, h13])]
        refine Ev.step (fun k => rfl) (Ev.pos (by simpa using h13) (Ev.pos (by rw [hw]; omega) (Ev.pos (by rw [hw]; omega) ?_)))
        rw [hw, Int.toNat_natCast, extract_str, List.drop_zero, ← List.dropLast_eq_take]
        exact h2 _ (by rw [← hst]; exact oct_strip hos) (by rw [List.length_dropLast]; omega) hst.symm
      · have hst : stripCR s = s := by unfold stripCR; rw [if_neg (by rw [List.getLast?_eq_some_getLast hne]; simpa using h13)]
        exact Ev.step (fun k => rfl) (Ev.neg (by simpa using h13) (h2 _ hos hls hst.symm))
theorem lines_ev {b : List Int} (ho : Oct b) (hl : b.length ≤ 100000) : Ev (fun k => paronymref02_Lines.f k (strOfNums b)) (linesS 0 (spl 10 b)) := by
  refine Ev.bind (cut_ev ho (by omega) 10) ?_
  have hc := splP_count (fun x => decide (x = (10 : Int))) b
  have := lines_loop (X := spl 10 b) (fun l hm => oct_spl ho hm) (fun l hm => by have := len_spl hm; omega) (by unfold spl; omega) (spl 10 b).length 0 [] rfl (Nat.zero_le _) (Nat.zero_le _)
  rw [List.nil_append, List.drop_zero] at this
  exact this
end Go.Proofs.YtdnfmilnkoocdaaDoor.K

-- from Pstr
/- The library's words on texts of octets. -/
namespace Go.Proofs.YtdnfmilnkoocdaaDoor.K
set_option linter.unusedVariables false
set_option linter.unusedSimpArgs false
open Go.RowKit Go.Proofs.YtdnfmilnkoocdaaDoorW.PrintWords Go.Proofs.YtdnfmilnkoocdaaDoorW.PrintMore Go.Proofs.YtdnfmilnkoocdaaDoor.Q

theorem str_data (L : List Int) : (strOfNums L).data.toList = Lib.bytesOf L := by simp [strOfNums, Lib.bytesOf]
theorem str_of_bytes (L : List Int) : (⟨(Lib.bytesOf L).toArray⟩ : ByteArray) = strOfNums L := by simp [strOfNums, Lib.bytesOf]
theorem u8_lt {x : Int} (h : 0 ≤ x ∧ x ≤ 255) : (UInt8.ofNat x.toNat).toNat = x.toNat := by
  simp only [UInt8.toNat_ofNat']; omega
theorem u8_eq {x y : Int} (h : 0 ≤ x ∧ x ≤ 255) (k : 0 ≤ y ∧ y ≤ 255) : (UInt8.ofNat x.toNat == UInt8.ofNat y.toNat) = decide (x = y) := by
  rw [Bool.eq_iff_iff, beq_iff_eq, decide_eq_true_iff]
  constructor
  · intro e
    have := congrArg UInt8.toNat e
    rw [u8_lt h, u8_lt k] at this
    omega
  · rintro rfl; rfl
theorem dropWhile_bytes {p : UInt8 → Bool} {q : Int → Bool} : ∀ {L : List Int}, (∀ x ∈ L, p (UInt8.ofNat x.toNat) = q x) → (Lib.bytesOf L).dropWhile p = Lib.bytesOf (L.dropWhile q)
  | [], _ => rfl
  | x :: L, h => by
    show (UInt8.ofNat x.toNat :: Lib.bytesOf L).dropWhile p = _
    rw [List.dropWhile_cons, List.dropWhile_cons, h x (by simp)]
    split
    · exact dropWhile_bytes (fun y hy => h y (by simp [hy]))
    · rfl
theorem blk_bytes {x : Int} (h : 0 ≤ x ∧ x ≤ 255) : (([32, 9] : List UInt8).contains (UInt8.ofNat x.toNat)) = blk x := by
  have e1 := u8_eq h (y := 32) (by decide)
  have e2 := u8_eq h (y := 9) (by decide)
  have h1 : (([32, 9] : List UInt8).contains (UInt8.ofNat x.toNat)) = ((UInt8.ofNat x.toNat == UInt8.ofNat (32 : Int).toNat) || (UInt8.ofNat x.toNat == UInt8.ofNat (9 : Int).toNat)) := by
    show (List.elem _ [32, 9]) = _
    unfold List.elem
    split
    · rename_i e; rw [show UInt8.ofNat (32 : Int).toNat = 32 from rfl, e]; rfl
    · rename_i e
      rw [show UInt8.ofNat (32 : Int).toNat = 32 from rfl, e, show UInt8.ofNat (9 : Int).toNat = 9 from rfl]
      unfold List.elem
      split
      · rename_i e2; rw [e2]; rfl
      · rename_i e2; rw [e2]; rfl
  rw [h1, e1, e2]
  unfold blk
  simp
theorem bytes_rev (L : List Int) : Lib.bytesOf L.reverse = (Lib.bytesOf L).reverse := by unfold Lib.bytesOf; rw [List.map_reverse]
/-- From the end, then from the front: the same. -/
theorem trim_swap {α : Type} (p : α → Bool) (l : List α) : ((l.reverse.dropWhile p).reverse).dropWhile p = ((l.dropWhile p).reverse.dropWhile p).reverse := by
  induction l with
  | nil => rfl
  | cons x l ih =>
    by_cases hx : p x = true
    · rw [List.dropWhile_cons, if_pos hx, ← ih, List.reverse_cons, List.dropWhile_append]
      split
      · rename_i e
        have e' : l.reverse.dropWhile p = [] := by simpa using e
        rw [e', List.dropWhile_cons, if_pos hx]
        simp
      · rw [List.reverse_append, List.reverse_singleton, List.singleton_append, List.dropWhile_cons, if_pos hx]
    · rw [List.dropWhile_cons (xs := l), if_neg hx, List.reverse_cons, List.dropWhile_append]
      split
      · rename_i e
        have e' : l.reverse.dropWhile p = [] := by simpa using e
        rw [List.dropWhile_cons, if_neg hx, List.reverse_singleton, List.dropWhile_cons, if_neg hx]
      · rw [List.reverse_append, List.reverse_singleton, List.singleton_append, List.dropWhile_cons, if_neg hx]
theorem trim_lib {L : List Int} (ho : Oct L) : (⟨(Lib.trimS (strOfNums L).data.toList [32, 9]).toArray⟩ : ByteArray) = strOfNums (trimL L) := by
  rw [str_data]
  unfold Lib.trimS Lib.trimLeftS Lib.trimRightS
  rw [trim_swap]
  have h1 : (Lib.bytesOf L).dropWhile (([32, 9] : List UInt8).contains ·) = Lib.bytesOf (L.dropWhile blk) := dropWhile_bytes fun x hx => blk_bytes (ho x hx)
  rw [h1, ← bytes_rev]
  have h2 : (Lib.bytesOf (L.dropWhile blk).reverse).dropWhile (([32, 9] : List UInt8).contains ·) = Lib.bytesOf ((L.dropWhile blk).reverse.dropWhile blk) := dropWhile_bytes fun x hx => blk_bytes (ho x (List.dropWhile_subset _ (List.mem_reverse.1 hx)))
  rw [h2, ← bytes_rev, str_of_bytes]
  rfl
theorem spl_bytes {c : Int} (hc : 0 ≤ c ∧ c ≤ 255) {L : List Int} (ho : Oct L) : splP (· == UInt8.ofNat c.toNat) (Lib.bytesOf L) = (spl c L).map Lib.bytesOf :=
  splP_map (fun n : Int => UInt8.ofNat n.toNat) (p := fun x => decide (x = c)) (q := (· == UInt8.ofNat c.toNat)) fun x hx => u8_eq (ho x hx) hc
/-- What stands ahead of the first one. -/
theorem cut_body {L : List Int} (ho : Oct L) : (⟨(Lib.cut (strOfNums L).data.toList [35]).1.toArray⟩ : ByteArray) = strOfNums (bodyL L) := by
  rw [str_data]
  have hs := spl_bytes (c := 35) (by decide) ho
  rw [show UInt8.ofNat (35 : Int).toNat = 35 from rfl] at hs
  have hb : Lib.bytesOf (bodyL L) = ((spl 35 L).map Lib.bytesOf).headD [] := by
    obtain ⟨r, hr⟩ := body_cons L
    rw [hr]; rfl
  unfold Lib.cut
  rcases index_one (b := 35) (Lib.bytesOf L) with ⟨h1, h2⟩ | ⟨i, h1, h2, h3, h4⟩
  · rw [if_neg (by rw [h1]; decide)]
    rw [splP_miss (p := (· == (35 : UInt8))) h2] at hs
    rw [← hs] at hb
    rw [← str_of_bytes, hb]; rfl
  · rw [if_pos (by rw [h1]; omega), h1, Int.toNat_natCast]
    rw [splP_hit (p := (· == (35 : UInt8))) h3 h4 rfl] at hs
    rw [← hs] at hb
    rw [← str_of_bytes, hb]; rfl
theorem strip_lib {L : List Int} (ho : Oct L) : (⟨(Lib.trimSuffix (strOfNums L).data.toList [13]).toArray⟩ : ByteArray) = strOfNums (stripCR L) := by
  rw [str_data]
  unfold Lib.trimSuffix Lib.hasSuffix stripCR
  rcases List.eq_nil_or_concat L with rfl | ⟨l, x, rfl⟩
  · rfl
  · rw [List.concat_eq_append] at ho ⊢
    have hb : Lib.bytesOf (l ++ [x]) = Lib.bytesOf l ++ [UInt8.ofNat x.toNat] := by simp [Lib.bytesOf]
    have hx := ho x (by simp)
    have e := u8_eq hx (y := 13) (by decide)
    rw [show UInt8.ofNat (13 : Int).toNat = 13 from rfl] at e
    have hsuf : ([13] : List UInt8).isSuffixOf (Lib.bytesOf (l ++ [x])) = decide (x = 13) := by
      rw [hb, ← e, Bool.eq_iff_iff, List.isSuffixOf_iff_suffix, beq_iff_eq]
      constructor
      · rintro ⟨t, ht⟩
        have := List.append_inj_right' ht rfl
        simpa using this.symm
      · intro h; exact ⟨_, by rw [h]⟩
    rw [hsuf]
    by_cases h13 : x = 13
    · rw [if_pos (decide_eq_true h13), if_pos (by simp [h13]), ← str_of_bytes, hb]
      simp
    · rw [if_neg (by simpa using h13), if_neg (by simpa using h13), str_of_bytes]
theorem data_inj {s t : ByteArray} (h : s.data.toList = t.data.toList) : s = t := toList_inj (by rw [ba_toList, ba_toList, h])
theorem splitB_is (c : Nat) (hc : c ≤ 255) {L : List Int} (ho : Oct L) : Lib.splitB ⟨#[UInt8.ofNat c]⟩ 0 (Lib.countB (strOfNums L) ⟨#[UInt8.ofNat c]⟩) (strOfNums L) = (spl (c : Int) L).map strOfNums ∧ Lib.countB (strOfNums L) ⟨#[UInt8.ofNat c]⟩ + 1 = (spl (c : Int) L).length := by
  have hcb : Lib.countB (strOfNums L) ⟨#[UInt8.ofNat c]⟩ = Lib.count (Lib.bytesOf L) [UInt8.ofNat c] := by
    show Lib.count (strOfNums L).data.toList [UInt8.ofNat c] = _
    rw [str_data]
  obtain ⟨h1, h2⟩ := split_one (UInt8.ofNat c) _ (Lib.bytesOf L) (Nat.le_refl _)
  have hs := spl_bytes (c := (c : Int)) (by omega) ho
  rw [Int.toNat_natCast] at hs
  constructor
  · have hd := Lib.splitB_data ⟨#[UInt8.ofNat c]⟩ 0 (Lib.countB (strOfNums L) ⟨#[UInt8.ofNat c]⟩) (strOfNums L)
    rw [hcb, str_data] at hd
    rw [hcb]
    rw [show (⟨#[UInt8.ofNat c]⟩ : ByteArray).data.toList = [UInt8.ofNat c] from rfl, h1, hs] at hd
    have : (spl (c : Int) L).map Lib.bytesOf = ((spl (c : Int) L).map strOfNums).map (·.data.toList) := by
      rw [List.map_map]; exact List.map_congr_left fun x _ => (str_data x).symm
    rw [this] at hd
    exact List.map_inj_right (f := fun (s : ByteArray) => s.data.toList) (fun a b h => data_inj h) |>.1 hd
  · rw [hcb, h2, hs, List.length_map]
/-- A capital letter. -/
def upI (x : Int) : Int := if 97 ≤ x ∧ x ≤ 122 then x - 32 else x
theorem upper_lib {L : List Int} (ho : ∀ x ∈ L, 0 ≤ x ∧ x ≤ 127) : (⟨(Lib.toUpperA (strOfNums L).data.toList).toArray⟩ : ByteArray) = strOfNums (L.map upI) := by
  rw [str_data, ← str_of_bytes]
  have : Lib.toUpperA (Lib.bytesOf L) = Lib.bytesOf (L.map upI) := by
    unfold Lib.toUpperA Lib.bytesOf
    rw [List.map_map, List.map_map]
    refine List.map_congr_left fun x hx => ?_
    obtain ⟨n, rfl⟩ := Int.eq_ofNat_of_zero_le (ho x hx).1
    have hn : n < 128 := by have := (ho _ hx).2; omega
    have key : ∀ k : Fin 128, Lib.upperB (UInt8.ofNat ((k.val : Int)).toNat) = UInt8.ofNat (upI (k.val : Int)).toNat := by decide +kernel
    exact key ⟨n, hn⟩
  rw [this]
theorem repeat_lib (n : Nat) : (⟨(Lib.repeatL (⟨#[48]⟩ : ByteArray).data.toList n).toArray⟩ : ByteArray) = strOfNums (List.replicate n 48) := by
  rw [← str_of_bytes]
  have : Lib.repeatL (⟨#[48]⟩ : ByteArray).data.toList n = Lib.bytesOf (List.replicate n 48) := by
    induction n with
    | zero => rfl
    | succ n ih => rw [List.replicate_succ]; show _ ++ Lib.repeatL _ n = _ :: Lib.bytesOf _; rw [ih]; rfl
  rw [this]
end Go.Proofs.YtdnfmilnkoocdaaDoor.K

-- from Hftx
/- Layer 2: what the library's functions tell of texts of octets; text. -/
namespace Go.Proofs.YtdnfmilnkoocdaaDoor.Q
open Go.RowKit Go.Shelf Go.Proofs.YtdnfmilnkoocdaaDoorW.PrintWords Go.Proofs.YtdnfmilnkoocdaaDoorW.PrintLast Go.Proofs.YtdnfmilnkoocdaaDoorW.PrintMore Go.Proofs.YtdnfmilnkoocdaaDoor.K
set_option linter.unusedVariables false
set_option linter.unusedSimpArgs false

/-- What the package's functions read of the world: bytealg's bound, one entry of bits' table. -/
def EnvF (w : World) : Prop := (∃ m : Int, w.cell? ⟨0, 0, none⟩ = some (.int .i64 m)) ∧ w.cell? ⟨6, 15, none⟩ = some (.int .u8 4)
theorem EnvF.below {w w' : World} (h : EnvF w) (hb : Below w.heap.size w w') : EnvF w' := by
  obtain ⟨⟨m, h1⟩, h2⟩ := h
  exact ⟨⟨m, (hb.cell (World.block_lt_of_cell? w _ h1)).trans h1⟩, (hb.cell (World.block_lt_of_cell? w _ h2)).trans h2⟩
theorem sTrim.calls (L : List Int) (ho : Oct L) (hl : L.length ≤ 1000000) (w : World) : Calls Tryd.prog 84 #[.string (strOfNums L), .string ⟨#[32, 9]⟩] w fun e w' => e = .returned (.string (strOfNums (trimL L))) ∧ Below w.heap.size w w' := by
  refine (Any.strings_Trim_laid Tryd.lays160 (by kernel_rfl) (strOfNums L) ⟨#[32, 9]⟩ w (by rw [size_str]; omega) (by decide) (fun j b hj => ?_)).mono ?_
  · have : b ∈ ([32, 9] : List UInt8) := List.mem_of_getElem? hj
    simp only [List.mem_cons, List.not_mem_nil, or_false] at this
    rcases this with rfl | rfl <;> decide
  · rintro e w' ⟨rfl, hb⟩
    exact ⟨by rw [← trim_lib ho], hb⟩
theorem sStrip.calls (L : List Int) (ho : Oct L) (hl : L.length ≤ 1000000) (w : World) : Calls Tryd.prog 63 #[.string (strOfNums L), .string ⟨#[13]⟩] w fun e w' => e = .returned (.string (strOfNums (stripCR L))) ∧ w' = w := by
  refine (Any.strings_TrimSuffix Tryd.lays102 (strOfNums L) ⟨#[13]⟩ w (by rw [size_str]; omega)).mono ?_
  rintro e w' ⟨rfl, rfl⟩
  exact ⟨by rw [← strip_lib ho], rfl⟩
/-- What a cut leaves behind. -/
theorem sCut.calls (L : List Int) (ho : Oct L) (hl : L.length ≤ 1000000) (w : World) (hE : EnvF w) : Calls Tryd.prog 66 #[.string (strOfNums L), .string ⟨#[35]⟩] w fun e w' => ∃ s b, e = .returned (.tuple #[.string (strOfNums (bodyL L)), .string s, .bool b]) ∧ Below w.heap.size w w' := by
  obtain ⟨⟨m, hm⟩, _⟩ := hE
  refine (Any.strings_Cut Tryd.lays145 (strOfNums L) ⟨#[35]⟩ m w (by rw [size_str]; omega) hm).mono ?_
  rintro e w' ⟨rfl, n, rfl⟩
  exact ⟨_, _, by rw [← cut_body ho], pw_below_drewN (Below.refl _ _) n⟩
theorem sSplit.calls (c : Nat) (hc : c ≤ 255) (L : List Int) (ho : Oct L) (hl : L.length ≤ 1000000) (w : World) (hE : EnvF w) : Calls Tryd.prog 59 #[.string (strOfNums L), .string ⟨#[UInt8.ofNat c]⟩] w fun e w' => e = .returned (.slice (some ⟨w.heap.size, 0, none⟩) (spl (c : Int) L).length (spl (c : Int) L).length) ∧ w' = w.alloc (.cells ((spl (c : Int) L).map (fun p => .string (strOfNums p))).toArray 9) := by
  obtain ⟨⟨m, hm⟩, _⟩ := hE
  refine (Any.strings_Split Tryd.lays146 (by kernel_rfl) (strOfNums L) ⟨#[UInt8.ofNat c]⟩ m w (by rw [size_str]; omega) hm (Nat.le_refl 1)).mono ?_
  obtain ⟨h1, h2⟩ := splitB_is c hc ho
  rintro e w' ⟨rfl, rfl⟩
  rw [h1, h2, List.map_map]
  exact ⟨rfl, rfl⟩
/-- A code point's text. -/
def hexT (c : Nat) : List Int := List.replicate (4 - (hexL c).length) 48 ++ (hexL c).map upI
theorem hexL_small : ∀ (n v : Nat), v < 16 ^ n → 1 ≤ n → 1 ≤ (hexL v).length ∧ (hexL v).length ≤ n ∧ ∀ x ∈ hexL v, 0 ≤ x ∧ x ≤ 127
  | 0, v, _, h => by omega
  | n + 1, v, hv, _ => by
    by_cases h : v < 16
    · rw [hexL_one h]
      refine ⟨by simp, by simp, fun x hx => ?_⟩
      obtain rfl : x = hexD v := by simpa using hx
      unfold hexD
      split <;> omega
    · have hn : 1 ≤ n := by
        rcases Nat.eq_zero_or_pos n with rfl | hn
        · simp at hv; omega
        · exact hn
      have h2 : v / 16 < 16 ^ n := by rw [Nat.pow_succ] at hv; omega
      obtain ⟨g1, g2, g3⟩ := hexL_small n (v / 16) h2 hn
      rw [hexL_step (by omega)]
      refine ⟨by simp, by simp; omega, fun x hx => ?_⟩
      rcases List.mem_append.1 hx with hx | hx
      · exact g3 x hx
      · obtain rfl : x = hexD (v % 16) := by simpa using hx
        unfold hexD
        split <;> omega
set_option maxHeartbeats 2000000 in
set_option maxRecDepth 100000 in
theorem text.calls (c : Nat) (hc : c ≤ 1114111) (w : World) (hE : EnvF w) : Calls Tryd.prog 64 #[.int .i64 (c : Int)] w fun e w' => e = .returned (.string (strOfNums (hexT c))) ∧ Below w.heap.size w w' := by
  obtain ⟨h1, h2, h3⟩ := hexL_small 6 c (by omega) (by omega)
  obtain ⟨n, hn⟩ : ∃ n, n = (hexL c).length := ⟨_, rfl⟩
  have hsz : (strOfNums ((hexL c).map upI)).size = n := by rw [size_str, List.length_map, hn]
  have HE := Aside0.mk hE
  have HC := Aside0.mk hc
  have HL := Aside0.mk (And.intro h1 (And.intro h2 h3))
  have HN := Aside0.mk hn
  have m1 : IntKind.i64.wrap (4 - (n : Int)) = 4 - (n : Int) := Go.IntWalk.i64_in _ (by omega)
  have m2 : wrap64 (4 - (n : Int)) = 4 - (n : Int) := w64 (by omega) (by omega)
  have m3 : max 0 (4 - (n : Int)) = ((4 - n : Nat) : Int) := by omega
  have m4 : (strOfNums (List.replicate (4 - n) 48)).size = 4 - n := by rw [size_str, List.length_replicate]
  have m5 : (9223372036854775807 < 4 - n + n) = False := eq_false (by omega)
  clear hE hc h1 h2 h3 hn
  go_enter Tryd.func64, Tryd.ntmps64
  go_wp2_with (first
    | (go_at_call 87; refine (fmt16.calls c (by have := HC.out; omega) _ HE.out.2).mono ?_; rintro e w1 ⟨rfl, hb⟩; have HB := Aside0.mk hb; clear hb)
    | (go_at_call 86; refine (Any.strings_ToUpper_ascii Tryd.lays158 Tryd.bldX158 (strOfNums (hexL c)) _ (by rw [size_str]; have := HL.out; omega) (fun j b hj => by rw [str_data] at hj; obtain ⟨x, hx, rfl⟩ := List.mem_map.1 (List.mem_of_getElem? hj); have := HL.out.2.2 x hx; rw [u8_lt (by omega)]; omega)).mono ?_; rintro e w2 ⟨rfl, hb⟩; rw [upper_lib HL.out.2.2]; have HB2 := Aside0.mk hb; clear hb)
    | (go_at_call 88; refine (Any.strings_Repeat Tryd.lays105 Tryd.bldX105 ⟨#[48]⟩ (4 - n) _ (by omega) (by show 1 * (4 - n) ≤ _; omega)).mono ?_; rintro e w3 ⟨rfl, hb⟩; rw [repeat_lib]; have HB3 := Aside0.mk hb; clear hb))
  go_ret
  refine ⟨?_, HB.out.trans ((HB2.out.mono HB.out.size).trans (HB3.out.mono (Nat.le_trans HB.out.size HB2.out.size)))⟩
  rw [str_append, HN.out]
  rfl
end Go.Proofs.YtdnfmilnkoocdaaDoor.Q

-- from Henv
/- What a row gives of the world: the program's variables (the shape: bytealg.MaxLen holds some int; the laid table of math/bits). -/
namespace Go.Proofs.YtdnfmilnkoocdaaDoor.Q
open Go.RowKit
set_option linter.unusedVariables false

theorem mapM_at2 {α β : Type} {f : α → Option β} : ∀ {l : List α} {ys : List β}, l.mapM f = some ys → ∀ (i : Nat) (a : α), l[i]? = some a → ∃ y, f a = some y ∧ ys[i]? = some y
  | [], ys, h, i, a, ha => by simp at ha
  | x :: l, ys, h, i, a, ha => by
    simp only [List.mapM_cons, Option.bind_eq_bind, Option.bind_eq_some_iff, Option.pure_def, Option.some.injEq] at h
    obtain ⟨y, hy, zs, hz, rfl⟩ := h
    cases i with
    | zero => simp only [List.getElem?_cons_zero, Option.some.injEq] at ha; subst ha; exact ⟨y, hy, rfl⟩
    | succ i => simp only [List.getElem?_cons_succ] at ha ⊢; exact mapM_at2 hz i a ha
/-- An entry of an array of integers that reads as known data. -/
theorem array_int_at {H : Type} {enc : TypeId × Value → H} {P : Program} {w : World} {base : Nat} {sp : Nat → Bool} {held : Bool} {fuel : Nat} {t e : TypeId} {n : Nat} {k : IntKind} {cs : List Value} {ds : List (DataW H)} {p : List MemPlace}
    (ht : P.underlying t = some (.array n e)) (he : P.underlying e = some (.int k)) (hc : P.cellsOf e = 1) (hd : DataW.trod enc P w base sp held fuel t cs = some (.agg ds, p)) (i : Nat) (m : Int) (hi : i < n) (hm : ds[i]? = some (.lit (.int k m))) : cs[i]? = some (.int k m) := by
  cases fuel with
  | zero => simp [DataW.trod] at hd
  | succ fuel =>
    simp only [DataW.trod, ht, hc] at hd
    split at hd
    · rw [Option.map_eq_some_iff] at hd
      obtain ⟨xs, hx, hxe⟩ := hd
      simp only [Prod.mk.injEq, DataW.agg.injEq] at hxe
      obtain ⟨rfl, rfl⟩ := hxe
      obtain ⟨y, hy, hyi⟩ := mapM_at2 hx i i (by simp [hi])
      rw [List.getElem?_map, hyi] at hm
      simp only [Option.map_some, Option.some.injEq] at hm
      rw [Nat.mul_one] at hy
      cases hcs : cs[i]? with
      | none =>
        rw [List.getElem?_eq_none_iff] at hcs
        rw [List.drop_eq_nil_of_le hcs] at hy
        cases fuel <;> simp [DataW.trod, he] at hy
      | some c =>
        have hlt := (List.getElem?_eq_some_iff.1 hcs).1
        have hdr : (cs.drop i).take 1 = [c] := by
          rw [List.drop_eq_getElem_cons hlt, List.take_succ_cons, List.take_zero, (List.getElem?_eq_some_iff.1 hcs).2]
        rw [hdr] at hy
        cases fuel with
        | zero => simp [DataW.trod] at hy
        | succ fuel =>
          cases c <;> simp [DataW.trod, he] at hy
          obtain ⟨⟨rfl, _⟩, rfl⟩ := hy
          simp only [DataW.lit.injEq, Lit.int.injEq] at hm
          rw [hm.2]
    · cases hd
theorem laidVars_mem {P : Program} {w : World} {n : String} {d : DataW Unit} : ∀ {l : List (String × DataW Unit)} {ps : List MemPlace}, DataW.LaidVars P w l ps → (n, d) ∈ l →
    ∃ g t cs fuel p, P.globalNamed n = some g ∧ (P.globals[g]?).map (·.type) = some t ∧ w.var? P n = some cs ∧ DataW.trod (fun _ => ()) P w 0 (fun _ => true) false fuel t cs.toList = some (d, p)
  | [], ps, h, hm => by cases hm
  | (n', d') :: l, ps, h, hm => by
    obtain ⟨g, t, cs, fuel, p, q, h1, h2, h3, h4, h5, h6⟩ := h
    rcases List.mem_cons.1 hm with e | hm
    · simp only [Prod.mk.injEq] at e
      obtain ⟨rfl, rfl⟩ := e
      exact ⟨g, t, cs, fuel, p, h1, h2, h3, h4⟩
    · exact laidVars_mem h5 hm
theorem env_of_row {W : World} (hsh : W.ShapedOpen Tryd.prog) (hL : laidMetH Tryd.prog Rows.fieldLinesRow.laid W) : EnvF W := by
  refine ⟨?_, ?_⟩
  · exact cell_of_shapedOpen_int (t := 3) (zero := #[.int .i64 0]) hsh (of_decide_eq_true (by kernel_rfl)) (by kernel_rfl) (by kernel_rfl) (by kernel_rfl) (by kernel_rfl) Tryd.underlying3
  · have hL' := (laidMetH_iff.1 hL).1
    obtain ⟨ps, hv, -, -⟩ := hL'
    have hm : ("math/bits.deBruijn64tab", Rows.laid_math_bits_deBruijn64tab) ∈ Rows.fieldLinesRow.laid.filter (fun x => x.2.handleName?.isNone) := List.mem_filter.2 ⟨List.mem_cons_of_mem _ (List.mem_cons_self ..), by kernel_rfl⟩
    obtain ⟨g, t, cs, fuel, p, h1, h2, h3, h4⟩ := laidVars_mem hv hm
    obtain rfl : 6 = g := Option.some.inj ((show Tryd.prog.globalNamed "math/bits.deBruijn64tab" = some 6 by kernel_rfl).symm.trans h1)
    obtain rfl : 193 = t := Option.some.inj ((show (Tryd.prog.globals[6]?).map (·.type) = some 193 by kernel_rfl).symm.trans h2)
    have hd15 : ∀ ds : List (DataW Unit), Rows.laid_math_bits_deBruijn64tab = .agg ds → ds[15]? = some (.lit (.int .u8 4)) := fun ds h => by
      unfold Rows.laid_math_bits_deBruijn64tab at h
      injection h with h
      subst h
      rfl
    obtain ⟨ds, hds⟩ : ∃ ds : List (DataW Unit), Rows.laid_math_bits_deBruijn64tab = .agg ds := ⟨_, rfl⟩
    rw [hds] at h4
    have h5 := array_int_at (n := 64) (e := 5) (k := .u8) Tryd.underlying193 Tryd.underlying5 (by kernel_rfl) h4 15 4 (by omega) (hd15 ds hds)
    unfold World.var? at h3
    rw [h1] at h3
    simp only [Option.bind_some] at h3
    unfold World.cell?
    split at h3
    · rename_i cs' ty fr hh
      obtain rfl := Option.some.inj h3
      simp only [hh]
      rw [Array.getElem?_toList] at h5
      exact h5
    · cases h3
/-- The row's wrap with the world's shape and one more condition of the world handed on. -/
theorem returns_shaped_and {H : Type} {enc : TypeId × Value → H} {C : Checked} {os : Os} {f : FuncId} {fn : Func} {s : ChangeSpec} {conds : List PathCond} {apart fresh handsOn again : Bool} {X : World → Prop}
    (hX : ∀ w w' : World, w.heap = w'.heap → X w → X w') (own : ownKnob C.prog.godebug = none) (started : os.Started) (noInit : C.prog.inits.idxOf? f = none) (hfn : C.prog.funcs[f]? = some fn)
    (witness : ∃ (w : World) (tape : Tape) (i : Input), w.os = os ∧ (w.forCall tape i).Shaped C.prog ∧ i.vars = [] ∧ Input.okWide C.prog (w.forCall tape i) .any w.heap.size f i ∧
      ((s.pre enc C.prog fn conds apart (w.forCall tape i).memory i.args ∧ X (w.forCall tape i).memory) ∧ sizedMet enc C.prog fn (OpenSpec.ofChange s) apart (w.forCall tape i).memory i.args) ∧ ({} : Assume).holds C.prog (lone (Frame.enter C.prog f i.args .normal) [] (w.forCall tape i)))
    (walk : ∀ (W : World) (base : Nat) (args : Array Value) (ds gs : List (DataW H)) (before : List MemPlace), W.ShapedOpen C.prog → X W →
      (∀ (j : Nat) t v, fn.params[j]? = some t → args[j]? = some v → Value.okWide C.prog W .any base t v) → DataW.Whole enc C.prog fn.params.toList s.vars apart W args.toList ds gs before →
      (DataW.weightsEach C.prog (fn.params.toList ++ s.plain.varTypes C.prog) (ds ++ gs)).all (· ≤ reachBytes) = true →
      Calls C.prog f args W fun e W' => ∃ v, e = .returned v ∧ s.post enc C.prog fn apart fresh handsOn again W args v W') :
    ReturnsInHanded {} C os f .any (fun w args => (s.pre enc C.prog fn conds apart w args ∧ X w) ∧ sizedMet enc C.prog fn (OpenSpec.ofChange s) apart w args) (s.post enc C.prog fn apart fresh handsOn again) := by
  refine returnsInHanded_of_calls own started noInit witness fun w tape i _ hs _ hok hp _ => ?_
  have hf := hok.2.2.2
  obtain ⟨fn', e1, hrest⟩ := hf
  have e2 : fn' = fn := Option.some.inj (e1.symm.trans hfn)
  subst e2
  have hv := hrest.2.2.2.2
  obtain ⟨⟨⟨ds, gs, bf, hw, -⟩, hx⟩, hz⟩ := hp
  have h := walk (w.forCall tape i) w.heap.size i.args ds gs bf hs (hX _ _ (by rfl) hx) hv (DataW.Whole.of_heap (w' := w.forCall tape i) (by rfl) hw) (hz.weights hw)
  exact h.mono fun e W' hq => by
    obtain ⟨v, rfl, hpost⟩ := hq
    exact ChangeSpec.post_blind hpost
section
open Go.ChangeShapes Go.WideShapes Go.Proofs.YtdnfmilnkoocdaaDoorW.PrintWords Go.Proofs.YtdnfmilnkoocdaaDoorW.PrintLast Go.Proofs.YtdnfmilnkoocdaaDoorW.PrintMore
/-- A row of integers, as the call reads it. -/
theorem ints_of_trod1 {H : Type} {enc : TypeId × Value → H} {P : Program} {w : World} {sp : Nat → Bool} {held : Bool} {t e : TypeId} {k : IntKind} {fuel : Nat} {cs : List Value} {x : DataW H × List MemPlace} (ht : P.underlying t = some (.slice e)) (he : P.underlying e = some (.int k)) (hc : P.cellsOf e = 1)
    (h : DataW.trod enc P w 0 sp held fuel t cs = some x) : ∃ (A : Option Addr) (c : Nat) (l : List Int), cs = [.slice A l.length c] ∧ l.length ≤ c ∧ Kd.C (Kd.int k) w A l.length l ∧ ∀ n ∈ l, (Lit.int k n).wf = true := by
  rcases open_ints ht he hc h with ⟨rfl, _⟩ | ⟨a, len, cap, zs, rfl, _, hl, hm, hz, _, hcell, hwf⟩
  · exact ⟨none, 0, [], rfl, Nat.le_refl _, ⟨rfl, by simp, fun h => by simp at h⟩, fun n hn => by cases hn⟩
  · have hlen : (zs.take len).length = len := by
      rw [List.length_take]
      split at hz <;> omega
    refine ⟨some a, cap, zs.take len, by rw [hlen], by rw [hlen]; exact hl, ?_, fun n hn => hwf n (List.mem_of_mem_take hn)⟩
    rw [hlen]
    refine Kd.C_of_reads (d := (0 : Int)) ⟨hlen, by unfold maxLen at hm; omega, fun _ => ⟨a, rfl, fun j hj => ?_⟩⟩
    have hj2 : j < zs.length := by split at hz <;> omega
    rw [hcell j hj2]
    simp [List.getD_eq_getElem?_getD, hj]
end
end Go.Proofs.YtdnfmilnkoocdaaDoor.Q

-- from Hfld
/- field.fields: the walk. -/
namespace Go.Proofs.YtdnfmilnkoocdaaDoor.Q
open Go.RowKit Go.Shelf Go.Proofs.YtdnfmilnkoocdaaDoorW.PrintWords Go.Proofs.YtdnfmilnkoocdaaDoorW.PrintLast Go.Proofs.YtdnfmilnkoocdaaDoorW.PrintMore Go.Proofs.YtdnfmilnkoocdaaDoor.K
set_option linter.unusedVariables false
set_option linter.unusedSimpArgs false

theorem sSplit59.calls (L : List Int) (ho : Oct L) (hl : L.length ≤ 1000000) (w : World) (hE : EnvF w) : Calls Tryd.prog 59 #[.string (strOfNums L), .string ⟨#[59]⟩] w fun e w' => e = .returned (.slice (some ⟨w.heap.size, 0, none⟩) (spl 59 L).length (spl 59 L).length) ∧ w' = w.alloc (.cells ((spl 59 L).map (fun p => .string (strOfNums p))).toArray 9) := sSplit.calls 59 (by omega) L ho hl w hE
theorem sSplit10.calls (L : List Int) (ho : Oct L) (hl : L.length ≤ 1000000) (w : World) (hE : EnvF w) : Calls Tryd.prog 59 #[.string (strOfNums L), .string ⟨#[10]⟩] w fun e w' => e = .returned (.slice (some ⟨w.heap.size, 0, none⟩) (spl 10 L).length (spl 10 L).length) ∧ w' = w.alloc (.cells ((spl 10 L).map (fun p => .string (strOfNums p))).toArray 9) := sSplit.calls 10 (by omega) L ho hl w hE
/-- The pieces, the first of them trimmed. -/
def fldA (Y : List (List Int)) (i : Nat) : List (List Int) := (Y.take i).map trimL ++ Y.drop i
def fldC (Y : List (List Int)) (i : Nat) : Array Value := ((fldA Y i).map (fun p => Value.string (strOfNums p))).toArray
theorem fldA_len (Y : List (List Int)) (i : Nat) : (fldA Y i).length = Y.length := by unfold fldA; simp; omega
theorem fldC_at {Y : List (List Int)} {i : Nat} (h : i < Y.length) : (fldC Y i)[i]? = some (.string (strOfNums Y[i])) := by
  have h1 : (fldA Y i)[i]? = some Y[i] := by
    unfold fldA
    rw [List.getElem?_append_right (by simp; omega)]
    simp [Nat.min_eq_left (Nat.le_of_lt h), h]
  unfold fldC
  simp only [List.getElem?_toArray, List.getElem?_map, h1, Option.map_some]
theorem fldC_set {Y : List (List Int)} {i : Nat} (h : i < Y.length) : (fldC Y i).setIfInBounds i (.string (strOfNums (trimL Y[i]))) = fldC Y (i + 1) := by
  have h1 : (fldA Y i).set i (trimL Y[i]) = fldA Y (i + 1) := by
    unfold fldA
    have hl : ((Y.take i).map trimL).length = i := by simp; omega
    rw [List.set_append_right _ _ (by omega), hl, Nat.sub_self, List.drop_eq_getElem_cons h, List.set_cons_zero, ← List.take_append_getElem h, List.map_append, List.append_assoc]
    rfl
  unfold fldC
  rw [← h1, List.map_set]
  simp
set_option maxHeartbeats 4000000 in
set_option maxRecDepth 100000 in
theorem field_fields.callsS (Y : List (List Int)) (L : List Int) (ho : Oct L) (hl : L.length ≤ 1000000) (hn : trimL (bodyL L) ≠ []) (hY : Y = spl 59 (bodyL L)) (w : World) (hE : EnvF w) :
    Calls Tryd.prog 62 #[.string (strOfNums L)] w fun e w' => ∃ g, e = .returned (.slice (some ⟨g, 0, none⟩) Y.length Y.length) ∧ w.heap.size ≤ g ∧ w'.heap[g]? = some (.cells (fldC Y Y.length) 9 (0, 0)) ∧ Below w.heap.size w w' := by
  have hbm := body_mem L
  have hob : Oct (bodyL L) := oct_spl ho hbm
  have hlb := len_spl hbm
  obtain ⟨B, hB⟩ : ∃ B, B = bodyL L := ⟨_, rfl⟩
  rw [← hB] at hn hY hob hlb
  have HCUT := Aside0.mk (fun w hE => sCut.calls L ho hl w hE)
  rw [← hB] at HCUT
  have HTR := Aside0.mk (fun w => sTrim.calls B hob (by omega) w)
  have HSP := Aside0.mk (fun w hE => sSplit59.calls B hob (by omega) w hE)
  have hyo : ∀ p ∈ Y, Oct p := fun p hp => by rw [hY] at hp; exact oct_spl hob hp
  have hyl : ∀ p ∈ Y, p.length ≤ 1000000 := fun p hp => by rw [hY] at hp; have := len_spl hp; omega
  have hyn : Y.length ≤ 1000001 := by rw [hY]; have := splP_count (fun x => decide (x = (59 : Int))) B; unfold spl; omega
  have HYO := Aside0.mk hyo
  have HYL := Aside0.mk hyl
  have HYN := Aside0.mk hyn
  have HE := Aside0.mk hE
  have HYE := Aside0.mk hY
  obtain ⟨sl, hsl⟩ : ∃ s, s = strOfNums L := ⟨_, rfl⟩
  obtain ⟨sb, hsb⟩ : ∃ s, s = strOfNums B := ⟨_, rfl⟩
  obtain ⟨st, hst⟩ : ∃ s, s = strOfNums (trimL B) := ⟨_, rfl⟩
  rw [← hsl] at HCUT ⊢
  rw [← hsb] at HCUT HTR HSP
  rw [← hst] at HTR
  have hne : st.toList ≠ [] := fun e => hn (str_nilU.1 (by rw [← hst]; exact e))
  have f2 : decide (st = (⟨#[]⟩ : ByteArray)) = false := decide_eq_false (fun e => hne (by rw [e]; exact str_nilU.2 rfl))
  have f3 : (st.toList == ([] : List UInt8)) = false := beq_eq_false_iff_ne.mpr hne
  clear hbm hob hlb hB hyo hyl hyn hE hY ho hl hn hsl hsb hst hne
  go_enter Tryd.func62, Tryd.ntmps62
  go_wp2_with (first
    | (go_at_call 66; (with_reducible refine (HCUT.out _ HE.out).mono ?_); rintro e w1 ⟨s2, b2, rfl, hb⟩; have HB := Aside0.mk hb; clear hb)
    | (go_at_call 84; (with_reducible refine (HTR.out _).mono ?_); rintro e w2 ⟨rfl, hb⟩; have HB2 := Aside0.mk hb; clear hb)
    | (go_at_call 59; (with_reducible refine (HSP.out _ ((HE.out.below HB.out).below HB2.out)).mono ?_); rintro e w3 ⟨rfl, rfl⟩; rw [← HYE.out]))
  have hg0 := heap_alloc_new w2 (.cells (Y.map (fun p => .string (strOfNums p))).toArray 9)
  have hbb : Below w.heap.size w (w2.alloc (.cells (Y.map (fun p => .string (strOfNums p))).toArray 9)) := (HB.out.trans (HB2.out.mono HB.out.size)).alloc (Nat.le_trans HB.out.size HB2.out.size) _
  obtain ⟨g, hg⟩ : ∃ g, g = w2.heap.size := ⟨_, rfl⟩
  have HG : Aside0 (w.heap.size ≤ g) := ⟨by rw [hg]; exact Nat.le_trans HB.out.size HB2.out.size⟩
  rw [← hg] at hg0 ⊢
  have hg1 : (w2.alloc (.cells (Y.map (fun p => .string (strOfNums p))).toArray 9)).heap[g]? = some (.cells (fldC Y 0) 9 (0, 0)) := hg0
  generalize hw3 : w2.alloc (.cells (Y.map (fun p => .string (strOfNums p))).toArray 9) = w3 at *
  have H3 := Aside0.mk hg1
  have HB3 := Aside0.mk hbb
  clear hw3 hg0 hg1 hbb hg
  go_loopg [21] (Y.length + 1) (fun kq s21 wr => ∃ i : Nat, s21 = .int .i64 (i : Int) ∧ Aside0 (i + kq = Y.length + 1 ∧ i ≤ Y.length) ∧ Aside0 (wr.heap[g]? = some (.cells (fldC Y i) 9 (0, 0))) ∧ Aside0 (Below w.heap.size w wr))
  case atStart => exact ⟨0, rfl, ⟨by omega, by omega⟩, H3, HB3⟩
  case round =>
    clear H3 HB3
    obtain ⟨i, rfl, HI, HH, HBR⟩ := hrel
    cases gk with
    | zero => exact absurd HI.out (by omega)
    | succ kq =>
    by_cases c1 : (i : Int) < (Y.length : Int)
    · have hi : i < Y.length := by omega
      have HII := Aside0.mk hi
      have e0 := eq_true c1
      have e1 : decide ((i : Int) < (Y.length : Int)) = true := decide_eq_true c1
      have e2 : (i < Y.length) = True := eq_true hi
      have hsz : (fldC Y i).size = Y.length := by unfold fldC; simp [fldA_len]
      have hlt : i < (fldC Y i).size := by omega
      have hcl : wr.cell? ⟨g, i, none⟩ = some (.string (strOfNums Y[i])) := by
        unfold World.cell?
        rw [HH.out]
        exact fldC_at hi
      obtain ⟨p, hp⟩ : ∃ p, p = Y[i] := ⟨_, rfl⟩
      rw [← hp] at hcl
      have hpm : p ∈ Y := hp ▸ List.getElem_mem hi
      have HT := Aside0.mk (fun w => sTrim.calls p (HYO.out p hpm) (HYL.out p hpm) w)
      have HSET : Aside0 ((fldC Y i).setIfInBounds i (.string (strOfNums (trimL p))) = fldC Y (i + 1)) := ⟨by rw [hp]; exact fldC_set hi⟩
      have m1 : IntKind.i64.wrap ((i : Int) + 1) = (i : Int) + 1 := Go.IntWalk.i64_in _ (by have := HYN.out; omega)
      have m2 : wrap64 ((i : Int) + 1) = (i : Int) + 1 := w64 (by omega) (by have := HYN.out; omega)
      clear c1 hi hp hpm hsz hlt
      obtain ⟨sp, hsp⟩ : ∃ s, s = strOfNums p := ⟨_, rfl⟩
      rw [← hsp] at hcl HT
      clear hsp HTR HCUT HSP
      go_wp2_with (go_at_call 84; (with_reducible refine (HT.out _).mono ?_); rintro e w4 ⟨rfl, hb⟩; have HB4 := Aside0.mk hb; have hgl := (Array.getElem?_eq_some_iff.1 HH.out).1; have hh4 : w4.heap[g]? = some (.cells (fldC Y i) 9 (0, 0)) := (hb.block g hgl).trans HH.out; have HH4 := Aside0.mk hh4; have hc4 : ∃ x, w4.cell? ⟨g, i, none⟩ = some x := ⟨_, (hb.cell (World.block_lt_of_cell? wr _ hcl)).trans hcl⟩; obtain ⟨x4, hc4⟩ := hc4; have hf4 : w4.frozen? ⟨g, i, none⟩ = false := (by unfold World.frozen?; rw [hh4]; rfl); clear hb hgl hh4)
      go_roundg kq
      case measure => omega
      case rel =>
        refine ⟨i + 1, by first | rfl | (rw [m2]; rfl), ⟨by have := HI.out; omega, by have := HII.out; omega⟩, ⟨?_⟩, ⟨(HBR.out.trans (HB4.out.mono HBR.out.size)).setCell HG.out _⟩⟩
        have := heap_setCell_same w4 g i (fldC Y i) 9 (.string (strOfNums (trimL p))) HH4.out
        rw [HSET.out] at this
        exact this
    · have hin : i = Y.length := by have := HI.out; omega
      subst hin
      have e0 := eq_false c1
      have e1 : decide ((Y.length : Int) < (Y.length : Int)) = false := decide_eq_false c1
      clear c1
      go_wp2
      go_ret
      exact ⟨g, rfl, HG.out, HH.out, HBR.out⟩
set_option maxHeartbeats 2000000 in
set_option maxRecDepth 100000 in
theorem field_fields.callsN (L : List Int) (ho : Oct L) (hl : L.length ≤ 1000000) (hn : trimL (bodyL L) = []) (w : World) (hE : EnvF w) :
    Calls Tryd.prog 62 #[.string (strOfNums L)] w fun e w' => e = .returned (.slice none 0 0) ∧ Below w.heap.size w w' := by
  have hbm := body_mem L
  have hob : Oct (bodyL L) := oct_spl ho hbm
  have hlb := len_spl hbm
  obtain ⟨B, hB⟩ : ∃ B, B = bodyL L := ⟨_, rfl⟩
  rw [← hB] at hn hob hlb
  have HCUT := Aside0.mk (fun w hE => sCut.calls L ho hl w hE)
  rw [← hB] at HCUT
  have htr := fun w => sTrim.calls B hob (by omega) w
  rw [hn] at htr
  have HTR := Aside0.mk htr
  have HE := Aside0.mk hE
  obtain ⟨sl, hsl⟩ : ∃ s, s = strOfNums L := ⟨_, rfl⟩
  obtain ⟨sb, hsb⟩ : ∃ s, s = strOfNums B := ⟨_, rfl⟩
  obtain ⟨st, hst⟩ : ∃ s, s = strOfNums [] := ⟨_, rfl⟩
  rw [← hsl] at HCUT ⊢
  rw [← hsb] at HCUT HTR
  rw [← hst] at HTR
  have f2 : decide (st = (⟨#[]⟩ : ByteArray)) = true := decide_eq_true (by rw [hst]; rfl)
  have f3 : (st.toList == ([] : List UInt8)) = true := beq_iff_eq.mpr (by rw [hst]; exact str_nilU.2 rfl)
  clear hbm hob hlb hB hE ho hl hn hsl hsb hst htr
  go_enter Tryd.func62, Tryd.ntmps62
  go_wp2_with (first
    | (go_at_call 66; (with_reducible refine (HCUT.out _ HE.out).mono ?_); rintro e w1 ⟨s2, b2, rfl, hb⟩; have HB := Aside0.mk hb; clear hb)
    | (go_at_call 84; (with_reducible refine (HTR.out _).mono ?_); rintro e w2 ⟨rfl, hb⟩; have HB2 := Aside0.mk hb; clear hb))
  go_ret
  exact ⟨rfl, HB.out.trans (HB2.out.mono HB.out.size)⟩
end Go.Proofs.YtdnfmilnkoocdaaDoor.Q

-- from Hzlay
/- bytes.Clone, bytes.Split, bytes.TrimSuffix: the walks are the shelf's, laid for this program. -/
namespace Go.Proofs
open Go.Shelf
def Tryd.laysb140_ren : Go.Shelf.Ren := ⟨fun | 140 => 99 | 117 => 122 | 115 => 147 | n => n, fun | 37 => 22 | 4 => 4 | 3 => 3 | 9 => 9 | 5 => 5 | n => n, fun | n => n⟩
theorem Tryd.laysb140 : Go.Proofs.Lays.nb140 Tryd.prog Tryd.laysb140_ren := {
  mixed := by kernel_rfl
  f115 := Tryd.func147.trans (congrArg some (by kernel_rfl))
  f117 := Tryd.func122.trans (congrArg some (by kernel_rfl))
  f140 := Tryd.func99.trans (congrArg some (by kernel_rfl))
  t3 := Tryd.underlying3
  a3 := Tryd.isAgg3
  z3 := Tryd.sizeOf3
  v3 := Tryd.zeroValue3
  t4 := Tryd.underlying4
  a4 := Tryd.isAgg4
  z4 := Tryd.sizeOf4
  v4 := Tryd.zeroValue4
  t9 := Tryd.underlying9
  a9 := Tryd.isAgg9
  z9 := Tryd.sizeOf9
  v9 := Tryd.zeroValue9
  t37 := Tryd.underlying22
  a37 := Tryd.isAgg22
  z37 := Tryd.sizeOf22
  v37 := Tryd.zeroValue22
  t5 := Tryd.underlying5
  a5 := Tryd.isAgg5
  z5 := Tryd.sizeOf5
  v5 := Tryd.zeroValue5 }
def Tryd.laysk4_ren : Go.Shelf.Ren := ⟨fun | 4 => 60 | n => n, fun | 22 => 22 | 4 => 4 | 5 => 5 | n => n, fun | n => n⟩
theorem Tryd.laysk4 : Go.Proofs.SlLaysK.n4 Tryd.prog Tryd.laysk4_ren := {
  mixed := by kernel_rfl
  f4 := Tryd.func60.trans (congrArg some (by kernel_rfl))
  t4 := Tryd.underlying4
  a4 := Tryd.isAgg4
  z4 := Tryd.sizeOf4
  v4 := Tryd.zeroValue4
  t22 := Tryd.underlying22
  a22 := Tryd.isAgg22
  z22 := Tryd.sizeOf22
  v22 := Tryd.zeroValue22
  t5 := Tryd.underlying5
  i5 := by kernel_rfl }
def Tryd.laysp7_ren : Go.Shelf.Ren := ⟨fun | 7 => 80 | 11 => 98 | 14 => 119 | 15 => 120 | 16 => 121 | 17 => 143 | 19 => 144 | 20 => 145 | 21 => 146 | 22 => 147 | 23 => 148 | 24 => 139 | 25 => 149 | 26 => 159 | 29 => 125 | 30 => 160 | 31 => 161 | n => n, fun | 22 => 22 | 23 => 36 | 3 => 3 | 4 => 4 | 0 => 0 | 34 => 133 | 21 => 21 | 5 => 5 | 45 => 103 | 9 => 9 | 58 => 161 | 38 => 160 | 28 => 166 | 62 => 169 | 61 => 168 | n => n, fun | 2 => 0 | 3 => 1 | 4 => 2 | n => n⟩
theorem Tryd.laysp7 : Go.Proofs.SlLaysP.n7 Tryd.prog Tryd.laysp7_ren := {
  mixed := by kernel_rfl
  f7 := Tryd.func80.trans (congrArg some (by kernel_rfl))
  f11 := Tryd.func98.trans (congrArg some (by kernel_rfl))
  f15 := Tryd.func120.trans (congrArg some (by kernel_rfl))
  f16 := Tryd.func121.trans (congrArg some (by kernel_rfl))
  f20 := Tryd.func145.trans (congrArg some (by kernel_rfl))
  f21 := Tryd.func146.trans (congrArg some (by kernel_rfl))
  f22 := Tryd.func147.trans (congrArg some (by kernel_rfl))
  f23 := Tryd.func148.trans (congrArg some (by kernel_rfl))
  f24 := Tryd.func139.trans (congrArg some (by kernel_rfl))
  f25 := Tryd.func149.trans (congrArg some (by kernel_rfl))
  f30 := Tryd.func160.trans (congrArg some (by kernel_rfl))
  f31 := Tryd.func161.trans (congrArg some (by kernel_rfl))
  t0 := Tryd.underlying0
  a0 := Tryd.isAgg0
  z0 := Tryd.sizeOf0
  v0 := Tryd.zeroValue0
  t3 := Tryd.underlying3
  a3 := Tryd.isAgg3
  z3 := Tryd.sizeOf3
  v3 := Tryd.zeroValue3
  t4 := Tryd.underlying4
  a4 := Tryd.isAgg4
  z4 := Tryd.sizeOf4
  v4 := Tryd.zeroValue4
  t5 := Tryd.underlying5
  a5 := Tryd.isAgg5
  z5 := Tryd.sizeOf5
  v5 := Tryd.zeroValue5
  t9 := Tryd.underlying9
  a9 := Tryd.isAgg9
  z9 := Tryd.sizeOf9
  v9 := Tryd.zeroValue9
  t22 := Tryd.underlying22
  a22 := Tryd.isAgg22
  z22 := Tryd.sizeOf22
  v22 := Tryd.zeroValue22
  t23 := Tryd.underlying36
  a23 := Tryd.isAgg36
  z23 := Tryd.sizeOf36
  v23 := Tryd.zeroValue36
  t38 := Tryd.underlying160
  a38 := Tryd.isAgg160
  z38 := Tryd.sizeOf160
  v38 := Tryd.zeroValue160
  t45 := Tryd.underlying103
  a45 := Tryd.isAgg103
  z45 := Tryd.sizeOf103
  v45 := Tryd.zeroValue103
  t58 := Tryd.underlying161
  a58 := Tryd.isAgg161
  z58 := Tryd.sizeOf161
  v58 := Tryd.zeroValue161
  g2 := by kernel_rfl
  i22 := by kernel_rfl }
end Go.Proofs

-- from Hit
namespace Go.Proofs.YtdnfmilnkoocdaaDoor.Q
open Go.RowKit Go.Shelf Go.Proofs.YtdnfmilnkoocdaaDoorW.PrintWords Go.Proofs.YtdnfmilnkoocdaaDoorW.PrintLast Go.Proofs.YtdnfmilnkoocdaaDoorW.PrintMore
set_option linter.unusedVariables false
set_option linter.unusedSimpArgs false

/-- The blocks of S stay as they are. -/
def KeepS (S : Nat → Prop) (A B : World) : Prop := ∀ k, S k → B.heap[k]? = A.heap[k]?
theorem KeepS.refl (S : Nat → Prop) (A : World) : KeepS S A A := fun _ _ => rfl
theorem KeepS.trans {S : Nat → Prop} {A B C : World} (h : KeepS S A B) (k : KeepS S B C) : KeepS S A C := fun j hj => (k j hj).trans (h j hj)
theorem KeepS.grown {S : Nat → Prop} {A B : World} {row : Option Nat} (hg : A.grownBy B row) (hS : ∀ k, S k → k < A.heap.size) (hne : ∀ k, S k → some k ≠ row) : KeepS S A B := fun k hk => hg.block k (hS k hk) (hne k hk)
theorem KeepS.below {S : Nat → Prop} {A B : World} {n : Nat} (hb : Below n A B) (hS : ∀ k, S k → k < n) : KeepS S A B := fun k hk => hb.block k (hS k hk)
theorem keepS_lt {S : Nat → Prop} {A B : World} (h : KeepS S A B) (hS : ∀ k, S k → k < A.heap.size) : ∀ k, S k → k < B.heap.size := fun k hk => by
  have := h k hk
  rw [Array.getElem?_eq_getElem (hS k hk)] at this
  exact (Array.getElem?_eq_some_iff.1 this).1
theorem keepS_b {S : Nat → Prop} {w : World} (hS : ∀ k, S k → k < w.heap.size) : ∀ (W : World) (l : Nat) (o o' : Obj), w.heap.size ≤ l → W.heap[l]? = some o → o.isCells = false → o.isWalk = false → KeepS S W (W.putObj l o') :=
  fun W l o o' hl ho _ _ => by
    intro k hk
    have hkl : k < l := Nat.lt_of_lt_of_le (hS k hk) hl
    have hlt : l < W.heap.size := (Array.getElem?_eq_some_iff.1 ho).1
    exact (grownBy_putObj' W l o').block k (Nat.lt_trans hkl hlt) (fun e => by cases e; exact Nat.lt_irrefl _ hkl)
theorem grownBy_none_of_below {w w1 : World} (h : Below w.heap.size w w1) : w.grownBy w1 none := grown_of_below h none

end Go.Proofs.YtdnfmilnkoocdaaDoor.Q

-- from Hrfp
/- Range over a function whose items are slices: what is told of an item in the world in which it is handed over (Pr) comes with it. The proof follows the library's law wpIn_rangeFunc_ownG (RangeFuncWrites), of which this is the wider form; nothing but Pr is new. -/
namespace Go.Proofs.YtdnfmilnkoocdaaDoor.Q
open Go.RowKit Go.Shelf Go.Proofs.YtdnfmilnkoocdaaDoorW.PrintWords Go.Proofs.YtdnfmilnkoocdaaDoorW.PrintLast Go.Proofs.YtdnfmilnkoocdaaDoorW.PrintMore
set_option linter.unusedVariables false
set_option linter.unusedSimpArgs false

/-- The iterator's contract: an item x is handed over in worlds in which Pr x holds. -/
def SeqPr {α : Type} (F : Fence) (n : Nat) (P : Program) (g : Nat) (lb : Array Value) (encs : α → Array Value) (Kp : World → World → Prop) (Pr : α → World → Prop) (S Sp : List α → Prop) (w : World) : Prop :=
  ∀ (l : Nat) (J Jx : List α → World → Prop) (W : World), Below w.heap.size w W → AbidesFrom W.heap.size J → AbidesFrom W.heap.size Jx →
    (∀ pre x W1, J pre W1 → Pr x W1 → Sp (pre ++ [x]) → YieldAt F (n - 1) P l (encs x) W1 fun e W' =>
      (e = .returned (.bool true) ∧ J (pre ++ [x]) W' ∧ Kp W1 W') ∨ (e = .returned (.bool false) ∧ Jx (pre ++ [x]) W')) →
    J [] W →
    CallsIn F n P g (#[.func (.yield l) #[] #[]] ++ lb) W fun e W' => (∃ v, e = .returned v) ∧ ((∃ xs, S xs ∧ J xs W') ∨ (∃ pre, Sp pre ∧ Jx pre W'))

section
variable {F : Fence} {n : Nat} {P : Program}
theorem wpIn_range_pr {α : Type} {g : Operand} {ps : Array Tmp} {assign body : Code} {Q : Exit → Act → World → Prop} {a : Act} {w : World}
    (hro : F.round = none) (h1 : 1 ≤ n) {gf : Nat} {lb : Array Value} (hg : a.eval g = .func (.func gf) #[] lb) (hFg : F.fn gf) (eg : ∀ args w, (callFunc gf args).run P w = .ok (.enter gf args) w)
    {encs : α → Array Value} {Kp : World → World → Prop} {Pr : α → World → Prop} {S Sp : List α → Prop} {w0 : World} (hseq : SeqPr F (n - 1) P gf lb encs Kp Pr S Sp w0)
    (hKt : ∀ {A B C : World}, Kp A B → Kp B C → Kp A C) (hKb : ∀ (W : World) (l : Nat) (o o' : Obj), w.heap.size ≤ l → W.heap[l]? = some o → o.isCells = false → o.isWalk = false → Kp W (W.putObj l o')) (hb0 : Below w0.heap.size w0 w) (hps : ∀ x, (encs x).size = ps.size)
    (hPr : ∀ x, OwnFrom w.heap.size (fun (_ : Unit) W => Pr x W))
    (I : List α → World → Prop) (Ix : Code → List α → World → Prop) (hI : OwnFrom w.heap.size I) (hIx : ∀ c, OwnFrom w.heap.size (Ix c)) (h0 : I [] w) (a₁ : α → Act)
    (hassign : ∀ (l : Nat) (x : α) (W : World) (K : Act → World → Prop), K (a₁ x) W →
      assign.wpIn (F.inRound l) (n - 1 - 1) P (Exit.then K (fun _ _ _ => False)) { tmps := (ps.zip (encs x)).foldl (fun t (p, v) => t.setIfInBounds p v) a.tmps, defers := [] } W)
    (hbody : ∀ (l : Nat) (pre : List α) (x : α) (W : World), I pre W → Pr x W → Sp (pre ++ [x]) → body.wpIn (F.inRound l) (n - 1 - 1) P (ownPostG w.heap.size Kp I Ix (pre ++ [x]) W) (a₁ x) W)
    (hdone : ∀ (D : Nat) (xs : List α) (W : World), w.heap.size ≤ D → S xs → I xs W → W.heap[D]? = some (.deferred (some [])) → Q .normal { a with defers := { target := .collected D, args := #[] } :: a.defers } W)
    (hstop : ∀ (D : Nat) (c : Code) (pre : List α) (W : World), w.heap.size ≤ D → Sp pre → Ix c pre W → W.heap[D]? = some (.deferred (some [])) → c.wpIn F n P Q { a with defers := { target := .collected D, args := #[] } :: a.defers } W) :
    (Code.rangeFunc g ps assign body).wpIn F n P Q a w := by
  refine wpIn_rangeFunc ?_
  intro fn hfn
  rw [hro]
  -- the two blocks that the loop lays: the deferred calls' and its own record
  let L : Nat := w.heap.size + 1
  obtain ⟨rec, hrec⟩ : ∃ rec : LoopState → Option Code → Loop, rec = fun st pe => { state := st, pending := pe, fn, tmps := a.tmps, params := ps, assign, body, defers := w.heap.size } := ⟨_, rfl⟩
  obtain ⟨W1, hW1⟩ : ∃ W1, (w.alloc (.deferred (some []))).alloc (.loop (rec .ready none)) = W1 := ⟨_, rfl⟩
  have hL1 : W1.heap[L]? = some (.loop (rec .ready none)) := by
    have := World.alloc_heap_new (w.alloc (.deferred (some []))) (.loop (rec .ready none))
    rw [World.size_alloc] at this
    rw [← hW1]; exact this
  have hD1 : W1.heap[w.heap.size]? = some (.deferred (some [])) := by
    rw [← hW1]; exact (Below.heap_alloc _ _ _ (by simp)).trans (World.alloc_heap_new w _)
  have hb1 : Below w0.heap.size w0 W1 := by
    rw [← hW1]; exact hb0.trans ((((Below.refl _ w).alloc (Nat.le_refl _) _).alloc (by simp) _).mono hb0.size)
  have hsz1 : W1.heap.size = w.heap.size + 2 := by rw [← hW1]; simp
  have walk_row : ∀ {A : World} {row : Option Nat}, (∀ r, row = some r → W1.heap.size ≤ r ∧ ∃ o : Obj, A.heap[r]? = some o ∧ o.isWalk = true) → (∀ r, row = some r → w.heap.size ≤ r ∧ ∃ o : Obj, A.heap[r]? = some o ∧ o.isCells = false) :=
    fun hr r e => by obtain ⟨hB, o, ho, hw⟩ := hr r e; exact ⟨by omega, o, ho, Obj.not_cells_of_walk hw⟩
  have stay : ∀ {A B : World} {row : Option Nat} {k : Nat} {o : Obj}, A.grownBy B row → (∀ r, row = some r → W1.heap.size ≤ r ∧ ∃ o : Obj, A.heap[r]? = some o ∧ o.isWalk = true) → A.heap[k]? = some o → o.isWalk = false → B.heap[k]? = some o :=
    fun hg' hr hk hw => (grownBy_keeps hg' (fun r e => (hr r e).2) hk hw).trans hk
  refine ⟨L, [{ target := .collected w.heap.size, args := #[] }], W1, { target := .fn (.func gf) lb, args := #[.func (.yield L) #[] #[]] }, W1, gf, #[.func (.yield L) #[] #[]] ++ lb, W1, ?_, ?_, ?_, ?_, fun _ => h1, ?_⟩
  · rw [← hW1, hrec]; exact run_enterLoop_outer _ _ _ _ _
  · simp only [resolve, hg]
    simp [go_sem]
  · intro f' hf'; simp [Target.leads] at hf'; subst hf'; exact hFg
  · simp [invoke, go_sem, eg]
  · have call := hseq L (fun pre W => I pre W ∧ W.heap[L]? = some (.loop (rec .ready none)) ∧ W.heap[w.heap.size]? = some (.deferred (some [])))
      (fun pre W => ∃ c, Ix c pre W ∧ W.heap[L]? = some (.loop (rec .done (some c))) ∧ W.heap[w.heap.size]? = some (.deferred (some []))) W1 hb1
      (fun s A B row hs hg' hr => ⟨hI s A B row hs.1 hg' (walk_row hr), stay hg' hr hs.2.1 rfl, stay hg' hr hs.2.2 rfl⟩)
      (fun s A B row ⟨c, hc, hl, hk⟩ hg' hr => ⟨c, hIx c s A B row hc hg' (walk_row hr), stay hg' hr hl rfl, stay hg' hr hk rfl⟩)
      ?round ⟨by rw [← hW1]; exact hI.alloc _ (hI.alloc _ h0), hL1, hD1⟩
    case round =>
      rintro pre x W ⟨hi, hl, hk⟩ hpr hlen
      have hlt : L < W.heap.size := (Array.getElem?_eq_some_iff.1 hl).1
      have hLD : w.heap.size ≠ L := by show w.heap.size ≠ w.heap.size + 1; omega
      have hLw : w.heap.size ≤ L := by show w.heap.size ≤ w.heap.size + 1; omega
      have hy := run_yield (P := P) (args := encs x) hl (by rw [hrec]; exact hps x)
      rw [hrec] at hy
      refine ⟨fn, _, assign, body, hy, roundIn_of_wpIn hfn (hassign _ x W _ ⟨_, run_beginRound hl (by rw [hrec]), ?_⟩)⟩
      obtain ⟨WB, hWB⟩ : ∃ WB, W.putObj L (.loop { rec .ready none with state := .busy }) = WB := ⟨_, rfl⟩
      have hl2 : WB.heap[L]? = some (.loop { rec .ready none with state := .busy }) := by rw [← hWB]; exact World.putObj_heap_same hlt
      have hk2 : WB.heap[w.heap.size]? = some (.deferred (some [])) := by rw [← hWB]; exact (World.putObj_heap_other hLD).trans hk
      have hw2 : Kp W WB := by rw [← hWB]; exact hKb _ _ _ _ hLw hl rfl rfl
      have hi2 : I pre WB := by rw [← hWB]; exact hI.putObj _ hi hLw hl rfl
      have hp2 : Pr x WB := by rw [← hWB]; exact (hPr x).putObj (s := ()) _ hpr hLw hl rfl
      rw [hWB]
      refine wpIn_mono (hbody _ pre x WB hi2 hp2 hlen) ?_
      have fin : ∀ (jump : Option Code) (W3 : World), KeepsFrom w.heap.size WB W3 →
          (Instr.endRound L jump).run P W3 = .ok (.bool jump.isNone) (W3.putObj L (.loop (rec (if jump.isNone then .ready else .done) jump))) ∧
          W3.heap[L]? = some (.loop { rec .ready none with state := .busy }) ∧
          (W3.putObj L (.loop (rec (if jump.isNone then .ready else .done) jump))).heap[L]? = some (.loop (rec (if jump.isNone then .ready else .done) jump)) ∧
          (W3.putObj L (.loop (rec (if jump.isNone then .ready else .done) jump))).heap[w.heap.size]? = some (.deferred (some [])) := fun jump W3 hk3 => by
        have hl3 := hk3.same _ _ hLw hl2 rfl
        have hd3 := hk3.same _ _ (Nat.le_refl _) hk2 rfl
        have hend := run_endRound (P := P) jump hl3
        refine ⟨?_, hl3, World.putObj_heap_same (Array.getElem?_eq_some_iff.1 hl3).1, (World.putObj_heap_other hLD).trans hd3⟩
        rw [hrec] at hend ⊢
        exact hend
      have out : ∀ (c : Code) (W3 : World), KeepsFrom w.heap.size WB W3 → Ix c (pre ++ [x]) W3 → ∃ v W', (Instr.endRound L (some c)).run P W3 = .ok v W' ∧ v = .bool false ∧ ∃ c', Ix c' (pre ++ [x]) W' ∧ W'.heap[L]? = some (.loop (rec .done (some c'))) ∧ W'.heap[w.heap.size]? = some (.deferred (some [])) := fun c W3 hk3 hi3 => by
        obtain ⟨hr, hl3, hl4, hk4⟩ := fin (some c) W3 hk3
        exact ⟨_, _, hr, rfl, c, (hIx _).putObj _ hi3 hLw hl3 rfl, hl4, hk4⟩
      rintro e a3 W3 hp
      cases e with
      | normal =>
        obtain ⟨hk3, hkp3, hi3⟩ := hp
        obtain ⟨hr, hl3, hl4, hk4⟩ := fin none W3 hk3
        exact ⟨_, _, hr, .inl ⟨rfl, ⟨hI.putObj _ hi3 hLw hl3 rfl, hl4, hk4⟩, hKt (hKt hw2 hkp3) (hKb _ _ _ _ hLw hl3 rfl rfl)⟩⟩
      | ret =>
        obtain ⟨v, W', hr, rfl, h⟩ := out .ret W3 hp.1 hp.2
        exact ⟨_, _, hr, .inr ⟨rfl, h⟩⟩
      | exit id =>
        obtain ⟨v, W', hr, rfl, h⟩ := out (.exit id) W3 hp.1 hp.2
        exact ⟨_, _, hr, .inr ⟨rfl, h⟩⟩
      | goto t =>
        obtain ⟨v, W', hr, rfl, h⟩ := out (.goto t) W3 hp.1 hp.2
        exact ⟨_, _, hr, .inr ⟨rfl, h⟩⟩
      | panic ch => exact hp.elim
      | outgrown => exact hp.elim
    refine call.mono ?_
    have hLD : w.heap.size ≠ L := by show w.heap.size ≠ w.heap.size + 1; omega
    have hLw : w.heap.size ≤ L := by show w.heap.size ≤ w.heap.size + 1; omega
    rintro e W2 ⟨⟨v, rfl⟩, (⟨xs, hS, hi, hl, hk⟩ | ⟨pre, hSp, c, hi, hl, hk⟩)⟩
    · exact ⟨none, _, by have := run_endLoop (P := P) hl (by rw [hrec]; simp); rw [hrec] at this; exact this, hdone _ xs _ (Nat.le_refl _) hS (hI.putObj _ hi hLw hl rfl) ((World.putObj_heap_other hLD).trans hk)⟩
    · exact ⟨some c, _, by have := run_endLoop (P := P) hl (by rw [hrec]; simp); rw [hrec] at this; exact this, hstop _ c pre _ (Nat.le_refl _) hSp ((hIx c).putObj _ hi hLw hl rfl) ((World.putObj_heap_other hLD).trans hk)⟩
end

/-! a region that draws its order, in a round: operations that defer nothing go as outside of it -/
def noDefer (ops : Array Oper) : Bool := ops.all fun o => match o.op with | .defer _ => false | _ => true
theorem noDefer_spec {ops : Array Oper} (h : noDefer ops = true) (i : Nat) (o : Oper) (ho : ops[i]? = some o) (c : Call) : o.op ≠ .defer c := fun e => by
  have := Array.all_eq_true_iff_forall_mem.1 h o (Array.mem_of_getElem? ho)
  simp [e] at this
theorem wpOpIn_round {F : Fence} {n : Nat} {P : Program} {ops : Array Oper} {Q : Exit → Act → World → Prop} {l i : Nat} (hro : F.round = none) (hno : ∀ (o : Oper), ops[i]? = some o → ∀ c, o.op ≠ .defer c) {K K' : Act → World → Prop} (hK : ∀ a w, K a w → K' a w) {a : Act} {w : World} (h : wpOpIn F n P ops Q i K a w) : wpOpIn (F.inRound l) n P ops Q i K' a w := by
  unfold Go.wpOpIn at h ⊢
  cases ho : ops[i]? with
  | none => rw [ho] at h; exact hK _ _ h
  | some o =>
    rw [ho] at h
    simp only at h ⊢
    by_cases hw : Region.wanted o (yielded ops a.tmps) = true
    · rw [if_pos hw] at h ⊢
      have h := Oper.wpIn_mono hK h
      unfold Oper.wpIn at h ⊢
      rw [hro, Oper.semAt_none] at h
      rw [Oper.semAt_eq _ _ _ (hno o ho)]
      exact h
    · rw [if_neg hw] at h ⊢
      exact ⟨h.1, hK _ _ h.2⟩
theorem wpAnyIn_round {F : Fence} {n : Nat} {P : Program} {md : Region.Mode} {ops : Array Oper} {Q : Exit → Act → World → Prop} {l : Nat} (hro : F.round = none) (hno : noDefer ops = true) : ∀ (fuel : Nat) (listed : Array Bool) (a : Act) (w : World), wpAnyIn F n P md ops Q fuel listed a w → wpAnyIn (F.inRound l) n P md ops Q fuel listed a w
  | 0, _, _, _, h => h
  | fuel + 1, listed, a, w, h => ⟨h.1, fun i hi => wpOpIn_round hro (noDefer_spec hno i) (wpAnyIn_round hro hno fuel _) (h.2 i hi)⟩

end Go.Proofs.YtdnfmilnkoocdaaDoor.Q

-- from Hrfa
/- Range over a function whose loop variable is a cell: the assignment makes memory too. After wpIn_range_pr. -/
namespace Go.Proofs.YtdnfmilnkoocdaaDoor.Q
open Go.RowKit Go.Shelf Go.Proofs.YtdnfmilnkoocdaaDoorW.PrintWords Go.Proofs.YtdnfmilnkoocdaaDoorW.PrintLast Go.Proofs.YtdnfmilnkoocdaaDoorW.PrintMore
set_option linter.unusedVariables false
set_option linter.unusedSimpArgs false
section
variable {F : Fence} {n : Nat} {P : Program}
theorem wpIn_range_as {α : Type} {g : Operand} {ps : Array Tmp} {assign body : Code} {Q : Exit → Act → World → Prop} {a : Act} {w : World}
    (hro : F.round = none) (h1 : 1 ≤ n) {gf : Nat} {lb : Array Value} (hg : a.eval g = .func (.func gf) #[] lb) (hFg : F.fn gf) (eg : ∀ args w, (callFunc gf args).run P w = .ok (.enter gf args) w)
    {encs : α → Array Value} {Kp : World → World → Prop} {Pr : α → World → Prop} {S Sp : List α → Prop} {w0 : World} (hseq : SeqPr F (n - 1) P gf lb encs Kp Pr S Sp w0)
    (hKt : ∀ {A B C : World}, Kp A B → Kp B C → Kp A C) (hKb : ∀ (W : World) (l : Nat) (o o' : Obj), w.heap.size ≤ l → W.heap[l]? = some o → o.isCells = false → o.isWalk = false → Kp W (W.putObj l o')) (hb0 : Below w0.heap.size w0 w) (hps : ∀ x, (encs x).size = ps.size)
    (I : List α → World → Prop) (Ix : Code → List α → World → Prop) (hI : OwnFrom w.heap.size I) (hIx : ∀ c, OwnFrom w.heap.size (Ix c)) (h0 : I [] w) (I1 : List α → α → Act → World → Prop) (hI1 : ∀ pre x a1, OwnFrom w.heap.size (fun (_ : Unit) W => I1 pre x a1 W))
    (hassign : ∀ (l : Nat) (pre : List α) (x : α) (W : World) (K : Act → World → Prop), I pre W → Pr x W → (∀ a1 W1, KeepsFrom w.heap.size W W1 → Kp W W1 → I1 pre x a1 W1 → K a1 W1) →
      assign.wpIn (F.inRound l) (n - 1 - 1) P (Exit.then K (fun _ _ _ => False)) { tmps := (ps.zip (encs x)).foldl (fun t (p, v) => t.setIfInBounds p v) a.tmps, defers := [] } W)
    (hbody : ∀ (l : Nat) (pre : List α) (x : α) (a1 : Act) (W : World), I1 pre x a1 W → Sp (pre ++ [x]) → body.wpIn (F.inRound l) (n - 1 - 1) P (ownPostG w.heap.size Kp I Ix (pre ++ [x]) W) a1 W)
    (hdone : ∀ (D : Nat) (xs : List α) (W : World), w.heap.size ≤ D → S xs → I xs W → W.heap[D]? = some (.deferred (some [])) → Q .normal { a with defers := { target := .collected D, args := #[] } :: a.defers } W)
    (hstop : ∀ (D : Nat) (c : Code) (pre : List α) (W : World), w.heap.size ≤ D → Sp pre → Ix c pre W → W.heap[D]? = some (.deferred (some [])) → c.wpIn F n P Q { a with defers := { target := .collected D, args := #[] } :: a.defers } W) :
    (Code.rangeFunc g ps assign body).wpIn F n P Q a w := by
  refine wpIn_rangeFunc ?_
  intro fn hfn
  rw [hro]
  -- the two blocks that the loop lays: the deferred calls' and its own record
  let L : Nat := w.heap.size + 1
  obtain ⟨rec, hrec⟩ : ∃ rec : LoopState → Option Code → Loop, rec = fun st pe => { state := st, pending := pe, fn, tmps := a.tmps, params := ps, assign, body, defers := w.heap.size } := ⟨_, rfl⟩
  obtain ⟨W1, hW1⟩ : ∃ W1, (w.alloc (.deferred (some []))).alloc (.loop (rec .ready none)) = W1 := ⟨_, rfl⟩
  have hL1 : W1.heap[L]? = some (.loop (rec .ready none)) := by
    have := World.alloc_heap_new (w.alloc (.deferred (some []))) (.loop (rec .ready none))
    rw [World.size_alloc] at this
    rw [← hW1]; exact this
  have hD1 : W1.heap[w.heap.size]? = some (.deferred (some [])) := by
    rw [← hW1]; exact (Below.heap_alloc _ _ _ (by simp)).trans (World.alloc_heap_new w _)
  have hb1 : Below w0.heap.size w0 W1 := by
    rw [← hW1]; exact hb0.trans ((((Below.refl _ w).alloc (Nat.le_refl _) _).alloc (by simp) _).mono hb0.size)
  have hsz1 : W1.heap.size = w.heap.size + 2 := by rw [← hW1]; simp
  have walk_row : ∀ {A : World} {row : Option Nat}, (∀ r, row = some r → W1.heap.size ≤ r ∧ ∃ o : Obj, A.heap[r]? = some o ∧ o.isWalk = true) → (∀ r, row = some r → w.heap.size ≤ r ∧ ∃ o : Obj, A.heap[r]? = some o ∧ o.isCells = false) :=
    fun hr r e => by obtain ⟨hB, o, ho, hw⟩ := hr r e; exact ⟨by omega, o, ho, Obj.not_cells_of_walk hw⟩
  have stay : ∀ {A B : World} {row : Option Nat} {k : Nat} {o : Obj}, A.grownBy B row → (∀ r, row = some r → W1.heap.size ≤ r ∧ ∃ o : Obj, A.heap[r]? = some o ∧ o.isWalk = true) → A.heap[k]? = some o → o.isWalk = false → B.heap[k]? = some o :=
    fun hg' hr hk hw => (grownBy_keeps hg' (fun r e => (hr r e).2) hk hw).trans hk
  refine ⟨L, [{ target := .collected w.heap.size, args := #[] }], W1, { target := .fn (.func gf) lb, args := #[.func (.yield L) #[] #[]] }, W1, gf, #[.func (.yield L) #[] #[]] ++ lb, W1, ?_, ?_, ?_, ?_, fun _ => h1, ?_⟩
  · rw [← hW1, hrec]; exact run_enterLoop_outer _ _ _ _ _
  · simp only [resolve, hg]
    simp [go_sem]
  · intro f' hf'; simp [Target.leads] at hf'; subst hf'; exact hFg
  · simp [invoke, go_sem, eg]
  · have call := hseq L (fun pre W => I pre W ∧ W.heap[L]? = some (.loop (rec .ready none)) ∧ W.heap[w.heap.size]? = some (.deferred (some [])))
      (fun pre W => ∃ c, Ix c pre W ∧ W.heap[L]? = some (.loop (rec .done (some c))) ∧ W.heap[w.heap.size]? = some (.deferred (some []))) W1 hb1
      (fun s A B row hs hg' hr => ⟨hI s A B row hs.1 hg' (walk_row hr), stay hg' hr hs.2.1 rfl, stay hg' hr hs.2.2 rfl⟩)
      (fun s A B row ⟨c, hc, hl, hk⟩ hg' hr => ⟨c, hIx c s A B row hc hg' (walk_row hr), stay hg' hr hl rfl, stay hg' hr hk rfl⟩)
      ?round ⟨by rw [← hW1]; exact hI.alloc _ (hI.alloc _ h0), hL1, hD1⟩
    case round =>
      rintro pre x W ⟨hi, hl, hk⟩ hpr hlen
      have hlt : L < W.heap.size := (Array.getElem?_eq_some_iff.1 hl).1
      have hLD : w.heap.size ≠ L := by show w.heap.size ≠ w.heap.size + 1; omega
      have hLw : w.heap.size ≤ L := by show w.heap.size ≤ w.heap.size + 1; omega
      have hy := run_yield (P := P) (args := encs x) hl (by rw [hrec]; exact hps x)
      rw [hrec] at hy
      refine ⟨fn, _, assign, body, hy, roundIn_of_wpIn hfn (hassign _ pre x W _ hi hpr (fun a1 WA hkA hkpA hi1 => ⟨_, run_beginRound (hkA.same _ _ hLw hl rfl) (by rw [hrec]), ?_⟩))⟩
      have hl := hkA.same _ _ hLw hl rfl
      have hk := hkA.same _ _ (Nat.le_refl _) hk rfl
      have hlt : L < WA.heap.size := (Array.getElem?_eq_some_iff.1 hl).1
      obtain ⟨WB, hWB⟩ : ∃ WB, WA.putObj L (.loop { rec .ready none with state := .busy }) = WB := ⟨_, rfl⟩
      have hl2 : WB.heap[L]? = some (.loop { rec .ready none with state := .busy }) := by rw [← hWB]; exact World.putObj_heap_same hlt
      have hk2 : WB.heap[w.heap.size]? = some (.deferred (some [])) := by rw [← hWB]; exact (World.putObj_heap_other hLD).trans hk
      have hw2 : Kp W WB := by rw [← hWB]; exact hKt hkpA (hKb _ _ _ _ hLw hl rfl rfl)
      have hi2 : I1 pre x a1 WB := by rw [← hWB]; exact (hI1 pre x a1).putObj (s := ()) _ hi1 hLw hl rfl
      rw [hWB]
      refine wpIn_mono (hbody _ pre x a1 WB hi2 hlen) ?_
      have fin : ∀ (jump : Option Code) (W3 : World), KeepsFrom w.heap.size WB W3 →
          (Instr.endRound L jump).run P W3 = .ok (.bool jump.isNone) (W3.putObj L (.loop (rec (if jump.isNone then .ready else .done) jump))) ∧
          W3.heap[L]? = some (.loop { rec .ready none with state := .busy }) ∧
          (W3.putObj L (.loop (rec (if jump.isNone then .ready else .done) jump))).heap[L]? = some (.loop (rec (if jump.isNone then .ready else .done) jump)) ∧
          (W3.putObj L (.loop (rec (if jump.isNone then .ready else .done) jump))).heap[w.heap.size]? = some (.deferred (some [])) := fun jump W3 hk3 => by
        have hl3 := hk3.same _ _ hLw hl2 rfl
        have hd3 := hk3.same _ _ (Nat.le_refl _) hk2 rfl
        have hend := run_endRound (P := P) jump hl3
        refine ⟨?_, hl3, World.putObj_heap_same (Array.getElem?_eq_some_iff.1 hl3).1, (World.putObj_heap_other hLD).trans hd3⟩
        rw [hrec] at hend ⊢
        exact hend
      have out : ∀ (c : Code) (W3 : World), KeepsFrom w.heap.size WB W3 → Ix c (pre ++ [x]) W3 → ∃ v W', (Instr.endRound L (some c)).run P W3 = .ok v W' ∧ v = .bool false ∧ ∃ c', Ix c' (pre ++ [x]) W' ∧ W'.heap[L]? = some (.loop (rec .done (some c'))) ∧ W'.heap[w.heap.size]? = some (.deferred (some [])) := fun c W3 hk3 hi3 => by
        obtain ⟨hr, hl3, hl4, hk4⟩ := fin (some c) W3 hk3
        exact ⟨_, _, hr, rfl, c, (hIx _).putObj _ hi3 hLw hl3 rfl, hl4, hk4⟩
      rintro e a3 W3 hp
      cases e with
      | normal =>
        obtain ⟨hk3, hkp3, hi3⟩ := hp
        obtain ⟨hr, hl3, hl4, hk4⟩ := fin none W3 hk3
        exact ⟨_, _, hr, .inl ⟨rfl, ⟨hI.putObj _ hi3 hLw hl3 rfl, hl4, hk4⟩, hKt (hKt hw2 hkp3) (hKb _ _ _ _ hLw hl3 rfl rfl)⟩⟩
      | ret =>
        obtain ⟨v, W', hr, rfl, h⟩ := out .ret W3 hp.1 hp.2
        exact ⟨_, _, hr, .inr ⟨rfl, h⟩⟩
      | exit id =>
        obtain ⟨v, W', hr, rfl, h⟩ := out (.exit id) W3 hp.1 hp.2
        exact ⟨_, _, hr, .inr ⟨rfl, h⟩⟩
      | goto t =>
        obtain ⟨v, W', hr, rfl, h⟩ := out (.goto t) W3 hp.1 hp.2
        exact ⟨_, _, hr, .inr ⟨rfl, h⟩⟩
      | panic ch => exact hp.elim
      | outgrown => exact hp.elim
    refine call.mono ?_
    have hLD : w.heap.size ≠ L := by show w.heap.size ≠ w.heap.size + 1; omega
    have hLw : w.heap.size ≤ L := by show w.heap.size ≤ w.heap.size + 1; omega
    rintro e W2 ⟨⟨v, rfl⟩, (⟨xs, hS, hi, hl, hk⟩ | ⟨pre, hSp, c, hi, hl, hk⟩)⟩
    · exact ⟨none, _, by have := run_endLoop (P := P) hl (by rw [hrec]; simp); rw [hrec] at this; exact this, hdone _ xs _ (Nat.le_refl _) hS (hI.putObj _ hi hLw hl rfl) ((World.putObj_heap_other hLD).trans hk)⟩
    · exact ⟨some c, _, by have := run_endLoop (P := P) hl (by rw [hrec]; simp); rw [hrec] at this; exact this, hstop _ c pre _ (Nat.le_refl _) hSp ((hIx c).putObj _ hi hLw hl rfl) ((World.putObj_heap_other hLD).trans hk)⟩
end

end Go.Proofs.YtdnfmilnkoocdaaDoor.Q

-- from Hmrk
/- Marks among the deferred calls. -/
namespace Go.Proofs.YtdnfmilnkoocdaaDoor.Q
open Go.RowKit Go.Shelf Go.Proofs.YtdnfmilnkoocdaaDoorW.PrintWords Go.Proofs.YtdnfmilnkoocdaaDoorW.PrintLast Go.Proofs.YtdnfmilnkoocdaaDoorW.PrintMore
set_option linter.unusedVariables false
set_option linter.unusedSimpArgs false

/-- The marks of ranges that have ended. -/
def marks (Ds : List Nat) : List Deferred := Ds.map (fun D => { target := .collected D, args := #[] })
/-- Marks that are whole: different places from n0 on. -/
def MarksIn (n0 : Nat) (Ds : List Nat) (W : World) : Prop := Ds.Nodup ∧ ∀ D ∈ Ds, n0 ≤ D ∧ W.heap[D]? = some (.deferred (some []))
theorem MarksIn.nil (n0 : Nat) (W : World) : MarksIn n0 [] W := ⟨List.nodup_nil, fun D h => by cases h⟩
theorem MarksIn.step {n0 : Nat} {Ds : List Nat} {W W' : World} (h : MarksIn n0 Ds W) (hb : ∀ D ∈ Ds, W'.heap[D]? = W.heap[D]?) : MarksIn n0 Ds W' := ⟨h.1, fun D hD => ⟨(h.2 D hD).1, (hb D hD).trans (h.2 D hD).2⟩⟩
theorem MarksIn.lt {n0 : Nat} {Ds : List Nat} {W : World} (h : MarksIn n0 Ds W) {D : Nat} (hD : D ∈ Ds) : D < W.heap.size := (Array.getElem?_eq_some_iff.1 (h.2 D hD).2).1
theorem MarksIn.below {n0 B : Nat} {Ds : List Nat} {W W' : World} (h : MarksIn n0 Ds W) (hb : Below B W W') (hB : W.heap.size ≤ B) : MarksIn n0 Ds W' := h.step fun D hD => hb.block D (Nat.lt_of_lt_of_le (h.lt hD) hB)
theorem MarksIn.cons {n0 : Nat} {Ds : List Nat} {W : World} {D : Nat} (h : MarksIn n0 Ds W) (hn : ∀ E ∈ Ds, E < D) (hB : n0 ≤ D) (hD : W.heap[D]? = some (.deferred (some []))) : MarksIn n0 (D :: Ds) W :=
  ⟨List.nodup_cons.2 ⟨fun hm => Nat.lt_irrefl _ (hn D hm), h.1⟩, fun E hE => by
    rcases List.mem_cons.1 hE with rfl | hE
    · exact ⟨hB, hD⟩
    · exact h.2 E hE⟩
theorem leaves_marks {F : Fence} {n : Nat} {P : Program} {fn : Func} {tmps : Array Value} {R : Ending → World → Prop} {n0 : Nat} : ∀ (Ds : List Nat) (W : World), MarksIn n0 Ds W →
    (∀ W', Below n0 W W' → LeavesInM F n P fn tmps R [] .returning W') → LeavesInM F n P fn tmps R (marks Ds) .returning W
  | [], W, _, h => h W (Below.refl _ _)
  | D :: Ds, W, hn, h => by
    have hd := hn.2 D (List.mem_cons_self ..)
    have hlt : D < W.heap.size := (Array.getElem?_eq_some_iff.1 hd.2).1
    have hb : Below n0 W (W.putObj D (.deferred none)) := (Below.refl n0 W).grown (grownBy_putObj' W D _) (by omega) (fun k e => by cases e; exact hd.1)
    refine ⟨by simp, .inl ⟨_, _, rfl, run_takeDeferred hd.2, ?_⟩⟩
    refine leaves_marks Ds _ ⟨(List.nodup_cons.1 hn.1).2, fun E hE => ⟨(hn.2 E (List.mem_cons_of_mem _ hE)).1, ?_⟩⟩ (fun W' hW' => h W' (hb.trans hW'))
    have hne : E ≠ D := fun e => (List.nodup_cons.1 hn.1).1 (e ▸ hE)
    rw [World.putObj_heap_other hne]
    exact (hn.2 E (List.mem_cons_of_mem _ hE)).2
end Go.Proofs.YtdnfmilnkoocdaaDoor.Q

-- from Hkpc
/- What a body keeps, told by blocks (out of XHall, XHlst). -/
namespace Go.Proofs.YtdnfmilnkoocdaaDoor.Q
open Go.RowKit Go.Shelf Go.Proofs.YtdnfmilnkoocdaaDoorW.PrintWords Go.Proofs.YtdnfmilnkoocdaaDoorW.PrintLast Go.Proofs.YtdnfmilnkoocdaaDoorW.PrintMore
set_option linter.unusedVariables false
set_option linter.unusedSimpArgs false

def KeepC (T : Nat → Prop) (A B : World) : Prop := A.heap.size ≤ B.heap.size ∧ ∀ k o, A.heap[k]? = some o → o.isCells = true → ¬ T k → B.heap[k]? = some o
theorem KeepC.refl (T : Nat → Prop) (A : World) : KeepC T A A := ⟨Nat.le_refl _, fun _ _ h _ _ => h⟩
theorem KeepC.trans {T : Nat → Prop} {A B C : World} (h : KeepC T A B) (k : KeepC T B C) : KeepC T A C := ⟨Nat.le_trans h.1 k.1, fun j o hj hc hn => k.2 j o (h.2 j o hj hc hn) hc hn⟩
theorem KeepC.of_below {T : Nat → Prop} {A B : World} (h : Below A.heap.size A B) : KeepC T A B := ⟨h.size, fun k o hk _ _ => (h.block k (Array.getElem?_eq_some_iff.1 hk).1).trans hk⟩
theorem KeepC.of_set {T : Nat → Prop} {A : World} {p : Addr} {v : Value} (h : T p.block) : KeepC T A (A.setCell p v) := ⟨by simp, fun k o hk _ hn => (Below.heap_setCell A p v k (fun e => hn (e ▸ h))).trans hk⟩
theorem keepC_put {T : Nat → Prop} {w : World} : ∀ (W : World) (l : Nat) (o o' : Obj), w.heap.size ≤ l → W.heap[l]? = some o → o.isCells = false → o.isWalk = false → KeepC T W (W.putObj l o') :=
  fun W l o o' _ ho hc _ => ⟨(grownBy_putObj' W l o').size, fun k ob hk hkc _ => by
    have hne : k ≠ l := fun e => by
      subst e
      rw [ho] at hk
      injection hk with hk
      rw [← hk, hc] at hkc
      cases hkc
    exact (World.putObj_heap_other hne).trans hk⟩
theorem KeepC.grown {T : Nat → Prop} {A B : World} {row : Option Nat} (hg : A.grownBy B row) (hT : ∀ k, row = some k → T k) : KeepC T A B :=
  ⟨hg.size, fun k o hk _ hn => (hg.block k (Array.getElem?_eq_some_iff.1 hk).1 (fun e => hn (hT k e.symm))).trans hk⟩
end Go.Proofs.YtdnfmilnkoocdaaDoor.Q

-- from Hfln
/- field.Lines: the call, and the iterator. -/
namespace Go.Proofs.YtdnfmilnkoocdaaDoor.Q
open Go.RowKit Go.Shelf Go.Proofs.YtdnfmilnkoocdaaDoorW.PrintWords Go.Proofs.YtdnfmilnkoocdaaDoorW.PrintLast Go.Proofs.YtdnfmilnkoocdaaDoorW.PrintMore Go.Proofs.YtdnfmilnkoocdaaDoor.K
set_option linter.unusedVariables false
set_option linter.unusedSimpArgs false
attribute [local go_sem] Oper.semAt_some

/-- Lines with their numbers. -/
def linesI : Nat → List (List Int) → List (Int × List (List Int))
  | _, [] => []
  | i, l :: r => match fieldsL (stripCR l) with
    | none => linesI (i + 1) r
    | some f => ((i : Int) + 1, f) :: linesI (i + 1) r
theorem linesI_cons (i : Nat) (x : List Int) (X : List (List Int)) : linesI i (x :: X) = match fieldsL (stripCR x) with
    | none => linesI (i + 1) X
    | some f => ((i : Int) + 1, f) :: linesI (i + 1) X := rfl
theorem linesI_app : ∀ (X : List (List Int)) (i : Nat) (l : List Int), linesI i (X ++ [l]) = linesI i X ++ (match fieldsL (stripCR l) with | none => [] | some f => [(((i + X.length : Nat) : Int) + 1, f)])
  | [], i, l => by
    rw [List.nil_append, linesI_cons]
    cases fieldsL (stripCR l) <;> simp [linesI]
  | x :: X, i, l => by
    have ih := linesI_app X (i + 1) l
    have e : i + 1 + X.length = i + (x :: X).length := by simp; omega
    rw [e] at ih
    rw [List.cons_append, linesI_cons, linesI_cons, ih]
    cases fieldsL (stripCR x) <;> rfl
theorem linesI_pre : ∀ (Z A : List (List Int)), linesI 0 A <+: linesI 0 (A ++ Z)
  | [], A => by rw [List.append_nil]; exact List.prefix_refl _
  | z :: Z, A => by
    rw [show A ++ z :: Z = (A ++ [z]) ++ Z by simp]
    exact (by rw [linesI_app]; exact List.prefix_append _ _ : linesI 0 A <+: linesI 0 (A ++ [z])).trans (linesI_pre Z _)
/-- Pieces as the cells of a row. -/
def rowC (X : List (List Int)) : Array Value := (X.map (fun p => Value.string (strOfNums p))).toArray
set_option maxHeartbeats 2000000 in
set_option maxRecDepth 100000 in
theorem bytes_Clone.calls (A : Option Addr) (c : Nat) (L : List Int) (w : World) (hr : Kd.C (Kd.int .u8) w A L.length L) (hc : L.length ≤ c) (hl : L.length ≤ 1000000) :
    Calls Tryd.prog 60 #[.slice A L.length c] w fun e w' => ∃ A' c', e = .returned (.slice A' L.length c') ∧ Kd.C (Kd.int .u8) w' A' L.length L ∧ Below w.heap.size w w' := by
  cases A with
  | none =>
    have h0 : L = [] := by
      rcases Nat.eq_zero_or_pos L.length with h | h
      · exact List.length_eq_zero_iff.1 h
      · obtain ⟨ad, e, _⟩ := hr.2.2 h; cases e
    subst h0
    refine (Any.bytes_Clone_nil Tryd.laysk4 0 c w).mono ?_
    rintro e w' ⟨rfl, rfl⟩
    exact ⟨none, _, rfl, hr, Below.refl _ _⟩
  | some a =>
    have hrd := Kd.reads_of_C (enc := Value.int .u8) (d := (0 : Int)) (h1 := fun _ => rfl) hr
    refine (Any.bytes_Clone_at Tryd.laysk4 a L.length c L w rfl (by omega) (fun i hi => ?_)).mono ?_
    · obtain ⟨ad, e, h⟩ := hrd.2.2 (by omega)
      cases e
      exact h i hi
    · rintro e w' ⟨v', rfl, ho, hne, hb⟩
      have hR : Kd.R (Kd.int .u8) 5 w' w.heap.size (fun _ => True) v' L := Kd.R_of_own ho (fun _ _ => trivial)
      obtain ⟨A', c', rfl, hc', hC⟩ := Kd.R_reads hR
      exact ⟨A', c', rfl, hC, hb⟩
set_option maxHeartbeats 2000000 in
set_option maxRecDepth 100000 in
theorem field_Lines.calls (A : Option Addr) (c : Nat) (L : List Int) (ho : Oct L) (hl : L.length ≤ 1000000) (w : World) (hE : EnvF w) (hr : Kd.C (Kd.int .u8) w A L.length L) (hc : L.length ≤ c) :
    Calls Tryd.prog 34 #[.slice A L.length c] w fun e w' => ∃ g gb, e = .returned (.func (.func 61) #[] #[.pointer (some ⟨gb, 0, none⟩)]) ∧ w.heap.size ≤ g ∧ w.heap.size ≤ gb ∧
      w'.heap[g]? = some (.cells (rowC (spl 10 L)) 9 (0, 0)) ∧ Boxed w' gb 24 (.slice (some ⟨g, 0, none⟩) (spl 10 L).length (spl 10 L).length) ∧ Below w.heap.size w w' := by
  have HR := Aside0.mk hr
  have HC := Aside0.mk hc
  have HE := Aside0.mk hE
  have HO := Aside0.mk ho
  have HL := Aside0.mk hl
  clear hr hc hE ho hl
  go_enter Tryd.func34, Tryd.ntmps34
  go_wp2_with (first
    | (go_at_call 60; refine (bytes_Clone.calls A c L _ HR.out HC.out HL.out).mono ?_; rintro e w1 ⟨A1, c1, rfl, hC1, hb⟩; have HB := Aside0.mk hb; have hcv := Kd.C_string (P := Tryd.prog) (c := c1) Tryd.underlying22 Tryd.underlying5 Tryd.underlying9 hC1; clear hb hC1)
    | (go_at_call 59; refine (sSplit10.calls L HO.out HL.out _ (HE.out.below HB.out)).mono ?_; rintro e w2 ⟨rfl, rfl⟩))
  go_ret
  exact ⟨w1.heap.size, w1.heap.size + 1, rfl, HB.out.size, by have := HB.out.size; omega, by
    have h := heap_alloc_new w1 (.cells ((spl 10 L).map (fun p => .string (strOfNums p))).toArray 9)
    exact (Below.heap_alloc _ _ _ (by simp)).trans h, by
    have := Boxed.new (w1.alloc (.cells ((spl 10 L).map (fun p => .string (strOfNums p))).toArray 9)) 24 (.slice (some ⟨w1.heap.size, 0, none⟩) (spl 10 L).length (spl 10 L).length)
    rwa [World.size_alloc] at this, (HB.out.alloc HB.out.size _).alloc (by simp; have := HB.out.size; omega) _⟩
/-- An item: the line's number, the block of its fields, the fields. -/
abbrev LItem := Int × Nat × List (List Int)
def LItem.enc (x : LItem) : Array Value := #[.agg #[.int .i64 x.1, .slice (some ⟨x.2.1, 0, none⟩) x.2.2.length x.2.2.length]]
def LItem.pr (x : LItem) : Int × List (List Int) := (x.1, x.2.2)
def LItem.at_ (x : LItem) (W : World) : Prop := W.heap[x.2.1]? = some (.cells (rowC x.2.2) 9 (0, 0))
theorem fldC_all (Y : List (List Int)) : fldC Y Y.length = rowC (Y.map trimL) := by
  unfold fldC rowC fldA
  rw [List.take_length, List.drop_length, List.append_nil]
theorem EnvF.keep {T : Nat → Prop} {A B : World} (h : EnvF A) (k : KeepC T A B) (h0 : ¬ T 0) (h6 : ¬ T 6) : EnvF B := by
  have key : ∀ (b i : Nat) (v : Value), ¬ T b → A.cell? ⟨b, i, none⟩ = some v → B.cell? ⟨b, i, none⟩ = some v := fun b i v hb hc => by
    unfold World.cell? at hc ⊢
    cases ho : A.heap[b]? with
    | none => simp only [ho] at hc; cases hc
    | some o =>
      simp only [ho] at hc
      cases o with
      | cells c t fr => simp only [k.2 b _ ho rfl hb]; exact hc
      | _ => cases hc
  obtain ⟨⟨m, h1⟩, h2⟩ := h
  exact ⟨⟨m, key _ _ _ h0 h1⟩, key _ _ _ h6 h2⟩
theorem row_cell {W : World} {g i : Nat} {X : List (List Int)} (h : W.heap[g]? = some (.cells (rowC X) 9 (0, 0))) (hi : i < X.length) : W.cell? ⟨g, i, none⟩ = some (.string (strOfNums X[i])) := by
  unfold World.cell?
  rw [h]
  show (rowC X)[i]? = _
  unfold rowC
  simp [hi]
set_option maxHeartbeats 4000000 in
set_option maxRecDepth 100000 in
/-- The iterator: every body that keeps all cells but those of T, to which neither the lines' row nor what the functions read belong. -/
theorem field_Lines.stops (L : List Int) (ho : Oct L) (hl : L.length ≤ 1000000) (g gb : Nat) (w : World) (T : Nat → Prop) (hE : EnvF w) (hT0 : ¬ T 0) (hT6 : ¬ T 6) (hTg : ¬ T g)
    (hg : w.heap[g]? = some (.cells (rowC (spl 10 L)) 9 (0, 0))) (hb : Boxed w gb 24 (.slice (some ⟨g, 0, none⟩) (spl 10 L).length (spl 10 L).length)) (n : Nat) (hn : 3 ≤ n) :
    SeqPr Fence.wide n Tryd.prog 61 #[.pointer (some ⟨gb, 0, none⟩)] LItem.enc (KeepC T) LItem.at_ (fun ys => ys.map LItem.pr = linesI 0 (spl 10 L)) (fun pre => pre.map LItem.pr <+: linesI 0 (spl 10 L)) w := fun l J Jx W hW hJ hJx hY h0 => by
  refine callsIn_of_wp Tryd.func61 rfl trivial ?_ rfl
  simp only [Tryd.ntmps61, List.size_toArray, List.length_cons, List.length_nil, Nat.reduceAdd, Nat.reduceSub, Array.replicate_succ, Array.replicate_zero, List.push_toArray, List.append_toArray, List.nil_append, List.cons_append]
  obtain ⟨X, hX⟩ : ∃ X, X = spl 10 L := ⟨_, rfl⟩
  have hXo : ∀ p ∈ X, Oct p := fun p hp => by rw [hX] at hp; exact oct_spl ho hp
  have hXl : ∀ p ∈ X, p.length ≤ 1000000 := fun p hp => by rw [hX] at hp; have := len_spl hp; omega
  have hXn : X.length ≤ 1000001 := by rw [hX]; have := splP_count (fun x => decide (x = (10 : Int))) L; unfold spl; omega
  rw [← hX] at hg hb hY ⊢
  have hbW : Boxed W gb 24 (.slice (some ⟨g, 0, none⟩) X.length X.length) := (hW.block _ hb.lt).trans hb
  have hgW : W.heap[g]? = some (.cells (rowC X) 9 (0, 0)) := (hW.block _ (Array.getElem?_eq_some_iff.1 hg).1).trans hg
  have HE := Aside0.mk (hE.below hW)
  have HG := Aside0.mk hgW
  have HJ := Aside0.mk hJ
  have HY := Aside0.mk hY
  have H0 := Aside0.mk h0
  have HXO := Aside0.mk hXo
  have HXL := Aside0.mk hXl
  have HXN := Aside0.mk hXn
  have HT := Aside0.mk (And.intro hT0 (And.intro hT6 hTg))
  have hcell := hbW.cell
  clear hX hXo hXl hXn hg hb hbW hgW hJ hJx hY h0 hE hT0 hT6 hTg hW ho hl
  gi_wp2
  clear hcell
  gi_loopg [8] (X.length + 1) (fun kq s8 wr => ∃ (i : Nat) (pre : List LItem), s8 = .int .i64 (i : Int) ∧ Aside0 (i + kq = X.length + 1 ∧ i ≤ X.length) ∧ Aside0 (pre.map LItem.pr = linesI 0 (X.take i)) ∧ Aside0 (J pre wr) ∧ Aside0 (KeepC T W wr))
  case atStart => exact ⟨0, [], rfl, ⟨by omega, by omega⟩, ⟨by simp [linesI]⟩, H0, ⟨KeepC.refl _ _⟩⟩
  case round =>
    obtain ⟨i, pre, rfl, HI, HP, HJp, KK⟩ := hrel
    cases gk with
    | zero => exact absurd HI.out (by omega)
    | succ kq =>
      by_cases c1 : (i : Int) < (X.length : Int)
      · have hi : i < X.length := by omega
        have hge : wr.heap[g]? = some (.cells (rowC X) 9 (0, 0)) := KK.out.2 g _ HG.out rfl HT.out.2.2
        have hcl := row_cell hge hi
        obtain ⟨p, hp⟩ : ∃ p, p = X[i] := ⟨_, rfl⟩
        rw [← hp] at hcl
        have hpm : p ∈ X := hp ▸ List.getElem_mem hi
        have hop := HXO.out p hpm
        have hlp := HXL.out p hpm
        have htk : X.take (i + 1) = X.take i ++ [p] := by rw [hp, List.take_append_getElem]
        have hln := linesI_app (X.take i) 0 p
        rw [← htk, List.length_take, Nat.min_eq_left (by omega), Nat.zero_add] at hln
        have HII := Aside0.mk hi
        have HLN := Aside0.mk hln
        have hEw : EnvF wr := HE.out.keep KK.out HT.out.1 HT.out.2.1
        have HEW := Aside0.mk hEw
        have HST := Aside0.mk (fun w => sStrip.calls p hop hlp w)
        have e0 := eq_true c1
        have e1 : decide ((i : Int) < (X.length : Int)) = true := decide_eq_true c1
        have e2 : (i < X.length) = True := eq_true hi
        have m2 : wrap64 ((i : Int) + 1) = (i : Int) + 1 := w64 (by omega) (by have := HXN.out; omega)
        obtain ⟨q, hq⟩ : ∃ q, q = stripCR p := ⟨_, rfl⟩
        rw [← hq] at HST HLN
        have hoq : Oct q := by rw [hq]; exact oct_strip hop
        have hlq : q.length ≤ 1000000 := by rw [hq]; have := len_strip p; omega
        obtain ⟨sp, hsp⟩ : ∃ s, s = strOfNums p := ⟨_, rfl⟩
        rw [← hsp] at hcl HST
        by_cases hn : trimL (bodyL q) = []
        · have hf : fieldsL q = none := by unfold fieldsL; rw [if_pos hn]
          rw [hf] at HLN
          have HF := Aside0.mk (fun w hE => field_fields.callsN q hoq hlq hn w hE)
          obtain ⟨sq, hsq⟩ : ∃ s, s = strOfNums q := ⟨_, rfl⟩
          rw [← hsq] at HST HF
          clear c1 hi hge hp hpm hop hlp htk hln hEw hq hoq hlq hsp hn hf hsq
          gi_wp2_with (first
            | (refine ⟨trivial, (fun h => by cases h), ?_⟩; gi_at_call 63; (refine (callsIn_wide.2 (HST.out _)).mono ?_); rintro e w1 ⟨rfl, rfl⟩)
            | (refine ⟨trivial, (fun h => by cases h), ?_⟩; gi_at_call 62; (refine (callsIn_wide.2 (HF.out _ HEW.out)).mono ?_); rintro e w2 ⟨rfl, hb⟩; have HB := Aside0.mk hb; clear hb))
          repeat (refine ⟨(fun f h => by cases h), ?_⟩; (try gi_wp2))
          gi_roundg kq
          case measure => omega
          case rel =>
            exact ⟨i + 1, pre, by first | rfl | (rw [m2]; rfl), ⟨by have := HI.out; omega, by have := HII.out; omega⟩, ⟨by rw [HP.out, HLN.out, List.append_nil]⟩, ⟨HJ.out _ _ _ none HJp.out (grownBy_none_of_below HB.out) (fun r e => by cases e)⟩, ⟨KK.out.trans (KeepC.of_below HB.out)⟩⟩
        · have hf : fieldsL q = some ((spl 59 (bodyL q)).map trimL) := by unfold fieldsL; rw [if_neg hn]
          rw [hf] at HLN
          obtain ⟨Y, hY⟩ : ∃ Y, Y = spl 59 (bodyL q) := ⟨_, rfl⟩
          rw [← hY] at HLN
          have HF := Aside0.mk (fun w hE => field_fields.callsS Y q hoq hlq hn hY w hE)
          obtain ⟨sq, hsq⟩ : ∃ s, s = strOfNums q := ⟨_, rfl⟩
          rw [← hsq] at HST HF
          have hYl : (Y.map trimL).length = Y.length := List.length_map ..
          have HYL := Aside0.mk hYl
          clear c1 hi hge hp hpm hop hlp htk hln hEw hq hoq hlq hsp hn hf hsq hY hYl
          gi_wp2_with (first
            | (refine ⟨trivial, (fun h => by cases h), ?_⟩; gi_at_call 63; (refine (callsIn_wide.2 (HST.out _)).mono ?_); rintro e w1 ⟨rfl, rfl⟩)
            | (refine ⟨trivial, (fun h => by cases h), ?_⟩; gi_at_call 62; (refine (callsIn_wide.2 (HF.out _ HEW.out)).mono ?_); rintro e w2 ⟨gf, rfl, hgl, hgf, hb⟩
               have HB := Aside0.mk hb
               rw [fldC_all] at hgf
               have hj2 := HJ.out _ _ _ none HJp.out (grownBy_none_of_below hb) (fun r e => by cases e)
               obtain ⟨fn, tmps, assign, body, hy, hRR⟩ := HY.out pre (((i : Int) + 1, gf, Y.map trimL) : LItem) w2 hj2 hgf (by
                 rw [List.map_append, HP.out]
                 have : [(((i : Int) + 1, gf, Y.map trimL) : LItem)].map LItem.pr = [((i : Int) + 1, Y.map trimL)] := rfl
                 rw [this, ← HLN.out]
                 have := linesI_pre (X.drop (i + 1)) (X.take (i + 1))
                 rwa [List.take_append_drop] at this)
               have HRR := Aside0.mk hRR
               simp only [LItem.enc, HYL.out] at hy
               clear hb hgf hj2 hRR hgl))
          refine ⟨fun _ => by omega, ?_⟩
          refine HRR.out.mono ?_
          rintro e W3 (⟨rfl, hJ3, hk3⟩ | ⟨rfl, hJx3⟩)
          · have HJ3 := Aside0.mk hJ3
            have HK3 := Aside0.mk ((KK.out.trans (KeepC.of_below HB.out)).trans hk3)
            clear hJ3 hk3 HRR hy hcl
            gi_wp2
            gi_roundg kq
            case measure => omega
            case rel =>
              exact ⟨i + 1, pre ++ [(((i : Int) + 1, gf, Y.map trimL) : LItem)], by first | rfl | (rw [m2]; rfl), ⟨by have := HI.out; omega, by have := HII.out; omega⟩, ⟨by rw [List.map_append, HP.out, HLN.out]; rfl⟩, HJ3, HK3⟩
          · have HJX := Aside0.mk hJx3
            have HSP : Aside0 ((pre ++ [(((i : Int) + 1, gf, Y.map trimL) : LItem)]).map LItem.pr <+: linesI 0 X) := ⟨by
              rw [List.map_append, HP.out]
              have h1 : [(((i : Int) + 1, gf, Y.map trimL) : LItem)].map LItem.pr = [((i : Int) + 1, Y.map trimL)] := rfl
              rw [h1, ← HLN.out]
              have := linesI_pre (X.drop (i + 1)) (X.take (i + 1))
              rwa [List.take_append_drop] at this⟩
            clear hJx3 HRR hy hcl
            gi_wp2
            refine bodyPost_ret (results_none rfl _ _ _) rfl ?_
            exact ⟨⟨_, rfl⟩, .inr ⟨_, HSP.out, HJX.out⟩⟩
      · have e0 := eq_false c1
        have e1 : decide ((i : Int) < (X.length : Int)) = false := decide_eq_false c1
        have hi : i = X.length := by have := HI.out; omega
        subst hi
        clear c1
        gi_wp2
        go_end0
        exact ⟨⟨_, rfl⟩, .inl ⟨pre, by rw [HP.out, List.take_length], HJp.out⟩⟩
end Go.Proofs.YtdnfmilnkoocdaaDoor.Q

-- from Hsib
/- strings.IndexByte. The walk is the shelf's, laid for this program. -/
namespace Go.Proofs.YtdnfmilnkoocdaaDoor.Q
open Go.RowKit Go.Proofs.YtdnfmilnkoocdaaDoorW.PrintWords Go.Proofs.YtdnfmilnkoocdaaDoorW.PrintLast Go.Proofs.YtdnfmilnkoocdaaDoorW.PrintMore
set_option linter.unusedVariables false
set_option linter.unusedSimpArgs false

set_option maxHeartbeats 1000000 in
set_option maxRecDepth 100000 in
theorem stringslite_IndexByte (s : ByteArray) (c : Int) (w : World) :
    Calls Tryd.prog 76 #[.string s, .int .u8 c] w fun e w' => e = .returned (.int .i64 (Lib.indexByte s.data.toList c.toNat.toUInt8)) ∧ w' = w := by
  go_enter Tryd.func76, Tryd.ntmps76
  go_wp2
  rw [run_callFunc_extern Tryd.func96 (by kernel_rfl) (by kernel_rfl) (by kernel_rfl) (e := Extern.BytealgIndexByte.indexByte) (by kernel_rfl), Lib.run_indexByteString]
  simp only [Result.andThen]
  rw [Oper.upon_value]
  go_wp2
  go_ret
  exact ⟨rfl, rfl⟩
def strings_IndexByte.f (s : ByteArray) (c : Int) : Option Int := some (Lib.indexByte s.data.toList c.toNat.toUInt8)
set_option maxHeartbeats 1000000 in
theorem strings_IndexByte.calls (s : ByteArray) (c : Int) (r : Int) (w : World) (h : strings_IndexByte.f s c = some r) :
    Calls Tryd.prog 46 #[.string s, .int .u8 c] w fun e w' => e = .returned (.int .i64 r) ∧ Drawn0 w w' := by
  unfold strings_IndexByte.f at h
  obtain rfl := Option.some.inj h
  go_enter Tryd.func46, Tryd.ntmps46
  go_wp2_with (go_at_call 76; refine (stringslite_IndexByte _ _ _).mono ?_; rintro e w' ⟨rfl, rfl⟩)
  go_ret
  exact ⟨rfl, Drawn0.refl _⟩

end Go.Proofs.YtdnfmilnkoocdaaDoor.Q

-- from Qf65
-- Made by hp.py, a program of this session, with the kit's printer. Not trusted: Lean checks it.
namespace Go.Proofs.YtdnfmilnkoocdaaDoor.Q
open Go.RowKit Go.Proofs.YtdnfmilnkoocdaaDoorW.PrintWords Go.Proofs.YtdnfmilnkoocdaaDoorW.PrintLast Go.Proofs.YtdnfmilnkoocdaaDoorW.PrintMore
attribute [local go_sem] max2_int min2_int max_two min_two max_three min_three max_four min_four   -- for this text's walks alone
set_option linter.unusedVariables false
set_option linter.unusedSimpArgs false

/-! ### paronymref02_Hex: function 65 -/
mutual
def paronymref02_Hex.l0 : Nat → ByteArray → Int → Option (ByteArray)
  | 0, _, _ => none
  | k + 1, x3, x4 => if x4 > 0 then (paronymref02_Hex.j1 k x3 x4 true) else (paronymref02_Hex.j1 k x3 x4 (decide ((x3.size : Int) < 4)))
def paronymref02_Hex.j1 : Nat → ByteArray → Int → Bool → Option (ByteArray)
  | 0, _, _, _ => none
  | k + 1, x3, x4, x13 => if x13 = true then (if (Int.tmod x4 16) < 10 then ((some (([(wrap64 (48 + (Int.tmod x4 16))) % 256] : List Int) : List Int)).bind fun y101 => (if (strOfNums y101).size + x3.size ≤ 9223372036854775807 then (paronymref02_Hex.l0 k ((strOfNums y101) ++ x3) (wrap64 (Int.tdiv x4 16))) else (none))) else ((some (([(wrap64 (55 + (Int.tmod x4 16))) % 256] : List Int) : List Int)).bind fun y104 => (if (strOfNums y104).size + x3.size ≤ 9223372036854775807 then (paronymref02_Hex.l0 k ((strOfNums y104) ++ x3) (wrap64 (Int.tdiv x4 16))) else (none)))) else (some x3)
end
def paronymref02_Hex.f (k : Nat) (a0 : Int) : Option (ByteArray) := paronymref02_Hex.l0 k (⟨#[]⟩ : ByteArray) a0
theorem paronymref02_Hex.mono_l : ∀ k, (∀ y0 y1, LeO (paronymref02_Hex.l0 k y0 y1) (paronymref02_Hex.l0 (k + 1) y0 y1)) ∧ (∀ y0 y1 y2, LeO (paronymref02_Hex.j1 k y0 y1 y2) (paronymref02_Hex.j1 (k + 1) y0 y1 y2))
  | 0 => ⟨fun _ _ r h => by simp [paronymref02_Hex.l0] at h, fun _ _ _ r h => by simp [paronymref02_Hex.j1] at h⟩
  | k + 1 => by
    obtain ⟨ih0, ih1⟩ := paronymref02_Hex.mono_l k
    refine ⟨?_, ?_⟩
    · intro y0 y1
      unfold paronymref02_Hex.l0
      repeat' first
      | (with_reducible exact ih0 _ _)
      | (with_reducible exact ih1 _ _ _)
      | (with_reducible exact LeO.refl _)
      | (with_reducible exact LeO.none _)
      | (with_reducible refine LeO.ite ?_ ?_)
      | (with_reducible refine LeO.bind ?_ (fun _ => ?_))
      | exact ih0 _ _
      | exact ih1 _ _ _
      | exact LeO.none _
      | refine LeO.ite ?_ ?_
      | refine LeO.bind ?_ (fun _ => ?_)
    · intro y0 y1 y2
      unfold paronymref02_Hex.j1
      repeat' first
      | (with_reducible exact ih0 _ _)
      | (with_reducible exact ih1 _ _ _)
      | (with_reducible exact LeO.refl _)
      | (with_reducible exact LeO.none _)
      | (with_reducible refine LeO.ite ?_ ?_)
      | (with_reducible refine LeO.bind ?_ (fun _ => ?_))
      | exact ih0 _ _
      | exact ih1 _ _ _
      | exact LeO.none _
      | refine LeO.ite ?_ ?_
      | refine LeO.bind ?_ (fun _ => ?_)
theorem paronymref02_Hex.mono : ∀ a0 k, LeO (paronymref02_Hex.f k a0) (paronymref02_Hex.f (k + 1) a0) := by
  intro a0 k
  obtain ⟨ih0, ih1⟩ := paronymref02_Hex.mono_l k
  unfold paronymref02_Hex.f
  repeat' first
      | (with_reducible exact ih0 _ _)
      | (with_reducible exact ih1 _ _ _)
      | (with_reducible exact LeO.refl _)
      | (with_reducible exact LeO.none _)
      | (with_reducible refine LeO.ite ?_ ?_)
      | (with_reducible refine LeO.bind ?_ (fun _ => ?_))
      | exact ih0 _ _
      | exact ih1 _ _ _
      | exact LeO.none _
      | refine LeO.ite ?_ ?_
      | refine LeO.bind ?_ (fun _ => ?_)
set_option maxHeartbeats 8000000 in
set_option maxRecDepth 100000 in
theorem paronymref02_Hex.calls (k : Nat) (a0 : Int) (r : ByteArray) (w : World) (h : paronymref02_Hex.f k a0 = some r) :
    Calls Tryd.prog 65 #[.int .i64 a0] w fun e w' => e = .returned (.string r) ∧ Below w.heap.size w w' := by
  have HB := Aside0.mk (Below.refl w.heap.size w)
  have H : (paronymref02_Hex.l0 k (⟨#[]⟩ : ByteArray) a0) = some r := h
  clear h
  have H' := Aside0.mk H
  clear H
  go_enter Tryd.func65, Tryd.ntmps65
  go_wp2
  go_loopg [3, 4] k (fun kq v3 v4 w' => ∃ (x3_1 : ByteArray) (x4_1 : Int), v3 = .string x3_1 ∧ v4 = .int .i64 x4_1 ∧ Aside0 (paronymref02_Hex.l0 kq x3_1 x4_1 = some r) ∧ Aside0 (kq ≤ k) ∧ Aside0 (Below w.heap.size w w'))
  case atStart => exact ⟨((⟨#[]⟩ : ByteArray)), (a0), (by first | rfl | (simp; done) | (simp [*]; done)), (by first | rfl | (simp; done) | (simp [*]; done)), H', ⟨Nat.le_refl _⟩, ⟨by repeat (first | (with_reducible first | exact HB.out | apply below_alloc | apply pw_below_drewN | apply below_drew1) | exact HB.out)⟩⟩
  case round =>
    clear H'
    obtain ⟨x3_1, x4_1, rfl, rfl, HA, HK1, HB⟩ := hrel
    cases gk with
    | zero => exact absurd HA.out (by simp [paronymref02_Hex.l0])
    | succ k1 =>
      have H := HA.out
      clear HA
      simp only [paronymref02_Hex.l0] at H
      have HC2 := Aside0.mk H
      clear H
      go_upto_region 3 with (fail)
      go_cut [13] (fun v13 wc => ∃ (kq : Nat) (x13_1 : Bool), v13 = .bool x13_1 ∧ Aside0 (paronymref02_Hex.j1 kq x3_1 x4_1 x13_1 = some r) ∧ Aside0 (kq ≤ k1) ∧ Aside0 (Below w.heap.size w wc))
      case first =>
        have H := HC2.out
        clear HC2
        by_cases c3 : x4_1 > 0
        · rw [if_pos c3] at H
          have c3b0 : decide (0 < x4_1) = true := decide_eq_true c3
          clear c3
          (first | rw [c3b0] | (simp only [i64_w, i32_w]; rw [c3b0]) | rw [c3b1] | (simp only [i64_w, i32_w]; rw [c3b1]) | skip)
          have H' := Aside0.mk H
          clear H
          go_wp2
          go_meet
          case rel => exact ⟨_, (true), (by first | rfl | (simp; done) | (simp [*]; done)), H', ⟨by have := HK1.out; first | omega | exact Nat.le_refl _⟩, ⟨by repeat (first | (with_reducible first | exact HB.out | apply below_alloc | apply pw_below_drewN | apply below_drew1) | exact HB.out)⟩⟩
        · rw [if_neg c3] at H
          have c3b0 : decide (0 < x4_1) = false := decide_eq_false c3
          clear c3
          (first | rw [c3b0] | (simp only [i64_w, i32_w]; rw [c3b0]) | rw [c3b1] | (simp only [i64_w, i32_w]; rw [c3b1]) | skip)
          have H' := Aside0.mk H
          clear H
          go_wp2
          go_meet
          case rel => exact ⟨_, (decide ((x3_1.size : Int) < 4)), (by first | rfl | (simp; done) | (simp [*]; done)), H', ⟨by have := HK1.out; first | omega | exact Nat.le_refl _⟩, ⟨by repeat (first | (with_reducible first | exact HB.out | apply below_alloc | apply pw_below_drewN | apply below_drew1) | exact HB.out)⟩⟩
      case rest =>
        clear HC2
        try clear p2
        try clear c3
        try clear c3b0
        try clear c3b1
        obtain ⟨kq, x13_1, rfl, HA, HJ1, HB⟩ := hcut
        cases kq with
        | zero => exact absurd HA.out (by simp [paronymref02_Hex.j1])
        | succ kj1 =>
          have H := HA.out
          clear HA
          simp only [paronymref02_Hex.j1] at H
          by_cases c4 : x13_1 = true
          · subst c4
            have H1 : (if (Int.tmod x4_1 16) < 10 then ((some (([(wrap64 (48 + (Int.tmod x4_1 16))) % 256] : List Int) : List Int)).bind fun y101 => (if (strOfNums y101).size + x3_1.size ≤ 9223372036854775807 then (paronymref02_Hex.l0 kj1 ((strOfNums y101) ++ x3_1) (wrap64 (Int.tdiv x4_1 16))) else (none))) else ((some (([(wrap64 (55 + (Int.tmod x4_1 16))) % 256] : List Int) : List Int)).bind fun y104 => (if (strOfNums y104).size + x3_1.size ≤ 9223372036854775807 then (paronymref02_Hex.l0 kj1 ((strOfNums y104) ++ x3_1) (wrap64 (Int.tdiv x4_1 16))) else (none)))) = some r := by rw [if_pos rfl] at H; exact H
            clear H
            have H := H1
            clear H1
            by_cases c5 : (Int.tmod x4_1 16) < 10
            · rw [if_pos c5] at H
              have c5b0 : decide ((Int.tmod x4_1 16) < 10) = true := decide_eq_true c5
              clear c5
              obtain ⟨y101, hy101⟩ : ∃ y_ : List Int, y_ = (([(wrap64 (48 + (Int.tmod x4_1 16))) % 256] : List Int)) := ⟨_, rfl⟩
              replace H : (if (strOfNums y101).size + x3_1.size ≤ 9223372036854775807 then (paronymref02_Hex.l0 kj1 ((strOfNums y101) ++ x3_1) (wrap64 (Int.tdiv x4_1 16))) else (none)) = some r := by first | (rw [hy101]; with_reducible exact H) | (have H2_ := (Option.bind_some _ _).symm.trans H; rw [hy101]; with_reducible exact H2_) | (have H2_ := (Option.bind_some _ _).symm.trans H; with_reducible exact H2_) | with_reducible exact H | (rw [hy101]; exact H) | exact H
              have Ny101 := Aside0.mk hy101
              clear hy101
              by_cases c6 : (strOfNums y101).size + x3_1.size ≤ 9223372036854775807
              · rw [if_pos c6] at H
                have c6b0 := eq_true c6
                have c6b1 : decide ((strOfNums y101).size + x3_1.size ≤ 9223372036854775807) = true := decide_eq_true c6
                try have c6b2 : (9223372036854775807 < (strOfNums y101).size + x3_1.size) = False := eq_false (Nat.not_lt.2 c6)
                have H' := Aside0.mk H
                clear H
                go_wp2_with (first | ((with_reducible refine gate_dst (N := 23) rfl ?_); (try (refine gate_guard (by rfl) ?_; dsimp only)); refine Kd.R_lit (Kd.int .u8) _ 5 ?hg (N := 23) ?hd (xs := ([(wrap64 (48 + (Int.tmod x4_1 16))) % 256] : List Int)) (inner := [.int .u8 ((wrap64 (48 + (Int.tmod x4_1 16))) % 256)]) (ok := fun _ => True) (okp := fun _ => True) ?hr ?hp (fun _ hk => hk) trivial (Below.refl _ _) (Nat.le_refl _) (by simp) ?_; (case hd => rfl); (case hg => rfl); (case hr => first | (go_simp; done) | (go_simp; rfl)); (case hp => exact (Reps.one (show Kd.M (Kd.int .u8) _ _ _ ((wrap64 (48 + (Int.tmod x4_1 16))) % 256) [.int .u8 ((wrap64 (48 + (Int.tmod x4_1 16))) % 256)] from rfl) (Reps.none _ _))); intro v102 w7 ho8 hb hg_ hnew_; clear hg_ hnew_; (first | rw [← Ny101.out] at ho8 | (simp only [Int.reduceToNat] at ho8; rw [← Ny101.out] at ho8)); have n0_ := Aside0.mk (Kd.R_lower ho8 (below_size (by repeat (first | (with_reducible first | exact HB.out | apply below_alloc | apply pw_below_drewN | apply below_drew1) | exact HB.out)))); have n1_ := Aside0.mk (below_step (by repeat (first | (with_reducible first | exact HB.out | apply below_alloc | apply pw_below_drewN | apply below_drew1) | exact HB.out)) hb); clear HB; have HO103 := n0_; have HB := n1_; clear n0_ n1_; clear hb ho8; have hcv9 := own_string (P := Tryd.prog) Tryd.underlying22 Tryd.underlying5 Tryd.underlying9 (Kd.own_of_R HO103.out); have hcv10 := fun (nd_ : Nat) => own_string (P := Tryd.prog) Tryd.underlying22 Tryd.underlying5 Tryd.underlying9 (Kd.own_of_R (Kd.R_drewN HO103.out nd_))))
                go_roundg kj1
                case measure => have := HK1.out; have := HJ1.out; omega
                case rel => exact ⟨((strOfNums y101) ++ x3_1), (wrap64 (Int.tdiv x4_1 16)), (by first | rfl | (simp; done) | (simp [*]; done)), (by first | rfl | (simp; done) | (simp [*]; done)), H', ⟨by have := HK1.out; have := HJ1.out; omega⟩, ⟨by repeat (first | (with_reducible first | exact HB.out | apply below_alloc | apply pw_below_drewN | apply below_drew1) | exact HB.out)⟩⟩
              · rw [if_neg c6] at H
                exact absurd H (by simp)
            · rw [if_neg c5] at H
              have c5b0 : decide ((Int.tmod x4_1 16) < 10) = false := decide_eq_false c5
              clear c5
              obtain ⟨y104, hy104⟩ : ∃ y_ : List Int, y_ = (([(wrap64 (55 + (Int.tmod x4_1 16))) % 256] : List Int)) := ⟨_, rfl⟩
              replace H : (if (strOfNums y104).size + x3_1.size ≤ 9223372036854775807 then (paronymref02_Hex.l0 kj1 ((strOfNums y104) ++ x3_1) (wrap64 (Int.tdiv x4_1 16))) else (none)) = some r := by first | (rw [hy104]; with_reducible exact H) | (have H2_ := (Option.bind_some _ _).symm.trans H; rw [hy104]; with_reducible exact H2_) | (have H2_ := (Option.bind_some _ _).symm.trans H; with_reducible exact H2_) | with_reducible exact H | (rw [hy104]; exact H) | exact H
              have Ny104 := Aside0.mk hy104
              clear hy104
              by_cases c11 : (strOfNums y104).size + x3_1.size ≤ 9223372036854775807
              · rw [if_pos c11] at H
                have c11b0 := eq_true c11
                have c11b1 : decide ((strOfNums y104).size + x3_1.size ≤ 9223372036854775807) = true := decide_eq_true c11
                try have c11b2 : (9223372036854775807 < (strOfNums y104).size + x3_1.size) = False := eq_false (Nat.not_lt.2 c11)
                have H' := Aside0.mk H
                clear H
                go_wp2_with (first | ((with_reducible refine gate_dst (N := 30) rfl ?_); (try (refine gate_guard (by rfl) ?_; dsimp only)); refine Kd.R_lit (Kd.int .u8) _ 5 ?hg (N := 30) ?hd (xs := ([(wrap64 (55 + (Int.tmod x4_1 16))) % 256] : List Int)) (inner := [.int .u8 ((wrap64 (55 + (Int.tmod x4_1 16))) % 256)]) (ok := fun _ => True) (okp := fun _ => True) ?hr ?hp (fun _ hk => hk) trivial (Below.refl _ _) (Nat.le_refl _) (by simp) ?_; (case hd => rfl); (case hg => rfl); (case hr => first | (go_simp; done) | (go_simp; rfl)); (case hp => exact (Reps.one (show Kd.M (Kd.int .u8) _ _ _ ((wrap64 (55 + (Int.tmod x4_1 16))) % 256) [.int .u8 ((wrap64 (55 + (Int.tmod x4_1 16))) % 256)] from rfl) (Reps.none _ _))); intro v105 w12 ho13 hb hg_ hnew_; clear hg_ hnew_; (first | rw [← Ny104.out] at ho13 | (simp only [Int.reduceToNat] at ho13; rw [← Ny104.out] at ho13)); have n0_ := Aside0.mk (Kd.R_lower ho13 (below_size (by repeat (first | (with_reducible first | exact HB.out | apply below_alloc | apply pw_below_drewN | apply below_drew1) | exact HB.out)))); have n1_ := Aside0.mk (below_step (by repeat (first | (with_reducible first | exact HB.out | apply below_alloc | apply pw_below_drewN | apply below_drew1) | exact HB.out)) hb); clear HB; have HO106 := n0_; have HB := n1_; clear n0_ n1_; clear hb ho13; have hcv14 := own_string (P := Tryd.prog) Tryd.underlying22 Tryd.underlying5 Tryd.underlying9 (Kd.own_of_R HO106.out); have hcv15 := fun (nd_ : Nat) => own_string (P := Tryd.prog) Tryd.underlying22 Tryd.underlying5 Tryd.underlying9 (Kd.own_of_R (Kd.R_drewN HO106.out nd_))))
                go_roundg kj1
                case measure => have := HK1.out; have := HJ1.out; omega
                case rel => exact ⟨((strOfNums y104) ++ x3_1), (wrap64 (Int.tdiv x4_1 16)), (by first | rfl | (simp; done) | (simp [*]; done)), (by first | rfl | (simp; done) | (simp [*]; done)), H', ⟨by have := HK1.out; have := HJ1.out; omega⟩, ⟨by repeat (first | (with_reducible first | exact HB.out | apply below_alloc | apply pw_below_drewN | apply below_drew1) | exact HB.out)⟩⟩
              · rw [if_neg c11] at H
                exact absurd H (by simp)
          · replace c4 := Bool.eq_false_iff.mpr c4
            subst c4
            have H1 : (some x3_1) = some r := by rw [if_neg (show ¬ (false = true) by decide)] at H; exact H
            clear H
            have H := H1
            clear H1
            obtain rfl := Option.some.inj H
            go_wp2
            go_ret
            exact ⟨by first | rfl | (simp [errW_none, errW_some] <;> rfl) | (simp [*, errW_none, errW_some] <;> rfl), by repeat (first | (with_reducible first | exact HB.out | apply below_alloc | apply pw_below_drewN | apply below_drew1) | exact HB.out)⟩

end Go.Proofs.YtdnfmilnkoocdaaDoor.Q

-- from Qf36
-- Made by hp.py, a program of this session, with the kit's printer. Not trusted: Lean checks it.
namespace Go.Proofs.YtdnfmilnkoocdaaDoor.Q
open Go.RowKit Go.Proofs.YtdnfmilnkoocdaaDoorW.PrintWords Go.Proofs.YtdnfmilnkoocdaaDoorW.PrintLast Go.Proofs.YtdnfmilnkoocdaaDoorW.PrintMore
attribute [local go_sem] max2_int min2_int max_two min_two max_three min_three max_four min_four   -- for this text's walks alone
set_option linter.unusedVariables false
set_option linter.unusedSimpArgs false

/-! ### paronymref02_Point: function 36 -/
mutual
def paronymref02_Point.j0 : Nat → ByteArray → Bool → Option (Int)
  | 0, _, _ => none
  | k + 1, x0, x13 => if x13 = true then (some (-1)) else (paronymref02_Point.l0 k x0 0 0)
def paronymref02_Point.l0 : Nat → ByteArray → Int → Int → Option (Int)
  | 0, _, _, _ => none
  | k + 1, x0, x3, x4 => if x4 < (x0.size : Int) then (if 0 ≤ x4 then (if (wrap64 (bt x0 x4)) ≥ 48 then (paronymref02_Point.j2 k x0 x3 x4 (wrap64 (bt x0 x4)) (decide ((wrap64 (bt x0 x4)) ≤ 57))) else (paronymref02_Point.j2 k x0 x3 x4 (wrap64 (bt x0 x4)) false)) else (none)) else (if x3 > 1114111 then (some (-1)) else ((paronymref02_Hex.f k x3).bind fun t101 => (if t101.toList = x0.toList then (some x3) else (some (-1)))))
def paronymref02_Point.j2 : Nat → ByteArray → Int → Int → Int → Bool → Option (Int)
  | 0, _, _, _, _, _ => none
  | k + 1, x0, x3, x4, x5, x29 => if x29 = true then (paronymref02_Point.l0 k x0 (wrap64 ((wrap64 ((wrap64 (x3 * 16)) + x5)) - 48)) (wrap64 (x4 + 1))) else (if x5 ≥ 65 then (if x5 ≤ 70 then (paronymref02_Point.l0 k x0 (wrap64 ((wrap64 ((wrap64 (x3 * 16)) + x5)) - 55)) (wrap64 (x4 + 1))) else (some (-1))) else (some (-1)))
end
def paronymref02_Point.f (k : Nat) (a0 : ByteArray) : Option (Int) := if (a0.size : Int) < 4 then (paronymref02_Point.j0 k a0 true) else (paronymref02_Point.j0 k a0 (decide ((a0.size : Int) > 6)))
theorem paronymref02_Point.mono_l : ∀ k, (∀ y0 y1, LeO (paronymref02_Point.j0 k y0 y1) (paronymref02_Point.j0 (k + 1) y0 y1)) ∧ (∀ y0 y1 y2, LeO (paronymref02_Point.l0 k y0 y1 y2) (paronymref02_Point.l0 (k + 1) y0 y1 y2)) ∧ (∀ y0 y1 y2 y3 y4, LeO (paronymref02_Point.j2 k y0 y1 y2 y3 y4) (paronymref02_Point.j2 (k + 1) y0 y1 y2 y3 y4))
  | 0 => ⟨fun _ _ r h => by simp [paronymref02_Point.j0] at h, fun _ _ _ r h => by simp [paronymref02_Point.l0] at h, fun _ _ _ _ _ r h => by simp [paronymref02_Point.j2] at h⟩
  | k + 1 => by
    obtain ⟨ih0, ih1, ih2⟩ := paronymref02_Point.mono_l k
    refine ⟨?_, ?_, ?_⟩
    · intro y0 y1
      unfold paronymref02_Point.j0
      repeat' first
      | (with_reducible exact ih0 _ _)
      | (with_reducible exact ih1 _ _ _)
      | (with_reducible exact ih2 _ _ _ _ _)
      | (with_reducible exact paronymref02_Hex.mono _ _)
      | (with_reducible exact LeO.refl _)
      | (with_reducible exact LeO.none _)
      | (with_reducible refine LeO.ite ?_ ?_)
      | (with_reducible refine LeO.bind ?_ (fun _ => ?_))
      | exact ih0 _ _
      | exact ih1 _ _ _
      | exact ih2 _ _ _ _ _
      | exact paronymref02_Hex.mono _ _
      | exact LeO.none _
      | refine LeO.ite ?_ ?_
      | refine LeO.bind ?_ (fun _ => ?_)
    · intro y0 y1 y2
      unfold paronymref02_Point.l0
      repeat' first
      | (with_reducible exact ih0 _ _)
      | (with_reducible exact ih1 _ _ _)
      | (with_reducible exact ih2 _ _ _ _ _)
      | (with_reducible exact paronymref02_Hex.mono _ _)
      | (with_reducible exact LeO.refl _)
      | (with_reducible exact LeO.none _)
      | (with_reducible refine LeO.ite ?_ ?_)
      | (with_reducible refine LeO.bind ?_ (fun _ => ?_))
      | exact ih0 _ _
      | exact ih1 _ _ _
      | exact ih2 _ _ _ _ _
      | exact paronymref02_Hex.mono _ _
      | exact LeO.none _
      | refine LeO.ite ?_ ?_
      | refine LeO.bind ?_ (fun _ => ?_)
    · intro y0 y1 y2 y3 y4
      unfold paronymref02_Point.j2
      repeat' first
      | (with_reducible exact ih0 _ _)
      | (with_reducible exact ih1 _ _ _)
      | (with_reducible exact ih2 _ _ _ _ _)
      | (with_reducible exact paronymref02_Hex.mono _ _)
      | (with_reducible exact LeO.refl _)
      | (with_reducible exact LeO.none _)
      | (with_reducible refine LeO.ite ?_ ?_)
      | (with_reducible refine LeO.bind ?_ (fun _ => ?_))
      | exact ih0 _ _
      | exact ih1 _ _ _
      | exact ih2 _ _ _ _ _
      | exact paronymref02_Hex.mono _ _
      | exact LeO.none _
      | refine LeO.ite ?_ ?_
      | refine LeO.bind ?_ (fun _ => ?_)
theorem paronymref02_Point.mono : ∀ a0 k, LeO (paronymref02_Point.f k a0) (paronymref02_Point.f (k + 1) a0) := by
  intro a0 k
  obtain ⟨ih0, ih1, ih2⟩ := paronymref02_Point.mono_l k
  unfold paronymref02_Point.f
  repeat' first
      | (with_reducible exact ih0 _ _)
      | (with_reducible exact ih1 _ _ _)
      | (with_reducible exact ih2 _ _ _ _ _)
      | (with_reducible exact paronymref02_Hex.mono _ _)
      | (with_reducible exact LeO.refl _)
      | (with_reducible exact LeO.none _)
      | (with_reducible refine LeO.ite ?_ ?_)
      | (with_reducible refine LeO.bind ?_ (fun _ => ?_))
      | exact ih0 _ _
      | exact ih1 _ _ _
      | exact ih2 _ _ _ _ _
      | exact paronymref02_Hex.mono _ _
      | exact LeO.none _
      | refine LeO.ite ?_ ?_
      | refine LeO.bind ?_ (fun _ => ?_)
set_option maxHeartbeats 8000000 in
set_option maxRecDepth 100000 in
theorem paronymref02_Point.calls (k : Nat) (a0 : ByteArray) (r : Int) (w : World) (h : paronymref02_Point.f k a0 = some r) :
    Calls Tryd.prog 36 #[.string a0] w fun e w' => e = .returned (.int .i64 r) ∧ Below w.heap.size w w' := by
  have HB := Aside0.mk (Below.refl w.heap.size w)
  have H : (if (a0.size : Int) < 4 then (paronymref02_Point.j0 k a0 true) else (paronymref02_Point.j0 k a0 (decide ((a0.size : Int) > 6)))) = some r := h
  clear h
  have HC2 := Aside0.mk H
  clear H
  go_enter Tryd.func36, Tryd.ntmps36
  go_upto_region 1 with (fail)
  go_cut [13] (fun v13 wc => ∃ (kq : Nat) (x13_1 : Bool), v13 = .bool x13_1 ∧ Aside0 (paronymref02_Point.j0 kq a0 x13_1 = some r) ∧ Aside0 (kq ≤ k) ∧ Aside0 (Below w.heap.size w wc))
  case first =>
    have H := HC2.out
    clear HC2
    by_cases c3 : (a0.size : Int) < 4
    · rw [if_pos c3] at H
      have c3b0 : decide ((a0.size : Int) < 4) = true := decide_eq_true c3
      have c3b1 : decide (a0.size < 4) = true := decide_eq_true (by omega)
      clear c3
      (first | rw [c3b0] | (simp only [i64_w, i32_w]; rw [c3b0]) | rw [c3b1] | (simp only [i64_w, i32_w]; rw [c3b1]) | skip)
      have H' := Aside0.mk H
      clear H
      go_wp2
      go_meet
      case rel => exact ⟨_, (true), (by first | rfl | (simp; done) | (simp [*]; done)), H', ⟨by first | omega | exact Nat.le_refl _⟩, ⟨by repeat (first | (with_reducible first | exact HB.out | apply below_alloc | apply pw_below_drewN | apply below_drew1) | exact HB.out)⟩⟩
    · rw [if_neg c3] at H
      have c3b0 : decide ((a0.size : Int) < 4) = false := decide_eq_false c3
      have c3b1 : decide (a0.size < 4) = false := decide_eq_false (by omega)
      clear c3
      (first | rw [c3b0] | (simp only [i64_w, i32_w]; rw [c3b0]) | rw [c3b1] | (simp only [i64_w, i32_w]; rw [c3b1]) | skip)
      have H' := Aside0.mk H
      clear H
      go_wp2
      go_meet
      case rel => exact ⟨_, (decide ((a0.size : Int) > 6)), (by first | rfl | (simp; done) | (simp [*]; done)), H', ⟨by first | omega | exact Nat.le_refl _⟩, ⟨by repeat (first | (with_reducible first | exact HB.out | apply below_alloc | apply pw_below_drewN | apply below_drew1) | exact HB.out)⟩⟩
  case rest =>
    clear HC2
    try clear p2
    try clear c3
    try clear c3b0
    try clear c3b1
    obtain ⟨kq, x13_1, rfl, HA, HJ1, HB⟩ := hcut
    cases kq with
    | zero => exact absurd HA.out (by simp [paronymref02_Point.j0])
    | succ kj1 =>
      have H := HA.out
      clear HA
      simp only [paronymref02_Point.j0] at H
      by_cases c4 : x13_1 = true
      · subst c4
        have H1 : (some (-1)) = some r := by rw [if_pos rfl] at H; exact H
        clear H
        have H := H1
        clear H1
        obtain rfl := Option.some.inj H
        go_wp2
        go_ret
        exact ⟨by first | rfl | (simp [errW_none, errW_some] <;> rfl) | (simp [*, errW_none, errW_some] <;> rfl), by repeat (first | (with_reducible first | exact HB.out | apply below_alloc | apply pw_below_drewN | apply below_drew1) | exact HB.out)⟩
      · replace c4 := Bool.eq_false_iff.mpr c4
        subst c4
        have H1 : (paronymref02_Point.l0 kj1 a0 0 0) = some r := by rw [if_neg (show ¬ (false = true) by decide)] at H; exact H
        clear H
        have H := H1
        clear H1
        have H' := Aside0.mk H
        clear H
        go_wp2
        go_loopg [3, 4] kj1 (fun kq v3 v4 w' => ∃ (x3_2 : Int) (x4_2 : Int), v3 = .int .i64 x3_2 ∧ v4 = .int .i64 x4_2 ∧ Aside0 (paronymref02_Point.l0 kq a0 x3_2 x4_2 = some r) ∧ Aside0 (kq ≤ kj1) ∧ Aside0 (Below w.heap.size w w'))
        case atStart => exact ⟨(0), (0), (by first | rfl | (simp; done) | (simp [*]; done)), (by first | rfl | (simp; done) | (simp [*]; done)), H', ⟨Nat.le_refl _⟩, ⟨by repeat (first | (with_reducible first | exact HB.out | apply below_alloc | apply pw_below_drewN | apply below_drew1) | exact HB.out)⟩⟩
        case round =>
          clear H'
          try clear p2
          try clear c3
          try clear c3b0
          try clear c3b1
          try clear c4
          try clear p2
          obtain ⟨x3_2, x4_2, rfl, rfl, HA, HK2, HB⟩ := hrel
          cases gk with
          | zero => exact absurd HA.out (by simp [paronymref02_Point.l0])
          | succ k2 =>
            have H := HA.out
            clear HA
            simp only [paronymref02_Point.l0] at H
            by_cases c5 : x4_2 < (a0.size : Int)
            · rw [if_pos c5] at H
              have c5b0 : decide (x4_2 < (a0.size : Int)) = true := decide_eq_true c5
              clear c5
              by_cases c6 : 0 ≤ x4_2
              · rw [if_pos c6] at H
                have c6b0 : decide (0 ≤ x4_2) = true := decide_eq_true c6
                clear c6
                have HC8 := Aside0.mk H
                clear H
                have p7 : 0 ≤ (x4_2 : Int) := of_decide_eq_true (by first | (with_reducible assumption) | assumption)
                have q7 : x4_2 < (a0.size : Int) := of_decide_eq_true (by first | (with_reducible assumption) | assumption)
                have hx7 := bt_at a0 x4_2
                replace p7 := eq_true p7
                replace q7 := eq_true q7
                go_upto_region 8 with (fail)
                go_cut [29] (fun v29 wc => ∃ (kq : Nat) (x29_7 : Bool), v29 = .bool x29_7 ∧ Aside0 (paronymref02_Point.j2 kq a0 x3_2 x4_2 (wrap64 (bt a0 x4_2)) x29_7 = some r) ∧ Aside0 (kq ≤ k2) ∧ Aside0 (Below w.heap.size w wc))
                case first =>
                  have H := HC8.out
                  clear HC8
                  by_cases c9 : (wrap64 (bt a0 x4_2)) ≥ 48
                  · rw [if_pos c9] at H
                    have c9b0 : decide (48 ≤ (wrap64 (bt a0 x4_2))) = true := decide_eq_true c9
                    clear c9
                    (first | rw [c9b0] | (simp only [i64_w, i32_w]; rw [c9b0]) | rw [c9b1] | (simp only [i64_w, i32_w]; rw [c9b1]) | skip)
                    have H' := Aside0.mk H
                    clear H
                    go_wp2
                    go_meet
                    case rel => exact ⟨_, (decide ((wrap64 (bt a0 x4_2)) ≤ 57)), (by first | rfl | (simp; done) | (simp [*]; done)), H', ⟨by have := HJ1.out; have := HK2.out; first | omega | exact Nat.le_refl _⟩, ⟨by repeat (first | (with_reducible first | exact HB.out | apply below_alloc | apply pw_below_drewN | apply below_drew1) | exact HB.out)⟩⟩
                  · rw [if_neg c9] at H
                    have c9b0 : decide (48 ≤ (wrap64 (bt a0 x4_2))) = false := decide_eq_false c9
                    clear c9
                    (first | rw [c9b0] | (simp only [i64_w, i32_w]; rw [c9b0]) | rw [c9b1] | (simp only [i64_w, i32_w]; rw [c9b1]) | skip)
                    have H' := Aside0.mk H
                    clear H
                    go_wp2
                    go_meet
                    case rel => exact ⟨_, (false), (by first | rfl | (simp; done) | (simp [*]; done)), H', ⟨by have := HJ1.out; have := HK2.out; first | omega | exact Nat.le_refl _⟩, ⟨by repeat (first | (with_reducible first | exact HB.out | apply below_alloc | apply pw_below_drewN | apply below_drew1) | exact HB.out)⟩⟩
                case rest =>
                  clear HC8
                  try clear p2
                  try clear c3
                  try clear c3b0
                  try clear c3b1
                  try clear c4
                  try clear c5
                  try clear c5b0
                  try clear c6
                  try clear c6b0
                  try clear p6
                  try clear p7
                  try clear q7
                  try clear hx7
                  try clear c9
                  try clear c9b0
                  try clear c9b1
                  try clear p2
                  try clear p7
                  try clear q7
                  obtain ⟨kq, x29_7, rfl, HA, HJ7, HB⟩ := hcut
                  cases kq with
                  | zero => exact absurd HA.out (by simp [paronymref02_Point.j2])
                  | succ kj7 =>
                    have H := HA.out
                    clear HA
                    simp only [paronymref02_Point.j2] at H
                    by_cases c10 : x29_7 = true
                    · subst c10
                      have H1 : (paronymref02_Point.l0 kj7 a0 (wrap64 ((wrap64 ((wrap64 (x3_2 * 16)) + (wrap64 (bt a0 x4_2)))) - 48)) (wrap64 (x4_2 + 1))) = some r := by rw [if_pos rfl] at H; exact H
                      clear H
                      have H := H1
                      clear H1
                      have H' := Aside0.mk H
                      clear H
                      go_wp2
                      go_roundg kj7
                      case measure => have := HJ1.out; have := HK2.out; have := HJ7.out; omega
                      case rel => exact ⟨(wrap64 ((wrap64 ((wrap64 (x3_2 * 16)) + (wrap64 (bt a0 x4_2)))) - 48)), (wrap64 (x4_2 + 1)), (by first | rfl | (simp; done) | (simp [*]; done)), (by first | rfl | (simp; done) | (simp [*]; done)), H', ⟨by have := HJ1.out; have := HK2.out; have := HJ7.out; omega⟩, ⟨by repeat (first | (with_reducible first | exact HB.out | apply below_alloc | apply pw_below_drewN | apply below_drew1) | exact HB.out)⟩⟩
                    · replace c10 := Bool.eq_false_iff.mpr c10
                      subst c10
                      have H1 : (if (wrap64 (bt a0 x4_2)) ≥ 65 then (if (wrap64 (bt a0 x4_2)) ≤ 70 then (paronymref02_Point.l0 kj7 a0 (wrap64 ((wrap64 ((wrap64 (x3_2 * 16)) + (wrap64 (bt a0 x4_2)))) - 55)) (wrap64 (x4_2 + 1))) else (some (-1))) else (some (-1))) = some r := by rw [if_neg (show ¬ (false = true) by decide)] at H; exact H
                      clear H
                      have H := H1
                      clear H1
                      by_cases c11 : (wrap64 (bt a0 x4_2)) ≥ 65
                      · rw [if_pos c11] at H
                        have c11b0 : decide (65 ≤ (wrap64 (bt a0 x4_2))) = true := decide_eq_true c11
                        clear c11
                        by_cases c12 : (wrap64 (bt a0 x4_2)) ≤ 70
                        · rw [if_pos c12] at H
                          have c12b0 : decide ((wrap64 (bt a0 x4_2)) ≤ 70) = true := decide_eq_true c12
                          clear c12
                          have H' := Aside0.mk H
                          clear H
                          go_wp2
                          go_roundg kj7
                          case measure => have := HJ1.out; have := HK2.out; have := HJ7.out; omega
                          case rel => exact ⟨(wrap64 ((wrap64 ((wrap64 (x3_2 * 16)) + (wrap64 (bt a0 x4_2)))) - 55)), (wrap64 (x4_2 + 1)), (by first | rfl | (simp; done) | (simp [*]; done)), (by first | rfl | (simp; done) | (simp [*]; done)), H', ⟨by have := HJ1.out; have := HK2.out; have := HJ7.out; omega⟩, ⟨by repeat (first | (with_reducible first | exact HB.out | apply below_alloc | apply pw_below_drewN | apply below_drew1) | exact HB.out)⟩⟩
                        · rw [if_neg c12] at H
                          have c12b0 : decide ((wrap64 (bt a0 x4_2)) ≤ 70) = false := decide_eq_false c12
                          clear c12
                          obtain rfl := Option.some.inj H
                          go_wp2
                          go_ret
                          exact ⟨by first | rfl | (simp [errW_none, errW_some] <;> rfl) | (simp [*, errW_none, errW_some] <;> rfl), by repeat (first | (with_reducible first | exact HB.out | apply below_alloc | apply pw_below_drewN | apply below_drew1) | exact HB.out)⟩
                      · rw [if_neg c11] at H
                        have c11b0 : decide (65 ≤ (wrap64 (bt a0 x4_2))) = false := decide_eq_false c11
                        clear c11
                        obtain rfl := Option.some.inj H
                        go_wp2
                        go_ret
                        exact ⟨by first | rfl | (simp [errW_none, errW_some] <;> rfl) | (simp [*, errW_none, errW_some] <;> rfl), by repeat (first | (with_reducible first | exact HB.out | apply below_alloc | apply pw_below_drewN | apply below_drew1) | exact HB.out)⟩
              · rw [if_neg c6] at H
                exact absurd H (by simp)
            · rw [if_neg c5] at H
              have c5b0 : decide (x4_2 < (a0.size : Int)) = false := decide_eq_false c5
              clear c5
              by_cases c13 : x3_2 > 1114111
              · rw [if_pos c13] at H
                have c13b0 : decide (1114111 < x3_2) = true := decide_eq_true c13
                clear c13
                obtain rfl := Option.some.inj H
                go_wp2
                go_ret
                exact ⟨by first | rfl | (simp [errW_none, errW_some] <;> rfl) | (simp [*, errW_none, errW_some] <;> rfl), by repeat (first | (with_reducible first | exact HB.out | apply below_alloc | apply pw_below_drewN | apply below_drew1) | exact HB.out)⟩
              · rw [if_neg c13] at H
                have c13b0 : decide (1114111 < x3_2) = false := decide_eq_false c13
                clear c13
                replace H := Option.bind_eq_some_iff.mp H
                obtain ⟨t101, A140, H⟩ := H
                replace H : (if t101.toList = a0.toList then (some x3_2) else (some (-1))) = some r := H
                have A14 := Aside0.mk A140
                clear A140
                by_cases c15 : t101.toList = a0.toList
                · rw [if_pos c15] at H
                  have c15b0 : (t101.toList == a0.toList) = true := beq_iff_eq.mpr c15
                  have c15b1 : (t101.toList != a0.toList) = false := bne_eq_false_iff_eq.mpr c15
                  clear c15
                  obtain rfl := Option.some.inj H
                  go_wp2_with (first | (go_at_call 65; (with_reducible refine (paronymref02_Hex.calls k2 x3_2 t101 _ A14.out).mono ?_); rintro e w16 ⟨rfl, hb⟩; have n0_ := Aside0.mk (below_step (by repeat (first | (with_reducible first | exact HB.out | apply below_alloc | apply pw_below_drewN | apply below_drew1) | exact HB.out)) hb); clear HB; have HB := n0_; clear n0_; (try clear hb); (try clear hb2); (try clear hk); (try clear hi)))
                  go_ret
                  exact ⟨by first | rfl | (simp [errW_none, errW_some] <;> rfl) | (simp [*, errW_none, errW_some] <;> rfl), by repeat (first | (with_reducible first | exact HB.out | apply below_alloc | apply pw_below_drewN | apply below_drew1) | exact HB.out)⟩
                · rw [if_neg c15] at H
                  have c15b0 : (t101.toList == a0.toList) = false := beq_eq_false_iff_ne.mpr c15
                  have c15b1 : (t101.toList != a0.toList) = true := bne_iff_ne.mpr c15
                  obtain rfl := Option.some.inj H
                  go_wp2_with (first | (go_at_call 65; (with_reducible refine (paronymref02_Hex.calls k2 x3_2 t101 _ A14.out).mono ?_); rintro e w17 ⟨rfl, hb⟩; have n0_ := Aside0.mk (below_step (by repeat (first | (with_reducible first | exact HB.out | apply below_alloc | apply pw_below_drewN | apply below_drew1) | exact HB.out)) hb); clear HB; have HB := n0_; clear n0_; (try clear hb); (try clear hb2); (try clear hk); (try clear hi)))
                  go_ret
                  exact ⟨by first | rfl | (simp [errW_none, errW_some] <;> rfl) | (simp [*, errW_none, errW_some] <;> rfl), by repeat (first | (with_reducible first | exact HB.out | apply below_alloc | apply pw_below_drewN | apply below_drew1) | exact HB.out)⟩

end Go.Proofs.YtdnfmilnkoocdaaDoor.Q
