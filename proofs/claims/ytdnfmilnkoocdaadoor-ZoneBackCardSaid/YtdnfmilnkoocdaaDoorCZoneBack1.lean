/- Part 1 of 4 of the proof of ZoneBack: a written zone is read back For every input; no condition. -/
import Derived.Test.YtdnfmilnkoocdaaDoorProg
import Derived.Below
import Derived.Deep.Draws
import Derived.Deep.AppendLies
import Derived.Maps.AppendAt
import Derived.OwnWalk
import Derived.Laws.BytesArg
import Derived.Laws.MakeOwn
import Derived.Laws.OwnMore
import Derived.Deep.OwnRows
import Derived.Tactics
import Derived.Lib.ConvBytes
import Derived.Laws.Slices
import Derived.WalkKit
import Derived.KernelRfl
import Derived.RowKit3
import Derived.Deep.LoopGhost
import Derived.Deep.QuietTactic
import Derived.BigQuiet
import Derived.WideLaws
import Derived.Deep.DeepCutAuto
import Derived.Deep.CutBlock
import Derived.Deep.RegionHeld3
import Derived.Laws.Rows
import Derived.Lib.AppendStr
import Derived.ArgAppend
import Derived.Laws.IdiomCopy
import Derived.OrdersHeld
import Derived.Laws.BitsLemmas
import Derived.RowKit
import Derived.Test.YtdnfmilnkoocdaaDoorWWords
import Derived.Test.YtdnfmilnkoocdaaDoorWLast
import Derived.Test.YtdnfmilnkoocdaaDoorWTab
import Derived.Test.YtdnfmilnkoocdaaDoorWFour
import Derived.Test.YtdnfmilnkoocdaaDoorWQPut
import Derived.Test.YtdnfmilnkoocdaaDoorWApart
import Derived.Test.YtdnfmilnkoocdaaDoorWArr
import Derived.Test.YtdnfmilnkoocdaaDoorWZeros
import Derived.Test.YtdnfmilnkoocdaaDoorWFoot
import Derived.Test.YtdnfmilnkoocdaaDoorWKept
import Derived.Test.YtdnfmilnkoocdaaDoorWShare
import Derived.Test.YtdnfmilnkoocdaaDoorWN
import Derived.Test.YtdnfmilnkoocdaaDoorWFootNe
import Derived.Test.YtdnfmilnkoocdaaDoorWAt
import Derived.Test.YtdnfmilnkoocdaaDoorWEqStruct
import Derived.Test.YtdnfmilnkoocdaaDoorWRepsOne
import Derived.Test.YtdnfmilnkoocdaaDoorWInv
import Derived.Test.YtdnfmilnkoocdaaDoorWInvWords
import Derived.Test.YtdnfmilnkoocdaaDoorWGuard
import Derived.Test.YtdnfmilnkoocdaaDoorWNEv
import Derived.Test.YtdnfmilnkoocdaaDoorWMore
import Derived.Lib.Bytes
import Derived.ProofKit
import Derived.OpenShut
import Derived.ShutString
import Derived.LaidMore
import Derived.ChangeOld
import Derived.Lib.SlBytesConst
import Derived.Ground.NamesProg
import Derived.Ground.SlbSplitProg
import Derived.Ground.SlbCloneProg
import Derived.Shelf.Lay
import Derived.Shelf.Bytes.SlClone
import Derived.Shelf.Bytes.SlSplit
import Derived.Shelf.Bytes.SlSplitNil
import Derived.Shelf.Bytes.SlSmallAll
import Derived.Lib.Split
import Derived.Lib.CountLaws
import Derived.Lib.SlTrimSet
import Derived.Lib.Case
import Derived.Lib.Repeat
import Derived.Lib.IndexMore
import Derived.Shelf.Bytes.SlIndexAt
import Derived.Lib.IndexBytes
import Derived.Lib.SlSplitV
import Derived.RangeFuncOwn
import Derived.Lib.Strings
import Derived.Lib.Slices
import Derived.Lib.Walk
import Derived.Lib.Bytealg
import Derived.Lib.BytesEntry
import Derived.Shelf.Strings.SlTrimAscii

-- from Qh
-- Made by hp.py, a program of this session, with the kit's printer. Not trusted: Lean checks it.
namespace Go.Proofs.YtdnfmilnkoocdaaDoor.Q
open Go.RowKit Go.Proofs.YtdnfmilnkoocdaaDoorW.PrintWords Go.Proofs.YtdnfmilnkoocdaaDoorW.PrintLast Go.Proofs.YtdnfmilnkoocdaaDoorW.PrintMore
attribute [local go_sem] max2_int min2_int max_two min_two max_three min_three max_four min_four   -- for this text's walks alone
set_option linter.unusedVariables false
set_option linter.unusedSimpArgs false



def errW : Option Int → Value
  | none => .nilIface
  | some c => .iface 0 (.int .i64 c)
theorem errW_none : errW none = .nilIface := rfl
theorem errW_some (c : Int) : errW (some c) = .iface 0 (.int .i64 c) := rfl

theorem info3 : (Tryd.prog.info? 3).map (fun i => (i.zero, i.size, i.bytes)) = some (some (.int .i64 0), 1, 8) := by kernel_rfl
theorem info5 : (Tryd.prog.info? 5).map (fun i => (i.zero, i.size, i.bytes)) = some (some (.int .u8 0), 1, 1) := by kernel_rfl
theorem info9 : (Tryd.prog.info? 9).map (fun i => (i.zero, i.size, i.bytes)) = some (some (.string ⟨#[]⟩), 1, 16) := by kernel_rfl
theorem info22 : (Tryd.prog.info? 22).map (fun i => (i.zero, i.size, i.bytes)) = some (some (.slice none 0 0), 1, 24) := by kernel_rfl
theorem info60 : (Tryd.prog.info? 60).map (fun i => (i.zero, i.size, i.bytes)) = some (some (.agg #[(.int .i64 0), (.slice none 0 0)]), 2, 32) := by kernel_rfl
-- the values' own types
def rd_L2 (xs : List (List Int)) (i : Int) : (List Int) := xs.getD i.toNat ([] : List Int)
theorem at_L2 {w : World} {A : Option Addr} {n : Nat} {xs : List (List Int)} (h : Kd.C (Kd.slice 5 (Kd.int .u8)) w A n xs) (i : Int) (h0 : 0 ≤ i) (h1 : i < n) : ∃ ad A0 c0, A = some ad ∧ w.cell? (ad.add i.toNat) = some (.slice A0 (rd_L2 xs i).length c0) ∧ (rd_L2 xs i).length ≤ c0 ∧ (Kd.int .u8).C w A0 (rd_L2 xs i).length (rd_L2 xs i) := by
  obtain ⟨ad, c, e, _, hK, hc0⟩ := Kd.C_get h ([] : List Int) i h0 h1
  have hc : ∀ j u, c[j]? = some u → w.cell? (ad.add (i.toNat * 1 + j)) = some u := hc0
  obtain ⟨A0, c0, rfl, l0, g0⟩ := hK
  exact ⟨ad, A0, c0, e, by have hq := hc 0 _ rfl; rwa [Nat.mul_one, Nat.add_zero] at hq, l0, g0⟩

def rd_L4 (xs : List (List ByteArray)) (i : Int) : (List ByteArray) := xs.getD i.toNat ([] : List ByteArray)
theorem at_L4 {w : World} {A : Option Addr} {n : Nat} {xs : List (List ByteArray)} (h : Kd.C (Kd.slice 9 Kd.string) w A n xs) (i : Int) (h0 : 0 ≤ i) (h1 : i < n) : ∃ ad A0 c0, A = some ad ∧ w.cell? (ad.add i.toNat) = some (.slice A0 (rd_L4 xs i).length c0) ∧ (rd_L4 xs i).length ≤ c0 ∧ Kd.string.C w A0 (rd_L4 xs i).length (rd_L4 xs i) := by
  obtain ⟨ad, c, e, _, hK, hc0⟩ := Kd.C_get h ([] : List ByteArray) i h0 h1
  have hc : ∀ j u, c[j]? = some u → w.cell? (ad.add (i.toNat * 1 + j)) = some u := hc0
  obtain ⟨A0, c0, rfl, l0, g0⟩ := hK
  exact ⟨ad, A0, c0, e, by have hq := hc 0 _ rfl; rwa [Nat.mul_one, Nat.add_zero] at hq, l0, g0⟩

/-! #### struct type 60 -/
structure S60 where
  f0 : Int
  f1 : (List ByteArray)
def z60 : S60 := ⟨(0 : Int), ([] : List ByteArray)⟩
def k60 : Kd S60 := Kd.iso (Kd.pair (Kd.int .i64) (Kd.slice 9 Kd.string)) (fun x : S60 => (x.f0, x.f1))
theorem k60_open {w : World} {x : S60} {cs : List Value} (h : k60.K w x cs) : ∃ A1 c1, cs = [.int .i64 x.f0, .slice A1 x.f1.length c1] ∧ x.f1.length ≤ c1 ∧ Kd.string.C w A1 x.f1.length x.f1 := by
  obtain ⟨_, _, rfl, rfl, ⟨A1, c1, rfl, l1, g1⟩⟩ := h
  exact ⟨A1, c1, rfl, l1, g1⟩
theorem k60_openM {w : World} {base : Nat} {ok : Nat → Prop} {x : S60} {cs : List Value} (h : k60.M w base ok x cs) : ∃ v1, cs = [.int .i64 x.f0, v1] ∧ Kd.string.R 9 w base ok v1 x.f1 := by
  obtain ⟨_, _, rfl, rfl, ⟨v1, rfl, g1⟩⟩ := h
  exact ⟨v1, rfl, g1⟩
theorem k60_mk (w : World) (x : S60) {A1 : Option Addr} {c1 : Nat} (l1 : x.f1.length ≤ c1) (g1 : Kd.string.C w A1 x.f1.length x.f1) : k60.K w x [.int .i64 x.f0, .slice A1 x.f1.length c1] := ⟨[.int .i64 x.f0], [.slice A1 x.f1.length c1], rfl, rfl, ⟨A1, c1, rfl, l1, g1⟩⟩
theorem k60_mkM (w : World) (base : Nat) (ok : Nat → Prop) (x : S60) {v1 : Value} (g1 : Kd.string.R 9 w base ok v1 x.f1) : k60.M w base ok x [.int .i64 x.f0, v1] := ⟨[.int .i64 x.f0], [v1], rfl, rfl, ⟨v1, rfl, g1⟩⟩
theorem k60_openF {W : World} {ok : Nat → Prop} {x : S60} {cs : List Value} (h : Kd.FK k60 W ok x cs) : ∃ A1 c1, cs = [.int .i64 x.f0, .slice A1 x.f1.length c1] ∧ x.f1.length ≤ c1 ∧ Kd.F Kd.string W ok A1 x.f1.length x.f1 := by
  obtain ⟨A1, c1, rfl, l1, _⟩ := k60_open (Kd.FK_now h)
  exact ⟨A1, c1, rfl, l1, (fun W' hW => by obtain ⟨A1_, c1_, he, l1_, g1_⟩ := k60_open (h W' hW); injection (Option.some.inj (show some (Value.slice A1 x.f1.length c1) = some (Value.slice A1_ x.f1.length c1_) from congrArg (fun l => l[1]?) he)) with ha_ _ _; rw [ha_]; exact g1_)⟩
theorem k60_mkF (W : World) (ok : Nat → Prop) (x : S60) {A1 : Option Addr} {c1 : Nat} (l1 : x.f1.length ≤ c1) (g1 : Kd.F Kd.string W ok A1 x.f1.length x.f1) : Kd.FK k60 W ok x [.int .i64 x.f0, .slice A1 x.f1.length c1] := fun W2 hW => k60_mk W2 x l1 (g1 W2 hW)
def rd_T60 (xs : List S60) (i : Int) : S60 := xs.getD i.toNat z60
theorem at_T60 {w : World} {A : Option Addr} {n : Nat} {xs : List S60} (h : Kd.C k60 w A n xs) (i : Int) (h0 : 0 ≤ i) (h1 : i < n) : ∃ ad A1 c1, A = some ad ∧ w.cell? (ad.add (i.toNat * 2)) = some (.int .i64 (rd_T60 xs i).f0) ∧ w.cell? ⟨(ad.add (i.toNat * 2)).block, (ad.add (i.toNat * 2)).off + 1, none⟩ = some (.slice A1 (rd_T60 xs i).f1.length c1) ∧ (rd_T60 xs i).f1.length ≤ c1 ∧ Kd.string.C w A1 (rd_T60 xs i).f1.length (rd_T60 xs i).f1 := by
  obtain ⟨ad, c, e, _, hK, hc0⟩ := Kd.C_get h z60 i h0 h1
  have hc : ∀ j u, c[j]? = some u → w.cell? (ad.add (i.toNat * 2 + j)) = some u := hc0
  obtain ⟨A1, c1, rfl, l1, g1⟩ := k60_open hK
  exact ⟨ad, A1, c1, e, hc 0 _ rfl, by rw [← add_field _ _ 1 (by omega)]; exact hc 1 _ rfl, l1, g1⟩

end Go.Proofs.YtdnfmilnkoocdaaDoor.Q

-- from K
/- Small lemmas on lists, octets and rounds, for the plain laws of this seat. No condition. -/
namespace Go.Proofs.YtdnfmilnkoocdaaDoor.K
set_option linter.unusedVariables false
set_option linter.unusedSimpArgs false
open Go.RowKit Go.Proofs.YtdnfmilnkoocdaaDoorW.PrintWords

theorem w64 {n : Int} (h0 : -9223372036854775808 ≤ n) (h1 : n ≤ 9223372036854775807) : wrap64 n = n := by unfold wrap64; omega
theorem rd_nat (l : List Int) (i : Nat) (h : i < l.length) : rd l (i : Int) = l[i] := by
  unfold rd; simp [List.getD_eq_getElem?_getD, List.getElem?_eq_getElem h]
theorem rd_mem {l : List Int} {i : Int} (h0 : 0 ≤ i) (h1 : i < (l.length : Int)) : rd l i ∈ l := by
  obtain ⟨n, rfl⟩ := Int.eq_ofNat_of_zero_le h0
  rw [rd_nat l n (by omega)]
  exact List.getElem_mem _
theorem rd_append_left {l m : List Int} {i : Int} (h0 : 0 ≤ i) (h1 : i < (l.length : Int)) : rd (l ++ m) i = rd l i := by
  unfold rd
  simp only [List.getD_eq_getElem?_getD]
  rw [List.getElem?_append_left (by omega)]
theorem rd_append_right {l m : List Int} {i : Int} (h0 : (l.length : Int) ≤ i) : rd (l ++ m) i = rd m (i - l.length) := by
  unfold rd
  simp only [List.getD_eq_getElem?_getD]
  rw [List.getElem?_append_right (by omega)]
  congr 2
  omega
theorem rd_map {f : Int → Int} {l : List Int} {i : Int} (h0 : 0 ≤ i) (h1 : i < (l.length : Int)) : rd (l.map f) i = f (rd l i) := by
  obtain ⟨n, rfl⟩ := Int.eq_ofNat_of_zero_le h0
  rw [rd_nat _ n (by simpa using h1), rd_nat l n (by omega)]
  simp
theorem rd_cons_zero (x : Int) (l : List Int) : rd (x :: l) 0 = x := rfl
theorem rd_drop {l : List Int} {n : Nat} {i : Int} (h0 : 0 ≤ i) : rd (l.drop n) i = rd l (n + i) := by
  unfold rd
  simp only [List.getD_eq_getElem?_getD, List.getElem?_drop]
  congr 2
  omega
theorem rd_take {l : List Int} {n : Nat} {i : Int} (h0 : 0 ≤ i) (h1 : i < (n : Int)) : rd (l.take n) i = rd l i := by
  unfold rd
  simp only [List.getD_eq_getElem?_getD]
  rw [List.getElem?_take_of_lt (by omega)]
theorem take_snoc (l : List Int) (i : Nat) (h : i < l.length) : l.take (i + 1) = l.take i ++ [rd l (i : Int)] := by
  rw [rd_nat l i h, List.take_succ_eq_append_getElem h]
theorem drop_cons (l : List Int) (i : Nat) (h : i < l.length) : l.drop i = rd l (i : Int) :: l.drop (i + 1) := by
  rw [rd_nat l i h, List.drop_eq_getElem_cons h]

/-! octets -/
def Oct (l : List Int) : Prop := ∀ x ∈ l, 0 ≤ x ∧ x ≤ 255
theorem oct_of_wf {l : List Int} (h : ∀ x ∈ l, (Lit.int .u8 x).wf = true) : Oct l := fun x hx => by
  have := h x hx
  simp only [Lit.wf, Bool.and_eq_true, decide_eq_true_eq] at this
  have e1 : IntKind.u8.min = 0 := rfl
  have e2 : IntKind.u8.max = 255 := rfl
  omega
theorem i64_of_wf {x : Int} (h : (Lit.int .i64 x).wf = true) : -9223372036854775808 ≤ x ∧ x ≤ 9223372036854775807 := by
  simp only [Lit.wf, Bool.and_eq_true, decide_eq_true_eq] at h
  have e1 : IntKind.i64.min = -9223372036854775808 := rfl
  have e2 : IntKind.i64.max = 9223372036854775807 := rfl
  omega
theorem u8_of_wf {x : Int} (h : (Lit.int .u8 x).wf = true) : 0 ≤ x ∧ x ≤ 255 := by
  simp only [Lit.wf, Bool.and_eq_true, decide_eq_true_eq] at h
  have e1 : IntKind.u8.min = 0 := rfl
  have e2 : IntKind.u8.max = 255 := rfl
  omega
theorem Oct.map {l : List Int} {f : Int → Int} (h : ∀ x, 0 ≤ x → x ≤ 255 → 0 ≤ f x ∧ f x ≤ 255) (hl : Oct l) : Oct (l.map f) := fun y hy => by
  obtain ⟨x, hx, rfl⟩ := List.mem_map.1 hy
  exact h x (hl x hx).1 (hl x hx).2
theorem Oct.append {l m : List Int} (h : Oct l) (k : Oct m) : Oct (l ++ m) := fun x hx => by
  rcases List.mem_append.1 hx with hx | hx
  · exact h x hx
  · exact k x hx
theorem Oct.take {l : List Int} (h : Oct l) (n : Nat) : Oct (l.take n) := fun x hx => h x (List.mem_of_mem_take hx)
theorem Oct.drop {l : List Int} (h : Oct l) (n : Nat) : Oct (l.drop n) := fun x hx => h x (List.mem_of_mem_drop hx)
theorem Oct.rd {l : List Int} (h : Oct l) {i : Int} (h0 : 0 ≤ i) (h1 : i < (l.length : Int)) : 0 ≤ rd l i ∧ rd l i ≤ 255 := h _ (rd_mem h0 h1)
theorem u8_back {x : Int} (h : 0 ≤ x ∧ x ≤ 255) : ((UInt8.ofNat x.toNat).toNat : Int) = x := by
  simp only [UInt8.toNat_ofNat']
  omega
theorem bt_str {l : List Int} (h : Oct l) {i : Int} (h0 : 0 ≤ i) (h1 : i < (l.length : Int)) : bt (strOfNums l) i = rd l i := by
  obtain ⟨n, rfl⟩ := Int.eq_ofNat_of_zero_le h0
  have hn : n < l.length := by omega
  have hs : n < (strOfNums l).size := by rw [strOfNums_size]; exact hn
  have hb := h.rd h0 h1
  rw [rd_nat l n hn] at hb ⊢
  unfold bt
  simp only [Int.toNat_natCast, hs, dif_pos]
  have : (strOfNums l)[n] = UInt8.ofNat (l[n]).toNat := by
    show (strOfNums l).data[n] = _
    simp [strOfNums]
  rw [this]
  exact u8_back hb
theorem size_str (l : List Int) : (strOfNums l).size = l.length := strOfNums_size l
theorem str_inj {l m : List Int} (hl : Oct l) (hm : Oct m) (h : strOfNums l = strOfNums m) : l = m := by
  have hlen : l.length = m.length := by rw [← size_str l, ← size_str m, h]
  apply List.ext_getElem hlen
  intro i h1 h2
  have a := bt_str hl (i := (i : Int)) (by omega) (by omega)
  have b := bt_str hm (i := (i : Int)) (by omega) (by omega)
  rw [rd_nat l i h1] at a
  rw [rd_nat m i h2] at b
  rw [← a, ← b, h]
theorem ba_toList (s : ByteArray) : s.toList = s.data.toList := ByteArray.toList_eq s
theorem toList_inj {s t : ByteArray} (h : s.toList = t.toList) : s = t := by
  rw [ba_toList, ba_toList] at h
  cases s; cases t
  simp at h
  exact congrArg _ h
theorem toList_eq_iff {s t : ByteArray} : s.toList = t.toList ↔ s = t := ⟨toList_inj, fun h => by rw [h]⟩
theorem str_append (l m : List Int) : strOfNums l ++ strOfNums m = strOfNums (l ++ m) := by
  apply toList_inj
  rw [ba_toList, ba_toList]
  simp [strOfNums]
theorem bytesOf_str {l : List Int} (h : Oct l) : Go.Proofs.YtdnfmilnkoocdaaDoorW.PrintWords.bytesOf (strOfNums l) = l := by
  unfold Go.Proofs.YtdnfmilnkoocdaaDoorW.PrintWords.bytesOf
  rw [strOfNums_data, List.map_map]
  conv => rhs; rw [← List.map_id l]
  apply List.map_congr_left
  intro x hx
  exact u8_back (h x hx)
theorem oct_bytesOf (s : ByteArray) : Oct (Go.Proofs.YtdnfmilnkoocdaaDoorW.PrintWords.bytesOf s) := fun x hx => by
  unfold Go.Proofs.YtdnfmilnkoocdaaDoorW.PrintWords.bytesOf at hx
  obtain ⟨b, _, rfl⟩ := List.mem_map.1 hx
  have := b.toNat_lt
  omega
theorem str_bytesOf (s : ByteArray) : strOfNums (Go.Proofs.YtdnfmilnkoocdaaDoorW.PrintWords.bytesOf s) = s := by
  unfold Go.Proofs.YtdnfmilnkoocdaaDoorW.PrintWords.bytesOf strOfNums
  cases s with
  | mk a =>
    congr 1
    apply Array.ext'
    simp [Function.comp_def]
theorem extract_str {l : List Int} {a b : Nat} : (strOfNums l).extract a b = strOfNums ((l.take b).drop a) := by
  apply toList_inj
  rw [ba_toList, ba_toList]
  rw [ByteArray.data_extract]
  simp [strOfNums, List.map_drop, List.map_take, List.drop_take]

/-! rounds -/
theorem Ev.pos {α : Type} {c : Prop} [Decidable c] {f g : Nat → Option α} {r : α} (h : c) (k : Ev f r) : Ev (fun n => if c then f n else g n) r := Ev.congr (fun _ => if_pos h) k
theorem Ev.neg {α : Type} {c : Prop} [Decidable c] {f g : Nat → Option α} {r : α} (h : ¬ c) (k : Ev g r) : Ev (fun n => if c then f n else g n) r := Ev.congr (fun _ => if_neg h) k
theorem Ev.bindS {α β : Type} {o : Option α} {f : Nat → α → Option β} {a : α} {r : β} (h : o = some a) (k : Ev (fun n => f n a) r) : Ev (fun n => o.bind (f n)) r := by
  subst h; exact k
theorem Ev.ret {α : Type} {a r : α} (h : a = r) : Ev (fun _ => some a) r := by subst h; exact Ev.now _
theorem Ev.val {α : Type} {o : Option α} {r : α} (h : o = some r) : Ev (fun _ => o) r := ⟨0, fun _ _ => h⟩

/-- 'slices.IndexFunc', as it is printed at a function value: the place of the first element that the predicate takes, or -1. -/
def firstAt (q : Int → Bool) : List Int → Int → Int
  | [], _ => -1
  | x :: l, i => if q x = true then i else firstAt q l (i + 1)
theorem index_loop {p : Int → Option Bool} {q : Int → Bool} {l : Nat → List Int → Int → Int → Option Int}
    (hl : ∀ k x n i, l (k + 1) x n i = if i < n then (if 0 ≤ i then (if i < (x.length : Int) then ((p (rd x i)).bind fun t => (if t = true then (some i) else (l k x n (wrap64 (i + 1))))) else none) else none) else some (-1))
    (x : List Int) (hx : x.length ≤ 9223372036854775806) (hp : ∀ y ∈ x, p y = some (q y)) : ∀ (d i : Nat), x.length - i = d → i ≤ x.length → Ev (fun k => l k x (x.length : Int) (i : Int)) (firstAt q (x.drop i) i) := by
  intro d
  induction d with
  | zero =>
    intro i h1 h2
    have : i = x.length := by omega
    subst this
    refine Ev.step (fun k => hl k _ _ _) (Ev.neg (by omega) ?_)
    simp only [List.drop_length, firstAt]
    exact Ev.now _
  | succ d ih =>
    intro i h1 h2
    have hi : i < x.length := by omega
    refine Ev.step (fun k => hl k _ _ _) (Ev.pos (by omega) (Ev.pos (by omega) (Ev.pos (by omega) (Ev.bindS (hp _ (rd_mem (by omega) (by omega))) ?_))))
    rw [drop_cons x i hi]
    simp only [firstAt]
    by_cases hq : q (rd x i) = true
    · rw [if_pos hq]
      exact Ev.pos hq (Ev.now _)
    · rw [if_neg hq]
      refine Ev.neg hq ?_
      have := ih (i + 1) (by omega) (by omega)
      rw [w64 (by omega) (by omega)]
      exact this
theorem firstAt_any (q : Int → Bool) : ∀ (l : List Int) (i : Int), 0 ≤ i → decide (firstAt q l i ≥ 0) = l.any q
  | [], _, _ => by simp [firstAt]
  | x :: l, i, h => by
    by_cases hq : q x = true
    · simp [firstAt, hq, h]
    · have ih := firstAt_any q l (i + 1) (by omega)
      simp only [Bool.not_eq_true] at hq
      simp [firstAt, hq]
      simpa using ih
/-- 'slices.ContainsFunc' at a function value. -/
theorem contains_ev {p : Int → Option Bool} {q : Int → Bool} {l : Nat → List Int → Int → Int → Option Int}
    (hl : ∀ k x n i, l (k + 1) x n i = if i < n then (if 0 ≤ i then (if i < (x.length : Int) then ((p (rd x i)).bind fun t => (if t = true then (some i) else (l k x n (wrap64 (i + 1))))) else none) else none) else some (-1))
    (x : List Int) (hx : x.length ≤ 9223372036854775806) (hp : ∀ y ∈ x, p y = some (q y)) : Ev (fun k => (l k x (x.length : Int) 0).bind fun t => some (decide (t ≥ 0))) (x.any q) := by
  have h := index_loop hl x hx hp x.length 0 (by omega) (by omega)
  refine Ev.bind h (Ev.ret ?_)
  rw [firstAt_any q _ _ (by simp)]
  simp

end Go.Proofs.YtdnfmilnkoocdaaDoor.K

-- from Hown
/- OwnerBack: rows of octets out of what an argument reads as. -/
namespace Go.Proofs.YtdnfmilnkoocdaaDoor.Q
open Go.ChangeShapes Go.WideShapes Go.RowKit Go.Proofs.YtdnfmilnkoocdaaDoorW.PrintWords Go.Proofs.YtdnfmilnkoocdaaDoorW.PrintLast Go.Proofs.YtdnfmilnkoocdaaDoorW.PrintMore
set_option linter.unusedVariables false

/-- A row of integers, as the call reads it. -/
theorem ints_of_trod {H : Type} {enc : TypeId × Value → H} {P : Program} {w : World} {sp : Nat → Bool} {held : Bool} {t e : TypeId} {k : IntKind} {fuel : Nat} {cs : List Value} {x : DataW H × List MemPlace} (ht : P.underlying t = some (.slice e)) (he : P.underlying e = some (.int k)) (hc : P.cellsOf e = 1)
    (h : DataW.trod enc P w 0 sp held fuel t cs = some x) : ∃ (A : Option Addr) (c : Nat) (l : List Int), cs = [.slice A l.length c] ∧ l.length ≤ c ∧ Kd.C (Kd.int k) w A l.length l ∧ ∀ n ∈ l, (Lit.int k n).wf = true := by
  rcases open_ints ht he hc h with ⟨rfl, _⟩ | ⟨a, len, cap, zs, rfl, _, hl, hm, hz, _, hcell, hwf⟩
  · exact ⟨none, 0, [], rfl, Nat.le_refl _, ⟨rfl, by simp, fun h => by simp at h⟩, fun n hn => by cases hn⟩
  · have hlen : (zs.take len).length = len := by
      rw [List.length_take]
      split at hz <;> omega
    refine ⟨some a, cap, zs.take len, by rw [hlen], by rw [hlen]; exact hl, ?_, fun n hn => hwf n (List.mem_of_mem_take hn)⟩
    rw [hlen]
    refine Kd.C_of_reads (d := (0 : Int)) ⟨hlen, by unfold maxLen at hm; omega, fun _ => ⟨a, rfl, fun j hj => ?_⟩⟩
    have hj2 : j < zs.length := by split at hz <;> omega
    rw [hcell j hj2]
    simp [List.getD_eq_getElem?_getD, hj]
theorem rows_of_trod {H : Type} {enc : TypeId × Value → H} {P : Program} {w : World} {sp : Nat → Bool} {held : Bool} {t e1 e : TypeId} {k : IntKind} {fuel : Nat} {A : Option Addr} {n c : Nat} {x : DataW H × List MemPlace} (ht : P.underlying t = some (.slice e1)) (h1 : P.underlying e1 = some (.slice e)) (he : P.underlying e = some (.int k)) (hc1 : P.cellsOf e1 = 1) (hc : P.cellsOf e = 1)
    (h : DataW.trod enc P w 0 sp held fuel t [.slice A n c] = some x) : ∃ ls : List (List Int), ls.length = n ∧ n ≤ c ∧ Kd.C (Kd.slice e (Kd.int k)) w A n ls ∧ ∀ l ∈ ls, ∀ z ∈ l, (Lit.int k z).wf = true := by
  rcases DataW.trod_slice ht h with ⟨hcs, _⟩ | ⟨a, len, cap, elems, rest, m, _, hcs, _, _, hl, hm, hlen, hel, _⟩
  · simp only [List.cons.injEq, Value.slice.injEq, and_true] at hcs
    obtain ⟨rfl, rfl, rfl⟩ := hcs
    exact ⟨[], rfl, Nat.le_refl _, ⟨rfl, by simp, fun h => by simp at h⟩, fun l hl => by cases hl⟩
  · simp only [List.cons.injEq, Value.slice.injEq, and_true] at hcs
    obtain ⟨rfl, rfl, rfl⟩ := hcs
    have each : ∀ i, i < n → ∃ (B : Option Addr) (c' : Nat) (l : List Int), w.cell? (a.add i) = some (.slice B l.length c') ∧ l.length ≤ c' ∧ Kd.C (Kd.int k) w B l.length l ∧ ∀ z ∈ l, (Lit.int k z).wf = true := by
      intro i hi
      have hE := hel i hi
      rw [hc1, Nat.mul_one, List.getElem?_eq_getElem (by omega : i < elems.length), Option.bind_eq_some_iff] at hE
      obtain ⟨cs', hcs', hy⟩ := hE
      obtain ⟨B, c', l, rfl, q1, q2, q3⟩ := ints_of_trod h1 he hc hy
      exact ⟨B, c', l, cell_of_cells?_one hcs', q1, q2, q3⟩
    -- one list for each
    have pick : ∀ m, m ≤ n → ∃ ls : List (List Int), ls.length = m ∧ (∀ i l, ls[i]? = some l → ∃ B c', w.cell? (a.add i) = some (.slice B l.length c') ∧ l.length ≤ c' ∧ Kd.C (Kd.int k) w B l.length l ∧ ∀ z ∈ l, (Lit.int k z).wf = true) := by
      intro m
      induction m with
      | zero => intro _; exact ⟨[], rfl, fun i l h => by simp at h⟩
      | succ m ih =>
        intro hm'
        obtain ⟨ls, g1, g2⟩ := ih (by omega)
        obtain ⟨B, c', l, q1, q2, q3, q4⟩ := each m (by omega)
        refine ⟨ls ++ [l], by simp [g1], fun i l' hi => ?_⟩
        by_cases hlt : i < ls.length
        · rw [List.getElem?_append_left hlt] at hi
          exact g2 i l' hi
        · rw [List.getElem?_append_right (by omega)] at hi
          have hi0 : i - ls.length = 0 := by
            rcases Nat.eq_zero_or_pos (i - ls.length) with h0 | h0
            · exact h0
            · rw [List.getElem?_eq_none (by simp; omega)] at hi; cases hi
          rw [hi0] at hi
          simp at hi
          subst hi
          have : i = m := by omega
          subst this
          exact ⟨B, c', q1, q2, q3, q4⟩
    obtain ⟨ls, g1, g2⟩ := pick n (Nat.le_refl _)
    refine ⟨ls, g1, hl, ⟨g1, by unfold maxLen at hm; omega, fun _ => ⟨a, rfl, fun j l hj => ?_⟩⟩, fun l hl' z hz => ?_⟩
    · obtain ⟨B, c', q1, q2, q3, q4⟩ := g2 j l hj
      refine ⟨[.slice B l.length c'], rfl, ⟨B, c', rfl, q2, q3⟩, fun i u hu => ?_⟩
      match i, hu with
      | 0, hu =>
        simp at hu
        subst hu
        show w.cell? (a.add (j * 1 + 0)) = _
        rw [Nat.mul_one, Nat.add_zero]
        exact q1
    · obtain ⟨i, hi⟩ := List.getElem?_of_mem hl'
      obtain ⟨B, c', q1, q2, q3, q4⟩ := g2 i l hi
      exact q4 z hz
end Go.Proofs.YtdnfmilnkoocdaaDoor.Q

-- from Qf16
-- Made by hp.py, a program of this session, with the kit's printer. Not trusted: Lean checks it.
namespace Go.Proofs.YtdnfmilnkoocdaaDoor.Q
open Go.RowKit Go.Proofs.YtdnfmilnkoocdaaDoorW.PrintWords Go.Proofs.YtdnfmilnkoocdaaDoorW.PrintLast Go.Proofs.YtdnfmilnkoocdaaDoorW.PrintMore
attribute [local go_sem] max2_int min2_int max_two min_two max_three min_three max_four min_four   -- for this text's walks alone
set_option linter.unusedVariables false
set_option linter.unusedSimpArgs false

/-! ### paronymref02_Same: function 16 -/
def paronymref02_Same.l0 : Nat → List ByteArray → List ByteArray → Int → Option (Bool)
 | 0, _, _, _ => none
 | k + 1, x0, x1, x5 => if x5 < (x0.length : Int) then (if 0 ≤ x5 then (if x5 < (x1.length : Int) then (if (rdOf ByteArray.empty x0 x5).toList = (rdOf ByteArray.empty x1 x5).toList then (paronymref02_Same.l0 k x0 x1 (wrap64 (x5 + 1))) else (some false)) else (none)) else (none)) else (some true)
def paronymref02_Same.f (k : Nat) (l0 : List ByteArray) (l1 : List ByteArray) : Option (Bool) := if (l0.length : Int) = (l1.length : Int) then (paronymref02_Same.l0 k l0 l1 0) else (some false)
theorem paronymref02_Same.mono_l : ∀ k, (∀ y0 y1 y2, LeO (paronymref02_Same.l0 k y0 y1 y2) (paronymref02_Same.l0 (k + 1) y0 y1 y2))
 | 0 => fun _ _ _ r h => by simp [paronymref02_Same.l0] at h
 | k + 1 => by
  have ih0 := paronymref02_Same.mono_l k
  ·intro y0 y1 y2
   unfold paronymref02_Same.l0
   repeat' first
   | (with_reducible exact ih0 _ _ _)
   | (with_reducible exact LeO.refl _)
   | (with_reducible exact LeO.none _)
   | (with_reducible refine LeO.ite ?_ ?_)
   | (with_reducible refine LeO.bind ?_ (fun _ => ?_))
   | exact ih0 _ _ _
   | exact LeO.none _
   | refine LeO.ite ?_ ?_
   | refine LeO.bind ?_ (fun _ => ?_)
theorem paronymref02_Same.mono : ∀ a0 a1 k, LeO (paronymref02_Same.f k a0 a1) (paronymref02_Same.f (k + 1) a0 a1) := by
 intro a0 a1 k
 have ih0 := paronymref02_Same.mono_l k
 unfold paronymref02_Same.f
 repeat' first
   | (with_reducible exact ih0 _ _ _)
   | (with_reducible exact LeO.refl _)
   | (with_reducible exact LeO.none _)
   | (with_reducible refine LeO.ite ?_ ?_)
   | (with_reducible refine LeO.bind ?_ (fun _ => ?_))
   | exact ih0 _ _ _
   | exact LeO.none _
   | refine LeO.ite ?_ ?_
   | refine LeO.bind ?_ (fun _ => ?_)
set_option maxHeartbeats 8000000 in
set_option maxRecDepth 100000 in
theorem paronymref02_Same.calls (k : Nat) (A0 : Option Addr) (c0 : Nat) (l0 : List ByteArray) (A1 : Option Addr) (c1 : Nat) (l1 : List ByteArray) (r : Bool) (w : World) (hr0 : Kd.C Kd.string w A0 l0.length l0) (hc0 : l0.length ≤ c0) (hr1 : Kd.C Kd.string w A1 l1.length l1) (hc1 : l1.length ≤ c1) (h : paronymref02_Same.f k l0 l1 = some r) :
  Calls Tryd.prog 16 #[.slice A0 l0.length c0, .slice A1 l1.length c1] w fun e w' => e = .returned (.bool r) ∧ Drawn0 w w' := by
 have HR0 := Aside0.mk hr0
 have HC0 := Aside0.mk hc0
 clear hr0 hc0
 have HR1 := Aside0.mk hr1
 have HC1 := Aside0.mk hc1
 clear hr1 hc1
 have H : (if (l0.length : Int) = (l1.length : Int) then (paronymref02_Same.l0 k l0 l1 0) else (some false)) = some r := h
 clear h
 by_cases c3 : (l0.length : Int) = (l1.length : Int)
 ·rw [if_pos c3] at H
  have c3b0 : ((l0.length : Int) == (l1.length : Int)) = true := beq_iff_eq.mpr c3
  have c3b1 : ((l0.length : Int) != (l1.length : Int)) = false := bne_eq_false_iff_eq.mpr c3
  have c3b2 : (l0.length == l1.length) = true := by first | simpa using c3 | (simp at c3 ⊢; omega)
  clear c3
  have H' := Aside0.mk H
  clear H
  go_enter Tryd.func16, Tryd.ntmps16
  go_wp2
  repeat (go_quiet (fail); try go_wp2)
  go_loopg [5] k (fun kq v5 w' => ∃ (x5_1 : Int), v5 = .int .i64 x5_1 ∧ Aside0 (paronymref02_Same.l0 kq l0 l1 x5_1 = some r) ∧ Aside0 (kq ≤ k) ∧ Drawn0 w w')
  case atStart => exact ⟨(0), (by first | rfl | (simp; done) | (simp [*]; done)), H', ⟨Nat.le_refl _⟩, by repeat (first | exact Drawn0.refl _ | apply Drawn0.step)⟩
  case round =>
   clear H'
   try clear c1
   try clear p2
   try clear c3
   try clear c3b0
   try clear c3b1
   try clear c3b2
   obtain ⟨x5_1, rfl, HA, HK1, ⟨m1, rfl⟩⟩ := hrel
   cases gk with
   | zero => exact absurd HA.out (by simp [paronymref02_Same.l0])
   | succ k1 =>
    have H := HA.out
    clear HA
    simp only [paronymref02_Same.l0] at H
    by_cases c4 : x5_1 < (l0.length : Int)
    ·rw [if_pos c4] at H
     have c4b0 : decide (x5_1 < (l0.length : Int)) = true := decide_eq_true c4
     clear c4
     by_cases c5 : 0 ≤ x5_1
     ·rw [if_pos c5] at H
      have c5b0 : decide (0 ≤ x5_1) = true := decide_eq_true c5
      clear c5
      by_cases c6 : x5_1 < (l1.length : Int)
      ·rw [if_pos c6] at H
       have c6b0 : decide (x5_1 < (l1.length : Int)) = true := decide_eq_true c6
       clear c6
       by_cases c7 : (rdOf ByteArray.empty l0 x5_1).toList = (rdOf ByteArray.empty l1 x5_1).toList
       ·rw [if_pos c7] at H
        have c7b0 : ((rdOf ByteArray.empty l0 x5_1).toList == (rdOf ByteArray.empty l1 x5_1).toList) = true := beq_iff_eq.mpr c7
        have c7b1 : ((rdOf ByteArray.empty l0 x5_1).toList != (rdOf ByteArray.empty l1 x5_1).toList) = false := bne_eq_false_iff_eq.mpr c7
        clear c7
        have H' := Aside0.mk H
        clear H
        have p101 : 0 ≤ (x5_1 : Int) := of_decide_eq_true (by first | (with_reducible assumption) | assumption)
        have q101 : x5_1 < (l0.length : Int) := of_decide_eq_true (by first | (with_reducible assumption) | assumption)
        obtain ⟨ad101, e101, hx101_0⟩ := Kd.at_string HR0.out x5_1 p101 q101
        cases e101
        replace p101 := eq_true p101
        replace q101 := eq_true q101
        have p102 : 0 ≤ (x5_1 : Int) := of_decide_eq_true (by first | (with_reducible assumption) | assumption)
        have q102 : x5_1 < (l1.length : Int) := of_decide_eq_true (by first | (with_reducible assumption) | assumption)
        obtain ⟨ad102, e102, hx102_0⟩ := Kd.at_string HR1.out x5_1 p102 q102
        cases e102
        replace p102 := eq_true p102
        replace q102 := eq_true q102
        go_wp2
        repeat (go_quiet (fail); try go_wp2)
        go_roundg k1
        case measure => have := HK1.out; omega
        case rel => exact ⟨(wrap64 (x5_1 + 1)), (by first | rfl | (simp; done) | (simp [*]; done)), H', ⟨by have := HK1.out; omega⟩, by repeat (first | exact Drawn0.refl _ | apply Drawn0.step)⟩
       ·rw [if_neg c7] at H
        have c7b0 : ((rdOf ByteArray.empty l0 x5_1).toList == (rdOf ByteArray.empty l1 x5_1).toList) = false := beq_eq_false_iff_ne.mpr c7
        have c7b1 : ((rdOf ByteArray.empty l0 x5_1).toList != (rdOf ByteArray.empty l1 x5_1).toList) = true := bne_iff_ne.mpr c7
        obtain rfl := Option.some.inj H
        have p101 : 0 ≤ (x5_1 : Int) := of_decide_eq_true (by first | (with_reducible assumption) | assumption)
        have q101 : x5_1 < (l0.length : Int) := of_decide_eq_true (by first | (with_reducible assumption) | assumption)
        obtain ⟨ad101, e101, hx101_0⟩ := Kd.at_string HR0.out x5_1 p101 q101
        cases e101
        replace p101 := eq_true p101
        replace q101 := eq_true q101
        have p102 : 0 ≤ (x5_1 : Int) := of_decide_eq_true (by first | (with_reducible assumption) | assumption)
        have q102 : x5_1 < (l1.length : Int) := of_decide_eq_true (by first | (with_reducible assumption) | assumption)
        obtain ⟨ad102, e102, hx102_0⟩ := Kd.at_string HR1.out x5_1 p102 q102
        cases e102
        replace p102 := eq_true p102
        replace q102 := eq_true q102
        go_wp2
        repeat (go_quiet (fail); try go_wp2)
        go_ret
        exact ⟨by first | rfl | (simp; done) | (simp [*]; done), by repeat (first | exact Drawn0.refl _ | apply Drawn0.step)⟩
      ·rw [if_neg c6] at H
       exact absurd H (by simp)
     ·rw [if_neg c5] at H
      exact absurd H (by simp)
    ·rw [if_neg c4] at H
     have c4b0 : decide (x5_1 < (l0.length : Int)) = false := decide_eq_false c4
     clear c4
     obtain rfl := Option.some.inj H
     go_wp2
     repeat (go_quiet (fail); try go_wp2)
     go_ret
     exact ⟨by first | rfl | (simp; done) | (simp [*]; done), by repeat (first | exact Drawn0.refl _ | apply Drawn0.step)⟩
 ·rw [if_neg c3] at H
  have c3b0 : ((l0.length : Int) == (l1.length : Int)) = false := beq_eq_false_iff_ne.mpr c3
  have c3b1 : ((l0.length : Int) != (l1.length : Int)) = true := bne_iff_ne.mpr c3
  have c3b2 : (l0.length == l1.length) = false := by first | simpa using c3 | (simp at c3 ⊢; omega)
  obtain rfl := Option.some.inj H
  go_enter Tryd.func16, Tryd.ntmps16
  go_wp2
  repeat (go_quiet (fail); try go_wp2)
  go_ret
  exact ⟨by first | rfl | (simp; done) | (simp [*]; done), by repeat (first | exact Drawn0.refl _ | apply Drawn0.step)⟩

end Go.Proofs.YtdnfmilnkoocdaaDoor.Q

-- from Qf23
-- Made by hp.py, a program of this session, with the kit's printer. Not trusted: Lean checks it.
namespace Go.Proofs.YtdnfmilnkoocdaaDoor.Q
open Go.RowKit Go.Proofs.YtdnfmilnkoocdaaDoorW.PrintWords Go.Proofs.YtdnfmilnkoocdaaDoorW.PrintLast Go.Proofs.YtdnfmilnkoocdaaDoorW.PrintMore
attribute [local go_sem] max2_int min2_int max_two min_two max_three min_three max_four min_four   -- for this text's walks alone
set_option linter.unusedVariables false
set_option linter.unusedSimpArgs false

/-! ### paronymref26_Texts: function 23 -/
def paronymref26_Texts.l0 : Nat → List (List Int) → List ByteArray → Int → Option (List ByteArray)
 | 0, _, _, _ => none
 | k + 1, x0, x3, x4 => if x4 < (x0.length : Int) then (if 0 ≤ x4 then (if x3.length < 8796093022208 then (paronymref26_Texts.l0 k x0 (x3 ++ [strOfNums (rd_L2 x0 x4)]) (wrap64 (x4 + 1))) else (none)) else (none)) else (some x3)
def paronymref26_Texts.f (k : Nat) (l0 : List (List Int)) : Option (List ByteArray) := paronymref26_Texts.l0 k l0 ([] : List ByteArray) 0
theorem paronymref26_Texts.mono_l : ∀ k, (∀ y0 y1 y2, LeO (paronymref26_Texts.l0 k y0 y1 y2) (paronymref26_Texts.l0 (k + 1) y0 y1 y2))
 | 0 => fun _ _ _ r h => by simp [paronymref26_Texts.l0] at h
 | k + 1 => by
  have ih0 := paronymref26_Texts.mono_l k
  ·intro y0 y1 y2
   unfold paronymref26_Texts.l0
   repeat' first
   | (with_reducible exact ih0 _ _ _)
   | (with_reducible exact LeO.refl _)
   | (with_reducible exact LeO.none _)
   | (with_reducible refine LeO.ite ?_ ?_)
   | (with_reducible refine LeO.bind ?_ (fun _ => ?_))
   | exact ih0 _ _ _
   | exact LeO.none _
   | refine LeO.ite ?_ ?_
   | refine LeO.bind ?_ (fun _ => ?_)
theorem paronymref26_Texts.mono : ∀ a0 k, LeO (paronymref26_Texts.f k a0) (paronymref26_Texts.f (k + 1) a0) := by
 intro a0 k
 have ih0 := paronymref26_Texts.mono_l k
 unfold paronymref26_Texts.f
 repeat' first
   | (with_reducible exact ih0 _ _ _)
   | (with_reducible exact LeO.refl _)
   | (with_reducible exact LeO.none _)
   | (with_reducible refine LeO.ite ?_ ?_)
   | (with_reducible refine LeO.bind ?_ (fun _ => ?_))
   | exact ih0 _ _ _
   | exact LeO.none _
   | refine LeO.ite ?_ ?_
   | refine LeO.bind ?_ (fun _ => ?_)
set_option maxHeartbeats 8000000 in
set_option maxRecDepth 100000 in
theorem paronymref26_Texts.calls (k : Nat) (A0 : Option Addr) (c0 : Nat) (l0 : List (List Int)) (r : List ByteArray) (w : World) (hr0 : Kd.C (Kd.slice 5 (Kd.int .u8)) w A0 l0.length l0) (hc0 : l0.length ≤ c0) (h : paronymref26_Texts.f k l0 = some r) :
  Calls Tryd.prog 23 #[.slice A0 l0.length c0] w fun e w' => ∃ v0_ : Value, e = .returned (v0_) ∧ Kd.R Kd.string 9 w' w.heap.size (fun _ => True) v0_ r ∧ Below w.heap.size w w' := by
 have HR0 := Aside0.mk hr0
 have HC0 := Aside0.mk hc0
 clear hr0 hc0
 have HB := Aside0.mk (Below.refl w.heap.size w)
 have H : (paronymref26_Texts.l0 k l0 ([] : List ByteArray) 0) = some r := h
 clear h
 have H' := Aside0.mk H
 clear H
 go_enter Tryd.func23, Tryd.ntmps23
 go_wp2
 go_loopg [3, 4] k (fun kq v3 v4 w' => ∃ (x3_1 : List ByteArray) (x4_1 : Int), v4 = .int .i64 x4_1 ∧ Aside0 (paronymref26_Texts.l0 kq l0 x3_1 x4_1 = some r) ∧ Aside0 (kq ≤ k) ∧ Aside0 (Kd.R Kd.string 9 w' w.heap.size (fun _ => True) v3 x3_1) ∧ Aside0 (Below w.heap.size w w'))
 case atStart => exact ⟨(([] : List ByteArray)), (0), (by first | rfl | (simp; done) | (simp [*]; done)), H', ⟨Nat.le_refl _⟩, ⟨by first | exact Kd.R_nil _ _ _ _ _ | exact Kd.N_nil _ _ _ _ _ | exact Kd.V_nil _ _ _ _ _ | exact Kd.Q_nil _ _ _ _ _ | exact Kd.S_nil _ _ _ _ _⟩, ⟨by repeat (first | (with_reducible first | exact HB.out | apply below_alloc | apply pw_below_drewN | apply below_drew1) | exact HB.out)⟩⟩
 case round =>
  clear H'
  obtain ⟨x3_1, x4_1, rfl, HA, HK1, HO_3, HB⟩ := hrel
  cases gk with
  | zero => exact absurd HA.out (by simp [paronymref26_Texts.l0])
  | succ k1 =>
   have H := HA.out
   clear HA
   simp only [paronymref26_Texts.l0] at H
   by_cases c2 : x4_1 < (l0.length : Int)
   ·rw [if_pos c2] at H
    have c2b0 : decide (x4_1 < (l0.length : Int)) = true := decide_eq_true c2
    clear c2
    by_cases c3 : 0 ≤ x4_1
    ·rw [if_pos c3] at H
     have c3b0 : decide (0 ≤ x4_1) = true := decide_eq_true c3
     clear c3
     by_cases c4 : x3_1.length < 8796093022208
     ·rw [if_pos c4] at H
      have LMc4 := Aside0.mk c4
      clear c4
      obtain ⟨y102, hy102⟩ : ∃ y_ : List ByteArray, y_ = (x3_1 ++ [strOfNums (rd_L2 l0 x4_1)]) := ⟨_, rfl⟩
      replace H : (paronymref26_Texts.l0 k1 l0 y102 (wrap64 (x4_1 + 1))) = some r := by first | (rw [hy102]; with_reducible exact H) | (have H2_ := (Option.bind_some _ _).symm.trans H; rw [hy102]; with_reducible exact H2_) | (have H2_ := (Option.bind_some _ _).symm.trans H; with_reducible exact H2_) | with_reducible exact H | (rw [hy102]; exact H) | exact H
      have Ny102 := Aside0.mk hy102
      clear hy102
      have H' := Aside0.mk H
      clear H
      have p101 : 0 ≤ (x4_1 : Int) := of_decide_eq_true (by first | (with_reducible assumption) | assumption)
      have q101 : x4_1 < (l0.length : Int) := of_decide_eq_true (by first | (with_reducible assumption) | assumption)
      obtain ⟨ad101, A101_0, c101_0, e101, hx101_0, hl101_0, hi101_0⟩ := at_L2 HR0.out x4_1 p101 q101
      cases e101
      replace hx101_0 := (HB.out.cell (World.block_lt_of_cell? w _ hx101_0)).trans hx101_0
      have HR101_0 := Aside0.mk hi101_0
      have HC101_0 := Aside0.mk hl101_0
      clear hi101_0 hl101_0
      replace p101 := eq_true p101
      replace q101 := eq_true q101
      have hcv5 := Kd.C_string (P := Tryd.prog) (A := A101_0) (c := c101_0) Tryd.underlying22 Tryd.underlying5 Tryd.underlying9 (Kd.C_below HR101_0.out HB.out)
      go_wp2_with (first | ((with_reducible refine gate_builtin (b := .append) (xs := #[.tmp 11, .tmp 17]) rfl ?_); at_builtin; refine Kd.R_append Kd.string (w0 := w) w.heap.size rfl (.tmp 11) (.tmp 17) 24 9 (.string ⟨#[]⟩) 16 rfl Tryd.underlying24 info9 rfl (by decide) (by omega) u3 x3_1 (strOfNums (rd_L2 l0 x4_1)) [.string (strOfNums (rd_L2 l0 x4_1))] (fun _ => True) (fun _ => False) rfl rfl ?aP (fun _ hk => hk.elim) ?aF ?aO ?aB ?aS ?aL ?_; (case aP => exact rfl); (case aB => exact (by repeat (first | (with_reducible first | exact HB.out | apply below_alloc | apply pw_below_drewN | apply below_drew1) | exact HB.out))); (case aF => exact (fun _ _ => trivial)); (case aO => exact (by (with_reducible repeat (first | apply Kd.R_alloc | apply Kd.R_drewN | apply Kd.R_drew)); exact HO_3.out)); (case aS => exact (below_size (by repeat (first | (with_reducible first | exact HB.out | apply below_alloc | apply pw_below_drewN | apply below_drew1) | exact HB.out)))); (case aL => have := LMc4.out; omega); intro v103 w6 ho hb hg hat; rw [← Ny102.out] at ho; have n0_ := Aside0.mk (hb); have n1_ := Aside0.mk (ho); clear HB; clear HO_3; have HB := n0_; have HO104 := n1_; clear n0_ n1_; clear ho hb hg hat))
      go_roundg k1
      case measure => have := HK1.out; omega
      case rel => exact ⟨(y102), (wrap64 (x4_1 + 1)), (by first | rfl | (simp; done) | (simp [*]; done)), H', ⟨by have := HK1.out; omega⟩, ⟨by (with_reducible repeat (first | apply Kd.R_alloc | apply Kd.R_drewN | apply Kd.R_drew)); exact HO104.out⟩, ⟨by repeat (first | (with_reducible first | exact HB.out | apply below_alloc | apply pw_below_drewN | apply below_drew1) | exact HB.out)⟩⟩
     ·rw [if_neg c4] at H
      exact absurd H (by simp)
    ·rw [if_neg c3] at H
     exact absurd H (by simp)
   ·rw [if_neg c2] at H
    have c2b0 : decide (x4_1 < (l0.length : Int)) = false := decide_eq_false c2
    clear c2
    obtain rfl := Option.some.inj H
    go_wp2
    go_ret
    exact ⟨_, by first | rfl | (simp [errW_none, errW_some] <;> rfl) | (simp [*, errW_none, errW_some] <;> rfl), by (with_reducible repeat (first | apply Kd.R_alloc | apply Kd.R_drewN | apply Kd.R_drew)); exact HO_3.out, by repeat (first | (with_reducible first | exact HB.out | apply below_alloc | apply pw_below_drewN | apply below_drew1) | exact HB.out)⟩

end Go.Proofs.YtdnfmilnkoocdaaDoor.Q

-- from Hlit
namespace Go.Proofs.YtdnfmilnkoocdaaDoor.Q
open Go.RowKit Go.Proofs.YtdnfmilnkoocdaaDoorW.PrintWords Go.Proofs.YtdnfmilnkoocdaaDoorW.PrintLast Go.Proofs.YtdnfmilnkoocdaaDoorW.PrintMore
set_option linter.unusedVariables false

/-- A literal of octets, '[]byte("..")'. -/
def bytesLit.f (l : List Int) : Option (List Int) := some l

theorem bytesLit.cells {W : World} {e : Nat} {xs : List Int} {C : Array Value} {p : Nat × Nat} {g : Nat} (hC : C = (xs.map (Value.int .u8)).toArray) (hl : xs.length ≤ 9223372036854775807) (h : W.heap[g]? = some (.cells C e p)) :
    Kd.C (Kd.int .u8) W (some ⟨g, 0, none⟩) xs.length xs := by
  refine Kd.C_of_reads (d := (0 : Int)) ⟨rfl, hl, fun _ => ⟨_, rfl, fun j hj => ?_⟩⟩
  rw [add_plain, cell_of_row W g j C e p h, hC]
  simp [List.getD_eq_getElem?_getD, List.getElem?_eq_getElem hj]

theorem bytesLit.step {P : Program} {W : World} {ops : Array Oper} {rest : List Oper} {o : Oper} {a : Act} {Q : Exit → Act → World → Prop} {C : Array Value} {n c : Nat} (t e : TypeId) (s : Operand) (xs r : List Int) (h : bytesLit.f xs = some r)
    (hgd : o.guard = none) (hop : o.op = .convert t t s) (hs : a.eval s = .slice (some ⟨W.heap.size, 0, none⟩) n c) (ht : P.underlying t = some (.slice e)) (he : P.underlying e = some (.int .u8))
    (hC : C = (xs.map (Value.int .u8)).toArray) (hn : n = xs.length) (hc : n ≤ c) (hl : xs.length ≤ 9223372036854775807)
    (hk : ∀ v w1, Kd.V (Kd.int .u8) e w1 W.heap.size (fun k => W.heap.size ≤ k) v r → Below W.heap.size W w1 → wpList P ops Q rest (a.put o.dst v) w1) :
    wpList P ops Q (o :: rest) a (W.alloc (.cells C e)) := by
  obtain rfl := Option.some.inj h
  have hr := Lib.run_convert_bytes_const (P := P) W t e C n c ht he
  refine wpList_plain hgd fun K hK => ?_
  unfold Oper.wp execOp
  simp only [hop, hs]
  have hr2 : (do let v ← convert t t (.slice (some ⟨W.heap.size, 0, none⟩) n c); pure (Next.value v) : Sem Next).run P (W.alloc (.cells C e)) = .ok (.value (.slice (some ⟨W.heap.size, 0, none⟩) n c)) (W.alloc (.cells C e (C.size, C.size + 1))) := by
    rw [Sem.run_bind, hr]; rfl
  first | rw [hr2] | (simp only [Sem.run_bind, hr, Sem.run_pure, Result.andThen_ok]) 
  refine hK _ _ (hk _ _ ?_ ((Below.refl _ W).alloc (Nat.le_refl _) _))
  subst hn
  refine Kd.V_mk hc (fun W' hW => ?_)
  refine bytesLit.cells hC hl (e := e) (p := (C.size, C.size + 1)) ?_
  rw [hW W.heap.size (Nat.le_refl _) (by simp)]
  exact heap_alloc_new W _

end Go.Proofs.YtdnfmilnkoocdaaDoor.Q

-- from Hzlay
/- bytes.Clone, bytes.Split, bytes.TrimSuffix: the walks are the shelf's, laid for this program. -/
namespace Go.Proofs
open Go.Shelf
def Tryd.laysb140_ren : Go.Shelf.Ren := ⟨fun | 140 => 99 | 117 => 122 | 115 => 147 | n => n, fun | 37 => 22 | 4 => 4 | 3 => 3 | 9 => 9 | 5 => 5 | n => n, fun | n => n⟩
theorem Tryd.laysb140 : Go.Proofs.Lays.nb140 Tryd.prog Tryd.laysb140_ren := {
  mixed := by kernel_rfl
  f115 := Tryd.func147.trans (congrArg some (by kernel_rfl))
  f117 := Tryd.func122.trans (congrArg some (by kernel_rfl))
  f140 := Tryd.func99.trans (congrArg some (by kernel_rfl))
  t3 := Tryd.underlying3
  a3 := Tryd.isAgg3
  z3 := Tryd.sizeOf3
  v3 := Tryd.zeroValue3
  t4 := Tryd.underlying4
  a4 := Tryd.isAgg4
  z4 := Tryd.sizeOf4
  v4 := Tryd.zeroValue4
  t9 := Tryd.underlying9
  a9 := Tryd.isAgg9
  z9 := Tryd.sizeOf9
  v9 := Tryd.zeroValue9
  t37 := Tryd.underlying22
  a37 := Tryd.isAgg22
  z37 := Tryd.sizeOf22
  v37 := Tryd.zeroValue22
  t5 := Tryd.underlying5
  a5 := Tryd.isAgg5
  z5 := Tryd.sizeOf5
  v5 := Tryd.zeroValue5 }
def Tryd.laysk4_ren : Go.Shelf.Ren := ⟨fun | 4 => 60 | n => n, fun | 22 => 22 | 4 => 4 | 5 => 5 | n => n, fun | n => n⟩
theorem Tryd.laysk4 : Go.Proofs.SlLaysK.n4 Tryd.prog Tryd.laysk4_ren := {
  mixed := by kernel_rfl
  f4 := Tryd.func60.trans (congrArg some (by kernel_rfl))
  t4 := Tryd.underlying4
  a4 := Tryd.isAgg4
  z4 := Tryd.sizeOf4
  v4 := Tryd.zeroValue4
  t22 := Tryd.underlying22
  a22 := Tryd.isAgg22
  z22 := Tryd.sizeOf22
  v22 := Tryd.zeroValue22
  t5 := Tryd.underlying5
  i5 := by kernel_rfl }
def Tryd.laysp7_ren : Go.Shelf.Ren := ⟨fun | 7 => 80 | 11 => 98 | 14 => 119 | 15 => 120 | 16 => 121 | 17 => 143 | 19 => 144 | 20 => 145 | 21 => 146 | 22 => 147 | 23 => 148 | 24 => 139 | 25 => 149 | 26 => 159 | 29 => 125 | 30 => 160 | 31 => 161 | n => n, fun | 22 => 22 | 23 => 36 | 3 => 3 | 4 => 4 | 0 => 0 | 34 => 133 | 21 => 21 | 5 => 5 | 45 => 103 | 9 => 9 | 58 => 161 | 38 => 160 | 28 => 166 | 62 => 169 | 61 => 168 | n => n, fun | 2 => 0 | 3 => 1 | 4 => 2 | n => n⟩
theorem Tryd.laysp7 : Go.Proofs.SlLaysP.n7 Tryd.prog Tryd.laysp7_ren := {
  mixed := by kernel_rfl
  f7 := Tryd.func80.trans (congrArg some (by kernel_rfl))
  f11 := Tryd.func98.trans (congrArg some (by kernel_rfl))
  f15 := Tryd.func120.trans (congrArg some (by kernel_rfl))
  f16 := Tryd.func121.trans (congrArg some (by kernel_rfl))
  f20 := Tryd.func145.trans (congrArg some (by kernel_rfl))
  f21 := Tryd.func146.trans (congrArg some (by kernel_rfl))
  f22 := Tryd.func147.trans (congrArg some (by kernel_rfl))
  f23 := Tryd.func148.trans (congrArg some (by kernel_rfl))
  f24 := Tryd.func139.trans (congrArg some (by kernel_rfl))
  f25 := Tryd.func149.trans (congrArg some (by kernel_rfl))
  f30 := Tryd.func160.trans (congrArg some (by kernel_rfl))
  f31 := Tryd.func161.trans (congrArg some (by kernel_rfl))
  t0 := Tryd.underlying0
  a0 := Tryd.isAgg0
  z0 := Tryd.sizeOf0
  v0 := Tryd.zeroValue0
  t3 := Tryd.underlying3
  a3 := Tryd.isAgg3
  z3 := Tryd.sizeOf3
  v3 := Tryd.zeroValue3
  t4 := Tryd.underlying4
  a4 := Tryd.isAgg4
  z4 := Tryd.sizeOf4
  v4 := Tryd.zeroValue4
  t5 := Tryd.underlying5
  a5 := Tryd.isAgg5
  z5 := Tryd.sizeOf5
  v5 := Tryd.zeroValue5
  t9 := Tryd.underlying9
  a9 := Tryd.isAgg9
  z9 := Tryd.sizeOf9
  v9 := Tryd.zeroValue9
  t22 := Tryd.underlying22
  a22 := Tryd.isAgg22
  z22 := Tryd.sizeOf22
  v22 := Tryd.zeroValue22
  t23 := Tryd.underlying36
  a23 := Tryd.isAgg36
  z23 := Tryd.sizeOf36
  v23 := Tryd.zeroValue36
  t38 := Tryd.underlying160
  a38 := Tryd.isAgg160
  z38 := Tryd.sizeOf160
  v38 := Tryd.zeroValue160
  t45 := Tryd.underlying103
  a45 := Tryd.isAgg103
  z45 := Tryd.sizeOf103
  v45 := Tryd.zeroValue103
  t58 := Tryd.underlying161
  a58 := Tryd.isAgg161
  z58 := Tryd.sizeOf161
  v58 := Tryd.zeroValue161
  g2 := by kernel_rfl
  i22 := by kernel_rfl }
end Go.Proofs

-- from Pspl
/- Texts parted by an octet. -/
namespace Go.Proofs.YtdnfmilnkoocdaaDoor.K
set_option linter.unusedVariables false
set_option linter.unusedSimpArgs false
open Go.RowKit Go.Proofs.YtdnfmilnkoocdaaDoorW.PrintWords Go.Proofs.YtdnfmilnkoocdaaDoorW.PrintMore Go.Proofs.YtdnfmilnkoocdaaDoor.Q

/-- Parted by what p tells. -/
def splP {α : Type} (p : α → Bool) : List α → List (List α)
  | [] => [[]]
  | x :: l => if p x then [] :: splP p l else match splP p l with
    | [] => [[x]]
    | q :: r => (x :: q) :: r
theorem splP_cons {α : Type} (p : α → Bool) (x : α) (l : List α) : splP p (x :: l) = if p x then [] :: splP p l else match splP p l with
    | [] => [[x]]
    | q :: r => (x :: q) :: r := rfl
theorem splP_ne {α : Type} (p : α → Bool) : ∀ l, splP p l ≠ []
  | [] => by simp [splP]
  | x :: l => by
    unfold splP
    split
    · simp
    · split <;> simp
/-- The first one, and the rest. -/
theorem splP_hit {α : Type} {p : α → Bool} : ∀ {l a b : List α} {x : α}, l = a ++ x :: b → (∀ y ∈ a, p y = false) → p x = true → splP p l = a :: splP p b
  | _, [], b, x, rfl, _, hx => by simp [splP, hx]
  | _, y :: a, b, x, rfl, ha, hx => by
    have hy := ha y (by simp)
    have ih := splP_hit (l := a ++ x :: b) (a := a) rfl (fun z hz => ha z (by simp [hz])) hx
    rw [List.cons_append, splP_cons, hy, ih]
    rfl
theorem splP_miss {α : Type} {p : α → Bool} : ∀ {l : List α}, (∀ y ∈ l, p y = false) → splP p l = [l]
  | [], _ => rfl
  | y :: l, h => by
    have ih := splP_miss (l := l) (fun z hz => h z (by simp [hz]))
    rw [splP_cons, h y (by simp), ih]
    rfl
theorem splP_map {α β : Type} (f : α → β) {p : α → Bool} {q : β → Bool} : ∀ {l : List α}, (∀ x ∈ l, q (f x) = p x) → splP q (l.map f) = (splP p l).map (List.map f)
  | [], _ => rfl
  | x :: l, h => by
    have ih := splP_map f (l := l) (fun z hz => h z (by simp [hz]))
    rw [List.map_cons, splP_cons, splP_cons, h x (by simp), ih]
    cases hp : p x with
    | true => simp
    | false =>
      cases hs : splP p l with
      | nil => exact absurd hs (splP_ne p l)
      | cons a r => simp
/-- Where the library finds the first one. -/
theorem index_one {b : UInt8} : ∀ (l : List UInt8), (Lib.index l [b] = -1 ∧ ∀ y ∈ l, (y == b) = false) ∨ ∃ i : Nat, Lib.index l [b] = i ∧ i < l.length ∧ l = l.take i ++ b :: l.drop (i + 1) ∧ ∀ y ∈ l.take i, (y == b) = false
  | [] => .inl ⟨rfl, fun y h => by cases h⟩
  | x :: l => by
    by_cases hx : b = x
    · subst hx
      exact .inr ⟨0, by simp [Lib.index], by simp, by simp, by simp⟩
    · have hp : [b].isPrefixOf (x :: l) = false := by simp [List.isPrefixOf, hx]
      have hxb : (x == b) = false := beq_eq_false_iff_ne.mpr (fun e => hx e.symm)
      rcases index_one l with ⟨h1, h2⟩ | ⟨i, h1, h2, h3, h4⟩
      · refine .inl ⟨?_, fun y hy => ?_⟩
        · unfold Lib.index
          rw [hp, h1]
          rfl
        · rcases List.mem_cons.1 hy with rfl | hy
          · exact hxb
          · exact h2 y hy
      · refine .inr ⟨i + 1, ?_, by simpa using h2, by rw [List.take_succ_cons, List.drop_succ_cons, List.cons_append, ← h3], fun y hy => ?_⟩
        · unfold Lib.index
          rw [hp, h1]
          have : ((i : Int) == -1) = false := beq_eq_false_iff_ne.mpr (by omega)
          simp [this]
        · rw [List.take_succ_cons] at hy
          rcases List.mem_cons.1 hy with rfl | hy
          · exact hxb
          · exact h4 y hy
theorem split_one (b : UInt8) : ∀ (n : Nat) (l : List UInt8), l.length ≤ n → Lib.splitK [b] 0 (Lib.count l [b]) l = splP (· == b) l ∧ Lib.count l [b] + 1 = (splP (· == b) l).length := by
  intro n
  induction n with
  | zero =>
    intro l hl
    obtain rfl : l = [] := List.length_eq_zero_iff.1 (by omega)
    exact ⟨rfl, rfl⟩
  | succ n ih =>
    intro l hl
    rcases index_one (b := b) l with ⟨h1, h2⟩ | ⟨i, h1, h2, h3, h4⟩
    · rw [Lib.count_miss h1, splP_miss (p := (· == b)) h2]
      exact ⟨rfl, rfl⟩
    · rw [Lib.count_hit (by simp) h1, splP_hit (p := (· == b)) h3 h4 (by simp)]
      have hd : (l.drop (i + 1)).length ≤ n := by rw [List.length_drop]; omega
      obtain ⟨g1, g2⟩ := ih _ hd
      constructor
      · rw [show [b].length = 1 from rfl, Nat.add_comm 1]
        unfold Lib.splitK
        have hm : (Lib.index l [b] == -1) = false := by rw [h1]; exact beq_eq_false_iff_ne.mpr (by omega)
        rw [hm, h1]
        simp only [Bool.false_eq_true, if_false, Int.toNat_natCast, Nat.add_zero, List.length_cons, List.length_nil, Nat.zero_add]
        rw [g1]
      · show 1 + Lib.count (l.drop (i + 1)) [b] + 1 = _
        rw [List.length_cons, ← g2]; omega
/-- Octets parted by an octet. -/
def spl (c : Int) (l : List Int) : List (List Int) := splP (fun x => decide (x = c)) l
theorem spl_ne (c : Int) (l : List Int) : spl c l ≠ [] := splP_ne _ _
theorem spl_flat {α : Type} (p : α → Bool) : ∀ (l q : List α), q ∈ splP p l → ∀ x ∈ q, x ∈ l
  | [], q, h, x, hx => by
    have : q = [] := by simpa [splP] using h
    subst this
    cases hx
  | y :: l, q, h, x, hx => by
    unfold splP at h
    split at h
    · rcases List.mem_cons.1 h with rfl | h
      · cases hx
      · exact List.mem_cons_of_mem _ (spl_flat p l q h x hx)
    · split at h
      · rename_i e
        exact absurd e (splP_ne p l)
      · rename_i a r e
        rcases List.mem_cons.1 h with rfl | h
        · rcases List.mem_cons.1 hx with rfl | hx
          · simp
          · exact List.mem_cons_of_mem _ (spl_flat p l a (by rw [e]; simp) x hx)
        · exact List.mem_cons_of_mem _ (spl_flat p l q (by rw [e]; simp [h]) x hx)
theorem splP_sum {α : Type} (p : α → Bool) : ∀ l : List α, ((splP p l).map List.length).sum + (splP p l).length = l.length + 1
  | [] => rfl
  | x :: l => by
    have ih := splP_sum p l
    unfold splP
    split
    · simp at ih ⊢; omega
    · split
      · rename_i e
        exact absurd e (splP_ne p l)
      · rename_i a r e
        rw [e] at ih
        simp at ih ⊢; omega
theorem sum_mem : ∀ (L : List Nat) (n : Nat), n ∈ L → n ≤ L.sum
  | x :: L, n, h => by
    rw [List.sum_cons]
    rcases List.mem_cons.1 h with rfl | h
    · omega
    · have := sum_mem L n h; omega
theorem splP_len {α : Type} (p : α → Bool) (l q : List α) (h : q ∈ splP p l) : q.length ≤ l.length := by
  have h1 := splP_sum p l
  have h2 := sum_mem _ _ (List.mem_map_of_mem (f := List.length) h)
  have h3 := List.length_pos_iff.2 (splP_ne p l)
  omega
theorem splP_count {α : Type} (p : α → Bool) (l : List α) : (splP p l).length ≤ l.length + 1 := by
  have := splP_sum p l
  omega
end Go.Proofs.YtdnfmilnkoocdaaDoor.K

-- from Pldf
/- Lines and what is trimmed of them: words and small laws. -/
namespace Go.Proofs.YtdnfmilnkoocdaaDoor.K
set_option linter.unusedVariables false
set_option linter.unusedSimpArgs false
open Go.RowKit Go.Proofs.YtdnfmilnkoocdaaDoorW.PrintWords Go.Proofs.YtdnfmilnkoocdaaDoorW.PrintMore Go.Proofs.YtdnfmilnkoocdaaDoor.Q

def blk (c : Int) : Bool := decide (c = 32 ∨ c = 9)
def trimR (l : List Int) : List Int := (l.reverse.dropWhile blk).reverse
def trimL (l : List Int) : List Int := trimR (l.dropWhile blk)
theorem trimR_snoc (l : List Int) (x : Int) : trimR (l ++ [x]) = if blk x then trimR l else l ++ [x] := by
  unfold trimR
  rw [List.reverse_append, List.reverse_singleton, List.singleton_append, List.dropWhile_cons]
  split
  · rfl
  · simp
def stripCR (l : List Int) : List Int := if l.getLast? = some 13 then l.dropLast else l
def bodyL (l : List Int) : List Int := (spl 35 l).headD []
theorem str_nilU {L : List Int} : (strOfNums L).toList = ([] : List UInt8) ↔ L = [] := by
  rw [ba_toList]
  constructor
  · intro h
    have h1 : (strOfNums L).data.toList.length = 0 := by rw [h]; rfl
    have h2 := size_str L
    have h3 : (strOfNums L).size = (strOfNums L).data.toList.length := by rw [Array.length_toList]; rfl
    exact List.length_eq_zero_iff.1 (by omega)
  · rintro rfl; rfl
theorem oct_spl {c : Int} {l q : List Int} (ho : Oct l) (h : q ∈ spl c l) : Oct q := fun x hx => ho x (spl_flat _ l q h x hx)
theorem len_spl {c : Int} {l q : List Int} (h : q ∈ spl c l) : q.length ≤ l.length := splP_len _ l q h
theorem oct_strip {l : List Int} (ho : Oct l) : Oct (stripCR l) := by
  unfold stripCR
  split
  · exact fun x hx => ho x (List.dropLast_subset l hx)
  · exact ho
theorem len_strip (l : List Int) : (stripCR l).length ≤ l.length := by
  unfold stripCR
  split
  · rw [List.length_dropLast]; omega
  · exact Nat.le_refl _
theorem body_mem (l : List Int) : bodyL l ∈ spl 35 l := by
  unfold bodyL
  cases h : spl 35 l with
  | nil => exact absurd h (spl_ne _ _)
  | cons a r => simp
theorem body_cons (l : List Int) : ∃ r, spl 35 l = bodyL l :: r := by
  unfold bodyL
  cases h : spl 35 l with
  | nil => exact absurd h (spl_ne _ _)
  | cons a r => exact ⟨r, rfl⟩
theorem rdOf_map2 (X : List (List Int)) (i : Nat) (h : i < X.length) : rdOf ByteArray.empty (X.map strOfNums) (i : Int) = strOfNums X[i] := by
  unfold rdOf
  rw [Int.toNat_natCast, List.getD_eq_getElem?_getD, List.getElem?_map, List.getElem?_eq_getElem h]; rfl
end Go.Proofs.YtdnfmilnkoocdaaDoor.K

-- from Pstr
/- The library's words on texts of octets. -/
namespace Go.Proofs.YtdnfmilnkoocdaaDoor.K
set_option linter.unusedVariables false
set_option linter.unusedSimpArgs false
open Go.RowKit Go.Proofs.YtdnfmilnkoocdaaDoorW.PrintWords Go.Proofs.YtdnfmilnkoocdaaDoorW.PrintMore Go.Proofs.YtdnfmilnkoocdaaDoor.Q

theorem str_data (L : List Int) : (strOfNums L).data.toList = Lib.bytesOf L := by simp [strOfNums, Lib.bytesOf]
theorem str_of_bytes (L : List Int) : (⟨(Lib.bytesOf L).toArray⟩ : ByteArray) = strOfNums L := by simp [strOfNums, Lib.bytesOf]
theorem u8_lt {x : Int} (h : 0 ≤ x ∧ x ≤ 255) : (UInt8.ofNat x.toNat).toNat = x.toNat := by
  simp only [UInt8.toNat_ofNat']; omega
theorem u8_eq {x y : Int} (h : 0 ≤ x ∧ x ≤ 255) (k : 0 ≤ y ∧ y ≤ 255) : (UInt8.ofNat x.toNat == UInt8.ofNat y.toNat) = decide (x = y) := by
  rw [Bool.eq_iff_iff, beq_iff_eq, decide_eq_true_iff]
  constructor
  · intro e
    have := congrArg UInt8.toNat e
    rw [u8_lt h, u8_lt k] at this
    omega
  · rintro rfl; rfl
theorem dropWhile_bytes {p : UInt8 → Bool} {q : Int → Bool} : ∀ {L : List Int}, (∀ x ∈ L, p (UInt8.ofNat x.toNat) = q x) → (Lib.bytesOf L).dropWhile p = Lib.bytesOf (L.dropWhile q)
  | [], _ => rfl
  | x :: L, h => by
    show (UInt8.ofNat x.toNat :: Lib.bytesOf L).dropWhile p = _
    rw [List.dropWhile_cons, List.dropWhile_cons, h x (by simp)]
    split
    · exact dropWhile_bytes (fun y hy => h y (by simp [hy]))
    · rfl
theorem blk_bytes {x : Int} (h : 0 ≤ x ∧ x ≤ 255) : (([32, 9] : List UInt8).contains (UInt8.ofNat x.toNat)) = blk x := by
  have e1 := u8_eq h (y := 32) (by decide)
  have e2 := u8_eq h (y := 9) (by decide)
  have h1 : (([32, 9] : List UInt8).contains (UInt8.ofNat x.toNat)) = ((UInt8.ofNat x.toNat == UInt8.ofNat (32 : Int).toNat) || (UInt8.ofNat x.toNat == UInt8.ofNat (9 : Int).toNat)) := by
    show (List.elem _ [32, 9]) = _
    unfold List.elem
    split
    · rename_i e; rw [show UInt8.ofNat (32 : Int).toNat = 32 from rfl, e]; rfl
    · rename_i e
      rw [show UInt8.ofNat (32 : Int).toNat = 32 from rfl, e, show UInt8.ofNat (9 : Int).toNat = 9 from rfl]
      unfold List.elem
      split
      · rename_i e2; rw [e2]; rfl
      · rename_i e2; rw [e2]; rfl
  rw [h1, e1, e2]
  unfold blk
  simp
theorem bytes_rev (L : List Int) : Lib.bytesOf L.reverse = (Lib.bytesOf L).reverse := by unfold Lib.bytesOf; rw [List.map_reverse]
/-- From the end, then from the front: the same. -/
theorem trim_swap {α : Type} (p : α → Bool) (l : List α) : ((l.reverse.dropWhile p).reverse).dropWhile p = ((l.dropWhile p).reverse.dropWhile p).reverse := by
  induction l with
  | nil => rfl
  | cons x l ih =>
    by_cases hx : p x = true
    · rw [List.dropWhile_cons, if_pos hx, ← ih, List.reverse_cons, List.dropWhile_append]
      split
      · rename_i e
        have e' : l.reverse.dropWhile p = [] := by simpa using e
        rw [e', List.dropWhile_cons, if_pos hx]
        simp
      · rw [List.reverse_append, List.reverse_singleton, List.singleton_append, List.dropWhile_cons, if_pos hx]
    · rw [List.dropWhile_cons (xs := l), if_neg hx, List.reverse_cons, List.dropWhile_append]
      split
      · rename_i e
        have e' : l.reverse.dropWhile p = [] := by simpa using e
        rw [List.dropWhile_cons, if_neg hx, List.reverse_singleton, List.dropWhile_cons, if_neg hx]
      · rw [List.reverse_append, List.reverse_singleton, List.singleton_append, List.dropWhile_cons, if_neg hx]
theorem trim_lib {L : List Int} (ho : Oct L) : (⟨(Lib.trimS (strOfNums L).data.toList [32, 9]).toArray⟩ : ByteArray) = strOfNums (trimL L) := by
  rw [str_data]
  unfold Lib.trimS Lib.trimLeftS Lib.trimRightS
  rw [trim_swap]
  have h1 : (Lib.bytesOf L).dropWhile (([32, 9] : List UInt8).contains ·) = Lib.bytesOf (L.dropWhile blk) := dropWhile_bytes fun x hx => blk_bytes (ho x hx)
  rw [h1, ← bytes_rev]
  have h2 : (Lib.bytesOf (L.dropWhile blk).reverse).dropWhile (([32, 9] : List UInt8).contains ·) = Lib.bytesOf ((L.dropWhile blk).reverse.dropWhile blk) := dropWhile_bytes fun x hx => blk_bytes (ho x (List.dropWhile_subset _ (List.mem_reverse.1 hx)))
  rw [h2, ← bytes_rev, str_of_bytes]
  rfl
theorem spl_bytes {c : Int} (hc : 0 ≤ c ∧ c ≤ 255) {L : List Int} (ho : Oct L) : splP (· == UInt8.ofNat c.toNat) (Lib.bytesOf L) = (spl c L).map Lib.bytesOf :=
  splP_map (fun n : Int => UInt8.ofNat n.toNat) (p := fun x => decide (x = c)) (q := (· == UInt8.ofNat c.toNat)) fun x hx => u8_eq (ho x hx) hc
/-- What stands ahead of the first one. -/
theorem cut_body {L : List Int} (ho : Oct L) : (⟨(Lib.cut (strOfNums L).data.toList [35]).1.toArray⟩ : ByteArray) = strOfNums (bodyL L) := by
  rw [str_data]
  have hs := spl_bytes (c := 35) (by decide) ho
  rw [show UInt8.ofNat (35 : Int).toNat = 35 from rfl] at hs
  have hb : Lib.bytesOf (bodyL L) = ((spl 35 L).map Lib.bytesOf).headD [] := by
    obtain ⟨r, hr⟩ := body_cons L
    rw [hr]; rfl
  unfold Lib.cut
  rcases index_one (b := 35) (Lib.bytesOf L) with ⟨h1, h2⟩ | ⟨i, h1, h2, h3, h4⟩
  · rw [if_neg (by rw [h1]; decide)]
    rw [splP_miss (p := (· == (35 : UInt8))) h2] at hs
    rw [← hs] at hb
    rw [← str_of_bytes, hb]; rfl
  · rw [if_pos (by rw [h1]; omega), h1, Int.toNat_natCast]
    rw [splP_hit (p := (· == (35 : UInt8))) h3 h4 rfl] at hs
    rw [← hs] at hb
    rw [← str_of_bytes, hb]; rfl
theorem strip_lib {L : List Int} (ho : Oct L) : (⟨(Lib.trimSuffix (strOfNums L).data.toList [13]).toArray⟩ : ByteArray) = strOfNums (stripCR L) := by
  rw [str_data]
  unfold Lib.trimSuffix Lib.hasSuffix stripCR
  rcases List.eq_nil_or_concat L with rfl | ⟨l, x, rfl⟩
  · rfl
  · rw [List.concat_eq_append] at ho ⊢
    have hb : Lib.bytesOf (l ++ [x]) = Lib.bytesOf l ++ [UInt8.ofNat x.toNat] := by simp [Lib.bytesOf]
    have hx := ho x (by simp)
    have e := u8_eq hx (y := 13) (by decide)
    rw [show UInt8.ofNat (13 : Int).toNat = 13 from rfl] at e
    have hsuf : ([13] : List UInt8).isSuffixOf (Lib.bytesOf (l ++ [x])) = decide (x = 13) := by
      rw [hb, ← e, Bool.eq_iff_iff, List.isSuffixOf_iff_suffix, beq_iff_eq]
      constructor
      · rintro ⟨t, ht⟩
        have := List.append_inj_right' ht rfl
        simpa using this.symm
      · intro h; exact ⟨_, by rw [h]⟩
    rw [hsuf]
    by_cases h13 : x = 13
    · rw [if_pos (decide_eq_true h13), if_pos (by simp [h13]), ← str_of_bytes, hb]
      simp
    · rw [if_neg (by simpa using h13), if_neg (by simpa using h13), str_of_bytes]
theorem data_inj {s t : ByteArray} (h : s.data.toList = t.data.toList) : s = t := toList_inj (by rw [ba_toList, ba_toList, h])
theorem splitB_is (c : Nat) (hc : c ≤ 255) {L : List Int} (ho : Oct L) : Lib.splitB ⟨#[UInt8.ofNat c]⟩ 0 (Lib.countB (strOfNums L) ⟨#[UInt8.ofNat c]⟩) (strOfNums L) = (spl (c : Int) L).map strOfNums ∧ Lib.countB (strOfNums L) ⟨#[UInt8.ofNat c]⟩ + 1 = (spl (c : Int) L).length := by
  have hcb : Lib.countB (strOfNums L) ⟨#[UInt8.ofNat c]⟩ = Lib.count (Lib.bytesOf L) [UInt8.ofNat c] := by
    show Lib.count (strOfNums L).data.toList [UInt8.ofNat c] = _
    rw [str_data]
  obtain ⟨h1, h2⟩ := split_one (UInt8.ofNat c) _ (Lib.bytesOf L) (Nat.le_refl _)
  have hs := spl_bytes (c := (c : Int)) (by omega) ho
  rw [Int.toNat_natCast] at hs
  constructor
  · have hd := Lib.splitB_data ⟨#[UInt8.ofNat c]⟩ 0 (Lib.countB (strOfNums L) ⟨#[UInt8.ofNat c]⟩) (strOfNums L)
    rw [hcb, str_data] at hd
    rw [hcb]
    rw [show (⟨#[UInt8.ofNat c]⟩ : ByteArray).data.toList = [UInt8.ofNat c] from rfl, h1, hs] at hd
    have : (spl (c : Int) L).map Lib.bytesOf = ((spl (c : Int) L).map strOfNums).map (·.data.toList) := by
      rw [List.map_map]; exact List.map_congr_left fun x _ => (str_data x).symm
    rw [this] at hd
    exact List.map_inj_right (f := fun (s : ByteArray) => s.data.toList) (fun a b h => data_inj h) |>.1 hd
  · rw [hcb, h2, hs, List.length_map]
/-- A capital letter. -/
def upI (x : Int) : Int := if 97 ≤ x ∧ x ≤ 122 then x - 32 else x
theorem upper_lib {L : List Int} (ho : ∀ x ∈ L, 0 ≤ x ∧ x ≤ 127) : (⟨(Lib.toUpperA (strOfNums L).data.toList).toArray⟩ : ByteArray) = strOfNums (L.map upI) := by
  rw [str_data, ← str_of_bytes]
  have : Lib.toUpperA (Lib.bytesOf L) = Lib.bytesOf (L.map upI) := by
    unfold Lib.toUpperA Lib.bytesOf
    rw [List.map_map, List.map_map]
    refine List.map_congr_left fun x hx => ?_
    obtain ⟨n, rfl⟩ := Int.eq_ofNat_of_zero_le (ho x hx).1
    have hn : n < 128 := by have := (ho _ hx).2; omega
    have key : ∀ k : Fin 128, Lib.upperB (UInt8.ofNat ((k.val : Int)).toNat) = UInt8.ofNat (upI (k.val : Int)).toNat := by decide +kernel
    exact key ⟨n, hn⟩
  rw [this]
theorem repeat_lib (n : Nat) : (⟨(Lib.repeatL (⟨#[48]⟩ : ByteArray).data.toList n).toArray⟩ : ByteArray) = strOfNums (List.replicate n 48) := by
  rw [← str_of_bytes]
  have : Lib.repeatL (⟨#[48]⟩ : ByteArray).data.toList n = Lib.bytesOf (List.replicate n 48) := by
    induction n with
    | zero => rfl
    | succ n ih => rw [List.replicate_succ]; show _ ++ Lib.repeatL _ n = _ :: Lib.bytesOf _; rw [ih]; rfl
  rw [this]
end Go.Proofs.YtdnfmilnkoocdaaDoor.K

-- from Hzsp
/- bytes.Split at one octet: no fact of the world is wanted. After the shelf's bytes.Split. -/
namespace Go.Proofs
open Go.Shelf Go.RowKit Go.Lib
set_option linter.unusedVariables false
set_option linter.unusedSimpArgs false
section
variable {P : Program} {ρ : Ren}
theorem Any.bytes_Split_one (L : SlLaysP.n7 P ρ) (a1 : Addr) (n c1 b2 o2 c2 : Nat) (xs : List Int) (y : Int) (w : World) (hx : xs.length = n) (hr1 : ∀ x ∈ xs, 0 ≤ x ∧ x < 256)
    (hc1 : ∀ i, i < n → w.cell? (a1.add i) = some (.int .u8 (xs.getD i 0))) (hc2 : w.cell? ⟨b2, o2, none⟩ = some (.int .u8 y)) (hcap : n ≤ c1) (hs : n < 4294967281) (hc63 : c1 ≤ 9223372036854775807) :
    Calls P (ρ.f 7) #[.slice (some a1) n c1, .slice (some ⟨b2, o2, none⟩) 1 c2] w fun e w' =>
      e = .returned (.slice (some ⟨w.heap.size, 0, none⟩) (Lib.count (Lib.bytesOf xs) (Lib.bytesOf [y]) + 1) (Lib.count (Lib.bytesOf xs) (Lib.bytesOf [y]) + 1)) ∧ ∃ q, w' = (w.alloc (.cells (Lib.splitV (Lib.bytesOf [y]) 0 (Lib.count (Lib.bytesOf xs) (Lib.bytesOf [y])) a1 c1 (Lib.bytesOf xs)).toArray (ρ.t 22))).drewN q := by
  have hy1 : 1 ≤ (strOfNums [y]).size := by rw [strOfNums_size]; simp
  have hle : Lib.count (Lib.bytesOf xs) (Lib.bytesOf [y]) ≤ n := by
    have := Lib.countB_le (strOfNums [y]) hy1 _ (strOfNums xs) (Nat.le_refl _)
    rw [strOfNums_size, hx] at this
    exact this
  have hlen : (Lib.splitV (Lib.bytesOf [y]) 0 (Lib.count (Lib.bytesOf xs) (Lib.bytesOf [y])) a1 c1 (Lib.bytesOf xs)).length = Lib.count (Lib.bytesOf xs) (Lib.bytesOf [y]) + 1 := by
    rw [Lib.splitV_length]
    have h := Lib.splitB_all (strOfNums [y]) hy1 0 _ (strOfNums xs) rfl
    have d := congrArg List.length (Lib.splitB_data (strOfNums [y]) 0 (Lib.countB (strOfNums xs) (strOfNums [y])) (strOfNums xs))
    rw [List.length_map] at d
    exact d.symm.trans h
  have c := Any.bytes_genSplit_core (P := P) (ρ := ρ) { L with } a1 ⟨b2, o2, none⟩ n c1 1 c2 xs (Lib.bytesOf [y]) 0 (-1) (Lib.count (Lib.bytesOf xs) (Lib.bytesOf [y]) + 1) w hx hr1 hc1 hcap hs hc63 (by omega) (by decide) (by simp [Lib.bytesOf]) (by omega)
    (fun a zs ln cap q cc hz hrz hcz hcp hln =>
      (Any.bytes_Index_one_at (SlLaysP.n11.index { L with }) a ln cap b2 o2 c2 zs y ((w.alloc (.cells cc (ρ.t 22))).drewN q) hz
        (fun i hi => by rw [World.cell?_drewN]; exact Lib.cell?_alloc_marked _ (hcz i hi)) (by rw [World.cell?_drewN]; exact Lib.cell?_alloc_marked _ hc2)).mono
        fun e w' ⟨he, hw⟩ => ⟨by rw [he]; show _ = Ending.returned (Value.int .i64 (Lib.index (Lib.bytesOf zs) [UInt8.ofNat y.toNat])); rw [Lib.index_one], q, hw⟩)
    ((Any.bytes_Count_one_at (SlLaysP.n11.count { L with }).small a1 n c1 b2 o2 c2 xs y w hx hc1 hc2).mono fun e w' ⟨he, hw⟩ => ⟨by rw [he]; show _ = Ending.returned (Value.int .i64 ((Lib.count (Lib.bytesOf xs) [UInt8.ofNat y.toNat] : Nat) : Int)); rw [Lib.count_one]; rfl, 0, hw⟩)
    (by decide) (by decide) (by rw [if_pos (by decide)] <;> omega)
  rw [Nat.add_sub_cancel, hlen] at c
  have e2 : Lib.cellsOfV (Lib.splitV (Lib.bytesOf [y]) 0 (Lib.count (Lib.bytesOf xs) (Lib.bytesOf [y])) a1 c1 (Lib.bytesOf xs)) (Lib.count (Lib.bytesOf xs) (Lib.bytesOf [y]) + 1) = (Lib.splitV (Lib.bytesOf [y]) 0 (Lib.count (Lib.bytesOf xs) (Lib.bytesOf [y])) a1 c1 (Lib.bytesOf xs)).toArray := by rw [← hlen]; exact Lib.cellsOfV_full _
  rw [e2] at c
  clear hc1 hc2 e2 hlen hle
  generalize Lib.splitV (Lib.bytesOf [y]) 0 (Lib.count (Lib.bytesOf xs) (Lib.bytesOf [y])) a1 c1 (Lib.bytesOf xs) = pieces at c ⊢
  generalize Lib.count (Lib.bytesOf xs) (Lib.bytesOf [y]) = cnt at c ⊢
  have mixed := L.mixed
  have t0 := L.t0; have a0 := L.a0; have z0 := L.z0; have v0 := L.v0; have t3 := L.t3; have a3 := L.a3; have z3 := L.z3; have v3 := L.v3; have t4 := L.t4; have a4 := L.a4; have z4 := L.z4; have v4 := L.v4; have t5 := L.t5; have a5 := L.a5; have z5 := L.z5; have v5 := L.v5; have t9 := L.t9; have a9 := L.a9; have z9 := L.z9; have v9 := L.v9; have t22 := L.t22; have a22 := L.a22; have z22 := L.z22; have v22 := L.v22; have t23 := L.t23; have a23 := L.a23; have z23 := L.z23; have v23 := L.v23
  have e11 : ∀ args w, (callFunc (ρ.f 11) args).run P w = .ok (.enter (ρ.f 11) args) w := enters_of L.f11 (by kernel_rfl) rfl
  go_enter L.f7, SlBodyP.n7_ntmps ρ
  go_wp2_with (go_at_fn (ρ.f 11); refine c.mono ?_; rintro e w' ⟨rfl, q, rfl⟩)
  go_ret
  exact ⟨rfl, q, rfl⟩
end
end Go.Proofs
namespace Go.Proofs.YtdnfmilnkoocdaaDoor.Q
open Go.RowKit Go.Shelf Go.Proofs.YtdnfmilnkoocdaaDoorW.PrintWords Go.Proofs.YtdnfmilnkoocdaaDoorW.PrintLast Go.Proofs.YtdnfmilnkoocdaaDoorW.PrintMore Go.Proofs.YtdnfmilnkoocdaaDoor.K
set_option linter.unusedVariables false
set_option linter.unusedSimpArgs false

theorem cell_keep {A B : World} {p : Addr} {v : Value} (hc : A.cell? p = some v) (h : ∀ o, A.heap[p.block]? = some o → o.isCells = true → B.heap[p.block]? = some o) : B.cell? p = some v := by
  unfold World.cell? at hc ⊢
  cases ho : A.heap[p.block]? with
  | none => rw [ho] at hc; cases hc
  | some o =>
    rw [ho] at hc
    cases o with
    | cells c t fr => rw [h _ ho rfl]; exact hc
    | _ => cases hc
theorem bytesL_inj {l m : List Int} (hl : Oct l) (hm : Oct m) (h : Lib.bytesOf l = Lib.bytesOf m) : l = m := str_inj hl hm (toList_inj (by rw [ba_toList, ba_toList, str_data, str_data, h]))
set_option maxHeartbeats 2000000 in
set_option maxRecDepth 100000 in
theorem zClone.calls (A : Option Addr) (c : Nat) (L : List Int) (w : World) (hr : Kd.C (Kd.int .u8) w A L.length L) (hc : L.length ≤ c) (hl : L.length ≤ 1000000) :
    Calls Tryd.prog 60 #[.slice A L.length c] w fun e w' => ∃ v A' c', e = .returned v ∧ v = .slice A' L.length c' ∧ (A' = none → c' = 0) ∧ c' ≤ 9223372036854775807 ∧ (∀ ad, A' = some ad → w.heap.size ≤ ad.block) ∧ (L ≠ [] → Kd.R (Kd.int .u8) 5 w' w.heap.size (fun _ => True) v L) ∧ L.length ≤ c' ∧ Kd.C (Kd.int .u8) w' A' L.length L ∧ Below w.heap.size w w' := by
  cases A with
  | none =>
    have h0 : L = [] := by
      rcases Nat.eq_zero_or_pos L.length with h | h
      · exact List.length_eq_zero_iff.1 h
      · obtain ⟨ad, e, _⟩ := hr.2.2 h; cases e
    subst h0
    refine (Any.bytes_Clone_nil Tryd.laysk4 0 c w).mono ?_
    rintro e w' ⟨rfl, rfl⟩
    exact ⟨_, none, 0, rfl, rfl, fun _ => rfl, by omega, (fun ad e => by cases e), fun h => absurd rfl h, Nat.zero_le _, hr, Below.refl _ _⟩
  | some a =>
    have hrd := Kd.reads_of_C (enc := Value.int .u8) (d := (0 : Int)) (h1 := fun _ => rfl) hr
    refine (Any.bytes_Clone_at Tryd.laysk4 a L.length c L w rfl (by omega) (fun i hi => ?_)).mono ?_
    · obtain ⟨ad, e, h⟩ := hrd.2.2 (by omega)
      cases e
      exact h i hi
    · rintro e w' ⟨v', rfl, ho, hne, hb⟩
      have hR : Kd.R (Kd.int .u8) 5 w' w.heap.size (fun _ => True) v' L := Kd.R_of_own ho (fun _ _ => trivial)
      rcases ho.2 with ⟨h1, _⟩ | ⟨g, c', cur, rfl, h1, h2, h3, h4, _⟩
      · exact absurd h1 hne
      · obtain ⟨A9, c9, hv, hc9, hC⟩ := Kd.R_reads hR
        injection hv with e1 e2 e3
        subst e1 e3
        exact ⟨_, _, c', rfl, rfl, (fun e => by cases e), by unfold maxLen at h4; omega, (fun ad e => by cases e; exact h1), fun _ => hR, h3, hC, hb⟩
theorem zSplit.calls (A : Option Addr) (c : Nat) (L : List Int) (ho : Oct L) (hl : L.length ≤ 1000000) (A2 : Option Addr) (d : Nat) (w : World) (hr : Kd.C (Kd.int .u8) w A L.length L) (hc : L.length ≤ c) (hc63 : c ≤ 9223372036854775807) (hnil : A = none → c = 0) (n0 : Nat) (hn0 : n0 ≤ w.heap.size) (hA0 : ∀ ad, A = some ad → n0 ≤ ad.block) (hr2 : Kd.C (Kd.int .u8) w A2 1 [10]) :
    Calls Tryd.prog 80 #[.slice A L.length c, .slice A2 1 d] w fun e w' => ∃ cs : Array Value, e = .returned (.slice (some ⟨w.heap.size, 0, none⟩) (spl 10 L).length (spl 10 L).length) ∧ w'.heap[w.heap.size]? = some (.cells cs 22 (0, 0)) ∧
      (∀ W', (∀ k o, n0 ≤ k → w'.heap[k]? = some o → o.isCells = true → W'.heap[k]? = some o) → Kd.C (Kd.slice 5 (Kd.int .u8)) W' (some ⟨w.heap.size, 0, none⟩) (spl 10 L).length (spl 10 L)) ∧ Below w.heap.size w w' := by
  obtain ⟨ad2, e2, h2⟩ := Kd.at_int hr2 0 (by omega) (by omega)
  subst e2
  have h2' : w.cell? (ad2.add 0) = some (.int .u8 10) := h2
  have hpl := Lib.plain_of_cell (by simpa [Addr.add] using h2')
  obtain ⟨b2, o2, sp2⟩ := ad2
  simp only [Addr.mk.injEq, true_and] at hpl
  subst hpl
  have h0 : w.cell? ⟨b2, o2, none⟩ = some (.int .u8 10) := by simpa [Addr.add] using h2'
  cases A with
  | none =>
    have hL : L = [] := by
      rcases Nat.eq_zero_or_pos L.length with h | h
      · exact List.length_eq_zero_iff.1 h
      · obtain ⟨ad, e, _⟩ := hr.2.2 h; cases e
    subst hL
    obtain rfl := hnil rfl
    refine (Any.bytes_Split_nil Tryd.laysp7 (some ⟨b2, o2, none⟩) 1 d w (by omega) (by omega) (fun _ => ⟨b2, o2, 10, rfl, h0⟩)).mono ?_
    rintro e w' ⟨rfl, rfl⟩
    have hrow : (w.alloc (.cells #[.slice none 0 0] 22)).heap[w.heap.size]? = some (.cells #[.slice none 0 0] 22 (0, 0)) := heap_alloc_new w _
    refine ⟨_, rfl, hrow, fun W' hW' => ⟨rfl, by decide, fun hp => ⟨_, rfl, fun j p hj => ?_⟩⟩, (Below.refl _ w).alloc (Nat.le_refl _) _⟩
    have hj0 : j = 0 := by
      cases j with
      | zero => rfl
      | succ j => simp [spl, splP] at hj
    subst hj0
    obtain rfl : p = [] := by simpa [spl, splP] using hj.symm
    refine ⟨[.slice none 0 0], rfl, ⟨none, 0, rfl, Nat.le_refl _, rfl, by simp, fun h => by simp at h⟩, fun i u hu => ?_⟩
    have hi : i = 0 := by
      cases i with
      | zero => rfl
      | succ i => simp at hu
    subst hi
    simp only [List.getElem?_cons_zero, Option.some.injEq] at hu
    subst hu
    have hc2 : W'.cell? ⟨w.heap.size, 0 + (0 * 1 + 0), none⟩ = some (.slice none 0 0) := by
      simp only [World.cell?]
      rw [hW' w.heap.size _ hn0 hrow rfl]
      rfl
    rw [Addr.add_lit]
    exact hc2
  | some a1 =>
    have hrd := Kd.reads_of_C (enc := Value.int .u8) (d := (0 : Int)) (h1 := fun _ => rfl) hr
    have hcell : ∀ i, i < L.length → w.cell? (a1.add i) = some (.int .u8 (L.getD i 0)) := fun i hi => by
      obtain ⟨ad, e, h⟩ := hrd.2.2 (by omega)
      cases e
      exact h i hi
    refine (Any.bytes_Split_one Tryd.laysp7 a1 L.length c b2 o2 d L 10 w rfl (fun x hx => by have := ho x hx; omega) hcell h0 hc (by omega) hc63).mono ?_
    obtain ⟨s1, s2⟩ := split_one 10 _ (Lib.bytesOf L) (Nat.le_refl _)
    have hsp := spl_bytes (c := 10) (by decide) ho
    rw [show UInt8.ofNat (10 : Int).toNat = 10 from rfl] at hsp
    rw [hsp] at s1 s2
    rw [List.length_map] at s2
    rw [show Lib.bytesOf [10] = [10] from rfl]
    rintro e w' ⟨rfl, q, rfl⟩
    have hbl : Below w.heap.size w ((w.alloc (.cells (Lib.splitV [10] 0 (Lib.count (Lib.bytesOf L) [10]) a1 c (Lib.bytesOf L)).toArray 22)).drewN q) := pw_below_drewN ((Below.refl _ w).alloc (Nat.le_refl _) _) q
    have hlen : (Lib.splitV [10] 0 (Lib.count (Lib.bytesOf L) [10]) a1 c (Lib.bytesOf L)).length = (spl 10 L).length := by rw [Lib.splitV_length, s1, List.length_map]
    have hrow : ((w.alloc (.cells (Lib.splitV [10] 0 (Lib.count (Lib.bytesOf L) [10]) a1 c (Lib.bytesOf L)).toArray 22)).drewN q).heap[w.heap.size]? = some (.cells (Lib.splitV [10] 0 (Lib.count (Lib.bytesOf L) [10]) a1 c (Lib.bytesOf L)).toArray 22 (0, 0)) := by
      rw [World.heap_drewN]; exact heap_alloc_new w _
    have hW0 : w.heap.size < ((w.alloc (.cells (Lib.splitV [10] 0 (Lib.count (Lib.bytesOf L) [10]) a1 c (Lib.bytesOf L)).toArray 22)).drewN q).heap.size := (Array.getElem?_eq_some_iff.1 hrow).1
    refine ⟨_, by rw [s2], hrow, fun W' hW' => ⟨by first | rfl | simp, by have := splP_count (fun x => decide (x = (10 : Int))) L; unfold spl; omega, fun hp => ⟨_, rfl, fun j p hj => ?_⟩⟩, hbl⟩
    have hjl := (List.getElem?_eq_some_iff.1 hj).1
    obtain ⟨v, hv⟩ : ∃ v, (Lib.splitV [10] 0 (Lib.count (Lib.bytesOf L) [10]) a1 c (Lib.bytesOf L))[j]? = some v := ⟨_, List.getElem?_eq_getElem (by rw [hlen]; exact hjl)⟩
    obtain ⟨a', off, len, cp, rfl, k1, k2, k3, k4⟩ := Lib.splitV_spec [10] 0 (by simp) (by simp) _ a1 c (Lib.bytesOf L) (by rw [show (Lib.bytesOf L).length = L.length from List.length_map ..]; exact hc) j v hv
    rw [show (Lib.bytesOf L).length = L.length from List.length_map ..] at k2
    rw [s1, List.getElem?_map, hj] at k3
    have hp1 : p = (L.drop off).take len := by
      refine bytesL_inj (oct_spl ho (List.mem_of_getElem? hj)) ((ho.drop off).take len) ?_
      have := Option.some.inj k3
      rw [show Lib.bytesOf p = _ from this]
      simp [Lib.bytesOf, List.map_drop, List.map_take]
    have hpl : p.length = len := by rw [hp1, List.length_take, List.length_drop]; omega
    refine ⟨[.slice (some a') len cp], rfl, ⟨some a', cp, by rw [hpl], by rw [hpl]; exact k1, ?_⟩, fun i u hu => ?_⟩
    · refine Kd.C_of_reads (d := (0 : Int)) ⟨rfl, by rw [hpl]; omega, fun _ => ⟨a', rfl, fun i hi => ?_⟩⟩
      rw [hpl] at hi
      rw [k4 i hi]
      have hw := hcell (off + i) (by omega)
      have hh := (hbl.cell (World.block_lt_of_cell? w _ hw)).trans hw
      have hblk : (a1.add (off + i)).block = a1.block := by unfold Addr.add; split <;> rfl
      have hh2 := cell_keep hh (fun o h1 h2 => hW' _ o (by rw [hblk]; exact hA0 a1 rfl) h1 h2)
      refine Eq.trans hh2 ?_
      congr 2
      rw [hp1, List.getD_eq_getElem?_getD, List.getD_eq_getElem?_getD, List.getElem?_take_of_lt hi, List.getElem?_drop]
    · have hi : i = 0 := by
        cases i with
        | zero => rfl
        | succ i => simp at hu
      subst hi
      simp only [List.getElem?_cons_zero, Option.some.injEq] at hu
      subst hu
      have hc2 : W'.cell? ⟨w.heap.size, 0 + (j * 1 + 0), none⟩ = some (.slice (some a') len cp) := by
        simp only [World.cell?]
        rw [hW' w.heap.size _ hn0 hrow rfl]
        simp [hv]
      rw [Addr.add_lit]
      exact hc2
end Go.Proofs.YtdnfmilnkoocdaaDoor.Q

-- from Hsib
/- strings.IndexByte. The walk is the shelf's, laid for this program. -/
namespace Go.Proofs.YtdnfmilnkoocdaaDoor.Q
open Go.RowKit Go.Proofs.YtdnfmilnkoocdaaDoorW.PrintWords Go.Proofs.YtdnfmilnkoocdaaDoorW.PrintLast Go.Proofs.YtdnfmilnkoocdaaDoorW.PrintMore
set_option linter.unusedVariables false
set_option linter.unusedSimpArgs false

set_option maxHeartbeats 1000000 in
set_option maxRecDepth 100000 in
theorem stringslite_IndexByte (s : ByteArray) (c : Int) (w : World) :
    Calls Tryd.prog 76 #[.string s, .int .u8 c] w fun e w' => e = .returned (.int .i64 (Lib.indexByte s.data.toList c.toNat.toUInt8)) ∧ w' = w := by
  go_enter Tryd.func76, Tryd.ntmps76
  go_wp2
  rw [run_callFunc_extern Tryd.func96 (by kernel_rfl) (by kernel_rfl) (by kernel_rfl) (e := Extern.BytealgIndexByte.indexByte) (by kernel_rfl), Lib.run_indexByteString]
  simp only [Result.andThen]
  rw [Oper.upon_value]
  go_wp2
  go_ret
  exact ⟨rfl, rfl⟩
def strings_IndexByte.f (s : ByteArray) (c : Int) : Option Int := some (Lib.indexByte s.data.toList c.toNat.toUInt8)
set_option maxHeartbeats 1000000 in
theorem strings_IndexByte.calls (s : ByteArray) (c : Int) (r : Int) (w : World) (h : strings_IndexByte.f s c = some r) :
    Calls Tryd.prog 46 #[.string s, .int .u8 c] w fun e w' => e = .returned (.int .i64 r) ∧ Drawn0 w w' := by
  unfold strings_IndexByte.f at h
  obtain rfl := Option.some.inj h
  go_enter Tryd.func46, Tryd.ntmps46
  go_wp2_with (go_at_call 76; refine (stringslite_IndexByte _ _ _).mono ?_; rintro e w' ⟨rfl, rfl⟩)
  go_ret
  exact ⟨rfl, Drawn0.refl _⟩

end Go.Proofs.YtdnfmilnkoocdaaDoor.Q

-- from Hzcm
/- bytes.Compare. -/
namespace Go.Proofs.YtdnfmilnkoocdaaDoor.Q
open Go.RowKit Go.Proofs.YtdnfmilnkoocdaaDoorW.PrintWords Go.Proofs.YtdnfmilnkoocdaaDoorW.PrintLast Go.Proofs.YtdnfmilnkoocdaaDoorW.PrintMore Go.Proofs.YtdnfmilnkoocdaaDoor.K
set_option linter.unusedVariables false
set_option linter.unusedSimpArgs false

/-- The order of texts of octets. -/
def zcmp (l m : List Int) : Int := Lib.compareBytes (Lib.bytesOf l) (Lib.bytesOf m)
theorem run_octets {P : Program} (w : World) (A : Option Addr) (c : Nat) (L : List Int) (hr : Kd.C (Kd.int .u8) w A L.length L) : (Extern.Bytes.bytesOf (.slice A L.length c)).run P w = .ok ⟨(Lib.bytesOf L).toArray⟩ w := by
  cases A with
  | none =>
    have h0 : L = [] := by
      rcases Nat.eq_zero_or_pos L.length with h | h
      · exact List.length_eq_zero_iff.1 h
      · obtain ⟨ad, e, _⟩ := hr.2.2 h; cases e
    subst h0
    rfl
  | some a =>
    have hrd := Kd.reads_of_C (enc := Value.int .u8) (d := (0 : Int)) (h1 := fun _ => rfl) hr
    have hl := Lib.run_loadBytesX (P := P) w L a .empty (fun j x hj => by
      have hjl : j < L.length := (List.getElem?_eq_some_iff.1 hj).1
      obtain ⟨ad, e, h⟩ := hrd.2.2 (by omega)
      cases e
      rw [h j hjl, List.getD_eq_getElem?_getD, hj]
      rfl)
    have he : (⟨ByteArray.empty.data ++ (Lib.bytesOf L).toArray⟩ : ByteArray) = ⟨(Lib.bytesOf L).toArray⟩ := by
      apply ByteArray.ext
      show (#[] : Array UInt8) ++ (Lib.bytesOf L).toArray = (Lib.bytesOf L).toArray
      simp
    rw [he] at hl
    exact hl
theorem run_compare {P : Program} (w : World) (A A2 : Option Addr) (c c2 : Nat) (L M : List Int) (hr : Kd.C (Kd.int .u8) w A L.length L) (hr2 : Kd.C (Kd.int .u8) w A2 M.length M) :
    (Extern.BytealgCompare.compare #[.slice A L.length c, .slice A2 M.length c2]).run P w = .ok (.int .i64 (zcmp L M)) w := by
  change Sem.run P (do pure (goInt (Extern.BytealgCompare.cmp (← Extern.Bytes.bytesOf (.slice A L.length c)) (← Extern.Bytes.bytesOf (.slice A2 M.length c2))))) w = _
  simp only [Sem.run_bind, Sem.run_pure, run_octets w A c L hr, run_octets w A2 c2 M hr2, Result.andThen]
  rw [Lib.cmp_eq]
  rfl
set_option maxHeartbeats 1000000 in
set_option maxRecDepth 100000 in
theorem bytes_Compare.calls (A A2 : Option Addr) (c c2 : Nat) (L M : List Int) (w : World) (hr : Kd.C (Kd.int .u8) w A L.length L) (hr2 : Kd.C (Kd.int .u8) w A2 M.length M) :
    Calls Tryd.prog 101 #[.slice A L.length c, .slice A2 M.length c2] w fun e w' => e = .returned (.int .i64 (zcmp L M)) ∧ w' = w := by
  have HR := Aside0.mk hr
  have HR2 := Aside0.mk hr2
  clear hr hr2
  go_enter Tryd.func101, Tryd.ntmps101
  go_wp2
  rw [run_callFunc_extern Tryd.func124 (by kernel_rfl) (by kernel_rfl) (by kernel_rfl) (e := Extern.BytealgCompare.compare) (by kernel_rfl), run_compare _ _ _ _ _ _ _ HR.out HR2.out]
  simp only [Result.andThen]
  rw [Oper.upon_value]
  go_wp2
  go_ret
  exact ⟨rfl, rfl⟩
theorem cmp_nil : ∀ l : List UInt8, Lib.compareBytes l [] = if l = [] then 0 else 1
  | [] => rfl
  | _ :: _ => rfl
theorem cmp_eq0 : ∀ l m : List UInt8, Lib.compareBytes l m = 0 ↔ l = m
  | [], [] => by simp [Lib.compareBytes]
  | [], _ :: _ => by simp [Lib.compareBytes]
  | _ :: _, [] => by simp [Lib.compareBytes]
  | a :: r, b :: s => by
    unfold Lib.compareBytes
    by_cases h1 : a < b
    · rw [if_pos h1]
      refine ⟨(fun h => by cases h), fun h => ?_⟩
      injection h with h _
      subst h
      exact absurd h1 (UInt8.lt_irrefl _)
    · rw [if_neg h1]
      by_cases h2 : b < a
      · rw [if_pos h2]
        refine ⟨(fun h => by cases h), fun h => ?_⟩
        injection h with h _
        subst h
        exact absurd h2 (UInt8.lt_irrefl _)
      · rw [if_neg h2, cmp_eq0 r s]
        have : a = b := UInt8.le_antisymm (UInt8.not_lt.1 h2) (UInt8.not_lt.1 h1)
        subst this
        simp
theorem zcmp_0 {l m : List Int} (hl : Oct l) (hm : Oct m) : zcmp l m = 0 ↔ l = m := by
  unfold zcmp
  rw [cmp_eq0]
  exact ⟨fun h => str_inj hl hm (toList_inj (by rw [ba_toList, ba_toList, str_data, str_data, h])), fun h => by rw [h]⟩
end Go.Proofs.YtdnfmilnkoocdaaDoor.Q

-- from Qf123
-- Made by hp.py, a program of this session, with the kit's printer. Not trusted: Lean checks it.
namespace Go.Proofs.YtdnfmilnkoocdaaDoor.Q
open Go.RowKit Go.Proofs.YtdnfmilnkoocdaaDoorW.PrintWords Go.Proofs.YtdnfmilnkoocdaaDoorW.PrintLast Go.Proofs.YtdnfmilnkoocdaaDoorW.PrintMore
attribute [local go_sem] max2_int min2_int max_two min_two max_three min_three max_four min_four   -- for this text's walks alone
set_option linter.unusedVariables false
set_option linter.unusedSimpArgs false

/-! ### utf_Lower: function 123 -/
def utf_Lower.f (a0 : Int) : Option (Int) := if a0 ≥ 65 then (if a0 ≤ 90 then (some (wrap64 (a0 + 32))) else (some a0)) else (some a0)
set_option maxHeartbeats 8000000 in
set_option maxRecDepth 100000 in
theorem utf_Lower.calls (a0 : Int) (r : Int) (w : World) (h : utf_Lower.f a0 = some r) :
  Calls Tryd.prog 123 #[.int .i64 a0] w fun e w' => e = .returned (.int .i64 r) ∧ Drawn0 w w' := by
 have H : (if a0 ≥ 65 then (if a0 ≤ 90 then (some (wrap64 (a0 + 32))) else (some a0)) else (some a0)) = some r := h
 clear h
 by_cases c2 : a0 ≥ 65
 ·rw [if_pos c2] at H
  have c2b0 : decide (65 ≤ a0) = true := decide_eq_true c2
  clear c2
  by_cases c3 : a0 ≤ 90
  ·rw [if_pos c3] at H
   have c3b0 : decide (a0 ≤ 90) = true := decide_eq_true c3
   clear c3
   obtain rfl := Option.some.inj H
   go_enter Tryd.func123, Tryd.ntmps123
   go_wp2
   go_ret
   exact ⟨by first | rfl | (simp; done) | (simp [*]; done), by repeat (first | exact Drawn0.refl _ | apply Drawn0.step)⟩
  ·rw [if_neg c3] at H
   have c3b0 : decide (a0 ≤ 90) = false := decide_eq_false c3
   clear c3
   obtain rfl := Option.some.inj H
   go_enter Tryd.func123, Tryd.ntmps123
   go_wp2
   go_ret
   exact ⟨by first | rfl | (simp; done) | (simp [*]; done), by repeat (first | exact Drawn0.refl _ | apply Drawn0.step)⟩
 ·rw [if_neg c2] at H
  have c2b0 : decide (65 ≤ a0) = false := decide_eq_false c2
  clear c2
  obtain rfl := Option.some.inj H
  go_enter Tryd.func123, Tryd.ntmps123
  go_wp2
  go_ret
  exact ⟨by first | rfl | (simp; done) | (simp [*]; done), by repeat (first | exact Drawn0.refl _ | apply Drawn0.step)⟩

end Go.Proofs.YtdnfmilnkoocdaaDoor.Q

-- from Hldh
namespace Go.Proofs.YtdnfmilnkoocdaaDoor.Q
open Go.RowKit Go.Proofs.YtdnfmilnkoocdaaDoorW.PrintWords Go.Proofs.YtdnfmilnkoocdaaDoorW.PrintLast Go.Proofs.YtdnfmilnkoocdaaDoorW.PrintMore
set_option linter.unusedVariables false
set_option linter.unusedSimpArgs false

theorem hldh_info : (Tryd.prog.info? 5).map (fun i => (i.zero, i.size, i.bytes)) = some (some (.int .u8 0), 1, 1) := by kernel_rfl
theorem hldh_size : (Tryd.prog.info? 5).map (·.size) = some 1 := by kernel_rfl

def ldh_Lower.l0 : Nat → List Int → Int → Option (List Int)
  | 0, _, _ => none
  | k + 1, xs, i => if i < (xs.length : Int) then (if 0 ≤ i then (utf_Lower.f (wrap64 (rd xs i))).bind fun t => ldh_Lower.l0 k (xs.set i.toNat (t % 256)) (wrap64 (i + 1)) else none) else some xs
def ldh_Lower.f (k : Nat) (l0 : List Int) : Option (List Int) := if l0.length ≤ 281474976710656 then ldh_Lower.l0 k l0 0 else none
theorem ldh_Lower.mono_l : ∀ k, (∀ y0 y1, LeO (ldh_Lower.l0 k y0 y1) (ldh_Lower.l0 (k + 1) y0 y1))
  | 0 => fun _ _ r h => by simp [ldh_Lower.l0] at h
  | k + 1 => by
    have ih0 := ldh_Lower.mono_l k
    intro y0 y1
    unfold ldh_Lower.l0
    repeat' first
      | (with_reducible exact ih0 _ _)
      | (with_reducible exact LeO.refl _)
      | (with_reducible exact LeO.none _)
      | (with_reducible refine LeO.ite ?_ ?_)
      | (with_reducible refine LeO.bind ?_ (fun _ => ?_))
theorem ldh_Lower.mono : ∀ a0 k, LeO (ldh_Lower.f k a0) (ldh_Lower.f (k + 1) a0) := by
  intro a0 k
  have ih0 := ldh_Lower.mono_l k
  unfold ldh_Lower.f
  repeat' first
      | (with_reducible exact ih0 _ _)
      | (with_reducible exact LeO.none _)
      | (with_reducible refine LeO.ite ?_ ?_)

theorem ldh_Lower.shape {w1 : World} {base e : Nat} {v1 : Value} {n : Nat} (h : Kd.R (Kd.int .u8) e w1 base (fun _ => True) v1 (List.replicate n 0)) (hat : ∃ b, v1.ownBlock = some b ∧ base ≤ b) :
    ∃ g c, v1 = .slice (some ⟨g, 0, none⟩) n c := by
  obtain ⟨b, hb, _⟩ := hat
  have ho := Kd.own_of_R h
  rcases ho.2 with ⟨rfl, _⟩ | ⟨g, cap, cur, rfl, _⟩
  · simp [Value.ownBlock] at hb
  · exact ⟨g, cap, by rw [List.length_replicate]⟩
theorem ldh_Lower.copied (l0 : List Int) : l0.take (min l0.length (List.replicate l0.length (0 : Int)).length) ++ (List.replicate l0.length (0 : Int)).drop (min l0.length (List.replicate l0.length (0 : Int)).length) = l0 := by
  simp

set_option maxHeartbeats 1000000 in
set_option maxRecDepth 100000 in
theorem ldh_Lower.calls (k : Nat) (A0 : Option Addr) (c0 : Nat) (l0 : List Int) (r : List Int) (w : World) (hr0 : Kd.C (Kd.int .u8) w A0 l0.length l0) (hc0 : l0.length ≤ c0) (h : ldh_Lower.f k l0 = some r) :
    Calls Tryd.prog 100 #[.slice A0 l0.length c0] w fun e w' => ∃ v0_ : Value, e = .returned (v0_) ∧ Kd.R (Kd.int .u8) 5 w' w.heap.size (fun _ => True) v0_ r ∧ Below w.heap.size w w' := by
  unfold ldh_Lower.f at h
  by_cases hl : l0.length ≤ 281474976710656
  · rw [if_pos hl] at h
    have HA := Aside0.mk h
    have HR := Aside0.mk hr0
    have HL := Aside0.mk hl
    clear h hr0 hl
    go_enter Tryd.func100, Tryd.ntmps100
    go_wp2_with (first
      | ((with_reducible refine gate_dst (N := 8) rfl ?_)
         refine Kd.R_make (Kd.int .u8) (w0 := w) w.heap.size 5 rfl (N := 8) rfl 22 (.tmp 7) (.tmp 7) rfl (l0.length : Int) rfl rfl Tryd.underlying22 (.int .u8 0) 1 hldh_info rfl (by decide) (by decide) 0 (ok := fun _ => True) (okp := fun _ => True) rfl (fun _ h => h) trivial (by omega) (by have := HL.out; simp only [Int.toNat_natCast]; omega) (Below.refl _ _) (Nat.le_refl _) ?_
         intro v1 w1 hR1 hB1 _ hat
         rw [Int.toNat_natCast] at hR1
         obtain ⟨g1, c1, rfl⟩ := ldh_Lower.shape hR1 hat
         have HR1 := Aside0.mk hR1
         have HB1 := Aside0.mk hB1
         clear hR1 hB1 hat)
      | ((with_reducible refine gate_dst (N := 11) rfl ?_)
         refine Kd.R_copy (d := (0 : Int)) (w0 := w) w.heap.size rfl (.tmp 9) (.tmp 10) 22 22 5 rfl Tryd.underlying22 hldh_size _ (List.replicate l0.length 0) l0 A0 l0.length c0 (fun _ => True) rfl rfl HR1.out (Kd.C_below HR.out HB1.out) HB1.out HB1.out.size ?_
         intro w2 hR2 hB2 hg2
         rw [ldh_Lower.copied] at hR2
         have HR2 := Aside0.mk hR2
         have HB2 := Aside0.mk hB2
         clear hR2 hB2 hg2 HR1 HB1))
    go_loopg [14] k (fun kq v14 w' => ∃ (i : Int) (xs : List Int), v14 = .int .i64 i ∧ Aside0 (ldh_Lower.l0 kq xs i = some r) ∧ Aside0 (kq ≤ k) ∧ Aside0 (xs.length = l0.length) ∧ Aside0 (Kd.R (Kd.int .u8) 5 w' w.heap.size (fun _ => True) (.slice (some ⟨g1, 0, none⟩) l0.length c1) xs) ∧ Aside0 (Below w.heap.size w w'))
    case atStart => exact ⟨0, l0, rfl, HA, ⟨Nat.le_refl _⟩, ⟨rfl⟩, HR2, HB2⟩
    case round =>
      clear HA HR2 HB2
      obtain ⟨i, xs, rfl, HA, HK, HX, HR2, HB⟩ := hrel
      cases gk with
      | zero => exact absurd HA.out (by simp [ldh_Lower.l0])
      | succ k1 =>
        have H := HA.out
        clear HA
        simp only [ldh_Lower.l0] at H
        by_cases c1 : i < (xs.length : Int)
        · rw [if_pos c1] at H
          by_cases c2 : 0 ≤ i
          · rw [if_pos c2] at H
            obtain ⟨t, ht, H⟩ := Option.bind_eq_some_iff.mp H
            have HT := Aside0.mk ht
            have H' := Aside0.mk H
            clear ht H
            have hR3 := HR2.out
            rw [← HX.out] at hR3
            obtain ⟨hc0, hf⟩ := Kd.R_cell (d := (0 : Int)) hR3 i c2 c1
            have hc : wr.cell? ⟨g1, i.toNat, none⟩ = some (.int .u8 (rd xs i)) := hc0
            clear hc0
            have HR3 := Aside0.mk hR3
            have p1 : i < (l0.length : Int) := by have := HX.out; omega
            have q1 := eq_true p1
            have q2 := eq_true c2
            have hb1 : decide (i < (l0.length : Int)) = true := by have := HX.out; simp; omega
            have hb2 : decide (0 ≤ i) = true := decide_eq_true c2
            clear hR3 c1 c2 p1
            go_wp2_with (first | (go_at_call 123; (with_reducible refine (utf_Lower.calls _ t _ HT.out).mono ?_); rintro e w' ⟨rfl, ⟨nd, rfl⟩⟩))
            go_roundg k1
            case measure => have := HK.out; omega
            case rel =>
              obtain ⟨hR4, hg4⟩ := Kd.R_put (Kd.R_drewN HR3.out nd) i (t % 256)
              rw [HX.out] at hR4
              refine ⟨_, xs.set i.toNat (t % 256), rfl, H', ⟨by have := HK.out; omega⟩, ⟨by simp [HX.out]⟩, ⟨hR4⟩, ⟨(pw_below_drewN HB.out nd).grown hg4 HB.out.size (fun k e => by cases e; exact Kd.R_base HR3.out g1 rfl)⟩⟩
          · rw [if_neg c2] at H
            cases H
        · rw [if_neg c1] at H
          obtain rfl := Option.some.inj H
          have hb1 : decide (i < (l0.length : Int)) = false := by have := HX.out; simp; omega
          clear c1
          go_wp2
          go_ret
          exact ⟨_, rfl, by have := HR2.out; exact this, HB.out⟩
  · rw [if_neg hl] at h
    cases h

end Go.Proofs.YtdnfmilnkoocdaaDoor.Q

-- from Qf78
-- Made by hp.py, a program of this session, with the kit's printer. Not trusted: Lean checks it.
namespace Go.Proofs.YtdnfmilnkoocdaaDoor.Q
open Go.RowKit Go.Proofs.YtdnfmilnkoocdaaDoorW.PrintWords Go.Proofs.YtdnfmilnkoocdaaDoorW.PrintLast Go.Proofs.YtdnfmilnkoocdaaDoorW.PrintMore
attribute [local go_sem] max2_int min2_int max_two min_two max_three min_three max_four min_four   -- for this text's walks alone
set_option linter.unusedVariables false
set_option linter.unusedSimpArgs false

/-! ### token_digit: function 78 -/
def token_digit.f (a0 : Int) : Option (Bool) := if a0 ≥ 48 then (some (decide (a0 ≤ 57))) else (some false)
set_option maxHeartbeats 8000000 in
set_option maxRecDepth 100000 in
theorem token_digit.calls (a0 : Int) (r : Bool) (w : World) (h : token_digit.f a0 = some r) :
  Calls Tryd.prog 78 #[.int .u8 a0] w fun e w' => e = .returned (.bool r) ∧ Drawn0 w w' := by
 have H : (if a0 ≥ 48 then (some (decide (a0 ≤ 57))) else (some false)) = some r := h
 clear h
 by_cases c2 : a0 ≥ 48
 ·rw [if_pos c2] at H
  have c2b0 : decide (48 ≤ a0) = true := decide_eq_true c2
  clear c2
  obtain rfl := Option.some.inj H
  go_enter Tryd.func78, Tryd.ntmps78
  go_wp2
  go_ret
  exact ⟨by first | rfl | (simp; done) | (simp [*]; done), by repeat (first | exact Drawn0.refl _ | apply Drawn0.step)⟩
 ·rw [if_neg c2] at H
  have c2b0 : decide (48 ≤ a0) = false := decide_eq_false c2
  clear c2
  obtain rfl := Option.some.inj H
  go_enter Tryd.func78, Tryd.ntmps78
  go_wp2
  go_ret
  exact ⟨by first | rfl | (simp; done) | (simp [*]; done), by repeat (first | exact Drawn0.refl _ | apply Drawn0.step)⟩

end Go.Proofs.YtdnfmilnkoocdaaDoor.Q

-- from Qf51
-- Made by hp.py, a program of this session, with the kit's printer. Not trusted: Lean checks it.
namespace Go.Proofs.YtdnfmilnkoocdaaDoor.Q
open Go.RowKit Go.Proofs.YtdnfmilnkoocdaaDoorW.PrintWords Go.Proofs.YtdnfmilnkoocdaaDoorW.PrintLast Go.Proofs.YtdnfmilnkoocdaaDoorW.PrintMore
attribute [local go_sem] max2_int min2_int max_two min_two max_three min_three max_four min_four   -- for this text's walks alone
set_option linter.unusedVariables false
set_option linter.unusedSimpArgs false

/-! ### token_escape: function 51 -/
def token_escape.j0 : Nat → ByteArray → Bool → Option (Int × Int)
 | 0, _, _ => none
 | k + 1, x0, x16 => if x16 = true then (some (0, 0)) else (if 1 < (x0.size : Int) then (if 2 < (x0.size : Int) then (if 3 < (x0.size : Int) then (if ((((((bt x0 1) - 48) % 256) * 100) + ((((bt x0 2) - 48) % 256) * 10)) + (((bt x0 3) - 48) % 256)) > 255 then (some (0, 0)) else (some (((((((bt x0 1) - 48) % 256) * 100) + ((((bt x0 2) - 48) % 256) * 10)) + (((bt x0 3) - 48) % 256)) % 256, 4))) else (none)) else (none)) else (none))
def token_escape.f (k : Nat) (a0 : ByteArray) : Option (Int × Int) := if (a0.size : Int) < 2 then (some (0, 0)) else (if 1 < (a0.size : Int) then ((token_digit.f (bt a0 1)).bind fun t101 => (if t101 = true then (if (a0.size : Int) < 4 then (token_escape.j0 k a0 true) else (if 2 < (a0.size : Int) then ((token_digit.f (bt a0 2)).bind fun t102 => (if t102 = true then (if 3 < (a0.size : Int) then ((token_digit.f (bt a0 3)).bind fun t103 => (token_escape.j0 k a0 (!t103))) else (none)) else (token_escape.j0 k a0 true))) else (none))) else (some (bt a0 1, 2)))) else (none))
theorem token_escape.mono_l : ∀ k, (∀ y0 y1, LeO (token_escape.j0 k y0 y1) (token_escape.j0 (k + 1) y0 y1))
 | 0 => fun _ _ r h => by simp [token_escape.j0] at h
 | k + 1 => by
  have ih0 := token_escape.mono_l k
  ·intro y0 y1
   unfold token_escape.j0
   repeat' first
   | (with_reducible exact ih0 _ _)
   | (with_reducible exact LeO.refl _)
   | (with_reducible exact LeO.none _)
   | (with_reducible refine LeO.ite ?_ ?_)
   | (with_reducible refine LeO.bind ?_ (fun _ => ?_))
   | exact ih0 _ _
   | exact LeO.none _
   | refine LeO.ite ?_ ?_
   | refine LeO.bind ?_ (fun _ => ?_)
theorem token_escape.mono : ∀ a0 k, LeO (token_escape.f k a0) (token_escape.f (k + 1) a0) := by
 intro a0 k
 have ih0 := token_escape.mono_l k
 unfold token_escape.f
 repeat' first
   | (with_reducible exact ih0 _ _)
   | (with_reducible exact LeO.refl _)
   | (with_reducible exact LeO.none _)
   | (with_reducible refine LeO.ite ?_ ?_)
   | (with_reducible refine LeO.bind ?_ (fun _ => ?_))
   | exact ih0 _ _
   | exact LeO.none _
   | refine LeO.ite ?_ ?_
   | refine LeO.bind ?_ (fun _ => ?_)
set_option maxHeartbeats 8000000 in
set_option maxRecDepth 100000 in
theorem token_escape.calls (k : Nat) (a0 : ByteArray) (r1 : Int) (r2 : Int) (w : World) (h : token_escape.f k a0 = some (r1, r2)) :
  Calls Tryd.prog 51 #[.string a0] w fun e w' => e = .returned (.tuple #[.int .u8 r1, .int .i64 r2]) ∧ Drawn0 w w' := by
 have H : (if (a0.size : Int) < 2 then (some (0, 0)) else (if 1 < (a0.size : Int) then ((token_digit.f (bt a0 1)).bind fun t101 => (if t101 = true then (if (a0.size : Int) < 4 then (token_escape.j0 k a0 true) else (if 2 < (a0.size : Int) then ((token_digit.f (bt a0 2)).bind fun t102 => (if t102 = true then (if 3 < (a0.size : Int) then ((token_digit.f (bt a0 3)).bind fun t103 => (token_escape.j0 k a0 (!t103))) else (none)) else (token_escape.j0 k a0 true))) else (none))) else (some (bt a0 1, 2)))) else (none))) = some (r1, r2) := h
 clear h
 by_cases c2 : (a0.size : Int) < 2
 ·rw [if_pos c2] at H
  have c2b0 : decide ((a0.size : Int) < 2) = true := decide_eq_true c2
  have c2b1 : decide (a0.size < 2) = true := decide_eq_true (by omega)
  clear c2
  simp only [Option.some.injEq, Prod.mk.injEq] at H
  obtain ⟨rfl, rfl⟩ := H
  go_enter Tryd.func51, Tryd.ntmps51
  go_wp2
  repeat (go_quiet (fail); try go_wp2)
  go_ret2
  exact ⟨by first | rfl | (simp; done) | (simp [*]; done), by repeat (first | exact Drawn0.refl _ | apply Drawn0.step)⟩
 ·rw [if_neg c2] at H
  have c2b0 : decide ((a0.size : Int) < 2) = false := decide_eq_false c2
  have c2b1 : decide (a0.size < 2) = false := decide_eq_false (by omega)
  clear c2
  by_cases c3 : 1 < (a0.size : Int)
  ·rw [if_pos c3] at H
   have c3b0 : decide (1 < (a0.size : Int)) = true := decide_eq_true c3
   have c3b1 : decide (1 < a0.size) = true := decide_eq_true (by omega)
   clear c3
   replace H := Option.bind_eq_some_iff.mp H
   obtain ⟨t101, A50, H⟩ := H
   replace H : (if t101 = true then (if (a0.size : Int) < 4 then (token_escape.j0 k a0 true) else (if 2 < (a0.size : Int) then ((token_digit.f (bt a0 2)).bind fun t102 => (if t102 = true then (if 3 < (a0.size : Int) then ((token_digit.f (bt a0 3)).bind fun t103 => (token_escape.j0 k a0 (!t103))) else (none)) else (token_escape.j0 k a0 true))) else (none))) else (some (bt a0 1, 2))) = some (r1, r2) := H
   have A5 := Aside0.mk A50
   clear A50
   by_cases c6 : t101 = true
   ·subst c6
    have H1 : (if (a0.size : Int) < 4 then (token_escape.j0 k a0 true) else (if 2 < (a0.size : Int) then ((token_digit.f (bt a0 2)).bind fun t102 => (if t102 = true then (if 3 < (a0.size : Int) then ((token_digit.f (bt a0 3)).bind fun t103 => (token_escape.j0 k a0 (!t103))) else (none)) else (token_escape.j0 k a0 true))) else (none))) = some (r1, r2) := by rw [if_pos rfl] at H; exact H
    clear H
    have H := H1
    clear H1
    have HC7 := Aside0.mk H
    clear H
    have p4 : 0 ≤ (1 : Int) := (by omega)
    have q4 : 1 < a0.size := (by have : (1 : Int) < (a0.size : Int) := of_decide_eq_true (by first | (with_reducible assumption) | assumption); omega)
    have hx4 : ∀ h : 1 < a0.size, ((a0[1]'h).toNat : Int) = bt a0 1 := bt_at a0 1
    clear p4
    have qi4 : (1 < (a0.size : Int)) = True := eq_true (of_decide_eq_true (by first | (with_reducible assumption) | assumption))
    replace q4 := eq_true q4
    go_enter Tryd.func51, Tryd.ntmps51
    go_upto_region 5 with (first | (go_at_call 78; (with_reducible refine (token_digit.calls (bt a0 1) true _ A5.out).mono ?_); rintro e w' ⟨rfl, ⟨nd, rfl⟩⟩; (try first | exact ⟨rfl, _, World.drewN_drewN _ _ _⟩ | exact ⟨rfl, _, Eq.trans (World.drewN_drewN _ _ _) (congrArg (World.drewN _) (Nat.add_assoc _ _ _))⟩)))
    repeat (go_quiet (first | (go_at_call 78; (with_reducible refine (token_digit.calls (bt a0 1) true _ A5.out).mono ?_); rintro e w' ⟨rfl, ⟨nd, rfl⟩⟩; (try first | exact ⟨rfl, _, World.drewN_drewN _ _ _⟩ | exact ⟨rfl, _, Eq.trans (World.drewN_drewN _ _ _) (congrArg (World.drewN _) (Nat.add_assoc _ _ _))⟩))); go_upto_region 5 with (first | (go_at_call 78; (with_reducible refine (token_digit.calls (bt a0 1) true _ A5.out).mono ?_); rintro e w' ⟨rfl, ⟨nd, rfl⟩⟩; (try first | exact ⟨rfl, _, World.drewN_drewN _ _ _⟩ | exact ⟨rfl, _, Eq.trans (World.drewN_drewN _ _ _) (congrArg (World.drewN _) (Nat.add_assoc _ _ _))⟩))))
    (try simp only [Act.put, List.setIfInBounds_toArray, List.set_cons_zero, List.set_cons_succ])
    go_cut [16] (fun v16 wc => ∃ (kq : Nat) (x16_6 : Bool), v16 = .bool x16_6 ∧ Aside0 (token_escape.j0 kq a0 x16_6 = some (r1, r2)) ∧ Aside0 (kq ≤ k) ∧ Drawn0 w wc)
    case first =>
     have H := HC7.out
     clear HC7
     by_cases c8 : (a0.size : Int) < 4
     ·rw [if_pos c8] at H
      have c8b0 : decide ((a0.size : Int) < 4) = true := decide_eq_true c8
      have c8b1 : decide (a0.size < 4) = true := decide_eq_true (by omega)
      clear c8
      (first | rw [c8b0] | (simp only [i64_w, i32_w]; rw [c8b0]) | rw [c8b1] | (simp only [i64_w, i32_w]; rw [c8b1]) | skip)
      have H' := Aside0.mk H
      clear H
      go_wp2
      repeat (go_quiet (fail); try go_wp2)
      go_meet
      case rel => exact ⟨_, (true), (by first | rfl | (simp; done) | (simp [*]; done)), H', ⟨by first | omega | exact Nat.le_refl _⟩, by repeat (first | exact Drawn0.refl _ | apply Drawn0.step)⟩
     ·rw [if_neg c8] at H
      have c8b0 : decide ((a0.size : Int) < 4) = false := decide_eq_false c8
      have c8b1 : decide (a0.size < 4) = false := decide_eq_false (by omega)
      clear c8
      (first | rw [c8b0] | (simp only [i64_w, i32_w]; rw [c8b0]) | rw [c8b1] | (simp only [i64_w, i32_w]; rw [c8b1]) | skip)
      by_cases c9 : 2 < (a0.size : Int)
      ·rw [if_pos c9] at H
       have c9b0 : decide (2 < (a0.size : Int)) = true := decide_eq_true c9
       have c9b1 : decide (2 < a0.size) = true := decide_eq_true (by omega)
       clear c9
       replace H := Option.bind_eq_some_iff.mp H
       obtain ⟨t102, A110, H⟩ := H
       replace H : (if t102 = true then (if 3 < (a0.size : Int) then ((token_digit.f (bt a0 3)).bind fun t103 => (token_escape.j0 k a0 (!t103))) else (none)) else (token_escape.j0 k a0 true)) = some (r1, r2) := H
       have A11 := Aside0.mk A110
       clear A110
       by_cases c12 : t102 = true
       ·subst c12
        have H1 : (if 3 < (a0.size : Int) then ((token_digit.f (bt a0 3)).bind fun t103 => (token_escape.j0 k a0 (!t103))) else (none)) = some (r1, r2) := by rw [if_pos rfl] at H; exact H
        clear H
        have H := H1
        clear H1
        by_cases c13 : 3 < (a0.size : Int)
        ·rw [if_pos c13] at H
         have c13b0 : decide (3 < (a0.size : Int)) = true := decide_eq_true c13
         have c13b1 : decide (3 < a0.size) = true := decide_eq_true (by omega)
         clear c13
         replace H := Option.bind_eq_some_iff.mp H
         obtain ⟨t103, A150, H⟩ := H
         replace H : (token_escape.j0 k a0 (!t103)) = some (r1, r2) := H
         have A15 := Aside0.mk A150
         clear A150
         have H' := Aside0.mk H
         clear H
         have p10 : 0 ≤ (2 : Int) := (by omega)
         have q10 : 2 < a0.size := (by have : (2 : Int) < (a0.size : Int) := of_decide_eq_true (by first | (with_reducible assumption) | assumption); omega)
         have hx10 : ∀ h : 2 < a0.size, ((a0[2]'h).toNat : Int) = bt a0 2 := bt_at a0 2
         clear p10
         have qi10 : (2 < (a0.size : Int)) = True := eq_true (of_decide_eq_true (by first | (with_reducible assumption) | assumption))
         replace q10 := eq_true q10
         go_wp2_with (first | (go_at_call 78; (with_reducible refine (token_digit.calls (bt a0 2) true _ A11.out).mono ?_); rintro e w' ⟨rfl, ⟨nd, rfl⟩⟩; (try first | exact ⟨rfl, _, World.drewN_drewN _ _ _⟩ | exact ⟨rfl, _, Eq.trans (World.drewN_drewN _ _ _) (congrArg (World.drewN _) (Nat.add_assoc _ _ _))⟩); have p14 : 0 ≤ (3 : Int) := (by omega); have q14 : 3 < a0.size := (by have : (3 : Int) < (a0.size : Int) := of_decide_eq_true (by first | (with_reducible assumption) | assumption); omega); have hx14 : ∀ h : 3 < a0.size, ((a0[3]'h).toNat : Int) = bt a0 3 := bt_at a0 3; clear p14; have qi14 : (3 < (a0.size : Int)) = True := eq_true (of_decide_eq_true (by first | (with_reducible assumption) | assumption)); replace q14 := eq_true q14) | (go_at_call 78; (with_reducible refine (token_digit.calls (bt a0 3) t103 _ A15.out).mono ?_); rintro e w' ⟨rfl, ⟨nd, rfl⟩⟩; (try first | exact ⟨rfl, _, World.drewN_drewN _ _ _⟩ | exact ⟨rfl, _, Eq.trans (World.drewN_drewN _ _ _) (congrArg (World.drewN _) (Nat.add_assoc _ _ _))⟩)))
         repeat (go_quiet (first | (go_at_call 78; (with_reducible refine (token_digit.calls (bt a0 2) true _ A11.out).mono ?_); rintro e w' ⟨rfl, ⟨nd, rfl⟩⟩; (try first | exact ⟨rfl, _, World.drewN_drewN _ _ _⟩ | exact ⟨rfl, _, Eq.trans (World.drewN_drewN _ _ _) (congrArg (World.drewN _) (Nat.add_assoc _ _ _))⟩); have p14 : 0 ≤ (3 : Int) := (by omega); have q14 : 3 < a0.size := (by have : (3 : Int) < (a0.size : Int) := of_decide_eq_true (by first | (with_reducible assumption) | assumption); omega); have hx14 : ∀ h : 3 < a0.size, ((a0[3]'h).toNat : Int) = bt a0 3 := bt_at a0 3; clear p14; have qi14 : (3 < (a0.size : Int)) = True := eq_true (of_decide_eq_true (by first | (with_reducible assumption) | assumption)); replace q14 := eq_true q14) | (go_at_call 78; (with_reducible refine (token_digit.calls (bt a0 3) t103 _ A15.out).mono ?_); rintro e w' ⟨rfl, ⟨nd, rfl⟩⟩; (try first | exact ⟨rfl, _, World.drewN_drewN _ _ _⟩ | exact ⟨rfl, _, Eq.trans (World.drewN_drewN _ _ _) (congrArg (World.drewN _) (Nat.add_assoc _ _ _))⟩))); try go_wp2_with (first | (go_at_call 78; (with_reducible refine (token_digit.calls (bt a0 2) true _ A11.out).mono ?_); rintro e w' ⟨rfl, ⟨nd, rfl⟩⟩; (try first | exact ⟨rfl, _, World.drewN_drewN _ _ _⟩ | exact ⟨rfl, _, Eq.trans (World.drewN_drewN _ _ _) (congrArg (World.drewN _) (Nat.add_assoc _ _ _))⟩); have p14 : 0 ≤ (3 : Int) := (by omega); have q14 : 3 < a0.size := (by have : (3 : Int) < (a0.size : Int) := of_decide_eq_true (by first | (with_reducible assumption) | assumption); omega); have hx14 : ∀ h : 3 < a0.size, ((a0[3]'h).toNat : Int) = bt a0 3 := bt_at a0 3; clear p14; have qi14 : (3 < (a0.size : Int)) = True := eq_true (of_decide_eq_true (by first | (with_reducible assumption) | assumption)); replace q14 := eq_true q14) | (go_at_call 78; (with_reducible refine (token_digit.calls (bt a0 3) t103 _ A15.out).mono ?_); rintro e w' ⟨rfl, ⟨nd, rfl⟩⟩; (try first | exact ⟨rfl, _, World.drewN_drewN _ _ _⟩ | exact ⟨rfl, _, Eq.trans (World.drewN_drewN _ _ _) (congrArg (World.drewN _) (Nat.add_assoc _ _ _))⟩))))
         go_meet
         case rel => exact ⟨_, (!t103), (by first | rfl | (simp; done) | (simp [*]; done)), H', ⟨by first | omega | exact Nat.le_refl _⟩, by repeat (first | exact Drawn0.refl _ | apply Drawn0.step)⟩
        ·rw [if_neg c13] at H
         exact absurd H (by simp)
       ·replace c12 := Bool.eq_false_iff.mpr c12
        subst c12
        have H1 : (token_escape.j0 k a0 true) = some (r1, r2) := by rw [if_neg (show ¬ (false = true) by decide)] at H; exact H
        clear H
        have H := H1
        clear H1
        have H' := Aside0.mk H
        clear H
        have p10 : 0 ≤ (2 : Int) := (by omega)
        have q10 : 2 < a0.size := (by have : (2 : Int) < (a0.size : Int) := of_decide_eq_true (by first | (with_reducible assumption) | assumption); omega)
        have hx10 : ∀ h : 2 < a0.size, ((a0[2]'h).toNat : Int) = bt a0 2 := bt_at a0 2
        clear p10
        have qi10 : (2 < (a0.size : Int)) = True := eq_true (of_decide_eq_true (by first | (with_reducible assumption) | assumption))
        replace q10 := eq_true q10
        go_wp2_with (first | (go_at_call 78; (with_reducible refine (token_digit.calls (bt a0 2) false _ A11.out).mono ?_); rintro e w' ⟨rfl, ⟨nd, rfl⟩⟩; (try first | exact ⟨rfl, _, World.drewN_drewN _ _ _⟩ | exact ⟨rfl, _, Eq.trans (World.drewN_drewN _ _ _) (congrArg (World.drewN _) (Nat.add_assoc _ _ _))⟩)))
        repeat (go_quiet (first | (go_at_call 78; (with_reducible refine (token_digit.calls (bt a0 2) false _ A11.out).mono ?_); rintro e w' ⟨rfl, ⟨nd, rfl⟩⟩; (try first | exact ⟨rfl, _, World.drewN_drewN _ _ _⟩ | exact ⟨rfl, _, Eq.trans (World.drewN_drewN _ _ _) (congrArg (World.drewN _) (Nat.add_assoc _ _ _))⟩))); try go_wp2_with (first | (go_at_call 78; (with_reducible refine (token_digit.calls (bt a0 2) false _ A11.out).mono ?_); rintro e w' ⟨rfl, ⟨nd, rfl⟩⟩; (try first | exact ⟨rfl, _, World.drewN_drewN _ _ _⟩ | exact ⟨rfl, _, Eq.trans (World.drewN_drewN _ _ _) (congrArg (World.drewN _) (Nat.add_assoc _ _ _))⟩))))
        go_meet
        case rel => exact ⟨_, (true), (by first | rfl | (simp; done) | (simp [*]; done)), H', ⟨by first | omega | exact Nat.le_refl _⟩, by repeat (first | exact Drawn0.refl _ | apply Drawn0.step)⟩
      ·rw [if_neg c9] at H
       exact absurd H (by simp)
    case rest =>
     clear HC7
     try clear c1
     try clear p1
     try clear q1
     try clear hx1
     try clear qi1
     try clear c2
     try clear c2b0
     try clear c2b1
     try clear p2
     try clear c3
     try clear c3b0
     try clear c3b1
     try clear p4
     try clear q4
     try clear hx4
     try clear qi4
     try clear c5
     try clear c6
     try clear c8
     try clear c8b0
     try clear c8b1
     try clear c9
     try clear c9b0
     try clear c9b1
     try clear p10
     try clear q10
     try clear hx10
     try clear qi10
     try clear c12
     try clear c13
     try clear c13b0
     try clear c13b1
     try clear p14
     try clear q14
     try clear hx14
     try clear qi14
     try clear p10
     try clear p14
     try clear p4
     try clear q10
     try clear q14
     try clear q4
     obtain ⟨kq, x16_6, rfl, HA, HJ6, ⟨mc6, rfl⟩⟩ := hcut
     cases kq with
     | zero => exact absurd HA.out (by simp [token_escape.j0])
     | succ kj6 =>
      have H := HA.out
      clear HA
      simp only [token_escape.j0] at H
      by_cases c16 : x16_6 = true
      ·subst c16
       have H1 : (some (0, 0)) = some (r1, r2) := by rw [if_pos rfl] at H; exact H
       clear H
       have H := H1
       clear H1
       simp only [Option.some.injEq, Prod.mk.injEq] at H
       obtain ⟨rfl, rfl⟩ := H
       go_wp2
       repeat (go_quiet (fail); try go_wp2)
       go_ret2
       exact ⟨by first | rfl | (simp; done) | (simp [*]; done), by repeat (first | exact Drawn0.refl _ | apply Drawn0.step)⟩
      ·replace c16 := Bool.eq_false_iff.mpr c16
       subst c16
       have H1 : (if 1 < (a0.size : Int) then (if 2 < (a0.size : Int) then (if 3 < (a0.size : Int) then (if ((((((bt a0 1) - 48) % 256) * 100) + ((((bt a0 2) - 48) % 256) * 10)) + (((bt a0 3) - 48) % 256)) > 255 then (some (0, 0)) else (some (((((((bt a0 1) - 48) % 256) * 100) + ((((bt a0 2) - 48) % 256) * 10)) + (((bt a0 3) - 48) % 256)) % 256, 4))) else (none)) else (none)) else (none)) = some (r1, r2) := by rw [if_neg (show ¬ (false = true) by decide)] at H; exact H
       clear H
       have H := H1
       clear H1
       by_cases c17 : 1 < (a0.size : Int)
       ·rw [if_pos c17] at H
        have c17b0 : decide (1 < (a0.size : Int)) = true := decide_eq_true c17
        have c17b1 : decide (1 < a0.size) = true := decide_eq_true (by omega)
        clear c17
        by_cases c19 : 2 < (a0.size : Int)
        ·rw [if_pos c19] at H
         have c19b0 : decide (2 < (a0.size : Int)) = true := decide_eq_true c19
         have c19b1 : decide (2 < a0.size) = true := decide_eq_true (by omega)
         clear c19
         by_cases c21 : 3 < (a0.size : Int)
         ·rw [if_pos c21] at H
          have c21b0 : decide (3 < (a0.size : Int)) = true := decide_eq_true c21
          have c21b1 : decide (3 < a0.size) = true := decide_eq_true (by omega)
          clear c21
          by_cases c23 : ((((((bt a0 1) - 48) % 256) * 100) + ((((bt a0 2) - 48) % 256) * 10)) + (((bt a0 3) - 48) % 256)) > 255
          ·rw [if_pos c23] at H
           have c23b0 : decide (255 < ((((((bt a0 1) - 48) % 256) * 100) + ((((bt a0 2) - 48) % 256) * 10)) + (((bt a0 3) - 48) % 256))) = true := decide_eq_true c23
           clear c23
           simp only [Option.some.injEq, Prod.mk.injEq] at H
           obtain ⟨rfl, rfl⟩ := H
           have p18 : 0 ≤ (1 : Int) := (by omega)
           have q18 : 1 < a0.size := (by have : (1 : Int) < (a0.size : Int) := of_decide_eq_true (by first | (with_reducible assumption) | assumption); omega)
           have hx18 : ∀ h : 1 < a0.size, ((a0[1]'h).toNat : Int) = bt a0 1 := bt_at a0 1
           clear p18
           have qi18 : (1 < (a0.size : Int)) = True := eq_true (of_decide_eq_true (by first | (with_reducible assumption) | assumption))
           replace q18 := eq_true q18
           have p20 : 0 ≤ (2 : Int) := (by omega)
           have q20 : 2 < a0.size := (by have : (2 : Int) < (a0.size : Int) := of_decide_eq_true (by first | (with_reducible assumption) | assumption); omega)
           have hx20 : ∀ h : 2 < a0.size, ((a0[2]'h).toNat : Int) = bt a0 2 := bt_at a0 2
           clear p20
           have qi20 : (2 < (a0.size : Int)) = True := eq_true (of_decide_eq_true (by first | (with_reducible assumption) | assumption))
           replace q20 := eq_true q20
           have p22 : 0 ≤ (3 : Int) := (by omega)
           have q22 : 3 < a0.size := (by have : (3 : Int) < (a0.size : Int) := of_decide_eq_true (by first | (with_reducible assumption) | assumption); omega)
           have hx22 : ∀ h : 3 < a0.size, ((a0[3]'h).toNat : Int) = bt a0 3 := bt_at a0 3
           clear p22
           have qi22 : (3 < (a0.size : Int)) = True := eq_true (of_decide_eq_true (by first | (with_reducible assumption) | assumption))
           replace q22 := eq_true q22
           go_wp2
           repeat (go_quiet (fail); try go_wp2)
           go_ret2
           exact ⟨by first | rfl | (simp; done) | (simp [*]; done), by repeat (first | exact Drawn0.refl _ | apply Drawn0.step)⟩
          ·rw [if_neg c23] at H
           have c23b0 : decide (255 < ((((((bt a0 1) - 48) % 256) * 100) + ((((bt a0 2) - 48) % 256) * 10)) + (((bt a0 3) - 48) % 256))) = false := decide_eq_false c23
           clear c23
           simp only [Option.some.injEq, Prod.mk.injEq] at H
           obtain ⟨rfl, rfl⟩ := H
           have p18 : 0 ≤ (1 : Int) := (by omega)
           have q18 : 1 < a0.size := (by have : (1 : Int) < (a0.size : Int) := of_decide_eq_true (by first | (with_reducible assumption) | assumption); omega)
           have hx18 : ∀ h : 1 < a0.size, ((a0[1]'h).toNat : Int) = bt a0 1 := bt_at a0 1
           clear p18
           have qi18 : (1 < (a0.size : Int)) = True := eq_true (of_decide_eq_true (by first | (with_reducible assumption) | assumption))
           replace q18 := eq_true q18
           have p20 : 0 ≤ (2 : Int) := (by omega)
           have q20 : 2 < a0.size := (by have : (2 : Int) < (a0.size : Int) := of_decide_eq_true (by first | (with_reducible assumption) | assumption); omega)
           have hx20 : ∀ h : 2 < a0.size, ((a0[2]'h).toNat : Int) = bt a0 2 := bt_at a0 2
           clear p20
           have qi20 : (2 < (a0.size : Int)) = True := eq_true (of_decide_eq_true (by first | (with_reducible assumption) | assumption))
           replace q20 := eq_true q20
           have p22 : 0 ≤ (3 : Int) := (by omega)
           have q22 : 3 < a0.size := (by have : (3 : Int) < (a0.size : Int) := of_decide_eq_true (by first | (with_reducible assumption) | assumption); omega)
           have hx22 : ∀ h : 3 < a0.size, ((a0[3]'h).toNat : Int) = bt a0 3 := bt_at a0 3
           clear p22
           have qi22 : (3 < (a0.size : Int)) = True := eq_true (of_decide_eq_true (by first | (with_reducible assumption) | assumption))
           replace q22 := eq_true q22
           go_wp2
           repeat (go_quiet (fail); try go_wp2)
           go_ret2
           exact ⟨by first | rfl | (simp; done) | (simp [*]; done), by repeat (first | exact Drawn0.refl _ | apply Drawn0.step)⟩
         ·rw [if_neg c21] at H
          exact absurd H (by simp)
        ·rw [if_neg c19] at H
         exact absurd H (by simp)
       ·rw [if_neg c17] at H
        exact absurd H (by simp)
   ·replace c6 := Bool.eq_false_iff.mpr c6
    subst c6
    have H1 : (some (bt a0 1, 2)) = some (r1, r2) := by rw [if_neg (show ¬ (false = true) by decide)] at H; exact H
    clear H
    have H := H1
    clear H1
    simp only [Option.some.injEq, Prod.mk.injEq] at H
    obtain ⟨rfl, rfl⟩ := H
    have p4 : 0 ≤ (1 : Int) := (by omega)
    have q4 : 1 < a0.size := (by have : (1 : Int) < (a0.size : Int) := of_decide_eq_true (by first | (with_reducible assumption) | assumption); omega)
    have hx4 : ∀ h : 1 < a0.size, ((a0[1]'h).toNat : Int) = bt a0 1 := bt_at a0 1
    clear p4
    have qi4 : (1 < (a0.size : Int)) = True := eq_true (of_decide_eq_true (by first | (with_reducible assumption) | assumption))
    replace q4 := eq_true q4
    go_enter Tryd.func51, Tryd.ntmps51
    go_wp2_with (first | (go_at_call 78; (with_reducible refine (token_digit.calls (bt a0 1) false _ A5.out).mono ?_); rintro e w' ⟨rfl, ⟨nd, rfl⟩⟩; (try first | exact ⟨rfl, _, World.drewN_drewN _ _ _⟩ | exact ⟨rfl, _, Eq.trans (World.drewN_drewN _ _ _) (congrArg (World.drewN _) (Nat.add_assoc _ _ _))⟩); have p24 : 0 ≤ (1 : Int) := (by omega); have q24 : 1 < a0.size := (by have : (1 : Int) < (a0.size : Int) := of_decide_eq_true (by first | (with_reducible assumption) | assumption); omega); have hx24 : ∀ h : 1 < a0.size, ((a0[1]'h).toNat : Int) = bt a0 1 := bt_at a0 1; clear p24; have qi24 : (1 < (a0.size : Int)) = True := eq_true (of_decide_eq_true (by first | (with_reducible assumption) | assumption)); replace q24 := eq_true q24))
    repeat (go_quiet (first | (go_at_call 78; (with_reducible refine (token_digit.calls (bt a0 1) false _ A5.out).mono ?_); rintro e w' ⟨rfl, ⟨nd, rfl⟩⟩; (try first | exact ⟨rfl, _, World.drewN_drewN _ _ _⟩ | exact ⟨rfl, _, Eq.trans (World.drewN_drewN _ _ _) (congrArg (World.drewN _) (Nat.add_assoc _ _ _))⟩); have p24 : 0 ≤ (1 : Int) := (by omega); have q24 : 1 < a0.size := (by have : (1 : Int) < (a0.size : Int) := of_decide_eq_true (by first | (with_reducible assumption) | assumption); omega); have hx24 : ∀ h : 1 < a0.size, ((a0[1]'h).toNat : Int) = bt a0 1 := bt_at a0 1; clear p24; have qi24 : (1 < (a0.size : Int)) = True := eq_true (of_decide_eq_true (by first | (with_reducible assumption) | assumption)); replace q24 := eq_true q24)); try go_wp2_with (first | (go_at_call 78; (with_reducible refine (token_digit.calls (bt a0 1) false _ A5.out).mono ?_); rintro e w' ⟨rfl, ⟨nd, rfl⟩⟩; (try first | exact ⟨rfl, _, World.drewN_drewN _ _ _⟩ | exact ⟨rfl, _, Eq.trans (World.drewN_drewN _ _ _) (congrArg (World.drewN _) (Nat.add_assoc _ _ _))⟩); have p24 : 0 ≤ (1 : Int) := (by omega); have q24 : 1 < a0.size := (by have : (1 : Int) < (a0.size : Int) := of_decide_eq_true (by first | (with_reducible assumption) | assumption); omega); have hx24 : ∀ h : 1 < a0.size, ((a0[1]'h).toNat : Int) = bt a0 1 := bt_at a0 1; clear p24; have qi24 : (1 < (a0.size : Int)) = True := eq_true (of_decide_eq_true (by first | (with_reducible assumption) | assumption)); replace q24 := eq_true q24)))
    go_ret2
    exact ⟨by first | rfl | (simp; done) | (simp [*]; done), by repeat (first | exact Drawn0.refl _ | apply Drawn0.step)⟩
  ·rw [if_neg c3] at H
   exact absurd H (by simp)

end Go.Proofs.YtdnfmilnkoocdaaDoor.Q

-- from Qf45
-- Made by hp.py, a program of this session, with the kit's printer. Not trusted: Lean checks it.
namespace Go.Proofs.YtdnfmilnkoocdaaDoor.Q
open Go.RowKit Go.Proofs.YtdnfmilnkoocdaaDoorW.PrintWords Go.Proofs.YtdnfmilnkoocdaaDoorW.PrintLast Go.Proofs.YtdnfmilnkoocdaaDoorW.PrintMore
attribute [local go_sem] max2_int min2_int max_two min_two max_three min_three max_four min_four   -- for this text's walks alone
set_option linter.unusedVariables false
set_option linter.unusedSimpArgs false

/-! ### token_word: function 45 -/
mutual
def token_word.j0 : Nat → ByteArray → Bool → Int → Option (Int × Int)
 | 0, _, _, _ => none
 | k + 1, x0, x4, x5 => token_word.l0 k x0 x4 x5
def token_word.l0 : Nat → ByteArray → Bool → Int → Option (Int × Int)
 | 0, _, _, _ => none
 | k + 1, x0, x4, x5 => if x5 < (x0.size : Int) then (if 0 ≤ x5 then (if (bt x0 x5) = 92 then (if x5 ≤ (x0.size : Int) then ((token_escape.f k (x0.extract (x5 : Int).toNat x0.size)).bind fun bt101 => (if bt101.2 = 0 then (some (0, 60)) else (token_word.l0 k x0 x4 (wrap64 (x5 + bt101.2))))) else (none)) else (if x4 = true then (token_word.j2 k x0 x4 x5 (bt x0 x5) ((bt x0 x5) == 34)) else (token_word.j2 k x0 x4 x5 (bt x0 x5) false))) else (none)) else (if x4 = true then (some (0, 61)) else (some (x5, 0)))
def token_word.j2 : Nat → ByteArray → Bool → Int → Int → Bool → Option (Int × Int)
 | 0, _, _, _, _, _ => none
 | k + 1, x0, x4, x5, x6, x37 => if x37 = true then (if (wrap64 (x5 + 1)) < (x0.size : Int) then (if 0 ≤ (wrap64 (x5 + 1)) then ((strings_IndexByte.f (⟨#[32, 9, 59]⟩ : ByteArray) (bt x0 (wrap64 (x5 + 1)))).bind fun t103 => (if t103 < 0 then (some (0, 61)) else (some (wrap64 (x5 + 1), 0)))) else (none)) else (some (wrap64 (x5 + 1), 0))) else (if x4 = true then (token_word.j3 k x0 x4 x5 x6 false) else (token_word.j3 k x0 x4 x5 x6 (x6 == 34)))
def token_word.j3 : Nat → ByteArray → Bool → Int → Int → Bool → Option (Int × Int)
 | 0, _, _, _, _, _ => none
 | k + 1, x0, x4, x5, x6, x58 => if x58 = true then (some (0, 61)) else (if x4 = true then (token_word.j4 k x0 x4 x5 x6 false) else (if x6 = 40 then (token_word.j4 k x0 x4 x5 x6 true) else (token_word.j4 k x0 x4 x5 x6 (x6 == 41))))
def token_word.j4 : Nat → ByteArray → Bool → Int → Int → Bool → Option (Int × Int)
 | 0, _, _, _, _, _ => none
 | k + 1, x0, x4, x5, x6, x65 => if x65 = true then (some (0, 11)) else (if x4 = true then (token_word.l0 k x0 x4 (wrap64 (x5 + 1))) else ((strings_IndexByte.f (⟨#[32, 9, 59]⟩ : ByteArray) x6).bind fun t104 => (if t104 ≥ 0 then (some (x5, 0)) else (token_word.l0 k x0 x4 (wrap64 (x5 + 1))))))
end
def token_word.f (k : Nat) (a0 : ByteArray) : Option (Int × Int) := if 0 < (a0.size : Int) then (if (bt a0 0) = 34 then (token_word.j0 k a0 ((bt a0 0) == 34) (0 + 1)) else (token_word.j0 k a0 ((bt a0 0) == 34) 0)) else (none)
theorem token_word.mono_l : ∀ k, (∀ y0 y1 y2, LeO (token_word.j0 k y0 y1 y2) (token_word.j0 (k + 1) y0 y1 y2)) ∧ (∀ y0 y1 y2, LeO (token_word.l0 k y0 y1 y2) (token_word.l0 (k + 1) y0 y1 y2)) ∧ (∀ y0 y1 y2 y3 y4, LeO (token_word.j2 k y0 y1 y2 y3 y4) (token_word.j2 (k + 1) y0 y1 y2 y3 y4)) ∧ (∀ y0 y1 y2 y3 y4, LeO (token_word.j3 k y0 y1 y2 y3 y4) (token_word.j3 (k + 1) y0 y1 y2 y3 y4)) ∧ (∀ y0 y1 y2 y3 y4, LeO (token_word.j4 k y0 y1 y2 y3 y4) (token_word.j4 (k + 1) y0 y1 y2 y3 y4))
 | 0 => ⟨fun _ _ _ r h => by simp [token_word.j0] at h, fun _ _ _ r h => by simp [token_word.l0] at h, fun _ _ _ _ _ r h => by simp [token_word.j2] at h, fun _ _ _ _ _ r h => by simp [token_word.j3] at h, fun _ _ _ _ _ r h => by simp [token_word.j4] at h⟩
 | k + 1 => by
  obtain ⟨ih0, ih1, ih2, ih3, ih4⟩ := token_word.mono_l k
  refine ⟨?_, ?_, ?_, ?_, ?_⟩
  ·intro y0 y1 y2
   unfold token_word.j0
   repeat' first
   | (with_reducible exact ih0 _ _ _)
   | (with_reducible exact ih1 _ _ _)
   | (with_reducible exact ih2 _ _ _ _ _)
   | (with_reducible exact ih3 _ _ _ _ _)
   | (with_reducible exact ih4 _ _ _ _ _)
   | (with_reducible exact token_escape.mono _ _)
   | (with_reducible exact LeO.refl _)
   | (with_reducible exact LeO.none _)
   | (with_reducible refine LeO.ite ?_ ?_)
   | (with_reducible refine LeO.bind ?_ (fun _ => ?_))
   | exact ih0 _ _ _
   | exact ih1 _ _ _
   | exact ih2 _ _ _ _ _
   | exact ih3 _ _ _ _ _
   | exact ih4 _ _ _ _ _
   | exact token_escape.mono _ _
   | exact LeO.none _
   | refine LeO.ite ?_ ?_
   | refine LeO.bind ?_ (fun _ => ?_)
  ·intro y0 y1 y2
   unfold token_word.l0
   repeat' first
   | (with_reducible exact ih0 _ _ _)
   | (with_reducible exact ih1 _ _ _)
   | (with_reducible exact ih2 _ _ _ _ _)
   | (with_reducible exact ih3 _ _ _ _ _)
   | (with_reducible exact ih4 _ _ _ _ _)
   | (with_reducible exact token_escape.mono _ _)
   | (with_reducible exact LeO.refl _)
   | (with_reducible exact LeO.none _)
   | (with_reducible refine LeO.ite ?_ ?_)
   | (with_reducible refine LeO.bind ?_ (fun _ => ?_))
   | exact ih0 _ _ _
   | exact ih1 _ _ _
   | exact ih2 _ _ _ _ _
   | exact ih3 _ _ _ _ _
   | exact ih4 _ _ _ _ _
   | exact token_escape.mono _ _
   | exact LeO.none _
   | refine LeO.ite ?_ ?_
   | refine LeO.bind ?_ (fun _ => ?_)
  ·intro y0 y1 y2 y3 y4
   unfold token_word.j2
   repeat' first
   | (with_reducible exact ih0 _ _ _)
   | (with_reducible exact ih1 _ _ _)
   | (with_reducible exact ih2 _ _ _ _ _)
   | (with_reducible exact ih3 _ _ _ _ _)
   | (with_reducible exact ih4 _ _ _ _ _)
   | (with_reducible exact token_escape.mono _ _)
   | (with_reducible exact LeO.refl _)
   | (with_reducible exact LeO.none _)
   | (with_reducible refine LeO.ite ?_ ?_)
   | (with_reducible refine LeO.bind ?_ (fun _ => ?_))
   | exact ih0 _ _ _
   | exact ih1 _ _ _
   | exact ih2 _ _ _ _ _
   | exact ih3 _ _ _ _ _
   | exact ih4 _ _ _ _ _
   | exact token_escape.mono _ _
   | exact LeO.none _
   | refine LeO.ite ?_ ?_
   | refine LeO.bind ?_ (fun _ => ?_)
  ·intro y0 y1 y2 y3 y4
   unfold token_word.j3
   repeat' first
   | (with_reducible exact ih0 _ _ _)
   | (with_reducible exact ih1 _ _ _)
   | (with_reducible exact ih2 _ _ _ _ _)
   | (with_reducible exact ih3 _ _ _ _ _)
   | (with_reducible exact ih4 _ _ _ _ _)
   | (with_reducible exact token_escape.mono _ _)
   | (with_reducible exact LeO.refl _)
   | (with_reducible exact LeO.none _)
   | (with_reducible refine LeO.ite ?_ ?_)
   | (with_reducible refine LeO.bind ?_ (fun _ => ?_))
   | exact ih0 _ _ _
   | exact ih1 _ _ _
   | exact ih2 _ _ _ _ _
   | exact ih3 _ _ _ _ _
   | exact ih4 _ _ _ _ _
   | exact token_escape.mono _ _
   | exact LeO.none _
   | refine LeO.ite ?_ ?_
   | refine LeO.bind ?_ (fun _ => ?_)
  ·intro y0 y1 y2 y3 y4
   unfold token_word.j4
   repeat' first
   | (with_reducible exact ih0 _ _ _)
   | (with_reducible exact ih1 _ _ _)
   | (with_reducible exact ih2 _ _ _ _ _)
   | (with_reducible exact ih3 _ _ _ _ _)
   | (with_reducible exact ih4 _ _ _ _ _)
   | (with_reducible exact token_escape.mono _ _)
   | (with_reducible exact LeO.refl _)
   | (with_reducible exact LeO.none _)
   | (with_reducible refine LeO.ite ?_ ?_)
   | (with_reducible refine LeO.bind ?_ (fun _ => ?_))
   | exact ih0 _ _ _
   | exact ih1 _ _ _
   | exact ih2 _ _ _ _ _
   | exact ih3 _ _ _ _ _
   | exact ih4 _ _ _ _ _
   | exact token_escape.mono _ _
   | exact LeO.none _
   | refine LeO.ite ?_ ?_
   | refine LeO.bind ?_ (fun _ => ?_)
theorem token_word.mono : ∀ a0 k, LeO (token_word.f k a0) (token_word.f (k + 1) a0) := by
 intro a0 k
 obtain ⟨ih0, ih1, ih2, ih3, ih4⟩ := token_word.mono_l k
 unfold token_word.f
 repeat' first
   | (with_reducible exact ih0 _ _ _)
   | (with_reducible exact ih1 _ _ _)
   | (with_reducible exact ih2 _ _ _ _ _)
   | (with_reducible exact ih3 _ _ _ _ _)
   | (with_reducible exact ih4 _ _ _ _ _)
   | (with_reducible exact token_escape.mono _ _)
   | (with_reducible exact LeO.refl _)
   | (with_reducible exact LeO.none _)
   | (with_reducible refine LeO.ite ?_ ?_)
   | (with_reducible refine LeO.bind ?_ (fun _ => ?_))
   | exact ih0 _ _ _
   | exact ih1 _ _ _
   | exact ih2 _ _ _ _ _
   | exact ih3 _ _ _ _ _
   | exact ih4 _ _ _ _ _
   | exact token_escape.mono _ _
   | exact LeO.none _
   | refine LeO.ite ?_ ?_
   | refine LeO.bind ?_ (fun _ => ?_)
set_option maxHeartbeats 8000000 in
set_option maxRecDepth 100000 in
theorem token_word.calls (k : Nat) (a0 : ByteArray) (r1 : Int) (r2 : Int) (w : World) (h : token_word.f k a0 = some (r1, r2)) :
  Calls Tryd.prog 45 #[.string a0] w fun e w' => e = .returned (.tuple #[.int .i64 r1, .int .i64 r2]) ∧ Drawn0 w w' := by
 have H : (if 0 < (a0.size : Int) then (if (bt a0 0) = 34 then (token_word.j0 k a0 ((bt a0 0) == 34) (0 + 1)) else (token_word.j0 k a0 ((bt a0 0) == 34) 0)) else (none)) = some (r1, r2) := h
 clear h
 by_cases c2 : 0 < (a0.size : Int)
 ·rw [if_pos c2] at H
  have c2b0 : decide (0 < (a0.size : Int)) = true := decide_eq_true c2
  have c2b1 : decide (0 < a0.size) = true := decide_eq_true (by omega)
  clear c2
  have HC4 := Aside0.mk H
  clear H
  have p3 : 0 ≤ (0 : Int) := (by omega)
  have q3 : 0 < a0.size := (by have : (0 : Int) < (a0.size : Int) := of_decide_eq_true (by first | (with_reducible assumption) | assumption); omega)
  have hx3 : ∀ h : 0 < a0.size, ((a0[0]'h).toNat : Int) = bt a0 0 := bt_at a0 0
  clear p3
  have qi3 : (0 < (a0.size : Int)) = True := eq_true (of_decide_eq_true (by first | (with_reducible assumption) | assumption))
  replace q3 := eq_true q3
  go_enter Tryd.func45, Tryd.ntmps45
  go_upto_if 12 with (fail)
  generalize hb4 : ((bt a0 0) == 34) = b4 at *
  go_cut [5] (fun v5 wc => ∃ (kq : Nat) (x5_3 : Int), v5 = .int .i64 x5_3 ∧ Aside0 (token_word.j0 kq a0 b4 x5_3 = some (r1, r2)) ∧ Aside0 (kq ≤ k) ∧ Drawn0 w wc)
  case first =>
   have H := HC4.out
   clear HC4
   by_cases c5 : (bt a0 0) = 34
   ·rw [if_pos c5] at H
    have c5b0 : b4 = true := hb4.symm.trans (beq_iff_eq.mpr c5)
    have c5b1 : ((bt a0 0) != 34) = false := bne_eq_false_iff_eq.mpr c5
    clear c5
    subst c5b0
    have H' := Aside0.mk H
    clear H
    go_wp2
    go_meet
    case rel => exact ⟨_, (0 + 1), (by first | rfl | (simp; done) | (simp [*]; done)), H', ⟨by first | omega | exact Nat.le_refl _⟩, by repeat (first | exact Drawn0.refl _ | apply Drawn0.step)⟩
   ·rw [if_neg c5] at H
    have c5b0 : b4 = false := hb4.symm.trans (beq_eq_false_iff_ne.mpr c5)
    have c5b1 : ((bt a0 0) != 34) = true := bne_iff_ne.mpr c5
    subst c5b0
    have H' := Aside0.mk H
    clear H
    go_wp2
    go_meet
    case rel => exact ⟨_, (0), (by first | rfl | (simp; done) | (simp [*]; done)), H', ⟨by first | omega | exact Nat.le_refl _⟩, by repeat (first | exact Drawn0.refl _ | apply Drawn0.step)⟩
  case rest =>
   clear HC4
   try clear c2
   try clear c2b0
   try clear c2b1
   try clear p2
   try clear p3
   try clear q3
   try clear hx3
   try clear qi3
   try clear c4
   try clear c5
   try clear c5b0
   try clear c5b1
   try clear p3
   try clear q3
   obtain ⟨kq, x5_3, rfl, HA, HJ3, ⟨mc3, rfl⟩⟩ := hcut
   cases kq with
   | zero => exact absurd HA.out (by simp [token_word.j0])
   | succ kj3 =>
    have H := HA.out
    clear HA
    simp only [token_word.j0] at H
    have H' := Aside0.mk H
    clear H
    go_wp2
    go_loopg [5] kj3 (fun kq v5 w' => ∃ (x5_2 : Int), v5 = .int .i64 x5_2 ∧ Aside0 (token_word.l0 kq a0 b4 x5_2 = some (r1, r2)) ∧ Aside0 (kq ≤ kj3) ∧ Drawn0 w w')
    case atStart => exact ⟨(x5_3), (by first | rfl | (simp; done) | (simp [*]; done)), H', ⟨Nat.le_refl _⟩, by repeat (first | exact Drawn0.refl _ | apply Drawn0.step)⟩
    case round =>
     clear H'
     try clear c2
     try clear c2b0
     try clear c2b1
     try clear p2
     try clear c3
     try clear p3
     try clear q3
     try clear hx3
     try clear qi3
     try clear c4
     try clear c5
     try clear c5b0
     try clear c5b1
     try clear p2
     try clear p3
     try clear q3
     obtain ⟨x5_2, rfl, HA, HK2, ⟨m2, rfl⟩⟩ := hrel
     cases gk with
     | zero => exact absurd HA.out (by simp [token_word.l0])
     | succ k2 =>
      have H := HA.out
      clear HA
      simp only [token_word.l0] at H
      by_cases c6 : x5_2 < (a0.size : Int)
      ·rw [if_pos c6] at H
       have c6b0 : decide (x5_2 < (a0.size : Int)) = true := decide_eq_true c6
       clear c6
       by_cases c7 : 0 ≤ x5_2
       ·rw [if_pos c7] at H
        have c7b0 : decide (0 ≤ x5_2) = true := decide_eq_true c7
        clear c7
        by_cases c9 : (bt a0 x5_2) = 92
        ·rw [if_pos c9] at H
         have c9b0 : ((bt a0 x5_2) == 92) = true := beq_iff_eq.mpr c9
         have c9b1 : ((bt a0 x5_2) != 92) = false := bne_eq_false_iff_eq.mpr c9
         clear c9
         have c10b0 := eq_true (of_decide_eq_true (by first | (with_reducible assumption) | assumption) : 0 ≤ x5_2)
         by_cases c11 : x5_2 ≤ (a0.size : Int)
         ·rw [if_pos c11] at H
          have c11b0 := eq_true c11
          have c11b1 : decide (x5_2 ≤ (a0.size : Int)) = true := decide_eq_true c11
          clear c11
          replace H := Option.bind_eq_some_iff.mp H
          obtain ⟨⟨t101, t102⟩, A120, H⟩ := H
          replace H : (if t102 = 0 then (some (0, 60)) else (token_word.l0 k2 a0 b4 (wrap64 (x5_2 + t102)))) = some (r1, r2) := H
          have A12 := Aside0.mk A120
          clear A120
          by_cases c13 : t102 = 0
          ·rw [if_pos c13] at H
           have c13b0 : (t102 == 0) = true := beq_iff_eq.mpr c13
           have c13b1 : (t102 != 0) = false := bne_eq_false_iff_eq.mpr c13
           clear c13
           simp only [Option.some.injEq, Prod.mk.injEq] at H
           obtain ⟨rfl, rfl⟩ := H
           have p8 : 0 ≤ (x5_2 : Int) := of_decide_eq_true (by first | (with_reducible assumption) | assumption)
           have q8 : x5_2 < (a0.size : Int) := of_decide_eq_true (by first | (with_reducible assumption) | assumption)
           have hx8 := bt_at a0 x5_2
           replace p8 := eq_true p8
           replace q8 := eq_true q8
           go_wp2_with (first | ((with_reducible refine gate_callee (f := 51) rfl ?_); refine goesL_ (some 29) rfl rfl Tryd.func51 (by kernel_rfl) rfl #[.string (a0.extract (x5_2 : Int).toNat a0.size)] rfl (by (try simp only [List.map_toArray, List.map_cons, List.map_nil]); first | done | rfl | (simp only [List.length_drop, List.length_take]; rfl)) ?_; (with_reducible refine (token_escape.calls k2 (a0.extract (x5_2 : Int).toNat a0.size) t101 t102 _ A12.out).mono ?_); rintro e w' ⟨rfl, ⟨nd, rfl⟩⟩; refine ⟨_, rfl, ?_⟩))
           go_ret2
           exact ⟨by first | rfl | (simp; done) | (simp [*]; done), by repeat (first | exact Drawn0.refl _ | apply Drawn0.step)⟩
          ·rw [if_neg c13] at H
           have c13b0 : (t102 == 0) = false := beq_eq_false_iff_ne.mpr c13
           have c13b1 : (t102 != 0) = true := bne_iff_ne.mpr c13
           have H' := Aside0.mk H
           clear H
           have p8 : 0 ≤ (x5_2 : Int) := of_decide_eq_true (by first | (with_reducible assumption) | assumption)
           have q8 : x5_2 < (a0.size : Int) := of_decide_eq_true (by first | (with_reducible assumption) | assumption)
           have hx8 := bt_at a0 x5_2
           replace p8 := eq_true p8
           replace q8 := eq_true q8
           go_wp2_with (first | ((with_reducible refine gate_callee (f := 51) rfl ?_); refine goesL_ (some 29) rfl rfl Tryd.func51 (by kernel_rfl) rfl #[.string (a0.extract (x5_2 : Int).toNat a0.size)] rfl (by (try simp only [List.map_toArray, List.map_cons, List.map_nil]); first | done | rfl | (simp only [List.length_drop, List.length_take]; rfl)) ?_; (with_reducible refine (token_escape.calls k2 (a0.extract (x5_2 : Int).toNat a0.size) t101 t102 _ A12.out).mono ?_); rintro e w' ⟨rfl, ⟨nd, rfl⟩⟩; refine ⟨_, rfl, ?_⟩))
           go_roundg k2
           case measure => have := HJ3.out; have := HK2.out; omega
           case rel => exact ⟨(wrap64 (x5_2 + t102)), (by first | rfl | (simp; done) | (simp [*]; done)), H', ⟨by have := HJ3.out; have := HK2.out; omega⟩, by repeat (first | exact Drawn0.refl _ | apply Drawn0.step)⟩
         ·rw [if_neg c11] at H
          exact absurd H (by simp)
        ·rw [if_neg c9] at H
         have c9b0 : ((bt a0 x5_2) == 92) = false := beq_eq_false_iff_ne.mpr c9
         have c9b1 : ((bt a0 x5_2) != 92) = true := bne_iff_ne.mpr c9
         have HC14 := Aside0.mk H
         clear H
         have p8 : 0 ≤ (x5_2 : Int) := of_decide_eq_true (by first | (with_reducible assumption) | assumption)
         have q8 : x5_2 < (a0.size : Int) := of_decide_eq_true (by first | (with_reducible assumption) | assumption)
         have hx8 := bt_at a0 x5_2
         replace p8 := eq_true p8
         replace q8 := eq_true q8
         go_upto_region 12 with (fail)
         go_cut [37] (fun v37 wc => ∃ (kq : Nat) (x37_13 : Bool), v37 = .bool x37_13 ∧ Aside0 (token_word.j2 kq a0 b4 x5_2 (bt a0 x5_2) x37_13 = some (r1, r2)) ∧ Aside0 (kq ≤ k2) ∧ Drawn0 w wc)
         case first =>
          have H := HC14.out
          clear HC14
          by_cases c15 : b4 = true
          ·rw [if_pos c15] at H
           have c15b0 : b4 = true := c15
           (try (have c15b1 : decide ((bt a0 0) = 34) = true := by simpa using c15))
           (try (have c15b2 : b4 = true := by simpa using c15))
           clear c15
           subst c15b0
           have H' := Aside0.mk H
           clear H
           go_wp2
           go_meet
           case rel => exact ⟨_, (((bt a0 x5_2) == 34)), (by first | rfl | (simp; done) | (simp [*]; done)), H', ⟨by have := HJ3.out; have := HK2.out; first | omega | exact Nat.le_refl _⟩, by repeat (first | exact Drawn0.refl _ | apply Drawn0.step)⟩
          ·rw [if_neg c15] at H
           have c15b0 : b4 = false := by simpa using c15
           (try (have c15b1 : decide ((bt a0 0) = 34) = false := by simpa using c15))
           (try (have c15b2 : b4 = false := by simpa using c15))
           (try (have c15b3 : ¬ ((bt a0 0) = 34) := by simpa using c15))
           clear c15
           subst c15b0
           have H' := Aside0.mk H
           clear H
           go_wp2
           go_meet
           case rel => exact ⟨_, (false), (by first | rfl | (simp; done) | (simp [*]; done)), H', ⟨by have := HJ3.out; have := HK2.out; first | omega | exact Nat.le_refl _⟩, by repeat (first | exact Drawn0.refl _ | apply Drawn0.step)⟩
         case rest =>
          clear HC14
          try clear c1
          try clear c2
          try clear c2b0
          try clear c2b1
          try clear p2
          try clear c3
          try clear p3
          try clear q3
          try clear hx3
          try clear qi3
          try clear c4
          try clear c5
          try clear c5b0
          try clear c5b1
          try clear c6
          try clear c6b0
          try clear p6
          try clear c7
          try clear c7b0
          try clear p8
          try clear q8
          try clear hx8
          try clear c9
          try clear c9b0
          try clear c9b1
          try clear c10
          try clear c10b0
          try clear c11
          try clear c11b0
          try clear c11b1
          try clear c13
          try clear c13b0
          try clear c13b1
          try clear c15
          try clear c15b0
          try clear c15b1
          try clear c15b2
          try clear p2
          try clear p3
          try clear p8
          try clear q3
          try clear q8
          obtain ⟨kq, x37_13, rfl, HA, HJ13, ⟨mc13, rfl⟩⟩ := hcut
          cases kq with
          | zero => exact absurd HA.out (by simp [token_word.j2])
          | succ kj13 =>
           have H := HA.out
           clear HA
           simp only [token_word.j2] at H
           by_cases c16 : x37_13 = true
           ·subst c16
            have H1 : (if (wrap64 (x5_2 + 1)) < (a0.size : Int) then (if 0 ≤ (wrap64 (x5_2 + 1)) then ((strings_IndexByte.f (⟨#[32, 9, 59]⟩ : ByteArray) (bt a0 (wrap64 (x5_2 + 1)))).bind fun t103 => (if t103 < 0 then (some (0, 61)) else (some (wrap64 (x5_2 + 1), 0)))) else (none)) else (some (wrap64 (x5_2 + 1), 0))) = some (r1, r2) := by rw [if_pos rfl] at H; exact H
            clear H
            have H := H1
            clear H1
            by_cases c17 : (wrap64 (x5_2 + 1)) < (a0.size : Int)
            ·rw [if_pos c17] at H
             have c17b0 : decide ((wrap64 (x5_2 + 1)) < (a0.size : Int)) = true := decide_eq_true c17
             clear c17
             obtain ⟨ji18, hji18⟩ : ∃ j_ : Int, (wrap64 (x5_2 + 1)) = j_ := ⟨_, rfl⟩
             replace H : (if 0 ≤ (ji18) then ((strings_IndexByte.f (⟨#[32, 9, 59]⟩ : ByteArray) (bt a0 (ji18))).bind fun t103 => (if t103 < 0 then (some (0, 61)) else (some (ji18, 0)))) else (none)) = some (r1, r2) := by first | (rw [hji18] at H; exact H) | (simp only [hji18] at H ⊢; exact H)
             (try rw [hji18] at c17b0)
             have hji18w : (IntKind.i64.wrap (x5_2 + 1)) = ji18 := (i64_w _).trans hji18
             by_cases c19 : 0 ≤ (ji18)
             ·rw [if_pos c19] at H
              have c19b0 : decide (0 ≤ (ji18)) = true := decide_eq_true c19
              clear c19
              replace H := Option.bind_eq_some_iff.mp H
              obtain ⟨t103, A210, H⟩ := H
              replace H : (if t103 < 0 then (some (0, 61)) else (some (ji18, 0))) = some (r1, r2) := H
              have A21 := Aside0.mk A210
              clear A210
              by_cases c22 : t103 < 0
              ·rw [if_pos c22] at H
               have c22b0 : decide (t103 < 0) = true := decide_eq_true c22
               clear c22
               simp only [Option.some.injEq, Prod.mk.injEq] at H
               obtain ⟨rfl, rfl⟩ := H
               have p20 : 0 ≤ ((ji18) : Int) := of_decide_eq_true (by first | (with_reducible assumption) | assumption)
               have q20 : (ji18) < (a0.size : Int) := of_decide_eq_true (by first | (with_reducible assumption) | assumption)
               have hx20 := bt_at a0 (ji18)
               replace p20 := eq_true p20
               replace q20 := eq_true q20
               go_wp2_with (first | (go_at_call 46; (with_reducible refine (strings_IndexByte.calls (⟨#[32, 9, 59]⟩ : ByteArray) (bt a0 (ji18)) t103 _ A21.out).mono ?_); rintro e w' ⟨rfl, ⟨nd, rfl⟩⟩))
               go_ret2
               exact ⟨by first | rfl | (simp; done) | (simp only [← hji18] <;> (first | rfl | simp)) | (simp [*]; done), by repeat (first | exact Drawn0.refl _ | apply Drawn0.step)⟩
              ·rw [if_neg c22] at H
               have c22b0 : decide (t103 < 0) = false := decide_eq_false c22
               clear c22
               simp only [Option.some.injEq, Prod.mk.injEq] at H
               obtain ⟨rfl, rfl⟩ := H
               have p20 : 0 ≤ ((ji18) : Int) := of_decide_eq_true (by first | (with_reducible assumption) | assumption)
               have q20 : (ji18) < (a0.size : Int) := of_decide_eq_true (by first | (with_reducible assumption) | assumption)
               have hx20 := bt_at a0 (ji18)
               replace p20 := eq_true p20
               replace q20 := eq_true q20
               go_wp2_with (first | (go_at_call 46; (with_reducible refine (strings_IndexByte.calls (⟨#[32, 9, 59]⟩ : ByteArray) (bt a0 (ji18)) t103 _ A21.out).mono ?_); rintro e w' ⟨rfl, ⟨nd, rfl⟩⟩))
               go_ret2
               exact ⟨by first | rfl | (simp; done) | (simp only [← hji18] <;> (first | rfl | simp)) | (simp [*]; done), by repeat (first | exact Drawn0.refl _ | apply Drawn0.step)⟩
             ·rw [if_neg c19] at H
              exact absurd H (by simp)
            ·rw [if_neg c17] at H
             have c17b0 : decide ((wrap64 (x5_2 + 1)) < (a0.size : Int)) = false := decide_eq_false c17
             clear c17
             simp only [Option.some.injEq, Prod.mk.injEq] at H
             obtain ⟨rfl, rfl⟩ := H
             go_wp2
             go_ret2
             exact ⟨by first | rfl | (simp; done) | (simp [*]; done), by repeat (first | exact Drawn0.refl _ | apply Drawn0.step)⟩
           ·replace c16 := Bool.eq_false_iff.mpr c16
            subst c16
            have H1 : (if b4 = true then (token_word.j3 kj13 a0 b4 x5_2 (bt a0 x5_2) false) else (token_word.j3 kj13 a0 b4 x5_2 (bt a0 x5_2) ((bt a0 x5_2) == 34))) = some (r1, r2) := by rw [if_neg (show ¬ (false = true) by decide)] at H; exact H
            clear H
            have H := H1
            clear H1
            have HC23 := Aside0.mk H
            clear H
            go_upto_region 16 with (fail)
            go_cut [58] (fun v58 wc => ∃ (kq : Nat) (x58_22 : Bool), v58 = .bool x58_22 ∧ Aside0 (token_word.j3 kq a0 b4 x5_2 (bt a0 x5_2) x58_22 = some (r1, r2)) ∧ Aside0 (kq ≤ kj13) ∧ Drawn0 w wc)
            case first =>
             have H := HC23.out
             clear HC23
             by_cases c24 : b4 = true
             ·rw [if_pos c24] at H
              have c24b0 : b4 = true := c24
              (try (have c24b1 : decide ((bt a0 0) = 34) = true := by simpa using c24))
              (try (have c24b2 : b4 = true := by simpa using c24))
              clear c24
              subst c24b0
              have H' := Aside0.mk H
              clear H
              go_wp2
              go_meet
              case rel => exact ⟨_, (false), (by first | rfl | (simp; done) | (simp [*]; done)), H', ⟨by have := HJ3.out; have := HK2.out; have := HJ13.out; first | omega | exact Nat.le_refl _⟩, by repeat (first | exact Drawn0.refl _ | apply Drawn0.step)⟩
             ·rw [if_neg c24] at H
              have c24b0 : b4 = false := by simpa using c24
              (try (have c24b1 : decide ((bt a0 0) = 34) = false := by simpa using c24))
              (try (have c24b2 : b4 = false := by simpa using c24))
              (try (have c24b3 : ¬ ((bt a0 0) = 34) := by simpa using c24))
              clear c24
              subst c24b0
              have H' := Aside0.mk H
              clear H
              go_wp2
              go_meet
              case rel => exact ⟨_, (((bt a0 x5_2) == 34)), (by first | rfl | (simp; done) | (simp [*]; done)), H', ⟨by have := HJ3.out; have := HK2.out; have := HJ13.out; first | omega | exact Nat.le_refl _⟩, by repeat (first | exact Drawn0.refl _ | apply Drawn0.step)⟩
            case rest =>
             clear HC23
             try clear c1
             try clear c2
             try clear c2b0
             try clear c2b1
             try clear p2
             try clear q2
             try clear hx2
             try clear c3
             try clear p3
             try clear q3
             try clear hx3
             try clear qi3
             try clear c4
             try clear c5
             try clear c5b0
             try clear c5b1
             try clear c6
             try clear c6b0
             try clear p6
             try clear c7
             try clear c7b0
             try clear p8
             try clear q8
             try clear hx8
             try clear c9
             try clear c9b0
             try clear c9b1
             try clear c10
             try clear c10b0
             try clear c11
             try clear c11b0
             try clear c11b1
             try clear c13
             try clear c13b0
             try clear c13b1
             try clear c15
             try clear c15b0
             try clear c15b1
             try clear c15b2
             try clear c16
             try clear c17
             try clear c17b0
             try clear c19
             try clear c19b0
             try clear p20
             try clear q20
             try clear hx20
             try clear c22
             try clear c22b0
             try clear c24
             try clear c24b0
             try clear c24b1
             try clear c24b2
             try clear p2
             try clear p20
             try clear p3
             try clear p6
             try clear p8
             try clear q20
             try clear q3
             try clear q8
             obtain ⟨kq, x58_22, rfl, HA, HJ22, ⟨mc22, rfl⟩⟩ := hcut
             cases kq with
             | zero => exact absurd HA.out (by simp [token_word.j3])
             | succ kj22 =>
              have H := HA.out
              clear HA
              simp only [token_word.j3] at H
              by_cases c25 : x58_22 = true
              ·subst c25
               have H1 : (some (0, 61)) = some (r1, r2) := by rw [if_pos rfl] at H; exact H
               clear H
               have H := H1
               clear H1
               simp only [Option.some.injEq, Prod.mk.injEq] at H
               obtain ⟨rfl, rfl⟩ := H
               go_wp2
               go_ret2
               exact ⟨by first | rfl | (simp; done) | (simp [*]; done), by repeat (first | exact Drawn0.refl _ | apply Drawn0.step)⟩
              ·replace c25 := Bool.eq_false_iff.mpr c25
               subst c25
               have H1 : (if b4 = true then (token_word.j4 kj22 a0 b4 x5_2 (bt a0 x5_2) false) else (if (bt a0 x5_2) = 40 then (token_word.j4 kj22 a0 b4 x5_2 (bt a0 x5_2) true) else (token_word.j4 kj22 a0 b4 x5_2 (bt a0 x5_2) ((bt a0 x5_2) == 41)))) = some (r1, r2) := by rw [if_neg (show ¬ (false = true) by decide)] at H; exact H
               clear H
               have H := H1
               clear H1
               have HC26 := Aside0.mk H
               clear H
               go_upto_region 18 with (fail)
               go_cut [65] (fun v65 wc => ∃ (kq : Nat) (x65_25 : Bool), v65 = .bool x65_25 ∧ Aside0 (token_word.j4 kq a0 b4 x5_2 (bt a0 x5_2) x65_25 = some (r1, r2)) ∧ Aside0 (kq ≤ kj22) ∧ Drawn0 w wc)
               case first =>
                have H := HC26.out
                clear HC26
                by_cases c27 : b4 = true
                ·rw [if_pos c27] at H
                 have c27b0 : b4 = true := c27
                 (try (have c27b1 : decide ((bt a0 0) = 34) = true := by simpa using c27))
                 (try (have c27b2 : b4 = true := by simpa using c27))
                 clear c27
                 subst c27b0
                 have H' := Aside0.mk H
                 clear H
                 go_wp2
                 go_meet
                 case rel => exact ⟨_, (false), (by first | rfl | (simp; done) | (simp [*]; done)), H', ⟨by have := HJ3.out; have := HK2.out; have := HJ13.out; have := HJ22.out; first | omega | exact Nat.le_refl _⟩, by repeat (first | exact Drawn0.refl _ | apply Drawn0.step)⟩
                ·rw [if_neg c27] at H
                 have c27b0 : b4 = false := by simpa using c27
                 (try (have c27b1 : decide ((bt a0 0) = 34) = false := by simpa using c27))
                 (try (have c27b2 : b4 = false := by simpa using c27))
                 (try (have c27b3 : ¬ ((bt a0 0) = 34) := by simpa using c27))
                 clear c27
                 subst c27b0
                 by_cases c28 : (bt a0 x5_2) = 40
                 ·rw [if_pos c28] at H
                  have c28b0 : ((bt a0 x5_2) == 40) = true := beq_iff_eq.mpr c28
                  have c28b1 : ((bt a0 x5_2) != 40) = false := bne_eq_false_iff_eq.mpr c28
                  clear c28
                  have H' := Aside0.mk H
                  clear H
                  go_wp2
                  go_meet
                  case rel => exact ⟨_, (true), (by first | rfl | (simp; done) | (simp [*]; done)), H', ⟨by have := HJ3.out; have := HK2.out; have := HJ13.out; have := HJ22.out; first | omega | exact Nat.le_refl _⟩, by repeat (first | exact Drawn0.refl _ | apply Drawn0.step)⟩
                 ·rw [if_neg c28] at H
                  have c28b0 : ((bt a0 x5_2) == 40) = false := beq_eq_false_iff_ne.mpr c28
                  have c28b1 : ((bt a0 x5_2) != 40) = true := bne_iff_ne.mpr c28
                  have H' := Aside0.mk H
                  clear H
                  go_wp2
                  go_meet
                  case rel => exact ⟨_, (((bt a0 x5_2) == 41)), (by first | rfl | (simp; done) | (simp [*]; done)), H', ⟨by have := HJ3.out; have := HK2.out; have := HJ13.out; have := HJ22.out; first | omega | exact Nat.le_refl _⟩, by repeat (first | exact Drawn0.refl _ | apply Drawn0.step)⟩
               case rest =>
                clear HC26
                try clear c1
                try clear c2
                try clear c2b0
                try clear c2b1
                try clear p2
                try clear q2
                try clear hx2
                try clear c3
                try clear p3
                try clear q3
                try clear hx3
                try clear qi3
                try clear c4
                try clear c5
                try clear c5b0
                try clear c5b1
                try clear c6
                try clear c6b0
                try clear p6
                try clear c7
                try clear c7b0
                try clear p8
                try clear q8
                try clear hx8
                try clear c9
                try clear c9b0
                try clear c9b1
                try clear c10
                try clear c10b0
                try clear c11
                try clear c11b0
                try clear c11b1
                try clear c13
                try clear c13b0
                try clear c13b1
                try clear c15
                try clear c15b0
                try clear c15b1
                try clear c15b2
                try clear c16
                try clear c17
                try clear c17b0
                try clear c19
                try clear c19b0
                try clear p20
                try clear q20
                try clear hx20
                try clear c22
                try clear c22b0
                try clear c24
                try clear c24b0
                try clear c24b1
                try clear c24b2
                try clear c25
                try clear c27
                try clear c27b0
                try clear c27b1
                try clear c27b2
                try clear c28
                try clear c28b0
                try clear c28b1
                try clear p2
                try clear p20
                try clear p3
                try clear p6
                try clear p8
                try clear q2
                try clear q20
                try clear q3
                try clear q8
                obtain ⟨kq, x65_25, rfl, HA, HJ25, ⟨mc25, rfl⟩⟩ := hcut
                cases kq with
                | zero => exact absurd HA.out (by simp [token_word.j4])
                | succ kj25 =>
                 have H := HA.out
                 clear HA
                 simp only [token_word.j4] at H
                 by_cases c29 : x65_25 = true
                 ·subst c29
                  have H1 : (some (0, 11)) = some (r1, r2) := by rw [if_pos rfl] at H; exact H
                  clear H
                  have H := H1
                  clear H1
                  simp only [Option.some.injEq, Prod.mk.injEq] at H
                  obtain ⟨rfl, rfl⟩ := H
                  go_wp2
                  go_ret2
                  exact ⟨by first | rfl | (simp; done) | (simp [*]; done), by repeat (first | exact Drawn0.refl _ | apply Drawn0.step)⟩
                 ·replace c29 := Bool.eq_false_iff.mpr c29
                  subst c29
                  have H1 : (if b4 = true then (token_word.l0 kj25 a0 b4 (wrap64 (x5_2 + 1))) else ((strings_IndexByte.f (⟨#[32, 9, 59]⟩ : ByteArray) (bt a0 x5_2)).bind fun t104 => (if t104 ≥ 0 then (some (x5_2, 0)) else (token_word.l0 kj25 a0 b4 (wrap64 (x5_2 + 1)))))) = some (r1, r2) := by rw [if_neg (show ¬ (false = true) by decide)] at H; exact H
                  clear H
                  have H := H1
                  clear H1
                  by_cases c30 : b4 = true
                  ·rw [if_pos c30] at H
                   have c30b0 : b4 = true := c30
                   (try (have c30b1 : decide ((bt a0 0) = 34) = true := by simpa using c30))
                   (try (have c30b2 : b4 = true := by simpa using c30))
                   clear c30
                   subst c30b0
                   have H' := Aside0.mk H
                   clear H
                   go_wp2
                   go_roundg kj25
                   case measure => have := HJ3.out; have := HK2.out; have := HJ13.out; have := HJ22.out; have := HJ25.out; omega
                   case rel => exact ⟨(wrap64 (x5_2 + 1)), (by first | rfl | (simp; done) | (simp [*]; done)), H', ⟨by have := HJ3.out; have := HK2.out; have := HJ13.out; have := HJ22.out; have := HJ25.out; omega⟩, by repeat (first | exact Drawn0.refl _ | apply Drawn0.step)⟩
                  ·rw [if_neg c30] at H
                   have c30b0 : b4 = false := by simpa using c30
                   (try (have c30b1 : decide ((bt a0 0) = 34) = false := by simpa using c30))
                   (try (have c30b2 : b4 = false := by simpa using c30))
                   (try (have c30b3 : ¬ ((bt a0 0) = 34) := by simpa using c30))
                   clear c30
                   subst c30b0
                   replace H := Option.bind_eq_some_iff.mp H
                   obtain ⟨t104, A310, H⟩ := H
                   replace H : (if t104 ≥ 0 then (some (x5_2, 0)) else (token_word.l0 kj25 a0 false (wrap64 (x5_2 + 1)))) = some (r1, r2) := H
                   have A31 := Aside0.mk A310
                   clear A310
                   by_cases c32 : t104 ≥ 0
                   ·rw [if_pos c32] at H
                    have c32b0 : decide (0 ≤ t104) = true := decide_eq_true c32
                    clear c32
                    simp only [Option.some.injEq, Prod.mk.injEq] at H
                    obtain ⟨rfl, rfl⟩ := H
                    go_wp2_with (first | (go_at_call 46; (with_reducible refine (strings_IndexByte.calls (⟨#[32, 9, 59]⟩ : ByteArray) (bt a0 x5_2) t104 _ A31.out).mono ?_); rintro e w' ⟨rfl, ⟨nd, rfl⟩⟩))
                    go_ret2
                    exact ⟨by first | rfl | (simp; done) | (simp [*]; done), by repeat (first | exact Drawn0.refl _ | apply Drawn0.step)⟩
                   ·rw [if_neg c32] at H
                    have c32b0 : decide (0 ≤ t104) = false := decide_eq_false c32
                    clear c32
                    have H' := Aside0.mk H
                    clear H
                    go_wp2_with (first | (go_at_call 46; (with_reducible refine (strings_IndexByte.calls (⟨#[32, 9, 59]⟩ : ByteArray) (bt a0 x5_2) t104 _ A31.out).mono ?_); rintro e w' ⟨rfl, ⟨nd, rfl⟩⟩))
                    go_roundg kj25
                    case measure => have := HJ3.out; have := HK2.out; have := HJ13.out; have := HJ22.out; have := HJ25.out; omega
                    case rel => exact ⟨(wrap64 (x5_2 + 1)), (by first | rfl | (simp; done) | (simp [*]; done)), H', ⟨by have := HJ3.out; have := HK2.out; have := HJ13.out; have := HJ22.out; have := HJ25.out; omega⟩, by repeat (first | exact Drawn0.refl _ | apply Drawn0.step)⟩
       ·rw [if_neg c7] at H
        exact absurd H (by simp)
      ·rw [if_neg c6] at H
       have c6b0 : decide (x5_2 < (a0.size : Int)) = false := decide_eq_false c6
       clear c6
       by_cases c33 : b4 = true
       ·rw [if_pos c33] at H
        have c33b0 : b4 = true := c33
        (try (have c33b1 : decide ((bt a0 0) = 34) = true := by simpa using c33))
        (try (have c33b2 : b4 = true := by simpa using c33))
        clear c33
        subst c33b0
        simp only [Option.some.injEq, Prod.mk.injEq] at H
        obtain ⟨rfl, rfl⟩ := H
        go_wp2
        go_ret2
        exact ⟨by first | rfl | (simp; done) | (simp [*]; done), by repeat (first | exact Drawn0.refl _ | apply Drawn0.step)⟩
       ·rw [if_neg c33] at H
        have c33b0 : b4 = false := by simpa using c33
        (try (have c33b1 : decide ((bt a0 0) = 34) = false := by simpa using c33))
        (try (have c33b2 : b4 = false := by simpa using c33))
        (try (have c33b3 : ¬ ((bt a0 0) = 34) := by simpa using c33))
        clear c33
        subst c33b0
        simp only [Option.some.injEq, Prod.mk.injEq] at H
        obtain ⟨rfl, rfl⟩ := H
        go_wp2
        go_ret2
        exact ⟨by first | rfl | (simp; done) | (simp [*]; done), by repeat (first | exact Drawn0.refl _ | apply Drawn0.step)⟩
 ·rw [if_neg c2] at H
  exact absurd H (by simp)

end Go.Proofs.YtdnfmilnkoocdaaDoor.Q

-- from Htl
/- strings.TrimLeft, at a cutset of ASCII. The walk is the shelf's, laid for this program. -/
namespace Go.Proofs
open Go.Shelf
def Tryd.lays161_ren : Go.Shelf.Ren := ⟨fun | 161 => 44 | 231 => 72 | 227 => 73 | 233 => 74 | 235 => 75 | 228 => 93 | 197 => 94 | 151 => 95 | 260 => 117 | 152 => 118 | 137 => 46 | 119 => 142 | 224 => 139 | 225 => 138 | 217 => 76 | 266 => 96 | n => n, fun | 9 => 9 | 4 => 4 | 3 => 3 | 5 => 5 | 117 => 117 | 116 => 116 | 0 => 0 | 124 => 120 | 105 => 133 | 21 => 21 | 119 => 166 | 46 => 103 | 139 => 169 | 138 => 168 | n => n, fun | 3 => 1 | 4 => 2 | n => n⟩
theorem Tryd.lays161 : Go.Proofs.Lays.n161 Tryd.prog Tryd.lays161_ren := {
  mixed := by kernel_rfl
  f119 := Tryd.func142.trans (congrArg some (by kernel_rfl))
  f137 := Tryd.func46.trans (congrArg some (by kernel_rfl))
  f151 := Tryd.func95.trans (congrArg some (by kernel_rfl))
  f152 := Tryd.func118.trans (congrArg some (by kernel_rfl))
  f161 := Tryd.func44.trans (congrArg some (by kernel_rfl))
  f197 := Tryd.func94.trans (congrArg some (by kernel_rfl))
  f217 := Tryd.func76.trans (congrArg some (by kernel_rfl))
  f224 := Tryd.func139.trans (congrArg some (by kernel_rfl))
  f225 := Tryd.func138.trans (congrArg some (by kernel_rfl))
  f227 := Tryd.func73.trans (congrArg some (by kernel_rfl))
  f228 := Tryd.func93.trans (congrArg some (by kernel_rfl))
  f231 := Tryd.func72.trans (congrArg some (by kernel_rfl))
  f233 := Tryd.func74.trans (congrArg some (by kernel_rfl))
  f235 := Tryd.func75.trans (congrArg some (by kernel_rfl))
  f260 := Tryd.func117.trans (congrArg some (by kernel_rfl))
  f266 := Tryd.func96.trans (congrArg some (by kernel_rfl))
  t0 := Tryd.underlying0
  a0 := Tryd.isAgg0
  z0 := Tryd.sizeOf0
  v0 := Tryd.zeroValue0
  t3 := Tryd.underlying3
  a3 := Tryd.isAgg3
  z3 := Tryd.sizeOf3
  v3 := Tryd.zeroValue3
  t4 := Tryd.underlying4
  a4 := Tryd.isAgg4
  z4 := Tryd.sizeOf4
  v4 := Tryd.zeroValue4
  t5 := Tryd.underlying5
  a5 := Tryd.isAgg5
  z5 := Tryd.sizeOf5
  v5 := Tryd.zeroValue5
  t9 := Tryd.underlying9
  a9 := Tryd.isAgg9
  z9 := Tryd.sizeOf9
  v9 := Tryd.zeroValue9
  t21 := Tryd.underlying21
  a21 := Tryd.isAgg21
  z21 := Tryd.sizeOf21
  v21 := Tryd.zeroValue21
  t46 := Tryd.underlying103
  a46 := Tryd.isAgg103
  z46 := Tryd.sizeOf103
  v46 := Tryd.zeroValue103
  t105 := Tryd.underlying133
  a105 := Tryd.isAgg133
  z105 := Tryd.sizeOf133
  v105 := Tryd.zeroValue133
  t116 := Tryd.underlying116
  a116 := Tryd.isAgg116
  z116 := Tryd.sizeOf116
  t117 := Tryd.underlying117
  a117 := Tryd.isAgg117
  z117 := Tryd.sizeOf117
  v117 := Tryd.zeroValue117
  t119 := Tryd.underlying166
  a119 := Tryd.isAgg166
  z119 := Tryd.sizeOf166
  t124 := Tryd.underlying120
  a124 := Tryd.isAgg120
  z124 := Tryd.sizeOf120
  v124 := Tryd.zeroValue120
  t138 := Tryd.underlying168
  a138 := Tryd.isAgg168
  z138 := Tryd.sizeOf168
  v138 := Tryd.zeroValue168
  t139 := Tryd.underlying169
  a139 := Tryd.isAgg169
  z139 := Tryd.sizeOf169
  v139 := Tryd.zeroValue169
  g3 := by kernel_rfl
  g4 := by kernel_rfl }
end Go.Proofs
namespace Go.Proofs.YtdnfmilnkoocdaaDoor.Q
open Go.RowKit Go.Shelf Go.Proofs.YtdnfmilnkoocdaaDoorW.PrintWords Go.Proofs.YtdnfmilnkoocdaaDoorW.PrintLast Go.Proofs.YtdnfmilnkoocdaaDoorW.PrintMore
set_option linter.unusedVariables false
set_option linter.unusedSimpArgs false

def strings_TrimLeft.f (s c : ByteArray) : Option ByteArray := if c.data.toList.all (fun b => decide (b.toNat < 128)) = true ∧ c.size < 4294967281 then some ⟨(Lib.trimLeftS s.data.toList c.data.toList).toArray⟩ else none
set_option maxHeartbeats 1000000 in
theorem strings_TrimLeft.calls (s c r : ByteArray) (w : World) (h : strings_TrimLeft.f s c = some r) :
    Calls Tryd.prog 44 #[.string s, .string c] w fun e w' => e = .returned (.string r) ∧ Below w.heap.size w w' := by
  unfold strings_TrimLeft.f at h
  split at h
  case isFalse => cases h
  case isTrue hc =>
  obtain ⟨h1, h2⟩ := hc
  obtain rfl := Option.some.inj h
  refine (Any.strings_TrimLeft_laid Tryd.lays161 (by kernel_rfl) s c w h2 (fun j b hj => ?_)).mono ?_
  · have := List.all_eq_true.1 h1 b (List.mem_of_getElem? hj)
    simpa using this
  · rintro e w' ⟨rfl, hb⟩
    exact ⟨rfl, hb⟩

end Go.Proofs.YtdnfmilnkoocdaaDoor.Q

-- from Qf14
-- Made by hp.py, a program of this session, with the kit's printer. Not trusted: Lean checks it.
namespace Go.Proofs.YtdnfmilnkoocdaaDoor.Q
open Go.RowKit Go.Proofs.YtdnfmilnkoocdaaDoorW.PrintWords Go.Proofs.YtdnfmilnkoocdaaDoorW.PrintLast Go.Proofs.YtdnfmilnkoocdaaDoorW.PrintMore
attribute [local go_sem] max2_int min2_int max_two min_two max_three min_three max_four min_four   -- for this text's walks alone
set_option linter.unusedVariables false
set_option linter.unusedSimpArgs false

/-! ### token_Split: function 14 -/
mutual
def token_Split.l0 : Nat → ByteArray → List ByteArray → Option (List ByteArray × Int)
 | 0, _, _ => none
 | k + 1, x4, x5 => (strings_TrimLeft.f x4 (⟨#[32, 9]⟩ : ByteArray)).bind fun t101 => (if t101.toList = ([] : List UInt8) then (token_Split.j1 k t101 x5 true) else (if 0 < (t101.size : Int) then (token_Split.j1 k t101 x5 ((bt t101 0) == 59)) else (none)))
def token_Split.j1 : Nat → ByteArray → List ByteArray → Bool → Option (List ByteArray × Int)
 | 0, _, _, _ => none
 | k + 1, x4, x5, x18 => if x18 = true then (some (x5, 0)) else ((token_word.f k x4).bind fun bt102 => (if bt102.2 = 0 then (if 0 ≤ bt102.1 then (if bt102.1 ≤ (x4.size : Int) then (if x5.length < 8796093022208 then (token_Split.l0 k (x4.extract (bt102.1 : Int).toNat x4.size) (x5 ++ [x4.extract 0 (bt102.1 : Int).toNat])) else (none)) else (none)) else (none)) else (some (([] : List ByteArray), bt102.2))))
end
def token_Split.f (k : Nat) (l0 : List Int) : Option (List ByteArray × Int) := token_Split.l0 k (strOfNums l0) ([] : List ByteArray)
theorem token_Split.mono_l : ∀ k, (∀ y0 y1, LeO (token_Split.l0 k y0 y1) (token_Split.l0 (k + 1) y0 y1)) ∧ (∀ y0 y1 y2, LeO (token_Split.j1 k y0 y1 y2) (token_Split.j1 (k + 1) y0 y1 y2))
 | 0 => ⟨fun _ _ r h => by simp [token_Split.l0] at h, fun _ _ _ r h => by simp [token_Split.j1] at h⟩
 | k + 1 => by
  obtain ⟨ih0, ih1⟩ := token_Split.mono_l k
  refine ⟨?_, ?_⟩
  ·intro y0 y1
   unfold token_Split.l0
   repeat' first
   | (with_reducible exact ih0 _ _)
   | (with_reducible exact ih1 _ _ _)
   | (with_reducible exact token_word.mono _ _)
   | (with_reducible exact LeO.refl _)
   | (with_reducible exact LeO.none _)
   | (with_reducible refine LeO.ite ?_ ?_)
   | (with_reducible refine LeO.bind ?_ (fun _ => ?_))
   | exact ih0 _ _
   | exact ih1 _ _ _
   | exact token_word.mono _ _
   | exact LeO.none _
   | refine LeO.ite ?_ ?_
   | refine LeO.bind ?_ (fun _ => ?_)
  ·intro y0 y1 y2
   unfold token_Split.j1
   repeat' first
   | (with_reducible exact ih0 _ _)
   | (with_reducible exact ih1 _ _ _)
   | (with_reducible exact token_word.mono _ _)
   | (with_reducible exact LeO.refl _)
   | (with_reducible exact LeO.none _)
   | (with_reducible refine LeO.ite ?_ ?_)
   | (with_reducible refine LeO.bind ?_ (fun _ => ?_))
   | exact ih0 _ _
   | exact ih1 _ _ _
   | exact token_word.mono _ _
   | exact LeO.none _
   | refine LeO.ite ?_ ?_
   | refine LeO.bind ?_ (fun _ => ?_)
theorem token_Split.mono : ∀ a0 k, LeO (token_Split.f k a0) (token_Split.f (k + 1) a0) := by
 intro a0 k
 obtain ⟨ih0, ih1⟩ := token_Split.mono_l k
 unfold token_Split.f
 repeat' first
   | (with_reducible exact ih0 _ _)
   | (with_reducible exact ih1 _ _ _)
   | (with_reducible exact token_word.mono _ _)
   | (with_reducible exact LeO.refl _)
   | (with_reducible exact LeO.none _)
   | (with_reducible refine LeO.ite ?_ ?_)
   | (with_reducible refine LeO.bind ?_ (fun _ => ?_))
   | exact ih0 _ _
   | exact ih1 _ _ _
   | exact token_word.mono _ _
   | exact LeO.none _
   | refine LeO.ite ?_ ?_
   | refine LeO.bind ?_ (fun _ => ?_)
set_option maxHeartbeats 8000000 in
set_option maxRecDepth 100000 in
theorem token_Split.calls (k : Nat) (A0 : Option Addr) (c0 : Nat) (l0 : List Int) (r1 : List ByteArray) (r2 : Int) (w : World) (hr0 : Kd.C (Kd.int .u8) w A0 l0.length l0) (hc0 : l0.length ≤ c0) (h : token_Split.f k l0 = some (r1, r2)) :
  Calls Tryd.prog 14 #[.slice A0 l0.length c0] w fun e w' => ∃ v0_ : Value, e = .returned (.tuple #[v0_, .int .i64 r2]) ∧ Kd.R Kd.string 9 w' w.heap.size (fun _ => True) v0_ r1 ∧ Below w.heap.size w w' := by
 have HR0 := Aside0.mk hr0
 have HC0 := Aside0.mk hc0
 clear hr0 hc0
 have HB := Aside0.mk (Below.refl w.heap.size w)
 have H : (token_Split.l0 k (strOfNums l0) ([] : List ByteArray)) = some (r1, r2) := h
 clear h
 have H' := Aside0.mk H
 clear H
 have hcv2 := Kd.C_string (P := Tryd.prog) (A := A0) (c := c0) Tryd.underlying22 Tryd.underlying5 Tryd.underlying9 HR0.out
 go_enter Tryd.func14, Tryd.ntmps14
 go_wp2
 go_loopg [4, 5] k (fun kq v4 v5 w' => ∃ (x4_1 : ByteArray) (x5_1 : List ByteArray), v4 = .string x4_1 ∧ Aside0 (token_Split.l0 kq x4_1 x5_1 = some (r1, r2)) ∧ Aside0 (kq ≤ k) ∧ Aside0 (Kd.R Kd.string 9 w' w.heap.size (fun _ => True) v5 x5_1) ∧ Aside0 (Below w.heap.size w w'))
 case atStart => exact ⟨(strOfNums l0), (([] : List ByteArray)), (by first | rfl | (simp; done) | (simp [*]; done)), H', ⟨Nat.le_refl _⟩, ⟨by first | exact Kd.R_nil _ _ _ _ _ | exact Kd.N_nil _ _ _ _ _ | exact Kd.V_nil _ _ _ _ _ | exact Kd.Q_nil _ _ _ _ _ | exact Kd.S_nil _ _ _ _ _⟩, ⟨by repeat (first | (with_reducible first | exact HB.out | apply below_alloc | apply pw_below_drewN | apply below_drew1) | exact HB.out)⟩⟩
 case round =>
  clear H'
  try clear c1
  try clear p2
  try clear hcv2
  obtain ⟨x4_1, x5_1, rfl, HA, HK1, HO_5, HB⟩ := hrel
  cases gk with
  | zero => exact absurd HA.out (by simp [token_Split.l0])
  | succ k1 =>
   have H := HA.out
   clear HA
   simp only [token_Split.l0] at H
   replace H := Option.bind_eq_some_iff.mp H
   obtain ⟨t101, A30, H⟩ := H
   replace H : (if t101.toList = ([] : List UInt8) then (token_Split.j1 k1 t101 x5_1 true) else (if 0 < (t101.size : Int) then (token_Split.j1 k1 t101 x5_1 ((bt t101 0) == 59)) else (none))) = some (r1, r2) := H
   have A3 := Aside0.mk A30
   clear A30
   have HC4 := Aside0.mk H
   clear H
   go_upto_region 4 with (first | ((with_reducible refine gate_callee (f := 44) rfl ?_); refine goesL_ (some 11) rfl rfl Tryd.func44 (by kernel_rfl) rfl #[.string x4_1, .string (⟨#[32, 9]⟩ : ByteArray)] rfl (by (try simp only [List.map_toArray, List.map_cons, List.map_nil]); first | done | rfl | (simp only [List.length_drop, List.length_take]; rfl)) ?_; (with_reducible refine (strings_TrimLeft.calls x4_1 (⟨#[32, 9]⟩ : ByteArray) t101 _ A3.out).mono ?_); rintro e w5 ⟨rfl, hb⟩; refine ⟨_, rfl, ?_⟩; have n0_ := Aside0.mk (Kd.R_below (by (with_reducible repeat (first | apply Kd.R_alloc | apply Kd.R_drewN | apply Kd.R_drew)); exact HO_5.out) hb); have n1_ := Aside0.mk (below_step (by repeat (first | (with_reducible first | exact HB.out | apply below_alloc | apply pw_below_drewN | apply below_drew1) | exact HB.out)) hb); clear HO_5; clear HB; have HO_5 := n0_; have HB := n1_; clear n0_ n1_; (try clear hb); (try clear hb2); (try clear hk); (try clear hi)))
   (try simp only [Act.put, List.setIfInBounds_toArray, List.set_cons_zero, List.set_cons_succ])
   go_cut [18] (fun v18 wc => ∃ (kq : Nat) (x18_3 : Bool), v18 = .bool x18_3 ∧ Aside0 (token_Split.j1 kq t101 x5_1 x18_3 = some (r1, r2)) ∧ Aside0 (kq ≤ k1) ∧ Aside0 (Kd.R Kd.string 9 wc w.heap.size (fun _ => True) u5 x5_1) ∧ Aside0 (Below w.heap.size w wc))
   case first =>
    have H := HC4.out
    clear HC4
    by_cases c6 : t101.toList = ([] : List UInt8)
    ·rw [if_pos c6] at H
     have c6b0 : (t101.toList == ([] : List UInt8)) = true := beq_iff_eq.mpr c6
     have c6b1 : (t101.toList != ([] : List UInt8)) = false := bne_eq_false_iff_eq.mpr c6
     clear c6
     (first | rw [c6b0] | (simp only [i64_w, i32_w]; rw [c6b0]) | rw [c6b1] | (simp only [i64_w, i32_w]; rw [c6b1]) | skip)
     have H' := Aside0.mk H
     clear H
     go_wp2
     go_meet
     case rel => exact ⟨_, (true), (by first | rfl | (simp; done) | (simp [*]; done)), H', ⟨by have := HK1.out; first | omega | exact Nat.le_refl _⟩, ⟨by (with_reducible repeat (first | apply Kd.R_alloc | apply Kd.R_drewN | apply Kd.R_drew)); exact HO_5.out⟩, ⟨by repeat (first | (with_reducible first | exact HB.out | apply below_alloc | apply pw_below_drewN | apply below_drew1) | exact HB.out)⟩⟩
    ·rw [if_neg c6] at H
     have c6b0 : (t101.toList == ([] : List UInt8)) = false := beq_eq_false_iff_ne.mpr c6
     have c6b1 : (t101.toList != ([] : List UInt8)) = true := bne_iff_ne.mpr c6
     (first | rw [c6b0] | (simp only [i64_w, i32_w]; rw [c6b0]) | rw [c6b1] | (simp only [i64_w, i32_w]; rw [c6b1]) | skip)
     by_cases c7 : 0 < (t101.size : Int)
     ·rw [if_pos c7] at H
      have c7b0 : decide (0 < (t101.size : Int)) = true := decide_eq_true c7
      have c7b1 : decide (0 < t101.size) = true := decide_eq_true (by omega)
      clear c7
      have H' := Aside0.mk H
      clear H
      have p8 : 0 ≤ (0 : Int) := (by omega)
      have q8 : 0 < t101.size := (by have : (0 : Int) < (t101.size : Int) := of_decide_eq_true (by first | (with_reducible assumption) | assumption); omega)
      have hx8 : ∀ h : 0 < t101.size, ((t101[0]'h).toNat : Int) = bt t101 0 := bt_at t101 0
      clear p8
      have qi8 : (0 < (t101.size : Int)) = True := eq_true (of_decide_eq_true (by first | (with_reducible assumption) | assumption))
      replace q8 := eq_true q8
      go_wp2
      go_meet
      case rel => exact ⟨_, (((bt t101 0) == 59)), (by first | rfl | (simp; done) | (simp [*]; done)), H', ⟨by have := HK1.out; first | omega | exact Nat.le_refl _⟩, ⟨by (with_reducible repeat (first | apply Kd.R_alloc | apply Kd.R_drewN | apply Kd.R_drew)); exact HO_5.out⟩, ⟨by repeat (first | (with_reducible first | exact HB.out | apply below_alloc | apply pw_below_drewN | apply below_drew1) | exact HB.out)⟩⟩
     ·rw [if_neg c7] at H
      exact absurd H (by simp)
   case rest =>
    clear HC4
    try clear c1
    try clear p2
    try clear hcv2
    try clear c4
    try clear c6
    try clear c6b0
    try clear c6b1
    try clear c7
    try clear c7b0
    try clear c7b1
    try clear p8
    try clear q8
    try clear hx8
    try clear qi8
    try clear p2
    try clear p8
    try clear q8
    obtain ⟨kq, x18_3, rfl, HA, HJ3, HO_5, HB⟩ := hcut
    cases kq with
    | zero => exact absurd HA.out (by simp [token_Split.j1])
    | succ kj3 =>
     have H := HA.out
     clear HA
     simp only [token_Split.j1] at H
     by_cases c9 : x18_3 = true
     ·subst c9
      have H1 : (some (x5_1, 0)) = some (r1, r2) := by rw [if_pos rfl] at H; exact H
      clear H
      have H := H1
      clear H1
      simp only [Option.some.injEq, Prod.mk.injEq] at H
      obtain ⟨rfl, rfl⟩ := H
      go_wp2
      go_ret2
      exact ⟨_, by first | rfl | (simp [errW_none, errW_some] <;> rfl) | (simp [*, errW_none, errW_some] <;> rfl), by (with_reducible repeat (first | apply Kd.R_alloc | apply Kd.R_drewN | apply Kd.R_drew)); exact HO_5.out, by repeat (first | (with_reducible first | exact HB.out | apply below_alloc | apply pw_below_drewN | apply below_drew1) | exact HB.out)⟩
     ·replace c9 := Bool.eq_false_iff.mpr c9
      subst c9
      have H1 : ((token_word.f kj3 t101).bind fun bt102 => (if bt102.2 = 0 then (if 0 ≤ bt102.1 then (if bt102.1 ≤ (t101.size : Int) then (if x5_1.length < 8796093022208 then (token_Split.l0 kj3 (t101.extract (bt102.1 : Int).toNat t101.size) (x5_1 ++ [t101.extract 0 (bt102.1 : Int).toNat])) else (none)) else (none)) else (none)) else (some (([] : List ByteArray), bt102.2)))) = some (r1, r2) := by rw [if_neg (show ¬ (false = true) by decide)] at H; exact H
      clear H
      have H := H1
      clear H1
      replace H := Option.bind_eq_some_iff.mp H
      obtain ⟨⟨t102, t103⟩, A100, H⟩ := H
      replace H : (if t103 = 0 then (if 0 ≤ t102 then (if t102 ≤ (t101.size : Int) then (if x5_1.length < 8796093022208 then (token_Split.l0 kj3 (t101.extract (t102 : Int).toNat t101.size) (x5_1 ++ [t101.extract 0 (t102 : Int).toNat])) else (none)) else (none)) else (none)) else (some (([] : List ByteArray), t103))) = some (r1, r2) := H
      have A10 := Aside0.mk A100
      clear A100
      by_cases c11 : t103 = 0
      ·rw [if_pos c11] at H
       have c11b0 : (t103 == 0) = true := beq_iff_eq.mpr c11
       have c11b1 : (t103 != 0) = false := bne_eq_false_iff_eq.mpr c11
       clear c11
       by_cases c12 : 0 ≤ t102
       ·rw [if_pos c12] at H
        have c12b0 := eq_true c12
        have c12b1 : decide (0 ≤ t102) = true := decide_eq_true c12
        clear c12
        by_cases c13 : t102 ≤ (t101.size : Int)
        ·rw [if_pos c13] at H
         have c13b0 := eq_true c13
         have c13b1 : decide (t102 ≤ (t101.size : Int)) = true := decide_eq_true c13
         clear c13
         by_cases c14 : x5_1.length < 8796093022208
         ·rw [if_pos c14] at H
          have LMc14 := Aside0.mk c14
          clear c14
          obtain ⟨y104, hy104⟩ : ∃ y_ : List ByteArray, y_ = (x5_1 ++ [t101.extract 0 (t102 : Int).toNat]) := ⟨_, rfl⟩
          replace H : (token_Split.l0 kj3 (t101.extract (t102 : Int).toNat t101.size) y104) = some (r1, r2) := by first | (rw [hy104]; with_reducible exact H) | (have H2_ := (Option.bind_some _ _).symm.trans H; rw [hy104]; with_reducible exact H2_) | (have H2_ := (Option.bind_some _ _).symm.trans H; with_reducible exact H2_) | with_reducible exact H | (rw [hy104]; exact H) | exact H
          have Ny104 := Aside0.mk hy104
          clear hy104
          have c15b0 := eq_true (of_decide_eq_true (by first | (with_reducible assumption) | assumption) : 0 ≤ t102)
          have c16b0 := eq_true (of_decide_eq_true (by first | (with_reducible assumption) | assumption) : t102 ≤ (t101.size : Int))
          have H' := Aside0.mk H
          clear H
          go_wp2_with (first | ((with_reducible refine gate_callee (f := 45) rfl ?_); refine goesL_ (some 22) rfl rfl Tryd.func45 (by kernel_rfl) rfl #[.string t101] rfl (by (try simp only [List.map_toArray, List.map_cons, List.map_nil]); first | done | rfl | (simp only [List.length_drop, List.length_take]; rfl)) ?_; (with_reducible refine (token_word.calls kj3 t101 t102 t103 _ A10.out).mono ?_); rintro e w' ⟨rfl, ⟨nd, rfl⟩⟩; refine ⟨_, rfl, ?_⟩) | ((with_reducible refine gate_builtin (b := .append) (xs := #[.tmp 28, .tmp 32]) rfl ?_); at_builtin; refine Kd.R_append Kd.string (w0 := w) w.heap.size rfl (.tmp 28) (.tmp 32) 24 9 (.string ⟨#[]⟩) 16 rfl Tryd.underlying24 info9 rfl (by decide) (by omega) u5 x5_1 (t101.extract 0 (t102 : Int).toNat) [.string (t101.extract 0 (t102 : Int).toNat)] (fun _ => True) (fun _ => False) rfl rfl ?aP (fun _ hk => hk.elim) ?aF ?aO ?aB ?aS ?aL ?_; (case aP => exact rfl); (case aB => exact (by repeat (first | (with_reducible first | exact HB.out | apply below_alloc | apply pw_below_drewN | apply below_drew1) | exact HB.out))); (case aF => exact (fun _ _ => trivial)); (case aO => exact (by (with_reducible repeat (first | apply Kd.R_alloc | apply Kd.R_drewN | apply Kd.R_drew)); exact HO_5.out)); (case aS => exact (below_size (by repeat (first | (with_reducible first | exact HB.out | apply below_alloc | apply pw_below_drewN | apply below_drew1) | exact HB.out)))); (case aL => have := LMc14.out; omega); intro v105 w17 ho hb hg hat; rw [← Ny104.out] at ho; have n0_ := Aside0.mk (hb); have n1_ := Aside0.mk (ho); clear HB; clear HO_5; have HB := n0_; have HO106 := n1_; clear n0_ n1_; clear ho hb hg hat))
          go_roundg kj3
          case measure => have := HK1.out; have := HJ3.out; omega
          case rel => exact ⟨(t101.extract (t102 : Int).toNat t101.size), (y104), (by first | rfl | (simp; done) | (simp [*]; done)), H', ⟨by have := HK1.out; have := HJ3.out; omega⟩, ⟨by (with_reducible repeat (first | apply Kd.R_alloc | apply Kd.R_drewN | apply Kd.R_drew)); exact HO106.out⟩, ⟨by repeat (first | (with_reducible first | exact HB.out | apply below_alloc | apply pw_below_drewN | apply below_drew1) | exact HB.out)⟩⟩
         ·rw [if_neg c14] at H
          exact absurd H (by simp)
        ·rw [if_neg c13] at H
         exact absurd H (by simp)
       ·rw [if_neg c12] at H
        exact absurd H (by simp)
      ·rw [if_neg c11] at H
       have c11b0 : (t103 == 0) = false := beq_eq_false_iff_ne.mpr c11
       have c11b1 : (t103 != 0) = true := bne_iff_ne.mpr c11
       simp only [Option.some.injEq, Prod.mk.injEq] at H
       obtain ⟨rfl, rfl⟩ := H
       go_wp2_with (first | ((with_reducible refine gate_callee (f := 45) rfl ?_); refine goesL_ (some 22) rfl rfl Tryd.func45 (by kernel_rfl) rfl #[.string t101] rfl (by (try simp only [List.map_toArray, List.map_cons, List.map_nil]); first | done | rfl | (simp only [List.length_drop, List.length_take]; rfl)) ?_; (with_reducible refine (token_word.calls kj3 t101 t102 t103 _ A10.out).mono ?_); rintro e w' ⟨rfl, ⟨nd, rfl⟩⟩; refine ⟨_, rfl, ?_⟩))
       go_ret2
       exact ⟨_, by first | rfl | (simp [errW_none, errW_some] <;> rfl) | (simp [*, errW_none, errW_some] <;> rfl), by first | exact Kd.R_nil _ _ _ _ _ | exact Kd.N_nil _ _ _ _ _ | exact Kd.V_nil _ _ _ _ _ | exact Kd.Q_nil _ _ _ _ _ | exact Kd.S_nil _ _ _ _ _, by repeat (first | (with_reducible first | exact HB.out | apply below_alloc | apply pw_below_drewN | apply below_drew1) | exact HB.out)⟩

end Go.Proofs.YtdnfmilnkoocdaaDoor.Q

-- from Hbof
namespace Go.Proofs.YtdnfmilnkoocdaaDoor.Q
open Go.RowKit Go.Proofs.YtdnfmilnkoocdaaDoorW.PrintWords Go.Proofs.YtdnfmilnkoocdaaDoorW.PrintLast Go.Proofs.YtdnfmilnkoocdaaDoorW.PrintMore
set_option linter.unusedVariables false

/-- The octets of a string. -/
def octs (s : ByteArray) : List Int := s.data.toList.map fun b => (b.toNat : Int)
theorem octs_length (s : ByteArray) : (octs s).length = s.size := by simp [octs]
/-- '[]byte(s)' of a string that is no literal. -/
def bytesOf.f (s : ByteArray) : Option (List Int) := if s.size ≤ 4294967296 then some (octs s) else none

theorem bytesOf.step {P : Program} {W : World} {ops : Array Oper} {rest : List Oper} {o : Oper} {a : Act} {Q : Exit → Act → World → Prop} {u : TypeDesc} (t0 t e : TypeId) (s : Operand) (x : ByteArray) (r : List Int) (h : bytesOf.f x = some r)
    (hgd : o.guard = none) (hop : o.op = .convert t0 t s) (hs : a.eval s = .string x) (h0 : P.underlying t0 = some u) (ht : P.underlying t = some (.slice e)) (he : P.underlying e = some (.int .u8))
    (hk : ∀ v w1, Kd.V (Kd.int .u8) e w1 W.heap.size (fun k => W.heap.size ≤ k) v r → Below W.heap.size W w1 → wpList P ops Q rest (a.put o.dst v) w1) :
    wpList P ops Q (o :: rest) a W := by
  unfold bytesOf.f at h
  split at h
  case isFalse => cases h
  case isTrue hsz =>
  obtain rfl := Option.some.inj h
  have hr := Lib.run_convert_string_bytes (P := P) W t0 t e x h0 ht he
  have hB : Below W.heap.size W (Lib.bytesWorld W e x) := by
    have h1 : Below W.heap.size W (W.drew.alloc (.cells (Lib.bytesCells W e x) e)) := (Below.refl _ W).drew.alloc (Nat.le_refl _) _
    exact ⟨h1.os, h1.tape, h1.output, by rw [Lib.bytesWorld_size]; omega, fun k hk => Lib.bytesWorld_at_old W e x k hk⟩
  have hv : Kd.V (Kd.int .u8) e (Lib.bytesWorld W e x) W.heap.size (fun k => W.heap.size ≤ k) (.slice (some ⟨W.heap.size, 0, none⟩) (octs x).length (grownCap W x.size 0 e)) (octs x) := by
    have hcap := grownCap_ge W x.size 0 e
    refine Kd.V_mk (by rw [octs_length]; exact hcap) (fun W' hW => ?_)
    refine Kd.C_of_reads (d := (0 : Int)) ⟨rfl, by rw [octs_length]; omega, fun _ => ⟨_, rfl, fun j hj => ?_⟩⟩
    rw [octs_length] at hj
    have hnew := Lib.bytesWorld_at_new W e x
    have hW' := (hW W.heap.size (Nat.le_refl _) (by rw [Lib.bytesWorld_size]; omega)).trans hnew
    rw [add_plain, cell_of_row W' _ j _ e _ hW', Lib.bytesCells]
    have hj2 : j < x.data.size := hj
    rw [Array.getElem?_append_left (by simpa using hj2)]
    simp [octs, List.getD_eq_getElem?_getD, Array.getElem?_eq_getElem hj2]
  refine wpList_plain hgd fun K hK => ?_
  unfold Oper.wp execOp
  simp only [hop, hs]
  have hr2 : (do let v ← convert t0 t (.string x); pure (Next.value v) : Sem Next).run P W = .ok (.value (.slice (some ⟨W.heap.size, 0, none⟩) x.size (grownCap W x.size 0 e))) (Lib.bytesWorld W e x) := by
    rw [Sem.run_bind, hr]; rfl
  first | rw [hr2] | (simp only [Sem.run_bind, hr, Sem.run_pure, Result.andThen_ok])
  refine hK _ _ (hk _ _ ?_ hB)
  rw [octs_length] at hv
  exact hv

end Go.Proofs.YtdnfmilnkoocdaaDoor.Q

-- from Qf19
-- Made by hp.py, a program of this session, with the kit's printer. Not trusted: Lean checks it.
namespace Go.Proofs.YtdnfmilnkoocdaaDoor.Q
open Go.RowKit Go.Proofs.YtdnfmilnkoocdaaDoorW.PrintWords Go.Proofs.YtdnfmilnkoocdaaDoorW.PrintLast Go.Proofs.YtdnfmilnkoocdaaDoorW.PrintMore
attribute [local go_sem] max2_int min2_int max_two min_two max_three min_three max_four min_four   -- for this text's walks alone
set_option linter.unusedVariables false
set_option linter.unusedSimpArgs false

/-! ### token_Plain: function 19 -/
mutual
def token_Plain.j0 : Nat → ByteArray → Option (List Int × Int)
 | 0, _ => none
 | k + 1, x0 => token_Plain.l0 k x0 ([] : List Int)
def token_Plain.l0 : Nat → ByteArray → List Int → Option (List Int × Int)
 | 0, _, _ => none
 | k + 1, x0, x6 => if (x0.size : Int) > 0 then (if 0 < (x0.size : Int) then (if (bt x0 0) = 92 then ((token_escape.f k x0).bind fun bt109 => (if x6.length < 140737488355328 then (if 0 ≤ bt109.2 then (if bt109.2 ≤ (x0.size : Int) then (token_Plain.l0 k (x0.extract (bt109.2 : Int).toNat x0.size) (x6 ++ [bt109.1])) else (none)) else (none)) else (none))) else (if x6.length < 140737488355328 then (if 1 ≤ (x0.size : Int) then (token_Plain.l0 k (x0.extract 1 x0.size) (x6 ++ [bt x0 0])) else (none)) else (none))) else (none)) else (some (x6, 0))
end
def token_Plain.f (k : Nat) (a0 : ByteArray) : Option (List Int × Int) := (bytesOf.f a0).bind fun t101 => ((token_Split.f k t101).bind fun bt104 => (if bt104.2 = 0 then (if (bt104.1.length : Int) = 1 then (if 0 < (bt104.1.length : Int) then (if (rdOf ByteArray.empty bt104.1 0).toList = a0.toList then (if 0 < (a0.size : Int) then (if (bt a0 0) = 34 then (if 1 ≤ (wrap64 ((a0.size : Int) - 1)) then (if (wrap64 ((a0.size : Int) - 1)) ≤ (a0.size : Int) then (token_Plain.j0 k (a0.extract 1 ((wrap64 ((a0.size : Int) - 1)) : Int).toNat)) else (none)) else (none)) else (token_Plain.j0 k a0)) else (none)) else (some (([] : List Int), 12))) else (none)) else (some (([] : List Int), 12))) else (some (([] : List Int), bt104.2))))
theorem token_Plain.mono_l : ∀ k, (∀ y0, LeO (token_Plain.j0 k y0) (token_Plain.j0 (k + 1) y0)) ∧ (∀ y0 y1, LeO (token_Plain.l0 k y0 y1) (token_Plain.l0 (k + 1) y0 y1))
 | 0 => ⟨fun _ r h => by simp [token_Plain.j0] at h, fun _ _ r h => by simp [token_Plain.l0] at h⟩
 | k + 1 => by
  obtain ⟨ih0, ih1⟩ := token_Plain.mono_l k
  refine ⟨?_, ?_⟩
  ·intro y0
   unfold token_Plain.j0
   repeat' first
   | (with_reducible exact ih0 _)
   | (with_reducible exact ih1 _ _)
   | (with_reducible exact token_Split.mono _ _)
   | (with_reducible exact token_escape.mono _ _)
   | (with_reducible exact LeO.refl _)
   | (with_reducible exact LeO.none _)
   | (with_reducible refine LeO.ite ?_ ?_)
   | (with_reducible refine LeO.bind ?_ (fun _ => ?_))
   | exact ih0 _
   | exact ih1 _ _
   | exact token_Split.mono _ _
   | exact token_escape.mono _ _
   | exact LeO.none _
   | refine LeO.ite ?_ ?_
   | refine LeO.bind ?_ (fun _ => ?_)
  ·intro y0 y1
   unfold token_Plain.l0
   repeat' first
   | (with_reducible exact ih0 _)
   | (with_reducible exact ih1 _ _)
   | (with_reducible exact token_Split.mono _ _)
   | (with_reducible exact token_escape.mono _ _)
   | (with_reducible exact LeO.refl _)
   | (with_reducible exact LeO.none _)
   | (with_reducible refine LeO.ite ?_ ?_)
   | (with_reducible refine LeO.bind ?_ (fun _ => ?_))
   | exact ih0 _
   | exact ih1 _ _
   | exact token_Split.mono _ _
   | exact token_escape.mono _ _
   | exact LeO.none _
   | refine LeO.ite ?_ ?_
   | refine LeO.bind ?_ (fun _ => ?_)
theorem token_Plain.mono : ∀ a0 k, LeO (token_Plain.f k a0) (token_Plain.f (k + 1) a0) := by
 intro a0 k
 obtain ⟨ih0, ih1⟩ := token_Plain.mono_l k
 unfold token_Plain.f
 repeat' first
   | (with_reducible exact ih0 _)
   | (with_reducible exact ih1 _ _)
   | (with_reducible exact token_Split.mono _ _)
   | (with_reducible exact token_escape.mono _ _)
   | (with_reducible exact LeO.refl _)
   | (with_reducible exact LeO.none _)
   | (with_reducible refine LeO.ite ?_ ?_)
   | (with_reducible refine LeO.bind ?_ (fun _ => ?_))
   | exact ih0 _
   | exact ih1 _ _
   | exact token_Split.mono _ _
   | exact token_escape.mono _ _
   | exact LeO.none _
   | refine LeO.ite ?_ ?_
   | refine LeO.bind ?_ (fun _ => ?_)
set_option maxHeartbeats 8000000 in
set_option maxRecDepth 100000 in
theorem token_Plain.calls (k : Nat) (a0 : ByteArray) (r1 : List Int) (r2 : Int) (w : World) (h : token_Plain.f k a0 = some (r1, r2)) :
  Calls Tryd.prog 19 #[.string a0] w fun e w' => ∃ v0_ : Value, e = .returned (.tuple #[v0_, .int .i64 r2]) ∧ Kd.R (Kd.int .u8) 5 w' w.heap.size (fun _ => True) v0_ r1 ∧ Below w.heap.size w w' := by
 have HB := Aside0.mk (Below.refl w.heap.size w)
 have H : ((bytesOf.f a0).bind fun t101 => ((token_Split.f k t101).bind fun bt104 => (if bt104.2 = 0 then (if (bt104.1.length : Int) = 1 then (if 0 < (bt104.1.length : Int) then (if (rdOf ByteArray.empty bt104.1 0).toList = a0.toList then (if 0 < (a0.size : Int) then (if (bt a0 0) = 34 then (if 1 ≤ (wrap64 ((a0.size : Int) - 1)) then (if (wrap64 ((a0.size : Int) - 1)) ≤ (a0.size : Int) then (token_Plain.j0 k (a0.extract 1 ((wrap64 ((a0.size : Int) - 1)) : Int).toNat)) else (none)) else (none)) else (token_Plain.j0 k a0)) else (none)) else (some (([] : List Int), 12))) else (none)) else (some (([] : List Int), 12))) else (some (([] : List Int), bt104.2))))) = some (r1, r2) := h
 clear h
 replace H := Option.bind_eq_some_iff.mp H
 obtain ⟨t101, A20, H⟩ := H
 replace H : ((token_Split.f k t101).bind fun bt104 => (if bt104.2 = 0 then (if (bt104.1.length : Int) = 1 then (if 0 < (bt104.1.length : Int) then (if (rdOf ByteArray.empty bt104.1 0).toList = a0.toList then (if 0 < (a0.size : Int) then (if (bt a0 0) = 34 then (if 1 ≤ (wrap64 ((a0.size : Int) - 1)) then (if (wrap64 ((a0.size : Int) - 1)) ≤ (a0.size : Int) then (token_Plain.j0 k (a0.extract 1 ((wrap64 ((a0.size : Int) - 1)) : Int).toNat)) else (none)) else (none)) else (token_Plain.j0 k a0)) else (none)) else (some (([] : List Int), 12))) else (none)) else (some (([] : List Int), 12))) else (some (([] : List Int), bt104.2)))) = some (r1, r2) := H
 have A2 := Aside0.mk A20
 clear A20
 replace H := Option.bind_eq_some_iff.mp H
 obtain ⟨⟨t104, t105⟩, A30, H⟩ := H
 replace H : (if t105 = 0 then (if (t104.length : Int) = 1 then (if 0 < (t104.length : Int) then (if (rdOf ByteArray.empty t104 0).toList = a0.toList then (if 0 < (a0.size : Int) then (if (bt a0 0) = 34 then (if 1 ≤ (wrap64 ((a0.size : Int) - 1)) then (if (wrap64 ((a0.size : Int) - 1)) ≤ (a0.size : Int) then (token_Plain.j0 k (a0.extract 1 ((wrap64 ((a0.size : Int) - 1)) : Int).toNat)) else (none)) else (none)) else (token_Plain.j0 k a0)) else (none)) else (some (([] : List Int), 12))) else (none)) else (some (([] : List Int), 12))) else (some (([] : List Int), t105))) = some (r1, r2) := H
 have A3 := Aside0.mk A30
 clear A30
 by_cases c4 : t105 = 0
 ·rw [if_pos c4] at H
  have c4b0 : (t105 == 0) = true := beq_iff_eq.mpr c4
  have c4b1 : (t105 != 0) = false := bne_eq_false_iff_eq.mpr c4
  clear c4
  by_cases c5 : (t104.length : Int) = 1
  ·rw [if_pos c5] at H
   have c5b0 : ((t104.length : Int) == 1) = true := beq_iff_eq.mpr c5
   have c5b1 : ((t104.length : Int) != 1) = false := bne_eq_false_iff_eq.mpr c5
   clear c5
   by_cases c6 : 0 < (t104.length : Int)
   ·rw [if_pos c6] at H
    have c6b0 : decide (0 < (t104.length : Int)) = true := decide_eq_true c6
    have c6b1 : decide (0 < t104.length) = true := decide_eq_true (by omega)
    clear c6
    by_cases c7 : (rdOf ByteArray.empty t104 0).toList = a0.toList
    ·rw [if_pos c7] at H
     have c7b0 : ((rdOf ByteArray.empty t104 0).toList == a0.toList) = true := beq_iff_eq.mpr c7
     have c7b1 : ((rdOf ByteArray.empty t104 0).toList != a0.toList) = false := bne_eq_false_iff_eq.mpr c7
     clear c7
     by_cases c8 : 0 < (a0.size : Int)
     ·rw [if_pos c8] at H
      have c8b0 : decide (0 < (a0.size : Int)) = true := decide_eq_true c8
      have c8b1 : decide (0 < a0.size) = true := decide_eq_true (by omega)
      clear c8
      have HC10 := Aside0.mk H
      clear H
      go_enter Tryd.func19, Tryd.ntmps19
      go_upto_if 32 with (first | ((with_reducible refine gate_dst (N := 11) rfl ?_); (try (refine gate_guard (by rfl) ?_; dsimp only)); refine bytesOf.step 9 22 5 _ a0 t101 A2.out rfl rfl rfl Tryd.underlying9 Tryd.underlying22 Tryd.underlying5 ?_; intro v102 w11 ho0 hb; have n0_ := Aside0.mk (Kd.V_lower (Kd.V_mono (ok' := fun k_ => True) ho0 (fun k_ hk_ => trivial)) (below_size (by repeat (first | (with_reducible first | exact HB.out | apply below_alloc | apply pw_below_drewN | apply below_drew1) | exact HB.out)))); have n1_ := Aside0.mk (below_step (by repeat (first | (with_reducible first | exact HB.out | apply below_alloc | apply pw_below_drewN | apply below_drew1) | exact HB.out)) hb); clear HB; have HO103 := n0_; have HB := n1_; clear n0_ n1_; (try clear hb); (try clear hb2); (try clear hk); (try clear hi); (try clear ho0); obtain ⟨Ao12, co12, eo12⟩ := Kd.V_slice HO103.out; subst eo12) | ((with_reducible refine gate_callee (f := 14) rfl ?_); refine goesL_ (some 12) rfl rfl Tryd.func14 (by kernel_rfl) rfl #[.slice Ao12 t101.length co12] rfl (by (try simp only [List.map_toArray, List.map_cons, List.map_nil]); first | done | rfl | (simp only [List.length_drop, List.length_take]; rfl)) ?_; (with_reducible refine (token_Split.calls k _ _ t101 t104 t105 _ ?side1 ?side2 A3.out).mono ?_); (case side1 => repeat (first | exact (Kd.V_reads' HO103.out).2.2 | (with_reducible refine Kd.C_alloc ?_ _) | (with_reducible refine Kd.C_drewN ?_ _) | (with_reducible refine Kd.C_drew ?_))); (case side2 => exact (Kd.V_reads' HO103.out).2.1); rintro e w13 ⟨v106, rfl, ho0, hb⟩; refine ⟨_, rfl, ?_⟩; have n0_ := Aside0.mk (Kd.V_elder' (by (with_reducible repeat (first | apply Kd.V_alloc | apply Kd.V_drewN | apply Kd.V_drew)); exact HO103.out) (Kd.R_base ho0) hb); have n1_ := Aside0.mk (Kd.R_lower ho0 (below_size (by repeat (first | (with_reducible first | exact HB.out | apply below_alloc | apply pw_below_drewN | apply below_drew1) | exact HB.out)))); have n2_ := Aside0.mk (below_step (by repeat (first | (with_reducible first | exact HB.out | apply below_alloc | apply pw_below_drewN | apply below_drew1) | exact HB.out)) hb); clear HO103; clear HB; have HO103 := n0_; have HO107 := n1_; have HB := n2_; clear n0_ n1_ n2_; (try clear hb); (try clear hb2); (try clear hk); (try clear hi); (try clear ho0); obtain ⟨Ao14, co14, eo14⟩ := Kd.R_slice HO107.out; subst eo14; have p108 : 0 ≤ (0 : Int) := (by omega); have q108 : 0 < (t104.length : Int) := of_decide_eq_true (by first | (with_reducible assumption) | assumption); obtain ⟨ad108, e108, hx108_0⟩ := Kd.at_string (Kd.R_reads' HO107.out).2.2 0 p108 q108; cases e108; have qi108 : (0 < t104.length) = True := eq_true (by omega); (try rw [show ((0 : Int)).toNat = 0 from rfl] at hx108_0); (try rw [Addr.add_zero'] at hx108_0); replace p108 := eq_true p108; replace q108 := eq_true q108; have p9 : 0 ≤ (0 : Int) := (by omega); have q9 : 0 < a0.size := (by have : (0 : Int) < (a0.size : Int) := of_decide_eq_true (by first | (with_reducible assumption) | assumption); omega); have hx9 : ∀ h : 0 < a0.size, ((a0[0]'h).toNat : Int) = bt a0 0 := bt_at a0 0; clear p9; have qi9 : (0 < (a0.size : Int)) = True := eq_true (of_decide_eq_true (by first | (with_reducible assumption) | assumption)); replace q9 := eq_true q9))
      (try simp only [Act.put, List.setIfInBounds_toArray, List.set_cons_zero, List.set_cons_succ])
      go_cut [0] (fun v0 wc => ∃ (kq : Nat) (x0_9 : ByteArray), v0 = .string x0_9 ∧ Aside0 (token_Plain.j0 kq x0_9 = some (r1, r2)) ∧ Aside0 (kq ≤ k) ∧ Aside0 (Below w.heap.size w wc))
      case first =>
       have H := HC10.out
       clear HC10
       by_cases c15 : (bt a0 0) = 34
       ·rw [if_pos c15] at H
        have c15b0 : ((bt a0 0) == 34) = true := beq_iff_eq.mpr c15
        have c15b1 : ((bt a0 0) != 34) = false := bne_eq_false_iff_eq.mpr c15
        clear c15
        (first | rw [c15b0] | (simp only [i64_w, i32_w]; rw [c15b0]) | rw [c15b1] | (simp only [i64_w, i32_w]; rw [c15b1]) | skip)
        by_cases c16 : 1 ≤ (wrap64 ((a0.size : Int) - 1))
        ·rw [if_pos c16] at H
         have c16b0 := eq_true c16
         have c16b1 : decide (1 ≤ (wrap64 ((a0.size : Int) - 1))) = true := decide_eq_true c16
         clear c16
         by_cases c17 : (wrap64 ((a0.size : Int) - 1)) ≤ (a0.size : Int)
         ·rw [if_pos c17] at H
          have c17b0 := eq_true c17
          have c17b1 : decide ((wrap64 ((a0.size : Int) - 1)) ≤ (a0.size : Int)) = true := decide_eq_true c17
          clear c17
          have H' := Aside0.mk H
          clear H
          go_wp2
          go_meet
          case rel => exact ⟨_, (a0.extract 1 ((wrap64 ((a0.size : Int) - 1)) : Int).toNat), (by first | rfl | (simp; done) | (simp [*]; done)), H', ⟨by first | omega | exact Nat.le_refl _⟩, ⟨by repeat (first | (with_reducible first | exact HB.out | apply below_alloc | apply pw_below_drewN | apply below_drew1) | exact HB.out)⟩⟩
         ·rw [if_neg c17] at H
          exact absurd H (by simp)
        ·rw [if_neg c16] at H
         exact absurd H (by simp)
       ·rw [if_neg c15] at H
        have c15b0 : ((bt a0 0) == 34) = false := beq_eq_false_iff_ne.mpr c15
        have c15b1 : ((bt a0 0) != 34) = true := bne_iff_ne.mpr c15
        (first | rw [c15b0] | (simp only [i64_w, i32_w]; rw [c15b0]) | rw [c15b1] | (simp only [i64_w, i32_w]; rw [c15b1]) | skip)
        have H' := Aside0.mk H
        clear H
        go_wp2
        go_meet
        case rel => exact ⟨_, (a0), (by first | rfl | (simp; done) | (simp [*]; done)), H', ⟨by first | omega | exact Nat.le_refl _⟩, ⟨by repeat (first | (with_reducible first | exact HB.out | apply below_alloc | apply pw_below_drewN | apply below_drew1) | exact HB.out)⟩⟩
      case rest =>
       clear HC10
       try clear c1
       try clear p1
       try clear q1
       try clear hx1
       try clear qi1
       try clear p2
       try clear c4
       try clear c4b0
       try clear c4b1
       try clear c5
       try clear c5b0
       try clear c5b1
       try clear c6
       try clear c6b0
       try clear c6b1
       try clear p6
       try clear c7
       try clear c7b0
       try clear c7b1
       try clear c8
       try clear c8b0
       try clear c8b1
       try clear p9
       try clear q9
       try clear hx9
       try clear qi9
       try clear p10
       try clear q10
       try clear hx10
       try clear qi10
       try clear c14
       try clear c15
       try clear c15b0
       try clear c15b1
       try clear c16
       try clear c16b0
       try clear c16b1
       try clear c17
       try clear c17b0
       try clear c17b1
       try clear hx108_0
       try clear p108
       try clear p9
       try clear q108
       try clear q9
       obtain ⟨kq, x0_9, rfl, HA, HJ9, HB⟩ := hcut
       cases kq with
       | zero => exact absurd HA.out (by simp [token_Plain.j0])
       | succ kj9 =>
        have H := HA.out
        clear HA
        simp only [token_Plain.j0] at H
        have H' := Aside0.mk H
        clear H
        go_wp2
        go_loopg [0, 6] kj9 (fun kq v0 v6 w' => ∃ (x0_2 : ByteArray) (x6_2 : List Int), v0 = .string x0_2 ∧ Aside0 (token_Plain.l0 kq x0_2 x6_2 = some (r1, r2)) ∧ Aside0 (kq ≤ kj9) ∧ Aside0 (Kd.R (Kd.int .u8) 5 w' w.heap.size (fun _ => True) v6 x6_2) ∧ Aside0 (Below w.heap.size w w'))
        case atStart => exact ⟨(x0_9), (([] : List Int)), (by first | rfl | (simp; done) | (simp [*]; done)), H', ⟨Nat.le_refl _⟩, ⟨by first | exact Kd.R_nil _ _ _ _ _ | exact Kd.N_nil _ _ _ _ _ | exact Kd.V_nil _ _ _ _ _ | exact Kd.Q_nil _ _ _ _ _ | exact Kd.S_nil _ _ _ _ _⟩, ⟨by repeat (first | (with_reducible first | exact HB.out | apply below_alloc | apply pw_below_drewN | apply below_drew1) | exact HB.out)⟩⟩
        case round =>
         clear H'
         try clear c1
         try clear p1
         try clear q1
         try clear hx1
         try clear qi1
         try clear p2
         try clear c4
         try clear c4b0
         try clear c4b1
         try clear c5
         try clear c5b0
         try clear c5b1
         try clear c6
         try clear c6b0
         try clear c6b1
         try clear p6
         try clear c7
         try clear c7b0
         try clear c7b1
         try clear c8
         try clear c8b0
         try clear c8b1
         try clear p9
         try clear q9
         try clear hx9
         try clear qi9
         try clear p10
         try clear q10
         try clear hx10
         try clear qi10
         try clear c14
         try clear c15
         try clear c15b0
         try clear c15b1
         try clear c16
         try clear c16b0
         try clear c16b1
         try clear c17
         try clear c17b0
         try clear c17b1
         try clear hx108_0
         try clear p1
         try clear p10
         try clear p108
         try clear p2
         try clear p6
         try clear p9
         try clear q1
         try clear q10
         try clear q108
         try clear q9
         obtain ⟨x0_2, x6_2, rfl, HA, HK2, HO_6, HB⟩ := hrel
         cases gk with
         | zero => exact absurd HA.out (by simp [token_Plain.l0])
         | succ k2 =>
          have H := HA.out
          clear HA
          simp only [token_Plain.l0] at H
          by_cases c18 : (x0_2.size : Int) > 0
          ·rw [if_pos c18] at H
           have c18b0 : decide (0 < (x0_2.size : Int)) = true := decide_eq_true c18
           have c18b1 : decide (0 < x0_2.size) = true := decide_eq_true (by omega)
           clear c18
           by_cases c19 : 0 < (x0_2.size : Int)
           ·rw [if_pos c19] at H
            have c19b0 : decide (0 < (x0_2.size : Int)) = true := decide_eq_true c19
            have c19b1 : decide (0 < x0_2.size) = true := decide_eq_true (by omega)
            clear c19
            by_cases c21 : (bt x0_2 0) = 92
            ·rw [if_pos c21] at H
             have c21b0 : ((bt x0_2 0) == 92) = true := beq_iff_eq.mpr c21
             have c21b1 : ((bt x0_2 0) != 92) = false := bne_eq_false_iff_eq.mpr c21
             clear c21
             replace H := Option.bind_eq_some_iff.mp H
             obtain ⟨⟨t109, t110⟩, A220, H⟩ := H
             replace H : (if x6_2.length < 140737488355328 then (if 0 ≤ t110 then (if t110 ≤ (x0_2.size : Int) then (token_Plain.l0 k2 (x0_2.extract (t110 : Int).toNat x0_2.size) (x6_2 ++ [t109])) else (none)) else (none)) else (none)) = some (r1, r2) := H
             have A22 := Aside0.mk A220
             clear A220
             by_cases c23 : x6_2.length < 140737488355328
             ·rw [if_pos c23] at H
              have LMc23 := Aside0.mk c23
              clear c23
              obtain ⟨y111, hy111⟩ : ∃ y_ : List Int, y_ = (x6_2 ++ [t109]) := ⟨_, rfl⟩
              replace H : (if 0 ≤ t110 then (if t110 ≤ (x0_2.size : Int) then (token_Plain.l0 k2 (x0_2.extract (t110 : Int).toNat x0_2.size) y111) else (none)) else (none)) = some (r1, r2) := by first | (rw [hy111]; with_reducible exact H) | (have H2_ := (Option.bind_some _ _).symm.trans H; rw [hy111]; with_reducible exact H2_) | (have H2_ := (Option.bind_some _ _).symm.trans H; with_reducible exact H2_) | with_reducible exact H | (rw [hy111]; exact H) | exact H
              have Ny111 := Aside0.mk hy111
              clear hy111
              by_cases c24 : 0 ≤ t110
              ·rw [if_pos c24] at H
               have c24b0 := eq_true c24
               have c24b1 : decide (0 ≤ t110) = true := decide_eq_true c24
               clear c24
               by_cases c25 : t110 ≤ (x0_2.size : Int)
               ·rw [if_pos c25] at H
                have c25b0 := eq_true c25
                have c25b1 : decide (t110 ≤ (x0_2.size : Int)) = true := decide_eq_true c25
                clear c25
                have H' := Aside0.mk H
                clear H
                have p20 : 0 ≤ (0 : Int) := (by omega)
                have q20 : 0 < x0_2.size := (by have : (0 : Int) < (x0_2.size : Int) := of_decide_eq_true (by first | (with_reducible assumption) | assumption); omega)
                have hx20 : ∀ h : 0 < x0_2.size, ((x0_2[0]'h).toNat : Int) = bt x0_2 0 := bt_at x0_2 0
                clear p20
                have qi20 : (0 < (x0_2.size : Int)) = True := eq_true (of_decide_eq_true (by first | (with_reducible assumption) | assumption))
                replace q20 := eq_true q20
                go_wp2_with (first | ((with_reducible refine gate_callee (f := 51) rfl ?_); refine goesL_ (some 47) rfl rfl Tryd.func51 (by kernel_rfl) rfl #[.string x0_2] rfl (by (try simp only [List.map_toArray, List.map_cons, List.map_nil]); first | done | rfl | (simp only [List.length_drop, List.length_take]; rfl)) ?_; (with_reducible refine (token_escape.calls k2 x0_2 t109 t110 _ A22.out).mono ?_); rintro e w' ⟨rfl, ⟨nd, rfl⟩⟩; refine ⟨_, rfl, ?_⟩) | ((with_reducible refine gate_builtin (b := .append) (xs := #[.tmp 50, .tmp 52]) rfl ?_); at_builtin; refine Kd.R_append (Kd.int .u8) (w0 := w) w.heap.size rfl (.tmp 50) (.tmp 52) 22 5 (.int .u8 0) 1 rfl Tryd.underlying22 info5 rfl (by decide) (by omega) u6 x6_2 t109 [.int .u8 t109] (fun _ => True) (fun _ => False) rfl rfl ?aP (fun _ hk => hk.elim) ?aF ?aO ?aB ?aS ?aL ?_; (case aP => exact rfl); (case aB => exact (by repeat (first | (with_reducible first | exact HB.out | apply below_alloc | apply pw_below_drewN | apply below_drew1) | exact HB.out))); (case aF => exact (fun _ _ => trivial)); (case aO => exact (by (with_reducible repeat (first | apply Kd.R_alloc | apply Kd.R_drewN | apply Kd.R_drew)); exact HO_6.out)); (case aS => exact (below_size (by repeat (first | (with_reducible first | exact HB.out | apply below_alloc | apply pw_below_drewN | apply below_drew1) | exact HB.out)))); (case aL => have := LMc23.out; omega); intro v112 w26 ho hb hg hat; rw [← Ny111.out] at ho; have n0_ := Aside0.mk (hb); have n1_ := Aside0.mk (ho); clear HB; clear HO_6; have HB := n0_; have HO113 := n1_; clear n0_ n1_; clear ho hb hg hat))
                go_roundg k2
                case measure => have := HJ9.out; have := HK2.out; omega
                case rel => exact ⟨(x0_2.extract (t110 : Int).toNat x0_2.size), (y111), (by first | rfl | (simp; done) | (simp [*]; done)), H', ⟨by have := HJ9.out; have := HK2.out; omega⟩, ⟨by (with_reducible repeat (first | apply Kd.R_alloc | apply Kd.R_drewN | apply Kd.R_drew)); exact HO113.out⟩, ⟨by repeat (first | (with_reducible first | exact HB.out | apply below_alloc | apply pw_below_drewN | apply below_drew1) | exact HB.out)⟩⟩
               ·rw [if_neg c25] at H
                exact absurd H (by simp)
              ·rw [if_neg c24] at H
               exact absurd H (by simp)
             ·rw [if_neg c23] at H
              exact absurd H (by simp)
            ·rw [if_neg c21] at H
             have c21b0 : ((bt x0_2 0) == 92) = false := beq_eq_false_iff_ne.mpr c21
             have c21b1 : ((bt x0_2 0) != 92) = true := bne_iff_ne.mpr c21
             by_cases c27 : x6_2.length < 140737488355328
             ·rw [if_pos c27] at H
              have LMc27 := Aside0.mk c27
              clear c27
              obtain ⟨y114, hy114⟩ : ∃ y_ : List Int, y_ = (x6_2 ++ [bt x0_2 0]) := ⟨_, rfl⟩
              replace H : (if 1 ≤ (x0_2.size : Int) then (token_Plain.l0 k2 (x0_2.extract 1 x0_2.size) y114) else (none)) = some (r1, r2) := by first | (rw [hy114]; with_reducible exact H) | (have H2_ := (Option.bind_some _ _).symm.trans H; rw [hy114]; with_reducible exact H2_) | (have H2_ := (Option.bind_some _ _).symm.trans H; with_reducible exact H2_) | with_reducible exact H | (rw [hy114]; exact H) | exact H
              have Ny114 := Aside0.mk hy114
              clear hy114
              by_cases c28 : 1 ≤ (x0_2.size : Int)
              ·rw [if_pos c28] at H
               have c28b0 := eq_true c28
               have c28b1 : decide (1 ≤ (x0_2.size : Int)) = true := decide_eq_true c28
               clear c28
               have H' := Aside0.mk H
               clear H
               have p20 : 0 ≤ (0 : Int) := (by omega)
               have q20 : 0 < x0_2.size := (by have : (0 : Int) < (x0_2.size : Int) := of_decide_eq_true (by first | (with_reducible assumption) | assumption); omega)
               have hx20 : ∀ h : 0 < x0_2.size, ((x0_2[0]'h).toNat : Int) = bt x0_2 0 := bt_at x0_2 0
               clear p20
               have qi20 : (0 < (x0_2.size : Int)) = True := eq_true (of_decide_eq_true (by first | (with_reducible assumption) | assumption))
               replace q20 := eq_true q20
               go_wp2_with (first | ((with_reducible refine gate_builtin (b := .append) (xs := #[.tmp 50, .tmp 52]) rfl ?_); at_builtin; refine Kd.R_append (Kd.int .u8) (w0 := w) w.heap.size rfl (.tmp 50) (.tmp 52) 22 5 (.int .u8 0) 1 rfl Tryd.underlying22 info5 rfl (by decide) (by omega) u6 x6_2 (bt x0_2 0) [.int .u8 (bt x0_2 0)] (fun _ => True) (fun _ => False) rfl rfl ?aP (fun _ hk => hk.elim) ?aF ?aO ?aB ?aS ?aL ?_; (case aP => exact rfl); (case aB => exact (by repeat (first | (with_reducible first | exact HB.out | apply below_alloc | apply pw_below_drewN | apply below_drew1) | exact HB.out))); (case aF => exact (fun _ _ => trivial)); (case aO => exact (by (with_reducible repeat (first | apply Kd.R_alloc | apply Kd.R_drewN | apply Kd.R_drew)); exact HO_6.out)); (case aS => exact (below_size (by repeat (first | (with_reducible first | exact HB.out | apply below_alloc | apply pw_below_drewN | apply below_drew1) | exact HB.out)))); (case aL => have := LMc27.out; omega); intro v115 w29 ho hb hg hat; rw [← Ny114.out] at ho; have n0_ := Aside0.mk (hb); have n1_ := Aside0.mk (ho); clear HB; clear HO_6; have HB := n0_; have HO116 := n1_; clear n0_ n1_; clear ho hb hg hat))
               go_roundg k2
               case measure => have := HJ9.out; have := HK2.out; omega
               case rel => exact ⟨(x0_2.extract 1 x0_2.size), (y114), (by first | rfl | (simp; done) | (simp [*]; done)), H', ⟨by have := HJ9.out; have := HK2.out; omega⟩, ⟨by (with_reducible repeat (first | apply Kd.R_alloc | apply Kd.R_drewN | apply Kd.R_drew)); exact HO116.out⟩, ⟨by repeat (first | (with_reducible first | exact HB.out | apply below_alloc | apply pw_below_drewN | apply below_drew1) | exact HB.out)⟩⟩
              ·rw [if_neg c28] at H
               exact absurd H (by simp)
             ·rw [if_neg c27] at H
              exact absurd H (by simp)
           ·rw [if_neg c19] at H
            exact absurd H (by simp)
          ·rw [if_neg c18] at H
           have c18b0 : decide (0 < (x0_2.size : Int)) = false := decide_eq_false c18
           have c18b1 : decide (0 < x0_2.size) = false := decide_eq_false (by omega)
           clear c18
           simp only [Option.some.injEq, Prod.mk.injEq] at H
           obtain ⟨rfl, rfl⟩ := H
           go_wp2
           go_ret2
           exact ⟨_, by first | rfl | (simp [errW_none, errW_some] <;> rfl) | (simp [*, errW_none, errW_some] <;> rfl), by (with_reducible repeat (first | apply Kd.R_alloc | apply Kd.R_drewN | apply Kd.R_drew)); exact HO_6.out, by repeat (first | (with_reducible first | exact HB.out | apply below_alloc | apply pw_below_drewN | apply below_drew1) | exact HB.out)⟩
     ·rw [if_neg c8] at H
      exact absurd H (by simp)
    ·rw [if_neg c7] at H
     have c7b0 : ((rdOf ByteArray.empty t104 0).toList == a0.toList) = false := beq_eq_false_iff_ne.mpr c7
     have c7b1 : ((rdOf ByteArray.empty t104 0).toList != a0.toList) = true := bne_iff_ne.mpr c7
     simp only [Option.some.injEq, Prod.mk.injEq] at H
     obtain ⟨rfl, rfl⟩ := H
     go_enter Tryd.func19, Tryd.ntmps19
     go_wp2_with (first | ((with_reducible refine gate_dst (N := 11) rfl ?_); (try (refine gate_guard (by rfl) ?_; dsimp only)); refine bytesOf.step 9 22 5 _ a0 t101 A2.out rfl rfl rfl Tryd.underlying9 Tryd.underlying22 Tryd.underlying5 ?_; intro v102 w30 ho0 hb; have n0_ := Aside0.mk (Kd.V_lower (Kd.V_mono (ok' := fun k_ => True) ho0 (fun k_ hk_ => trivial)) (below_size (by repeat (first | (with_reducible first | exact HB.out | apply below_alloc | apply pw_below_drewN | apply below_drew1) | exact HB.out)))); have n1_ := Aside0.mk (below_step (by repeat (first | (with_reducible first | exact HB.out | apply below_alloc | apply pw_below_drewN | apply below_drew1) | exact HB.out)) hb); clear HB; have HO103 := n0_; have HB := n1_; clear n0_ n1_; (try clear hb); (try clear hb2); (try clear hk); (try clear hi); (try clear ho0); obtain ⟨Ao31, co31, eo31⟩ := Kd.V_slice HO103.out; subst eo31) | ((with_reducible refine gate_callee (f := 14) rfl ?_); refine goesL_ (some 12) rfl rfl Tryd.func14 (by kernel_rfl) rfl #[.slice Ao31 t101.length co31] rfl (by (try simp only [List.map_toArray, List.map_cons, List.map_nil]); first | done | rfl | (simp only [List.length_drop, List.length_take]; rfl)) ?_; (with_reducible refine (token_Split.calls k _ _ t101 t104 t105 _ ?side1 ?side2 A3.out).mono ?_); (case side1 => repeat (first | exact (Kd.V_reads' HO103.out).2.2 | (with_reducible refine Kd.C_alloc ?_ _) | (with_reducible refine Kd.C_drewN ?_ _) | (with_reducible refine Kd.C_drew ?_))); (case side2 => exact (Kd.V_reads' HO103.out).2.1); rintro e w32 ⟨v106, rfl, ho0, hb⟩; refine ⟨_, rfl, ?_⟩; have n0_ := Aside0.mk (Kd.V_elder' (by (with_reducible repeat (first | apply Kd.V_alloc | apply Kd.V_drewN | apply Kd.V_drew)); exact HO103.out) (Kd.R_base ho0) hb); have n1_ := Aside0.mk (Kd.R_lower ho0 (below_size (by repeat (first | (with_reducible first | exact HB.out | apply below_alloc | apply pw_below_drewN | apply below_drew1) | exact HB.out)))); have n2_ := Aside0.mk (below_step (by repeat (first | (with_reducible first | exact HB.out | apply below_alloc | apply pw_below_drewN | apply below_drew1) | exact HB.out)) hb); clear HO103; clear HB; have HO103 := n0_; have HO107 := n1_; have HB := n2_; clear n0_ n1_ n2_; (try clear hb); (try clear hb2); (try clear hk); (try clear hi); (try clear ho0); obtain ⟨Ao33, co33, eo33⟩ := Kd.R_slice HO107.out; subst eo33; have p108 : 0 ≤ (0 : Int) := (by omega); have q108 : 0 < (t104.length : Int) := of_decide_eq_true (by first | (with_reducible assumption) | assumption); obtain ⟨ad108, e108, hx108_0⟩ := Kd.at_string (Kd.R_reads' HO107.out).2.2 0 p108 q108; cases e108; have qi108 : (0 < t104.length) = True := eq_true (by omega); (try rw [show ((0 : Int)).toNat = 0 from rfl] at hx108_0); (try rw [Addr.add_zero'] at hx108_0); replace p108 := eq_true p108; replace q108 := eq_true q108))
     go_ret2
     exact ⟨_, by first | rfl | (simp [errW_none, errW_some] <;> rfl) | (simp [*, errW_none, errW_some] <;> rfl), by first | exact Kd.R_nil _ _ _ _ _ | exact Kd.N_nil _ _ _ _ _ | exact Kd.V_nil _ _ _ _ _ | exact Kd.Q_nil _ _ _ _ _ | exact Kd.S_nil _ _ _ _ _, by repeat (first | (with_reducible first | exact HB.out | apply below_alloc | apply pw_below_drewN | apply below_drew1) | exact HB.out)⟩
   ·rw [if_neg c6] at H
    exact absurd H (by simp)
  ·rw [if_neg c5] at H
   have c5b0 : ((t104.length : Int) == 1) = false := beq_eq_false_iff_ne.mpr c5
   have c5b1 : ((t104.length : Int) != 1) = true := bne_iff_ne.mpr c5
   simp only [Option.some.injEq, Prod.mk.injEq] at H
   obtain ⟨rfl, rfl⟩ := H
   go_enter Tryd.func19, Tryd.ntmps19
   go_wp2_with (first | ((with_reducible refine gate_dst (N := 11) rfl ?_); (try (refine gate_guard (by rfl) ?_; dsimp only)); refine bytesOf.step 9 22 5 _ a0 t101 A2.out rfl rfl rfl Tryd.underlying9 Tryd.underlying22 Tryd.underlying5 ?_; intro v102 w34 ho0 hb; have n0_ := Aside0.mk (Kd.V_lower (Kd.V_mono (ok' := fun k_ => True) ho0 (fun k_ hk_ => trivial)) (below_size (by repeat (first | (with_reducible first | exact HB.out | apply below_alloc | apply pw_below_drewN | apply below_drew1) | exact HB.out)))); have n1_ := Aside0.mk (below_step (by repeat (first | (with_reducible first | exact HB.out | apply below_alloc | apply pw_below_drewN | apply below_drew1) | exact HB.out)) hb); clear HB; have HO103 := n0_; have HB := n1_; clear n0_ n1_; (try clear hb); (try clear hb2); (try clear hk); (try clear hi); (try clear ho0); obtain ⟨Ao35, co35, eo35⟩ := Kd.V_slice HO103.out; subst eo35) | ((with_reducible refine gate_callee (f := 14) rfl ?_); refine goesL_ (some 12) rfl rfl Tryd.func14 (by kernel_rfl) rfl #[.slice Ao35 t101.length co35] rfl (by (try simp only [List.map_toArray, List.map_cons, List.map_nil]); first | done | rfl | (simp only [List.length_drop, List.length_take]; rfl)) ?_; (with_reducible refine (token_Split.calls k _ _ t101 t104 t105 _ ?side1 ?side2 A3.out).mono ?_); (case side1 => repeat (first | exact (Kd.V_reads' HO103.out).2.2 | (with_reducible refine Kd.C_alloc ?_ _) | (with_reducible refine Kd.C_drewN ?_ _) | (with_reducible refine Kd.C_drew ?_))); (case side2 => exact (Kd.V_reads' HO103.out).2.1); rintro e w36 ⟨v106, rfl, ho0, hb⟩; refine ⟨_, rfl, ?_⟩; have n0_ := Aside0.mk (Kd.V_elder' (by (with_reducible repeat (first | apply Kd.V_alloc | apply Kd.V_drewN | apply Kd.V_drew)); exact HO103.out) (Kd.R_base ho0) hb); have n1_ := Aside0.mk (Kd.R_lower ho0 (below_size (by repeat (first | (with_reducible first | exact HB.out | apply below_alloc | apply pw_below_drewN | apply below_drew1) | exact HB.out)))); have n2_ := Aside0.mk (below_step (by repeat (first | (with_reducible first | exact HB.out | apply below_alloc | apply pw_below_drewN | apply below_drew1) | exact HB.out)) hb); clear HO103; clear HB; have HO103 := n0_; have HO107 := n1_; have HB := n2_; clear n0_ n1_ n2_; (try clear hb); (try clear hb2); (try clear hk); (try clear hi); (try clear ho0); obtain ⟨Ao37, co37, eo37⟩ := Kd.R_slice HO107.out; subst eo37))
   go_ret2
   exact ⟨_, by first | rfl | (simp [errW_none, errW_some] <;> rfl) | (simp [*, errW_none, errW_some] <;> rfl), by first | exact Kd.R_nil _ _ _ _ _ | exact Kd.N_nil _ _ _ _ _ | exact Kd.V_nil _ _ _ _ _ | exact Kd.Q_nil _ _ _ _ _ | exact Kd.S_nil _ _ _ _ _, by repeat (first | (with_reducible first | exact HB.out | apply below_alloc | apply pw_below_drewN | apply below_drew1) | exact HB.out)⟩
 ·rw [if_neg c4] at H
  have c4b0 : (t105 == 0) = false := beq_eq_false_iff_ne.mpr c4
  have c4b1 : (t105 != 0) = true := bne_iff_ne.mpr c4
  simp only [Option.some.injEq, Prod.mk.injEq] at H
  obtain ⟨rfl, rfl⟩ := H
  go_enter Tryd.func19, Tryd.ntmps19
  go_wp2_with (first | ((with_reducible refine gate_dst (N := 11) rfl ?_); (try (refine gate_guard (by rfl) ?_; dsimp only)); refine bytesOf.step 9 22 5 _ a0 t101 A2.out rfl rfl rfl Tryd.underlying9 Tryd.underlying22 Tryd.underlying5 ?_; intro v102 w38 ho0 hb; have n0_ := Aside0.mk (Kd.V_lower (Kd.V_mono (ok' := fun k_ => True) ho0 (fun k_ hk_ => trivial)) (below_size (by repeat (first | (with_reducible first | exact HB.out | apply below_alloc | apply pw_below_drewN | apply below_drew1) | exact HB.out)))); have n1_ := Aside0.mk (below_step (by repeat (first | (with_reducible first | exact HB.out | apply below_alloc | apply pw_below_drewN | apply below_drew1) | exact HB.out)) hb); clear HB; have HO103 := n0_; have HB := n1_; clear n0_ n1_; (try clear hb); (try clear hb2); (try clear hk); (try clear hi); (try clear ho0); obtain ⟨Ao39, co39, eo39⟩ := Kd.V_slice HO103.out; subst eo39) | ((with_reducible refine gate_callee (f := 14) rfl ?_); refine goesL_ (some 12) rfl rfl Tryd.func14 (by kernel_rfl) rfl #[.slice Ao39 t101.length co39] rfl (by (try simp only [List.map_toArray, List.map_cons, List.map_nil]); first | done | rfl | (simp only [List.length_drop, List.length_take]; rfl)) ?_; (with_reducible refine (token_Split.calls k _ _ t101 t104 t105 _ ?side1 ?side2 A3.out).mono ?_); (case side1 => repeat (first | exact (Kd.V_reads' HO103.out).2.2 | (with_reducible refine Kd.C_alloc ?_ _) | (with_reducible refine Kd.C_drewN ?_ _) | (with_reducible refine Kd.C_drew ?_))); (case side2 => exact (Kd.V_reads' HO103.out).2.1); rintro e w40 ⟨v106, rfl, ho0, hb⟩; refine ⟨_, rfl, ?_⟩; have n0_ := Aside0.mk (Kd.V_elder' (by (with_reducible repeat (first | apply Kd.V_alloc | apply Kd.V_drewN | apply Kd.V_drew)); exact HO103.out) (Kd.R_base ho0) hb); have n1_ := Aside0.mk (Kd.R_lower ho0 (below_size (by repeat (first | (with_reducible first | exact HB.out | apply below_alloc | apply pw_below_drewN | apply below_drew1) | exact HB.out)))); have n2_ := Aside0.mk (below_step (by repeat (first | (with_reducible first | exact HB.out | apply below_alloc | apply pw_below_drewN | apply below_drew1) | exact HB.out)) hb); clear HO103; clear HB; have HO103 := n0_; have HO107 := n1_; have HB := n2_; clear n0_ n1_ n2_; (try clear hb); (try clear hb2); (try clear hk); (try clear hi); (try clear ho0)))
  go_ret2
  exact ⟨_, by first | rfl | (simp [errW_none, errW_some] <;> rfl) | (simp [*, errW_none, errW_some] <;> rfl), by first | exact Kd.R_nil _ _ _ _ _ | exact Kd.N_nil _ _ _ _ _ | exact Kd.V_nil _ _ _ _ _ | exact Kd.Q_nil _ _ _ _ _ | exact Kd.S_nil _ _ _ _ _, by repeat (first | (with_reducible first | exact HB.out | apply below_alloc | apply pw_below_drewN | apply below_drew1) | exact HB.out)⟩

end Go.Proofs.YtdnfmilnkoocdaaDoor.Q

-- from Qf52
-- Made by hp.py, a program of this session, with the kit's printer. Not trusted: Lean checks it.
namespace Go.Proofs.YtdnfmilnkoocdaaDoor.Q
open Go.RowKit Go.Proofs.YtdnfmilnkoocdaaDoorW.PrintWords Go.Proofs.YtdnfmilnkoocdaaDoorW.PrintLast Go.Proofs.YtdnfmilnkoocdaaDoorW.PrintMore
attribute [local go_sem] max2_int min2_int max_two min_two max_three min_three max_four min_four   -- for this text's walks alone
set_option linter.unusedVariables false
set_option linter.unusedSimpArgs false

/-! ### owner_right: function 52 -/
def owner_right.l0 : Nat → Int → List (List Int) → Int → Int → Option (Bool)
 | 0, _, _, _, _ => none
 | k + 1, x3, x6, x7, x8 => if x8 < x7 then (if 0 ≤ x8 then (if x8 < (x6.length : Int) then (if ((rd_L2 x6 x8).length : Int) < 1 then (some false) else (if ((rd_L2 x6 x8).length : Int) > 63 then (some false) else (owner_right.l0 k (wrap64 (x3 + (wrap64 (((rd_L2 x6 x8).length : Int) + 1)))) x6 x7 (wrap64 (x8 + 1))))) else (none)) else (none)) else (some (decide (x3 ≤ 255)))
def owner_right.f (k : Nat) (l0 : List (List Int)) : Option (Bool) := owner_right.l0 k 1 l0 (l0.length : Int) 0
theorem owner_right.mono_l : ∀ k, (∀ y0 y1 y2 y3, LeO (owner_right.l0 k y0 y1 y2 y3) (owner_right.l0 (k + 1) y0 y1 y2 y3))
 | 0 => fun _ _ _ _ r h => by simp [owner_right.l0] at h
 | k + 1 => by
  have ih0 := owner_right.mono_l k
  ·intro y0 y1 y2 y3
   unfold owner_right.l0
   repeat' first
   | (with_reducible exact ih0 _ _ _ _)
   | (with_reducible exact LeO.refl _)
   | (with_reducible exact LeO.none _)
   | (with_reducible refine LeO.ite ?_ ?_)
   | (with_reducible refine LeO.bind ?_ (fun _ => ?_))
   | exact ih0 _ _ _ _
   | exact LeO.none _
   | refine LeO.ite ?_ ?_
   | refine LeO.bind ?_ (fun _ => ?_)
theorem owner_right.mono : ∀ a0 k, LeO (owner_right.f k a0) (owner_right.f (k + 1) a0) := by
 intro a0 k
 have ih0 := owner_right.mono_l k
 unfold owner_right.f
 repeat' first
   | (with_reducible exact ih0 _ _ _ _)
   | (with_reducible exact LeO.refl _)
   | (with_reducible exact LeO.none _)
   | (with_reducible refine LeO.ite ?_ ?_)
   | (with_reducible refine LeO.bind ?_ (fun _ => ?_))
   | exact ih0 _ _ _ _
   | exact LeO.none _
   | refine LeO.ite ?_ ?_
   | refine LeO.bind ?_ (fun _ => ?_)
set_option maxHeartbeats 8000000 in
set_option maxRecDepth 100000 in
theorem owner_right.calls (k : Nat) (A0 : Option Addr) (c0 : Nat) (l0 : List (List Int)) (r : Bool) (w : World) (hr0 : Kd.C (Kd.slice 5 (Kd.int .u8)) w A0 l0.length l0) (hc0 : l0.length ≤ c0) (h : owner_right.f k l0 = some r) :
  Calls Tryd.prog 52 #[.slice A0 l0.length c0] w fun e w' => e = .returned (.bool r) ∧ Drawn0 w w' := by
 have HR0 := Aside0.mk hr0
 have HC0 := Aside0.mk hc0
 clear hr0 hc0
 have H : (owner_right.l0 k 1 l0 (l0.length : Int) 0) = some r := h
 clear h
 have H' := Aside0.mk H
 clear H
 go_enter Tryd.func52, Tryd.ntmps52
 go_wp2
 go_loopg [3, 8] k (fun kq v3 v8 w' => ∃ (x3_1 : Int) (x8_1 : Int), v3 = .int .i64 x3_1 ∧ v8 = .int .i64 x8_1 ∧ Aside0 (owner_right.l0 kq x3_1 l0 (l0.length : Int) x8_1 = some r) ∧ Aside0 (kq ≤ k) ∧ Drawn0 w w')
 case atStart => exact ⟨(1), (0), (by first | rfl | (simp; done) | (simp [*]; done)), (by first | rfl | (simp; done) | (simp [*]; done)), H', ⟨Nat.le_refl _⟩, by repeat (first | exact Drawn0.refl _ | apply Drawn0.step)⟩
 case round =>
  clear H'
  obtain ⟨x3_1, x8_1, rfl, rfl, HA, HK1, ⟨m1, rfl⟩⟩ := hrel
  cases gk with
  | zero => exact absurd HA.out (by simp [owner_right.l0])
  | succ k1 =>
   have H := HA.out
   clear HA
   simp only [owner_right.l0] at H
   by_cases c2 : x8_1 < (l0.length : Int)
   ·rw [if_pos c2] at H
    have c2b0 : decide (x8_1 < (l0.length : Int)) = true := decide_eq_true c2
    clear c2
    by_cases c3 : 0 ≤ x8_1
    ·rw [if_pos c3] at H
     have c3b0 : decide (0 ≤ x8_1) = true := decide_eq_true c3
     clear c3
     by_cases c4 : x8_1 < (l0.length : Int)
     ·rw [if_pos c4] at H
      have c4b0 : decide (x8_1 < (l0.length : Int)) = true := decide_eq_true c4
      clear c4
      by_cases c5 : ((rd_L2 l0 x8_1).length : Int) < 1
      ·rw [if_pos c5] at H
       have c5b0 : decide (((rd_L2 l0 x8_1).length : Int) < 1) = true := decide_eq_true c5
       have c5b1 : decide ((rd_L2 l0 x8_1).length < 1) = true := decide_eq_true (by omega)
       clear c5
       obtain rfl := Option.some.inj H
       have p101 : 0 ≤ (x8_1 : Int) := of_decide_eq_true (by first | (with_reducible assumption) | assumption)
       have q101 : x8_1 < (l0.length : Int) := of_decide_eq_true (by first | (with_reducible assumption) | assumption)
       obtain ⟨ad101, A101_0, c101_0, e101, hx101_0, hl101_0, hi101_0⟩ := at_L2 HR0.out x8_1 p101 q101
       cases e101
       have HR101_0 := Aside0.mk hi101_0
       have HC101_0 := Aside0.mk hl101_0
       clear hi101_0 hl101_0
       replace p101 := eq_true p101
       replace q101 := eq_true q101
       go_wp2
       go_ret
       exact ⟨by first | rfl | (simp; done) | (simp [*]; done), by repeat (first | exact Drawn0.refl _ | apply Drawn0.step)⟩
      ·rw [if_neg c5] at H
       have c5b0 : decide (((rd_L2 l0 x8_1).length : Int) < 1) = false := decide_eq_false c5
       have c5b1 : decide ((rd_L2 l0 x8_1).length < 1) = false := decide_eq_false (by omega)
       clear c5
       by_cases c6 : ((rd_L2 l0 x8_1).length : Int) > 63
       ·rw [if_pos c6] at H
        have c6b0 : decide (63 < ((rd_L2 l0 x8_1).length : Int)) = true := decide_eq_true c6
        have c6b1 : decide (63 < (rd_L2 l0 x8_1).length) = true := decide_eq_true (by omega)
        clear c6
        obtain rfl := Option.some.inj H
        have p101 : 0 ≤ (x8_1 : Int) := of_decide_eq_true (by first | (with_reducible assumption) | assumption)
        have q101 : x8_1 < (l0.length : Int) := of_decide_eq_true (by first | (with_reducible assumption) | assumption)
        obtain ⟨ad101, A101_0, c101_0, e101, hx101_0, hl101_0, hi101_0⟩ := at_L2 HR0.out x8_1 p101 q101
        cases e101
        have HR101_0 := Aside0.mk hi101_0
        have HC101_0 := Aside0.mk hl101_0
        clear hi101_0 hl101_0
        replace p101 := eq_true p101
        replace q101 := eq_true q101
        go_wp2
        go_ret
        exact ⟨by first | rfl | (simp; done) | (simp [*]; done), by repeat (first | exact Drawn0.refl _ | apply Drawn0.step)⟩
       ·rw [if_neg c6] at H
        have c6b0 : decide (63 < ((rd_L2 l0 x8_1).length : Int)) = false := decide_eq_false c6
        have c6b1 : decide (63 < (rd_L2 l0 x8_1).length) = false := decide_eq_false (by omega)
        clear c6
        have H' := Aside0.mk H
        clear H
        have p101 : 0 ≤ (x8_1 : Int) := of_decide_eq_true (by first | (with_reducible assumption) | assumption)
        have q101 : x8_1 < (l0.length : Int) := of_decide_eq_true (by first | (with_reducible assumption) | assumption)
        obtain ⟨ad101, A101_0, c101_0, e101, hx101_0, hl101_0, hi101_0⟩ := at_L2 HR0.out x8_1 p101 q101
        cases e101
        have HR101_0 := Aside0.mk hi101_0
        have HC101_0 := Aside0.mk hl101_0
        clear hi101_0 hl101_0
        replace p101 := eq_true p101
        replace q101 := eq_true q101
        go_wp2
        go_roundg k1
        case measure => have := HK1.out; omega
        case rel => exact ⟨(wrap64 (x3_1 + (wrap64 (((rd_L2 l0 x8_1).length : Int) + 1)))), (wrap64 (x8_1 + 1)), (by first | rfl | (simp; done) | (simp [*]; done)), (by first | rfl | (simp; done) | (simp [*]; done)), H', ⟨by have := HK1.out; omega⟩, by repeat (first | exact Drawn0.refl _ | apply Drawn0.step)⟩
     ·rw [if_neg c4] at H
      exact absurd H (by simp)
    ·rw [if_neg c3] at H
     exact absurd H (by simp)
   ·rw [if_neg c2] at H
    have c2b0 : decide (x8_1 < (l0.length : Int)) = false := decide_eq_false c2
    clear c2
    obtain rfl := Option.some.inj H
    go_wp2
    go_ret
    exact ⟨by first | rfl | (simp; done) | (simp [*]; done), by repeat (first | exact Drawn0.refl _ | apply Drawn0.step)⟩

end Go.Proofs.YtdnfmilnkoocdaaDoor.Q

-- from Qf54
-- Made by hp.py, a program of this session, with the kit's printer. Not trusted: Lean checks it.
namespace Go.Proofs.YtdnfmilnkoocdaaDoor.Q
open Go.RowKit Go.Proofs.YtdnfmilnkoocdaaDoorW.PrintWords Go.Proofs.YtdnfmilnkoocdaaDoorW.PrintLast Go.Proofs.YtdnfmilnkoocdaaDoorW.PrintMore
attribute [local go_sem] max2_int min2_int max_two min_two max_three min_three max_four min_four   -- for this text's walks alone
set_option linter.unusedVariables false
set_option linter.unusedSimpArgs false

/-! ### owner_cut: function 54 -/
def owner_cut.l0 : Nat → ByteArray → List ByteArray → Int → Int → Option (List ByteArray)
 | 0, _, _, _, _ => none
 | k + 1, x0, x3, x4, x5 => if x5 < (x0.size : Int) then (if 0 ≤ x5 then (if (bt x0 x5) = 92 then (owner_cut.l0 k x0 x3 x4 (wrap64 ((wrap64 (x5 + 1)) + 1))) else (if (bt x0 x5) = 46 then (if 0 ≤ x4 then (if x4 ≤ x5 then (if x5 ≤ (x0.size : Int) then (if x3.length < 8796093022208 then (owner_cut.l0 k x0 (x3 ++ [x0.extract (x4 : Int).toNat (x5 : Int).toNat]) (wrap64 (x5 + 1)) (wrap64 (x5 + 1))) else (none)) else (none)) else (none)) else (none)) else (owner_cut.l0 k x0 x3 x4 (wrap64 (x5 + 1))))) else (none)) else (if 0 ≤ x4 then (if x4 ≤ (x0.size : Int) then (if x3.length < 8796093022208 then (some (x3 ++ [x0.extract (x4 : Int).toNat x0.size])) else (none)) else (none)) else (none))
def owner_cut.f (k : Nat) (a0 : ByteArray) : Option (List ByteArray) := owner_cut.l0 k a0 ([] : List ByteArray) 0 0
theorem owner_cut.mono_l : ∀ k, (∀ y0 y1 y2 y3, LeO (owner_cut.l0 k y0 y1 y2 y3) (owner_cut.l0 (k + 1) y0 y1 y2 y3))
 | 0 => fun _ _ _ _ r h => by simp [owner_cut.l0] at h
 | k + 1 => by
  have ih0 := owner_cut.mono_l k
  ·intro y0 y1 y2 y3
   unfold owner_cut.l0
   repeat' first
   | (with_reducible exact ih0 _ _ _ _)
   | (with_reducible exact LeO.refl _)
   | (with_reducible exact LeO.none _)
   | (with_reducible refine LeO.ite ?_ ?_)
   | (with_reducible refine LeO.bind ?_ (fun _ => ?_))
   | exact ih0 _ _ _ _
   | exact LeO.none _
   | refine LeO.ite ?_ ?_
   | refine LeO.bind ?_ (fun _ => ?_)
theorem owner_cut.mono : ∀ a0 k, LeO (owner_cut.f k a0) (owner_cut.f (k + 1) a0) := by
 intro a0 k
 have ih0 := owner_cut.mono_l k
 unfold owner_cut.f
 repeat' first
   | (with_reducible exact ih0 _ _ _ _)
   | (with_reducible exact LeO.refl _)
   | (with_reducible exact LeO.none _)
   | (with_reducible refine LeO.ite ?_ ?_)
   | (with_reducible refine LeO.bind ?_ (fun _ => ?_))
   | exact ih0 _ _ _ _
   | exact LeO.none _
   | refine LeO.ite ?_ ?_
   | refine LeO.bind ?_ (fun _ => ?_)
set_option maxHeartbeats 8000000 in
set_option maxRecDepth 100000 in
theorem owner_cut.calls (k : Nat) (a0 : ByteArray) (r : List ByteArray) (w : World) (h : owner_cut.f k a0 = some r) :
  Calls Tryd.prog 54 #[.string a0] w fun e w' => ∃ v0_ : Value, e = .returned (v0_) ∧ Kd.R Kd.string 9 w' w.heap.size (fun _ => True) v0_ r ∧ Below w.heap.size w w' := by
 have HB := Aside0.mk (Below.refl w.heap.size w)
 have H : (owner_cut.l0 k a0 ([] : List ByteArray) 0 0) = some r := h
 clear h
 have H' := Aside0.mk H
 clear H
 go_enter Tryd.func54, Tryd.ntmps54
 go_wp2
 go_loopg [3, 4, 5] k (fun kq v3 v4 v5 w' => ∃ (x3_1 : List ByteArray) (x4_1 : Int) (x5_1 : Int), v4 = .int .i64 x4_1 ∧ v5 = .int .i64 x5_1 ∧ Aside0 (owner_cut.l0 kq a0 x3_1 x4_1 x5_1 = some r) ∧ Aside0 (kq ≤ k) ∧ Aside0 (Kd.R Kd.string 9 w' w.heap.size (fun _ => True) v3 x3_1) ∧ Aside0 (Below w.heap.size w w'))
 case atStart => exact ⟨(([] : List ByteArray)), (0), (0), (by first | rfl | (simp; done) | (simp [*]; done)), (by first | rfl | (simp; done) | (simp [*]; done)), H', ⟨Nat.le_refl _⟩, ⟨by first | exact Kd.R_nil _ _ _ _ _ | exact Kd.N_nil _ _ _ _ _ | exact Kd.V_nil _ _ _ _ _ | exact Kd.Q_nil _ _ _ _ _ | exact Kd.S_nil _ _ _ _ _⟩, ⟨by repeat (first | (with_reducible first | exact HB.out | apply below_alloc | apply pw_below_drewN | apply below_drew1) | exact HB.out)⟩⟩
 case round =>
  clear H'
  obtain ⟨x3_1, x4_1, x5_1, rfl, rfl, HA, HK1, HO_3, HB⟩ := hrel
  cases gk with
  | zero => exact absurd HA.out (by simp [owner_cut.l0])
  | succ k1 =>
   have H := HA.out
   clear HA
   simp only [owner_cut.l0] at H
   by_cases c2 : x5_1 < (a0.size : Int)
   ·rw [if_pos c2] at H
    have c2b0 : decide (x5_1 < (a0.size : Int)) = true := decide_eq_true c2
    clear c2
    by_cases c3 : 0 ≤ x5_1
    ·rw [if_pos c3] at H
     have c3b0 : decide (0 ≤ x5_1) = true := decide_eq_true c3
     clear c3
     by_cases c5 : (bt a0 x5_1) = 92
     ·rw [if_pos c5] at H
      have c5b0 : ((bt a0 x5_1) == 92) = true := beq_iff_eq.mpr c5
      have c5b1 : ((bt a0 x5_1) != 92) = false := bne_eq_false_iff_eq.mpr c5
      clear c5
      have H' := Aside0.mk H
      clear H
      have p4 : 0 ≤ (x5_1 : Int) := of_decide_eq_true (by first | (with_reducible assumption) | assumption)
      have q4 : x5_1 < (a0.size : Int) := of_decide_eq_true (by first | (with_reducible assumption) | assumption)
      have hx4 := bt_at a0 x5_1
      replace p4 := eq_true p4
      replace q4 := eq_true q4
      go_wp2
      go_roundg k1
      case measure => have := HK1.out; omega
      case rel => exact ⟨(x3_1), (x4_1), (wrap64 ((wrap64 (x5_1 + 1)) + 1)), (by first | rfl | (simp; done) | (simp [*]; done)), (by first | rfl | (simp; done) | (simp [*]; done)), H', ⟨by have := HK1.out; omega⟩, ⟨by (with_reducible repeat (first | apply Kd.R_alloc | apply Kd.R_drewN | apply Kd.R_drew)); exact HO_3.out⟩, ⟨by repeat (first | (with_reducible first | exact HB.out | apply below_alloc | apply pw_below_drewN | apply below_drew1) | exact HB.out)⟩⟩
     ·rw [if_neg c5] at H
      have c5b0 : ((bt a0 x5_1) == 92) = false := beq_eq_false_iff_ne.mpr c5
      have c5b1 : ((bt a0 x5_1) != 92) = true := bne_iff_ne.mpr c5
      by_cases c6 : (bt a0 x5_1) = 46
      ·rw [if_pos c6] at H
       have c6b0 : ((bt a0 x5_1) == 46) = true := beq_iff_eq.mpr c6
       have c6b1 : ((bt a0 x5_1) != 46) = false := bne_eq_false_iff_eq.mpr c6
       clear c6
       by_cases c7 : 0 ≤ x4_1
       ·rw [if_pos c7] at H
        have c7b0 := eq_true c7
        have c7b1 : decide (0 ≤ x4_1) = true := decide_eq_true c7
        clear c7
        by_cases c8 : x4_1 ≤ x5_1
        ·rw [if_pos c8] at H
         have c8b0 := eq_true c8
         have c8b1 : decide (x4_1 ≤ x5_1) = true := decide_eq_true c8
         clear c8
         by_cases c9 : x5_1 ≤ (a0.size : Int)
         ·rw [if_pos c9] at H
          have c9b0 := eq_true c9
          have c9b1 : decide (x5_1 ≤ (a0.size : Int)) = true := decide_eq_true c9
          clear c9
          by_cases c10 : x3_1.length < 8796093022208
          ·rw [if_pos c10] at H
           have LMc10 := Aside0.mk c10
           clear c10
           obtain ⟨y104, hy104⟩ : ∃ y_ : List ByteArray, y_ = (x3_1 ++ [a0.extract (x4_1 : Int).toNat (x5_1 : Int).toNat]) := ⟨_, rfl⟩
           replace H : (owner_cut.l0 k1 a0 y104 (wrap64 (x5_1 + 1)) (wrap64 (x5_1 + 1))) = some r := by first | (rw [hy104]; with_reducible exact H) | (have H2_ := (Option.bind_some _ _).symm.trans H; rw [hy104]; with_reducible exact H2_) | (have H2_ := (Option.bind_some _ _).symm.trans H; with_reducible exact H2_) | with_reducible exact H | (rw [hy104]; exact H) | exact H
           have Ny104 := Aside0.mk hy104
           clear hy104
           have H' := Aside0.mk H
           clear H
           have p4 : 0 ≤ (x5_1 : Int) := of_decide_eq_true (by first | (with_reducible assumption) | assumption)
           have q4 : x5_1 < (a0.size : Int) := of_decide_eq_true (by first | (with_reducible assumption) | assumption)
           have hx4 := bt_at a0 x5_1
           replace p4 := eq_true p4
           replace q4 := eq_true q4
           go_wp2_with (first | ((with_reducible refine gate_builtin (b := .append) (xs := #[.tmp 21, .tmp 26]) rfl ?_); at_builtin; refine Kd.R_append Kd.string (w0 := w) w.heap.size rfl (.tmp 21) (.tmp 26) 24 9 (.string ⟨#[]⟩) 16 rfl Tryd.underlying24 info9 rfl (by decide) (by omega) u3 x3_1 (a0.extract (x4_1 : Int).toNat (x5_1 : Int).toNat) [.string (a0.extract (x4_1 : Int).toNat (x5_1 : Int).toNat)] (fun _ => True) (fun _ => False) rfl rfl ?aP (fun _ hk => hk.elim) ?aF ?aO ?aB ?aS ?aL ?_; (case aP => exact rfl); (case aB => exact (by repeat (first | (with_reducible first | exact HB.out | apply below_alloc | apply pw_below_drewN | apply below_drew1) | exact HB.out))); (case aF => exact (fun _ _ => trivial)); (case aO => exact (by (with_reducible repeat (first | apply Kd.R_alloc | apply Kd.R_drewN | apply Kd.R_drew)); exact HO_3.out)); (case aS => exact (below_size (by repeat (first | (with_reducible first | exact HB.out | apply below_alloc | apply pw_below_drewN | apply below_drew1) | exact HB.out)))); (case aL => have := LMc10.out; omega); intro v105 w11 ho hb hg hat; rw [← Ny104.out] at ho; have n0_ := Aside0.mk (hb); have n1_ := Aside0.mk (ho); clear HB; clear HO_3; have HB := n0_; have HO106 := n1_; clear n0_ n1_; clear ho hb hg hat))
           go_roundg k1
           case measure => have := HK1.out; omega
           case rel => exact ⟨(y104), (wrap64 (x5_1 + 1)), (wrap64 (x5_1 + 1)), (by first | rfl | (simp; done) | (simp [*]; done)), (by first | rfl | (simp; done) | (simp [*]; done)), H', ⟨by have := HK1.out; omega⟩, ⟨by (with_reducible repeat (first | apply Kd.R_alloc | apply Kd.R_drewN | apply Kd.R_drew)); exact HO106.out⟩, ⟨by repeat (first | (with_reducible first | exact HB.out | apply below_alloc | apply pw_below_drewN | apply below_drew1) | exact HB.out)⟩⟩
          ·rw [if_neg c10] at H
           exact absurd H (by simp)
         ·rw [if_neg c9] at H
          exact absurd H (by simp)
        ·rw [if_neg c8] at H
         exact absurd H (by simp)
       ·rw [if_neg c7] at H
        exact absurd H (by simp)
      ·rw [if_neg c6] at H
       have c6b0 : ((bt a0 x5_1) == 46) = false := beq_eq_false_iff_ne.mpr c6
       have c6b1 : ((bt a0 x5_1) != 46) = true := bne_iff_ne.mpr c6
       have H' := Aside0.mk H
       clear H
       have p4 : 0 ≤ (x5_1 : Int) := of_decide_eq_true (by first | (with_reducible assumption) | assumption)
       have q4 : x5_1 < (a0.size : Int) := of_decide_eq_true (by first | (with_reducible assumption) | assumption)
       have hx4 := bt_at a0 x5_1
       replace p4 := eq_true p4
       replace q4 := eq_true q4
       go_wp2
       go_roundg k1
       case measure => have := HK1.out; omega
       case rel => exact ⟨(x3_1), (x4_1), (wrap64 (x5_1 + 1)), (by first | rfl | (simp; done) | (simp [*]; done)), (by first | rfl | (simp; done) | (simp [*]; done)), H', ⟨by have := HK1.out; omega⟩, ⟨by (with_reducible repeat (first | apply Kd.R_alloc | apply Kd.R_drewN | apply Kd.R_drew)); exact HO_3.out⟩, ⟨by repeat (first | (with_reducible first | exact HB.out | apply below_alloc | apply pw_below_drewN | apply below_drew1) | exact HB.out)⟩⟩
    ·rw [if_neg c3] at H
     exact absurd H (by simp)
   ·rw [if_neg c2] at H
    have c2b0 : decide (x5_1 < (a0.size : Int)) = false := decide_eq_false c2
    clear c2
    by_cases c12 : 0 ≤ x4_1
    ·rw [if_pos c12] at H
     have c12b0 := eq_true c12
     have c12b1 : decide (0 ≤ x4_1) = true := decide_eq_true c12
     clear c12
     by_cases c13 : x4_1 ≤ (a0.size : Int)
     ·rw [if_pos c13] at H
      have c13b0 := eq_true c13
      have c13b1 : decide (x4_1 ≤ (a0.size : Int)) = true := decide_eq_true c13
      clear c13
      by_cases c14 : x3_1.length < 8796093022208
      ·rw [if_pos c14] at H
       have LMc14 := Aside0.mk c14
       clear c14
       obtain ⟨y101, hy101⟩ : ∃ y_ : List ByteArray, y_ = (x3_1 ++ [a0.extract (x4_1 : Int).toNat a0.size]) := ⟨_, rfl⟩
       replace H : (some y101) = some r := by first | (rw [hy101]; with_reducible exact H) | (have H2_ := (Option.bind_some _ _).symm.trans H; rw [hy101]; with_reducible exact H2_) | (have H2_ := (Option.bind_some _ _).symm.trans H; with_reducible exact H2_) | with_reducible exact H | (rw [hy101]; exact H) | exact H
       have Ny101 := Aside0.mk hy101
       clear hy101
       obtain rfl := Option.some.inj H
       go_wp2_with (first | ((with_reducible refine gate_builtin (b := .append) (xs := #[.tmp 30, .tmp 34]) rfl ?_); at_builtin; refine Kd.R_append Kd.string (w0 := w) w.heap.size rfl (.tmp 30) (.tmp 34) 24 9 (.string ⟨#[]⟩) 16 rfl Tryd.underlying24 info9 rfl (by decide) (by omega) u3 x3_1 (a0.extract (x4_1 : Int).toNat a0.size) [.string (a0.extract (x4_1 : Int).toNat a0.size)] (fun _ => True) (fun _ => False) rfl rfl ?aP (fun _ hk => hk.elim) ?aF ?aO ?aB ?aS ?aL ?_; (case aP => exact rfl); (case aB => exact (by repeat (first | (with_reducible first | exact HB.out | apply below_alloc | apply pw_below_drewN | apply below_drew1) | exact HB.out))); (case aF => exact (fun _ _ => trivial)); (case aO => exact (by (with_reducible repeat (first | apply Kd.R_alloc | apply Kd.R_drewN | apply Kd.R_drew)); exact HO_3.out)); (case aS => exact (below_size (by repeat (first | (with_reducible first | exact HB.out | apply below_alloc | apply pw_below_drewN | apply below_drew1) | exact HB.out)))); (case aL => have := LMc14.out; omega); intro v102 w15 ho hb hg hat; rw [← Ny101.out] at ho; have n0_ := Aside0.mk (hb); have n1_ := Aside0.mk (ho); clear HB; clear HO_3; have HB := n0_; have HO103 := n1_; clear n0_ n1_; clear ho hb hg hat))
       go_ret
       exact ⟨_, by first | rfl | (simp [errW_none, errW_some] <;> rfl) | (simp [*, errW_none, errW_some] <;> rfl), by (with_reducible repeat (first | apply Kd.R_alloc | apply Kd.R_drewN | apply Kd.R_drew)); exact HO103.out, by repeat (first | (with_reducible first | exact HB.out | apply below_alloc | apply pw_below_drewN | apply below_drew1) | exact HB.out)⟩
      ·rw [if_neg c14] at H
       exact absurd H (by simp)
     ·rw [if_neg c13] at H
      exact absurd H (by simp)
    ·rw [if_neg c12] at H
     exact absurd H (by simp)

end Go.Proofs.YtdnfmilnkoocdaaDoor.Q
