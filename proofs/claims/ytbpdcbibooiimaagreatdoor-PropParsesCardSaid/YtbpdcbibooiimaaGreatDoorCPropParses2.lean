/- Part 2 of 4 of the proof of PropParses: prop.Parse of any file and of any values tells the document's table, or the first error and its line, and the file stays as it is: for every input For every input; no condition. -/
import Derived.Test.YtbpdcbibooiimaaGreatDoorCPropParses1
import Derived.Deep.LoopGhost
import Derived.IntWalk
import Derived.Ground.NamesProg
import Derived.Ground.SlbCloneProg
import Derived.Shelf.Lay
import Derived.Shelf.Bytes.SlClone
import Derived.RangeFuncNested
import Derived.RangeFuncBound
import Derived.RangeFuncCalls
import Derived.RangeFuncLeaves
import Derived.Shelf.Abstract
import Derived.WalkKit
import Derived.OwnWalkIn
import Derived.TacticsInMore
import Derived.LoopNIn
import Derived.LoopIn
import Derived.Maps.AppendAt
import Derived.RangeFuncBox
import Derived.Sort.LoopGhostIn
import Derived.Laws.Cover3
import Derived.WalkSpells
import Derived.Lib.LazyBuf
import Derived.Shelf.Spec.SlicesInsert
import Derived.Lib.AppendZerosOnto
set_option linter.unusedVariables false
set_option linter.unusedSimpArgs false

/- field.fields: the walk. -/
namespace Go.Proofs.YtbpdcbibooiimaaGreatDoor.Q
open Go.RowKit Go.Shelf Go.Proofs.YtbpdcbibooiimaaGreatDoorW.PrintWords Go.Proofs.YtbpdcbibooiimaaGreatDoorW.PrintLast Go.Proofs.YtbpdcbibooiimaaGreatDoorW.PrintMore Go.Proofs.YtbpdcbibooiimaaGreatDoor.K
theorem sSplit59.calls (L : List Int) (ho : Oct L) (hl : L.length ≤ 1000000) (w : World) (hE : EnvF w) : Calls Tryz.prog 67 #[.string (strOfNums L), .string ⟨#[59]⟩] w fun e w' => e = .returned (.slice (some ⟨w.heap.size, 0, none⟩) (spl 59 L).length (spl 59 L).length) ∧ w' = w.alloc (.cells ((spl 59 L).map (fun p => .string (strOfNums p))).toArray 9) := sSplit.calls 59 (by omega) L ho hl w hE
theorem sSplit10.calls (L : List Int) (ho : Oct L) (hl : L.length ≤ 1000000) (w : World) (hE : EnvF w) : Calls Tryz.prog 67 #[.string (strOfNums L), .string ⟨#[10]⟩] w fun e w' => e = .returned (.slice (some ⟨w.heap.size, 0, none⟩) (spl 10 L).length (spl 10 L).length) ∧ w' = w.alloc (.cells ((spl 10 L).map (fun p => .string (strOfNums p))).toArray 9) := sSplit.calls 10 (by omega) L ho hl w hE
def fldA (Y : List (List Int)) (i : Nat) : List (List Int) := (Y.take i).map trimL ++ Y.drop i
def fldC (Y : List (List Int)) (i : Nat) : Array Value := ((fldA Y i).map (fun p => Value.string (strOfNums p))).toArray
theorem fldA_len (Y : List (List Int)) (i : Nat) : (fldA Y i).length = Y.length := by unfold fldA; simp; omega
theorem fldC_at {Y : List (List Int)} {i : Nat} (h : i < Y.length) : (fldC Y i)[i]? = some (.string (strOfNums Y[i])) := by
  have h1 : (fldA Y i)[i]? = some Y[i] := by
    unfold fldA
    rw [List.getElem?_append_right (by simp; omega)]
    simp [Nat.min_eq_left (Nat.le_of_lt h), h]
  unfold fldC
  simp only [List.getElem?_toArray, List.getElem?_map, h1, Option.map_some]
theorem fldC_set {Y : List (List Int)} {i : Nat} (h : i < Y.length) : (fldC Y i).setIfInBounds i (.string (strOfNums (trimL Y[i]))) = fldC Y (i + 1) := by
  have h1 : (fldA Y i).set i (trimL Y[i]) = fldA Y (i + 1) := by
    unfold fldA
    have hl : ((Y.take i).map trimL).length = i := by simp; omega
    rw [List.set_append_right _ _ (by omega), hl, Nat.sub_self, List.drop_eq_getElem_cons h, List.set_cons_zero, ← List.take_append_getElem h, List.map_append, List.append_assoc]
    rfl
  unfold fldC
  rw [← h1, List.map_set]
  simp
set_option maxHeartbeats 4000000 in
set_option maxRecDepth 100000 in
theorem field_fields.callsS (Y : List (List Int)) (L : List Int) (ho : Oct L) (hl : L.length ≤ 1000000) (hn : trimL (bodyL L) ≠ []) (hY : Y = spl 59 (bodyL L)) (w : World) (hE : EnvF w) :
    Calls Tryz.prog 70 #[.string (strOfNums L)] w fun e w' => ∃ g, e = .returned (.slice (some ⟨g, 0, none⟩) Y.length Y.length) ∧ w.heap.size ≤ g ∧ w'.heap[g]? = some (.cells (fldC Y Y.length) 9 (0, 0)) ∧ Below w.heap.size w w' := by
  have hbm := body_mem L
  have hob : Oct (bodyL L) := oct_spl ho hbm
  have hlb := len_spl hbm
  obtain ⟨B, hB⟩ : ∃ B, B = bodyL L := ⟨_, rfl⟩
  rw [← hB] at hn hY hob hlb
  have HCUT := Aside0.mk (fun w hE => sCut.calls L ho hl w hE)
  rw [← hB] at HCUT
  have HTR := Aside0.mk (fun w => sTrim.calls B hob (by omega) w)
  have HSP := Aside0.mk (fun w hE => sSplit59.calls B hob (by omega) w hE)
  have hyo : ∀ p ∈ Y, Oct p := fun p hp => by rw [hY] at hp; exact oct_spl hob hp
  have hyl : ∀ p ∈ Y, p.length ≤ 1000000 := fun p hp => by rw [hY] at hp; have := len_spl hp; omega
  have hyn : Y.length ≤ 1000001 := by rw [hY]; have := splP_count (fun x => decide (x = (59 : Int))) B; unfold spl; omega
  have HYO := Aside0.mk hyo
  have HYL := Aside0.mk hyl
  have HYN := Aside0.mk hyn
  have HE := Aside0.mk hE
  have HYE := Aside0.mk hY
  obtain ⟨sl, hsl⟩ : ∃ s, s = strOfNums L := ⟨_, rfl⟩
  obtain ⟨sb, hsb⟩ : ∃ s, s = strOfNums B := ⟨_, rfl⟩
  obtain ⟨st, hst⟩ : ∃ s, s = strOfNums (trimL B) := ⟨_, rfl⟩
  rw [← hsl] at HCUT ⊢
  rw [← hsb] at HCUT HTR HSP
  rw [← hst] at HTR
  have hne : st.toList ≠ [] := fun e => hn (str_nilU.1 (by rw [← hst]; exact e))
  have f2 : decide (st = (⟨#[]⟩ : ByteArray)) = false := decide_eq_false (fun e => hne (by rw [e]; exact str_nilU.2 rfl))
  have f3 : (st.toList == ([] : List UInt8)) = false := beq_eq_false_iff_ne.mpr hne
  clear hbm hob hlb hB hyo hyl hyn hE hY ho hl hn hsl hsb hst hne
  go_enter Tryz.func70, Tryz.ntmps70
  go_wp2_with (first
    | (go_at_call 95; (with_reducible refine (HCUT.out _ HE.out).mono ?_); rintro e w1 ⟨s2, b2, rfl, hb⟩; have HB := Aside0.mk hb; clear hb)
    | (go_at_call 96; (with_reducible refine (HTR.out _).mono ?_); rintro e w2 ⟨rfl, hb⟩; have HB2 := Aside0.mk hb; clear hb)
    | (go_at_call 67; (with_reducible refine (HSP.out _ ((HE.out.below HB.out).below HB2.out)).mono ?_); rintro e w3 ⟨rfl, rfl⟩; rw [← HYE.out]))
  have hg0 := heap_alloc_new w2 (.cells (Y.map (fun p => .string (strOfNums p))).toArray 9)
  have hbb : Below w.heap.size w (w2.alloc (.cells (Y.map (fun p => .string (strOfNums p))).toArray 9)) := (HB.out.trans (HB2.out.mono HB.out.size)).alloc (Nat.le_trans HB.out.size HB2.out.size) _
  obtain ⟨g, hg⟩ : ∃ g, g = w2.heap.size := ⟨_, rfl⟩
  have HG : Aside0 (w.heap.size ≤ g) := ⟨by rw [hg]; exact Nat.le_trans HB.out.size HB2.out.size⟩
  rw [← hg] at hg0 ⊢
  have hg1 : (w2.alloc (.cells (Y.map (fun p => .string (strOfNums p))).toArray 9)).heap[g]? = some (.cells (fldC Y 0) 9 (0, 0)) := hg0
  generalize hw3 : w2.alloc (.cells (Y.map (fun p => .string (strOfNums p))).toArray 9) = w3 at *
  have H3 := Aside0.mk hg1
  have HB3 := Aside0.mk hbb
  clear hw3 hg0 hg1 hbb hg
  go_loopg [21] (Y.length + 1) (fun kq s21 wr => ∃ i : Nat, s21 = .int .i64 (i : Int) ∧ Aside0 (i + kq = Y.length + 1 ∧ i ≤ Y.length) ∧ Aside0 (wr.heap[g]? = some (.cells (fldC Y i) 9 (0, 0))) ∧ Aside0 (Below w.heap.size w wr))
  case atStart => exact ⟨0, rfl, ⟨by omega, by omega⟩, H3, HB3⟩
  case round =>
    clear H3 HB3
    obtain ⟨i, rfl, HI, HH, HBR⟩ := hrel
    cases gk with
    | zero => exact absurd HI.out (by omega)
    | succ kq =>
    by_cases c1 : (i : Int) < (Y.length : Int)
    · have hi : i < Y.length := by omega
      have HII := Aside0.mk hi
      have e0 := eq_true c1
      have e1 : decide ((i : Int) < (Y.length : Int)) = true := decide_eq_true c1
      have e2 : (i < Y.length) = True := eq_true hi
      have hsz : (fldC Y i).size = Y.length := by unfold fldC; simp [fldA_len]
      have hlt : i < (fldC Y i).size := by omega
      have hcl : wr.cell? ⟨g, i, none⟩ = some (.string (strOfNums Y[i])) := by
        unfold World.cell?
        rw [HH.out]
        exact fldC_at hi
      obtain ⟨p, hp⟩ : ∃ p, p = Y[i] := ⟨_, rfl⟩
      rw [← hp] at hcl
      have hpm : p ∈ Y := hp ▸ List.getElem_mem hi
      have HT := Aside0.mk (fun w => sTrim.calls p (HYO.out p hpm) (HYL.out p hpm) w)
      have HSET : Aside0 ((fldC Y i).setIfInBounds i (.string (strOfNums (trimL p))) = fldC Y (i + 1)) := ⟨by rw [hp]; exact fldC_set hi⟩
      have m1 : IntKind.i64.wrap ((i : Int) + 1) = (i : Int) + 1 := Go.IntWalk.i64_in _ (by have := HYN.out; omega)
      have m2 : wrap64 ((i : Int) + 1) = (i : Int) + 1 := w64 (by omega) (by have := HYN.out; omega)
      clear c1 hi hp hpm hsz hlt
      obtain ⟨sp, hsp⟩ : ∃ s, s = strOfNums p := ⟨_, rfl⟩
      rw [← hsp] at hcl HT
      clear hsp HTR HCUT HSP
      go_wp2_with (go_at_call 96; (with_reducible refine (HT.out _).mono ?_); rintro e w4 ⟨rfl, hb⟩; have HB4 := Aside0.mk hb; have hgl := (Array.getElem?_eq_some_iff.1 HH.out).1; have hh4 : w4.heap[g]? = some (.cells (fldC Y i) 9 (0, 0)) := (hb.block g hgl).trans HH.out; have HH4 := Aside0.mk hh4; have hc4 : ∃ x, w4.cell? ⟨g, i, none⟩ = some x := ⟨_, (hb.cell (World.block_lt_of_cell? wr _ hcl)).trans hcl⟩; obtain ⟨x4, hc4⟩ := hc4; have hf4 : w4.frozen? ⟨g, i, none⟩ = false := (by unfold World.frozen?; rw [hh4]; rfl); clear hb hgl hh4)
      go_roundg kq
      case measure => omega
      case rel =>
        refine ⟨i + 1, by first | rfl | (rw [m2]; rfl), ⟨by have := HI.out; omega, by have := HII.out; omega⟩, ⟨?_⟩, ⟨(HBR.out.trans (HB4.out.mono HBR.out.size)).setCell HG.out _⟩⟩
        have := heap_setCell_same w4 g i (fldC Y i) 9 (.string (strOfNums (trimL p))) HH4.out
        rw [HSET.out] at this
        exact this
    · have hin : i = Y.length := by have := HI.out; omega
      subst hin
      have e0 := eq_false c1
      have e1 : decide ((Y.length : Int) < (Y.length : Int)) = false := decide_eq_false c1
      clear c1
      go_wp2
      go_ret
      exact ⟨g, rfl, HG.out, HH.out, HBR.out⟩
set_option maxHeartbeats 2000000 in
set_option maxRecDepth 100000 in
theorem field_fields.callsN (L : List Int) (ho : Oct L) (hl : L.length ≤ 1000000) (hn : trimL (bodyL L) = []) (w : World) (hE : EnvF w) :
    Calls Tryz.prog 70 #[.string (strOfNums L)] w fun e w' => e = .returned (.slice none 0 0) ∧ Below w.heap.size w w' := by
  have hbm := body_mem L
  have hob : Oct (bodyL L) := oct_spl ho hbm
  have hlb := len_spl hbm
  obtain ⟨B, hB⟩ : ∃ B, B = bodyL L := ⟨_, rfl⟩
  rw [← hB] at hn hob hlb
  have HCUT := Aside0.mk (fun w hE => sCut.calls L ho hl w hE)
  rw [← hB] at HCUT
  have htr := fun w => sTrim.calls B hob (by omega) w
  rw [hn] at htr
  have HTR := Aside0.mk htr
  have HE := Aside0.mk hE
  obtain ⟨sl, hsl⟩ : ∃ s, s = strOfNums L := ⟨_, rfl⟩
  obtain ⟨sb, hsb⟩ : ∃ s, s = strOfNums B := ⟨_, rfl⟩
  obtain ⟨st, hst⟩ : ∃ s, s = strOfNums [] := ⟨_, rfl⟩
  rw [← hsl] at HCUT ⊢
  rw [← hsb] at HCUT HTR
  rw [← hst] at HTR
  have f2 : decide (st = (⟨#[]⟩ : ByteArray)) = true := decide_eq_true (by rw [hst]; rfl)
  have f3 : (st.toList == ([] : List UInt8)) = true := beq_iff_eq.mpr (by rw [hst]; exact str_nilU.2 rfl)
  clear hbm hob hlb hB hE ho hl hn hsl hsb hst htr
  go_enter Tryz.func70, Tryz.ntmps70
  go_wp2_with (first
    | (go_at_call 95; (with_reducible refine (HCUT.out _ HE.out).mono ?_); rintro e w1 ⟨s2, b2, rfl, hb⟩; have HB := Aside0.mk hb; clear hb)
    | (go_at_call 96; (with_reducible refine (HTR.out _).mono ?_); rintro e w2 ⟨rfl, hb⟩; have HB2 := Aside0.mk hb; clear hb))
  go_ret
  exact ⟨rfl, HB.out.trans (HB2.out.mono HB.out.size)⟩
end Go.Proofs.YtbpdcbibooiimaaGreatDoor.Q
namespace Go.Proofs.YtbpdcbibooiimaaGreatDoor.Q
open Go.RowKit Go.Proofs.YtbpdcbibooiimaaGreatDoorW.PrintWords Go.Proofs.YtbpdcbibooiimaaGreatDoorW.PrintLast Go.Proofs.YtbpdcbibooiimaaGreatDoorW.PrintMore
attribute [local go_sem] max2_int min2_int max_two min_two max_three min_three max_four min_four   -- for this text's walks alone
/-! ### paronymref02_Trim: function 76 -/
mutual
def paronymref02_Trim.j1 : Nat → ByteArray → Option (ByteArray)
  | 0, _ => none
  | k + 1, x0 => paronymref02_Trim.l1 k x0
def paronymref02_Trim.l1 : Nat → ByteArray → Option (ByteArray)
  | 0, _ => none
  | k + 1, x0 => if (x0.size : Int) > 0 then (if 0 ≤ (wrap64 ((x0.size : Int) - 1)) then (if (wrap64 ((x0.size : Int) - 1)) < (x0.size : Int) then (if (bt x0 (wrap64 ((x0.size : Int) - 1))) = 32 then (if (wrap64 ((x0.size : Int) - 1)) ≤ (x0.size : Int) then (paronymref02_Trim.l1 k (x0.extract 0 ((wrap64 ((x0.size : Int) - 1)) : Int).toNat)) else (none)) else (if (bt x0 (wrap64 ((x0.size : Int) - 1))) = 9 then (if (wrap64 ((x0.size : Int) - 1)) ≤ (x0.size : Int) then (paronymref02_Trim.l1 k (x0.extract 0 ((wrap64 ((x0.size : Int) - 1)) : Int).toNat)) else (none)) else (some x0))) else (none)) else (none)) else (some x0)
def paronymref02_Trim.l0 : Nat → ByteArray → Option (ByteArray)
  | 0, _ => none
  | k + 1, x0 => if (x0.size : Int) > 0 then (if 0 < (x0.size : Int) then (if (bt x0 0) = 32 then (if 1 ≤ (x0.size : Int) then (paronymref02_Trim.l0 k (x0.extract 1 x0.size)) else (none)) else (if (bt x0 0) = 9 then (if 1 ≤ (x0.size : Int) then (paronymref02_Trim.l0 k (x0.extract 1 x0.size)) else (none)) else (paronymref02_Trim.j1 k x0))) else (none)) else (paronymref02_Trim.j1 k x0)
end
def paronymref02_Trim.f (k : Nat) (a0 : ByteArray) : Option (ByteArray) := paronymref02_Trim.l0 k a0
theorem paronymref02_Trim.mono_l : ∀ k, (∀ y0, LeO (paronymref02_Trim.j1 k y0) (paronymref02_Trim.j1 (k + 1) y0)) ∧ (∀ y0, LeO (paronymref02_Trim.l1 k y0) (paronymref02_Trim.l1 (k + 1) y0)) ∧ (∀ y0, LeO (paronymref02_Trim.l0 k y0) (paronymref02_Trim.l0 (k + 1) y0))
  | 0 => ⟨fun _ r h => by simp [paronymref02_Trim.j1] at h, fun _ r h => by simp [paronymref02_Trim.l1] at h, fun _ r h => by simp [paronymref02_Trim.l0] at h⟩
  | k + 1 => by
    obtain ⟨ih0, ih1, ih2⟩ := paronymref02_Trim.mono_l k
    refine ⟨?_, ?_, ?_⟩
    · intro y0
      unfold paronymref02_Trim.j1
      repeat' first
      | (with_reducible exact ih0 _)
      | (with_reducible exact ih1 _)
      | (with_reducible exact ih2 _)
      | (with_reducible exact LeO.refl _)
      | (with_reducible exact LeO.none _)
      | (with_reducible refine LeO.ite ?_ ?_)
      | (with_reducible refine LeO.bind ?_ (fun _ => ?_))
      | exact ih0 _
      | exact ih1 _
      | exact ih2 _
      | exact LeO.none _
      | refine LeO.ite ?_ ?_
      | refine LeO.bind ?_ (fun _ => ?_)
    · intro y0
      unfold paronymref02_Trim.l1
      repeat' first
      | (with_reducible exact ih0 _)
      | (with_reducible exact ih1 _)
      | (with_reducible exact ih2 _)
      | (with_reducible exact LeO.refl _)
      | (with_reducible exact LeO.none _)
      | (with_reducible refine LeO.ite ?_ ?_)
      | (with_reducible refine LeO.bind ?_ (fun _ => ?_))
      | exact ih0 _
      | exact ih1 _
      | exact ih2 _
      | exact LeO.none _
      | refine LeO.ite ?_ ?_
      | refine LeO.bind ?_ (fun _ => ?_)
    · intro y0
      unfold paronymref02_Trim.l0
      repeat' first
      | (with_reducible exact ih0 _)
      | (with_reducible exact ih1 _)
      | (with_reducible exact ih2 _)
      | (with_reducible exact LeO.refl _)
      | (with_reducible exact LeO.none _)
      | (with_reducible refine LeO.ite ?_ ?_)
      | (with_reducible refine LeO.bind ?_ (fun _ => ?_))
      | exact ih0 _
      | exact ih1 _
      | exact ih2 _
      | exact LeO.none _
      | refine LeO.ite ?_ ?_
      | refine LeO.bind ?_ (fun _ => ?_)
theorem paronymref02_Trim.mono : ∀ a0 k, LeO (paronymref02_Trim.f k a0) (paronymref02_Trim.f (k + 1) a0) := by
  intro a0 k
  obtain ⟨ih0, ih1, ih2⟩ := paronymref02_Trim.mono_l k
  unfold paronymref02_Trim.f
  repeat' first
      | (with_reducible exact ih0 _)
      | (with_reducible exact ih1 _)
      | (with_reducible exact ih2 _)
      | (with_reducible exact LeO.refl _)
      | (with_reducible exact LeO.none _)
      | (with_reducible refine LeO.ite ?_ ?_)
      | (with_reducible refine LeO.bind ?_ (fun _ => ?_))
      | exact ih0 _
      | exact ih1 _
      | exact ih2 _
      | exact LeO.none _
      | refine LeO.ite ?_ ?_
      | refine LeO.bind ?_ (fun _ => ?_)
set_option maxHeartbeats 8000000 in
set_option maxRecDepth 100000 in
theorem paronymref02_Trim.calls (k : Nat) (a0 : ByteArray) (r : ByteArray) (w : World) (h : paronymref02_Trim.f k a0 = some r) :
    Calls Tryz.prog 76 #[.string a0] w fun e w' => e = .returned (.string r) ∧ Drawn0 w w' := by
  have H : (paronymref02_Trim.l0 k a0) = some r := h
  clear h
  have HC2 := Aside0.mk H
  clear H
  go_enter Tryz.func76, Tryz.ntmps76
  go_upto_block 0 with (fail)
  go_cut [0] (fun v0 wc => ∃ (kq : Nat) (x0_1 : ByteArray), v0 = .string x0_1 ∧ Aside0 (paronymref02_Trim.j1 kq x0_1 = some r) ∧ Aside0 (kq ≤ k) ∧ Drawn0 w wc)
  case first =>
    have H := HC2.out
    clear HC2
    have H' := Aside0.mk H
    clear H
    go_wp2
    go_loopg [0] k (fun kq v0 w' => ∃ (x0_1 : ByteArray), v0 = .string x0_1 ∧ Aside0 (paronymref02_Trim.l0 kq x0_1 = some r) ∧ Aside0 (kq ≤ k) ∧ Drawn0 w w')
    case atStart => exact ⟨(a0), (by first | rfl | (simp; done) | (simp [*]; done)), H', ⟨Nat.le_refl _⟩, by repeat (first | exact Drawn0.refl _ | apply Drawn0.step)⟩
    case round =>
      clear H'
      try clear p2
      obtain ⟨x0_1, rfl, HA, HK1, ⟨m1, rfl⟩⟩ := hrel
      cases gk with
      | zero => exact absurd HA.out (by simp [paronymref02_Trim.l0])
      | succ k1 =>
        have H := HA.out
        clear HA
        simp only [paronymref02_Trim.l0] at H
        by_cases c3 : (x0_1.size : Int) > 0
        · rw [if_pos c3] at H
          have c3b0 : decide (0 < (x0_1.size : Int)) = true := decide_eq_true c3
          have c3b1 : decide (0 < x0_1.size) = true := decide_eq_true (by omega)
          clear c3
          (first | rw [c3b0] | (simp only [i64_w, i32_w]; rw [c3b0]) | rw [c3b1] | (simp only [i64_w, i32_w]; rw [c3b1]) | skip)
          by_cases c4 : 0 < (x0_1.size : Int)
          · rw [if_pos c4] at H
            have c4b0 : decide (0 < (x0_1.size : Int)) = true := decide_eq_true c4
            have c4b1 : decide (0 < x0_1.size) = true := decide_eq_true (by omega)
            clear c4
            by_cases c6 : (bt x0_1 0) = 32
            · rw [if_pos c6] at H
              have c6b0 : ((bt x0_1 0) == 32) = true := beq_iff_eq.mpr c6
              have c6b1 : ((bt x0_1 0) != 32) = false := bne_eq_false_iff_eq.mpr c6
              clear c6
              by_cases c7 : 1 ≤ (x0_1.size : Int)
              · rw [if_pos c7] at H
                have c7b0 := eq_true c7
                have c7b1 : decide (1 ≤ (x0_1.size : Int)) = true := decide_eq_true c7
                clear c7
                have H' := Aside0.mk H
                clear H
                have p5 : 0 ≤ (0 : Int) := (by omega)
                have q5 : 0 < x0_1.size := (by have : (0 : Int) < (x0_1.size : Int) := of_decide_eq_true (by first | (with_reducible assumption) | assumption); omega)
                have hx5 : ∀ h : 0 < x0_1.size, ((x0_1[0]'h).toNat : Int) = bt x0_1 0 := bt_at x0_1 0
                clear p5
                have qi5 : (0 < (x0_1.size : Int)) = True := eq_true (of_decide_eq_true (by first | (with_reducible assumption) | assumption))
                replace q5 := eq_true q5
                go_wp2
                go_roundg k1
                case measure => have := HK1.out; omega
                case rel => exact ⟨(x0_1.extract 1 x0_1.size), (by first | rfl | (simp; done) | (simp [*]; done)), H', ⟨by have := HK1.out; omega⟩, by repeat (first | exact Drawn0.refl _ | apply Drawn0.step)⟩
              · rw [if_neg c7] at H
                exact absurd H (by simp)
            · rw [if_neg c6] at H
              have c6b0 : ((bt x0_1 0) == 32) = false := beq_eq_false_iff_ne.mpr c6
              have c6b1 : ((bt x0_1 0) != 32) = true := bne_iff_ne.mpr c6
              by_cases c9 : (bt x0_1 0) = 9
              · rw [if_pos c9] at H
                have c9b0 : ((bt x0_1 0) == 9) = true := beq_iff_eq.mpr c9
                have c9b1 : ((bt x0_1 0) != 9) = false := bne_eq_false_iff_eq.mpr c9
                clear c9
                by_cases c10 : 1 ≤ (x0_1.size : Int)
                · rw [if_pos c10] at H
                  have c10b0 := eq_true c10
                  have c10b1 : decide (1 ≤ (x0_1.size : Int)) = true := decide_eq_true c10
                  clear c10
                  have H' := Aside0.mk H
                  clear H
                  have p5 : 0 ≤ (0 : Int) := (by omega)
                  have q5 : 0 < x0_1.size := (by have : (0 : Int) < (x0_1.size : Int) := of_decide_eq_true (by first | (with_reducible assumption) | assumption); omega)
                  have hx5 : ∀ h : 0 < x0_1.size, ((x0_1[0]'h).toNat : Int) = bt x0_1 0 := bt_at x0_1 0
                  clear p5
                  have qi5 : (0 < (x0_1.size : Int)) = True := eq_true (of_decide_eq_true (by first | (with_reducible assumption) | assumption))
                  replace q5 := eq_true q5
                  have p8 : 0 ≤ (0 : Int) := (by omega)
                  have q8 : 0 < x0_1.size := (by have : (0 : Int) < (x0_1.size : Int) := of_decide_eq_true (by first | (with_reducible assumption) | assumption); omega)
                  have hx8 : ∀ h : 0 < x0_1.size, ((x0_1[0]'h).toNat : Int) = bt x0_1 0 := bt_at x0_1 0
                  clear p8
                  have qi8 : (0 < (x0_1.size : Int)) = True := eq_true (of_decide_eq_true (by first | (with_reducible assumption) | assumption))
                  replace q8 := eq_true q8
                  go_wp2
                  go_roundg k1
                  case measure => have := HK1.out; omega
                  case rel => exact ⟨(x0_1.extract 1 x0_1.size), (by first | rfl | (simp; done) | (simp [*]; done)), H', ⟨by have := HK1.out; omega⟩, by repeat (first | exact Drawn0.refl _ | apply Drawn0.step)⟩
                · rw [if_neg c10] at H
                  exact absurd H (by simp)
              · rw [if_neg c9] at H
                have c9b0 : ((bt x0_1 0) == 9) = false := beq_eq_false_iff_ne.mpr c9
                have c9b1 : ((bt x0_1 0) != 9) = true := bne_iff_ne.mpr c9
                have H' := Aside0.mk H
                clear H
                have p5 : 0 ≤ (0 : Int) := (by omega)
                have q5 : 0 < x0_1.size := (by have : (0 : Int) < (x0_1.size : Int) := of_decide_eq_true (by first | (with_reducible assumption) | assumption); omega)
                have hx5 : ∀ h : 0 < x0_1.size, ((x0_1[0]'h).toNat : Int) = bt x0_1 0 := bt_at x0_1 0
                clear p5
                have qi5 : (0 < (x0_1.size : Int)) = True := eq_true (of_decide_eq_true (by first | (with_reducible assumption) | assumption))
                replace q5 := eq_true q5
                have p8 : 0 ≤ (0 : Int) := (by omega)
                have q8 : 0 < x0_1.size := (by have : (0 : Int) < (x0_1.size : Int) := of_decide_eq_true (by first | (with_reducible assumption) | assumption); omega)
                have hx8 : ∀ h : 0 < x0_1.size, ((x0_1[0]'h).toNat : Int) = bt x0_1 0 := bt_at x0_1 0
                clear p8
                have qi8 : (0 < (x0_1.size : Int)) = True := eq_true (of_decide_eq_true (by first | (with_reducible assumption) | assumption))
                replace q8 := eq_true q8
                go_wp2
                go_meet
                case rel => exact ⟨_, (x0_1), (by first | rfl | (simp; done) | (simp [*]; done)), H', ⟨by have := HK1.out; first | omega | exact Nat.le_refl _⟩, by repeat (first | exact Drawn0.refl _ | apply Drawn0.step)⟩
          · rw [if_neg c4] at H
            exact absurd H (by simp)
        · rw [if_neg c3] at H
          have c3b0 : decide (0 < (x0_1.size : Int)) = false := decide_eq_false c3
          have c3b1 : decide (0 < x0_1.size) = false := decide_eq_false (by omega)
          clear c3
          (first | rw [c3b0] | (simp only [i64_w, i32_w]; rw [c3b0]) | rw [c3b1] | (simp only [i64_w, i32_w]; rw [c3b1]) | skip)
          have H' := Aside0.mk H
          clear H
          go_wp2
          go_meet
          case rel => exact ⟨_, (x0_1), (by first | rfl | (simp; done) | (simp [*]; done)), H', ⟨by have := HK1.out; first | omega | exact Nat.le_refl _⟩, by repeat (first | exact Drawn0.refl _ | apply Drawn0.step)⟩
  case rest =>
    clear HC2
    try clear c1
    try clear p2
    try clear c3
    try clear c3b0
    try clear c3b1
    try clear c4
    try clear c4b0
    try clear c4b1
    try clear p5
    try clear q5
    try clear hx5
    try clear qi5
    try clear c6
    try clear c6b0
    try clear c6b1
    try clear c7
    try clear c7b0
    try clear c7b1
    try clear p8
    try clear q8
    try clear hx8
    try clear qi8
    try clear c9
    try clear c9b0
    try clear c9b1
    try clear c10
    try clear c10b0
    try clear c10b1
    try clear p2
    try clear p5
    try clear p8
    try clear q5
    try clear q8
    obtain ⟨kq, x0_1, rfl, HA, HJ1, ⟨mc1, rfl⟩⟩ := hcut
    cases kq with
    | zero => exact absurd HA.out (by simp [paronymref02_Trim.j1])
    | succ kj1 =>
      have H := HA.out
      clear HA
      simp only [paronymref02_Trim.j1] at H
      have H' := Aside0.mk H
      clear H
      go_wp2
      go_loopg [0] kj1 (fun kq v0 w' => ∃ (x0_2 : ByteArray), v0 = .string x0_2 ∧ Aside0 (paronymref02_Trim.l1 kq x0_2 = some r) ∧ Aside0 (kq ≤ kj1) ∧ Drawn0 w w')
      case atStart => exact ⟨(x0_1), (by first | rfl | (simp; done) | (simp [*]; done)), H', ⟨Nat.le_refl _⟩, by repeat (first | exact Drawn0.refl _ | apply Drawn0.step)⟩
      case round =>
        clear H'
        try clear c1
        try clear p2
        try clear c3
        try clear c3b0
        try clear c3b1
        try clear c4
        try clear c4b0
        try clear c4b1
        try clear p5
        try clear q5
        try clear hx5
        try clear qi5
        try clear c6
        try clear c6b0
        try clear c6b1
        try clear c7
        try clear c7b0
        try clear c7b1
        try clear p8
        try clear q8
        try clear hx8
        try clear qi8
        try clear c9
        try clear c9b0
        try clear c9b1
        try clear c10
        try clear c10b0
        try clear c10b1
        try clear p2
        try clear p5
        try clear p8
        try clear q5
        try clear q8
        obtain ⟨x0_2, rfl, HA, HK2, ⟨m2, rfl⟩⟩ := hrel
        cases gk with
        | zero => exact absurd HA.out (by simp [paronymref02_Trim.l1])
        | succ k2 =>
          have H := HA.out
          clear HA
          simp only [paronymref02_Trim.l1] at H
          by_cases c11 : (x0_2.size : Int) > 0
          · rw [if_pos c11] at H
            have c11b0 : decide (0 < (x0_2.size : Int)) = true := decide_eq_true c11
            have c11b1 : decide (0 < x0_2.size) = true := decide_eq_true (by omega)
            clear c11
            obtain ⟨ji12, hji12⟩ : ∃ j_ : Int, (wrap64 ((x0_2.size : Int) - 1)) = j_ := ⟨_, rfl⟩
            replace H : (if 0 ≤ (ji12) then (if (ji12) < (x0_2.size : Int) then (if (bt x0_2 (ji12)) = 32 then (if (ji12) ≤ (x0_2.size : Int) then (paronymref02_Trim.l1 k2 (x0_2.extract 0 ((ji12) : Int).toNat)) else (none)) else (if (bt x0_2 (ji12)) = 9 then (if (ji12) ≤ (x0_2.size : Int) then (paronymref02_Trim.l1 k2 (x0_2.extract 0 ((ji12) : Int).toNat)) else (none)) else (some x0_2))) else (none)) else (none)) = some r := by first | (rw [hji12] at H; exact H) | (simp only [hji12] at H ⊢; exact H)
            have hji12w : (IntKind.i64.wrap ((x0_2.size : Int) - 1)) = ji12 := (i64_w _).trans hji12
            by_cases c13 : 0 ≤ (ji12)
            · rw [if_pos c13] at H
              have c13b0 : decide (0 ≤ (ji12)) = true := decide_eq_true c13
              clear c13
              by_cases c14 : (ji12) < (x0_2.size : Int)
              · rw [if_pos c14] at H
                have c14b0 : decide ((ji12) < (x0_2.size : Int)) = true := decide_eq_true c14
                clear c14
                by_cases c16 : (bt x0_2 (ji12)) = 32
                · rw [if_pos c16] at H
                  have c16b0 : ((bt x0_2 (ji12)) == 32) = true := beq_iff_eq.mpr c16
                  have c16b1 : ((bt x0_2 (ji12)) != 32) = false := bne_eq_false_iff_eq.mpr c16
                  clear c16
                  have c17b0 := eq_true (of_decide_eq_true (by first | (with_reducible assumption) | assumption) : 0 ≤ (ji12))
                  by_cases c18 : (ji12) ≤ (x0_2.size : Int)
                  · rw [if_pos c18] at H
                    have c18b0 := eq_true c18
                    have c18b1 : decide ((ji12) ≤ (x0_2.size : Int)) = true := decide_eq_true c18
                    clear c18
                    have H' := Aside0.mk H
                    clear H
                    have p15 : 0 ≤ ((ji12) : Int) := of_decide_eq_true (by first | (with_reducible assumption) | assumption)
                    have q15 : (ji12) < (x0_2.size : Int) := of_decide_eq_true (by first | (with_reducible assumption) | assumption)
                    have hx15 := bt_at x0_2 (ji12)
                    replace p15 := eq_true p15
                    replace q15 := eq_true q15
                    go_wp2
                    go_roundg k2
                    case measure => have := HJ1.out; have := HK2.out; omega
                    case rel => exact ⟨(x0_2.extract 0 ((ji12) : Int).toNat), (by first | rfl | (simp; done) | (simp only [← hji12] <;> (first | rfl | simp)) | (simp [*]; done)), H', ⟨by have := HJ1.out; have := HK2.out; omega⟩, by repeat (first | exact Drawn0.refl _ | apply Drawn0.step)⟩
                  · rw [if_neg c18] at H
                    exact absurd H (by simp)
                · rw [if_neg c16] at H
                  have c16b0 : ((bt x0_2 (ji12)) == 32) = false := beq_eq_false_iff_ne.mpr c16
                  have c16b1 : ((bt x0_2 (ji12)) != 32) = true := bne_iff_ne.mpr c16
                  by_cases c20 : (bt x0_2 (ji12)) = 9
                  · rw [if_pos c20] at H
                    have c20b0 : ((bt x0_2 (ji12)) == 9) = true := beq_iff_eq.mpr c20
                    have c20b1 : ((bt x0_2 (ji12)) != 9) = false := bne_eq_false_iff_eq.mpr c20
                    clear c20
                    have c21b0 := eq_true (of_decide_eq_true (by first | (with_reducible assumption) | assumption) : 0 ≤ (ji12))
                    by_cases c22 : (ji12) ≤ (x0_2.size : Int)
                    · rw [if_pos c22] at H
                      have c22b0 := eq_true c22
                      have c22b1 : decide ((ji12) ≤ (x0_2.size : Int)) = true := decide_eq_true c22
                      clear c22
                      have H' := Aside0.mk H
                      clear H
                      have p15 : 0 ≤ ((ji12) : Int) := of_decide_eq_true (by first | (with_reducible assumption) | assumption)
                      have q15 : (ji12) < (x0_2.size : Int) := of_decide_eq_true (by first | (with_reducible assumption) | assumption)
                      have hx15 := bt_at x0_2 (ji12)
                      replace p15 := eq_true p15
                      replace q15 := eq_true q15
                      have p19 : 0 ≤ ((ji12) : Int) := of_decide_eq_true (by first | (with_reducible assumption) | assumption)
                      have q19 : (ji12) < (x0_2.size : Int) := of_decide_eq_true (by first | (with_reducible assumption) | assumption)
                      have hx19 := bt_at x0_2 (ji12)
                      replace p19 := eq_true p19
                      replace q19 := eq_true q19
                      go_wp2
                      go_roundg k2
                      case measure => have := HJ1.out; have := HK2.out; omega
                      case rel => exact ⟨(x0_2.extract 0 ((ji12) : Int).toNat), (by first | rfl | (simp; done) | (simp only [← hji12] <;> (first | rfl | simp)) | (simp [*]; done)), H', ⟨by have := HJ1.out; have := HK2.out; omega⟩, by repeat (first | exact Drawn0.refl _ | apply Drawn0.step)⟩
                    · rw [if_neg c22] at H
                      exact absurd H (by simp)
                  · rw [if_neg c20] at H
                    have c20b0 : ((bt x0_2 (ji12)) == 9) = false := beq_eq_false_iff_ne.mpr c20
                    have c20b1 : ((bt x0_2 (ji12)) != 9) = true := bne_iff_ne.mpr c20
                    obtain rfl := Option.some.inj H
                    have p15 : 0 ≤ ((ji12) : Int) := of_decide_eq_true (by first | (with_reducible assumption) | assumption)
                    have q15 : (ji12) < (x0_2.size : Int) := of_decide_eq_true (by first | (with_reducible assumption) | assumption)
                    have hx15 := bt_at x0_2 (ji12)
                    replace p15 := eq_true p15
                    replace q15 := eq_true q15
                    have p19 : 0 ≤ ((ji12) : Int) := of_decide_eq_true (by first | (with_reducible assumption) | assumption)
                    have q19 : (ji12) < (x0_2.size : Int) := of_decide_eq_true (by first | (with_reducible assumption) | assumption)
                    have hx19 := bt_at x0_2 (ji12)
                    replace p19 := eq_true p19
                    replace q19 := eq_true q19
                    go_wp2
                    go_ret
                    exact ⟨by first | rfl | (simp; done) | (simp only [← hji12] <;> (first | rfl | simp)) | (simp [*]; done), by repeat (first | exact Drawn0.refl _ | apply Drawn0.step)⟩
              · rw [if_neg c14] at H
                exact absurd H (by simp)
            · rw [if_neg c13] at H
              exact absurd H (by simp)
          · rw [if_neg c11] at H
            have c11b0 : decide (0 < (x0_2.size : Int)) = false := decide_eq_false c11
            have c11b1 : decide (0 < x0_2.size) = false := decide_eq_false (by omega)
            clear c11
            obtain rfl := Option.some.inj H
            go_wp2
            go_ret
            exact ⟨by first | rfl | (simp; done) | (simp [*]; done), by repeat (first | exact Drawn0.refl _ | apply Drawn0.step)⟩
end Go.Proofs.YtbpdcbibooiimaaGreatDoor.Q
namespace Go.Proofs.YtbpdcbibooiimaaGreatDoor.Q
open Go.RowKit Go.Proofs.YtbpdcbibooiimaaGreatDoorW.PrintWords Go.Proofs.YtbpdcbibooiimaaGreatDoorW.PrintLast Go.Proofs.YtbpdcbibooiimaaGreatDoorW.PrintMore
attribute [local go_sem] max2_int min2_int max_two min_two max_three min_three max_four min_four   -- for this text's walks alone
/-! ### paronymref02_Lines: function 48 -/
mutual
def paronymref02_Lines.l0 : Nat → List (S90) → List ByteArray → Int → Option ((List (S90)))
  | 0, _, _, _ => none
  | k + 1, x3, x4, x5 => if x5 < (x4.length : Int) then (if 0 ≤ x5 then (if ((rdOf ByteArray.empty x4 x5).size : Int) > 0 then (if 0 ≤ (wrap64 (((rdOf ByteArray.empty x4 x5).size : Int) - 1)) then (if (wrap64 (((rdOf ByteArray.empty x4 x5).size : Int) - 1)) < ((rdOf ByteArray.empty x4 x5).size : Int) then (paronymref02_Lines.j1 k x3 x4 x5 (rdOf ByteArray.empty x4 x5) ((bt (rdOf ByteArray.empty x4 x5) (wrap64 (((rdOf ByteArray.empty x4 x5).size : Int) - 1))) == 13)) else (none)) else (none)) else (paronymref02_Lines.j1 k x3 x4 x5 (rdOf ByteArray.empty x4 x5) false)) else (none)) else (some x3)
def paronymref02_Lines.j1 : Nat → List (S90) → List ByteArray → Int → ByteArray → Bool → Option ((List (S90)))
  | 0, _, _, _, _, _ => none
  | k + 1, x3, x4, x5, x6, x32 => if x32 = true then (if 0 ≤ (wrap64 ((x6.size : Int) - 1)) then (if (wrap64 ((x6.size : Int) - 1)) ≤ (x6.size : Int) then (paronymref02_Lines.j2 k x3 x4 x5 (x6.extract 0 ((wrap64 ((x6.size : Int) - 1)) : Int).toNat)) else (none)) else (none)) else (paronymref02_Lines.j2 k x3 x4 x5 x6)
def paronymref02_Lines.j2 : Nat → List (S90) → List ByteArray → Int → ByteArray → Option ((List (S90)))
  | 0, _, _, _, _ => none
  | k + 1, x3, x4, x5, x6 => (paronymref02_Cut.f k x6 35).bind fun t105 => (if 0 < (t105.length : Int) then ((paronymref02_Trim.f k (rdOf ByteArray.empty t105 0)).bind fun t109 => (if t109.toList = ([] : List UInt8) then (paronymref02_Lines.l0 k x3 x4 (wrap64 (x5 + 1))) else ((paronymref02_Cut.f k (rdOf ByteArray.empty t105 0) 59).bind fun t110 => (paronymref02_Lines.l1 k x3 x4 x5 t110 ([] : List ByteArray) 0)))) else (none))
def paronymref02_Lines.l1 : Nat → List (S90) → List ByteArray → Int → List ByteArray → List ByteArray → Int → Option ((List (S90)))
  | 0, _, _, _, _, _, _ => none
  | k + 1, x3, x4, x5, x7, x8, x9 => if x9 < (x7.length : Int) then (if 0 ≤ x9 then ((paronymref02_Trim.f k (rdOf ByteArray.empty x7 x9)).bind fun t114 => (if x8.length < 8796093022208 then (paronymref02_Lines.l1 k x3 x4 x5 x7 (x8 ++ [t114]) (wrap64 (x9 + 1))) else (none))) else (none)) else (if x3.length < 4398046511104 then (paronymref02_Lines.l0 k (x3 ++ [(⟨wrap64 (x5 + 1), x8⟩ : S90)]) x4 (wrap64 (x5 + 1))) else (none))
end
def paronymref02_Lines.f (k : Nat) (a0 : ByteArray) : Option ((List (S90))) := (paronymref02_Cut.f k a0 10).bind fun t101 => (paronymref02_Lines.l0 k ([] : List (S90)) t101 0)
theorem paronymref02_Lines.mono_l : ∀ k, (∀ y0 y1 y2, LeO (paronymref02_Lines.l0 k y0 y1 y2) (paronymref02_Lines.l0 (k + 1) y0 y1 y2)) ∧ (∀ y0 y1 y2 y3 y4, LeO (paronymref02_Lines.j1 k y0 y1 y2 y3 y4) (paronymref02_Lines.j1 (k + 1) y0 y1 y2 y3 y4)) ∧ (∀ y0 y1 y2 y3, LeO (paronymref02_Lines.j2 k y0 y1 y2 y3) (paronymref02_Lines.j2 (k + 1) y0 y1 y2 y3)) ∧ (∀ y0 y1 y2 y3 y4 y5, LeO (paronymref02_Lines.l1 k y0 y1 y2 y3 y4 y5) (paronymref02_Lines.l1 (k + 1) y0 y1 y2 y3 y4 y5))
  | 0 => ⟨fun _ _ _ r h => by simp [paronymref02_Lines.l0] at h, fun _ _ _ _ _ r h => by simp [paronymref02_Lines.j1] at h, fun _ _ _ _ r h => by simp [paronymref02_Lines.j2] at h, fun _ _ _ _ _ _ r h => by simp [paronymref02_Lines.l1] at h⟩
  | k + 1 => by
    obtain ⟨ih0, ih1, ih2, ih3⟩ := paronymref02_Lines.mono_l k
    refine ⟨?_, ?_, ?_, ?_⟩
    · intro y0 y1 y2
      unfold paronymref02_Lines.l0
      repeat' first
      | (with_reducible exact ih0 _ _ _)
      | (with_reducible exact ih1 _ _ _ _ _)
      | (with_reducible exact ih2 _ _ _ _)
      | (with_reducible exact ih3 _ _ _ _ _ _)
      | (with_reducible exact paronymref02_Cut.mono _ _ _)
      | (with_reducible exact paronymref02_Trim.mono _ _)
      | (with_reducible exact LeO.refl _)
      | (with_reducible exact LeO.none _)
      | (with_reducible refine LeO.ite ?_ ?_)
      | (with_reducible refine LeO.bind ?_ (fun _ => ?_))
      | exact ih0 _ _ _
      | exact ih1 _ _ _ _ _
      | exact ih2 _ _ _ _
      | exact ih3 _ _ _ _ _ _
      | exact paronymref02_Cut.mono _ _ _
      | exact paronymref02_Trim.mono _ _
      | exact LeO.none _
      | refine LeO.ite ?_ ?_
      | refine LeO.bind ?_ (fun _ => ?_)
    · intro y0 y1 y2 y3 y4
      unfold paronymref02_Lines.j1
      repeat' first
      | (with_reducible exact ih0 _ _ _)
      | (with_reducible exact ih1 _ _ _ _ _)
      | (with_reducible exact ih2 _ _ _ _)
      | (with_reducible exact ih3 _ _ _ _ _ _)
      | (with_reducible exact paronymref02_Cut.mono _ _ _)
      | (with_reducible exact paronymref02_Trim.mono _ _)
      | (with_reducible exact LeO.refl _)
      | (with_reducible exact LeO.none _)
      | (with_reducible refine LeO.ite ?_ ?_)
      | (with_reducible refine LeO.bind ?_ (fun _ => ?_))
      | exact ih0 _ _ _
      | exact ih1 _ _ _ _ _
      | exact ih2 _ _ _ _
      | exact ih3 _ _ _ _ _ _
      | exact paronymref02_Cut.mono _ _ _
      | exact paronymref02_Trim.mono _ _
      | exact LeO.none _
      | refine LeO.ite ?_ ?_
      | refine LeO.bind ?_ (fun _ => ?_)
    · intro y0 y1 y2 y3
      unfold paronymref02_Lines.j2
      repeat' first
      | (with_reducible exact ih0 _ _ _)
      | (with_reducible exact ih1 _ _ _ _ _)
      | (with_reducible exact ih2 _ _ _ _)
      | (with_reducible exact ih3 _ _ _ _ _ _)
      | (with_reducible exact paronymref02_Cut.mono _ _ _)
      | (with_reducible exact paronymref02_Trim.mono _ _)
      | (with_reducible exact LeO.refl _)
      | (with_reducible exact LeO.none _)
      | (with_reducible refine LeO.ite ?_ ?_)
      | (with_reducible refine LeO.bind ?_ (fun _ => ?_))
      | exact ih0 _ _ _
      | exact ih1 _ _ _ _ _
      | exact ih2 _ _ _ _
      | exact ih3 _ _ _ _ _ _
      | exact paronymref02_Cut.mono _ _ _
      | exact paronymref02_Trim.mono _ _
      | exact LeO.none _
      | refine LeO.ite ?_ ?_
      | refine LeO.bind ?_ (fun _ => ?_)
    · intro y0 y1 y2 y3 y4 y5
      unfold paronymref02_Lines.l1
      repeat' first
      | (with_reducible exact ih0 _ _ _)
      | (with_reducible exact ih1 _ _ _ _ _)
      | (with_reducible exact ih2 _ _ _ _)
      | (with_reducible exact ih3 _ _ _ _ _ _)
      | (with_reducible exact paronymref02_Cut.mono _ _ _)
      | (with_reducible exact paronymref02_Trim.mono _ _)
      | (with_reducible exact LeO.refl _)
      | (with_reducible exact LeO.none _)
      | (with_reducible refine LeO.ite ?_ ?_)
      | (with_reducible refine LeO.bind ?_ (fun _ => ?_))
      | exact ih0 _ _ _
      | exact ih1 _ _ _ _ _
      | exact ih2 _ _ _ _
      | exact ih3 _ _ _ _ _ _
      | exact paronymref02_Cut.mono _ _ _
      | exact paronymref02_Trim.mono _ _
      | exact LeO.none _
      | refine LeO.ite ?_ ?_
      | refine LeO.bind ?_ (fun _ => ?_)
theorem paronymref02_Lines.mono : ∀ a0 k, LeO (paronymref02_Lines.f k a0) (paronymref02_Lines.f (k + 1) a0) := by
  intro a0 k
  obtain ⟨ih0, ih1, ih2, ih3⟩ := paronymref02_Lines.mono_l k
  unfold paronymref02_Lines.f
  repeat' first
      | (with_reducible exact ih0 _ _ _)
      | (with_reducible exact ih1 _ _ _ _ _)
      | (with_reducible exact ih2 _ _ _ _)
      | (with_reducible exact ih3 _ _ _ _ _ _)
      | (with_reducible exact paronymref02_Cut.mono _ _ _)
      | (with_reducible exact paronymref02_Trim.mono _ _)
      | (with_reducible exact LeO.refl _)
      | (with_reducible exact LeO.none _)
      | (with_reducible refine LeO.ite ?_ ?_)
      | (with_reducible refine LeO.bind ?_ (fun _ => ?_))
      | exact ih0 _ _ _
      | exact ih1 _ _ _ _ _
      | exact ih2 _ _ _ _
      | exact ih3 _ _ _ _ _ _
      | exact paronymref02_Cut.mono _ _ _
      | exact paronymref02_Trim.mono _ _
      | exact LeO.none _
      | refine LeO.ite ?_ ?_
      | refine LeO.bind ?_ (fun _ => ?_)
set_option maxHeartbeats 8000000 in
set_option maxRecDepth 100000 in
theorem paronymref02_Lines.calls (k : Nat) (a0 : ByteArray) (r : List (S90)) (w : World) (h : paronymref02_Lines.f k a0 = some r) :
    Calls Tryz.prog 48 #[.string a0] w fun e w' => ∃ v0_ : Value, e = .returned (v0_) ∧ Kd.S k90 90 w' w.heap.size (fun _ => True) v0_ r ∧ Below w.heap.size w w' := by
  have hu90 := Tryz.underlying90
  have HB := Aside0.mk (Below.refl w.heap.size w)
  have H : ((paronymref02_Cut.f k a0 10).bind fun t101 => (paronymref02_Lines.l0 k ([] : List (S90)) t101 0)) = some r := h
  clear h
  replace H := Option.bind_eq_some_iff.mp H
  obtain ⟨t101, A20, H⟩ := H
  replace H : (paronymref02_Lines.l0 k ([] : List (S90)) t101 0) = some r := H
  have A2 := Aside0.mk A20
  clear A20
  have H' := Aside0.mk H
  clear H
  go_enter Tryz.func48, Tryz.ntmps48
  go_wp2_with (first | ((with_reducible refine gate_callee (f := 18) rfl ?_); refine goesL_ (some 11) rfl rfl Tryz.func18 (by kernel_rfl) rfl #[.string a0, .int .u8 10] rfl (by (try simp only [List.map_toArray, List.map_cons, List.map_nil]); first | done | rfl | (simp only [List.length_drop, List.length_take]; rfl)) ?_; (with_reducible refine (paronymref02_Cut.calls k a0 10 t101 _ A2.out).mono ?_); rintro e w3 ⟨v102, rfl, ho0, hb⟩; refine ⟨_, rfl, ?_⟩; have n0_ := Aside0.mk (Kd.R_lower ho0 (below_size (by repeat (first | (with_reducible first | exact HB.out | apply below_alloc | apply pw_below_drewN | apply below_drew1) | exact HB.out)))); have n1_ := Aside0.mk (below_step (by repeat (first | (with_reducible first | exact HB.out | apply below_alloc | apply pw_below_drewN | apply below_drew1) | exact HB.out)) hb); clear HB; have HO103 := n0_; have HB := n1_; clear n0_ n1_; (try clear hb); (try clear hb2); (try clear hk); (try clear hi); (try clear ho0)))
  go_loopg [3, 5] k (fun kq v3 v5 w' => ∃ (x3_1 : List (S90)) (x5_1 : Int), v5 = .int .i64 x5_1 ∧ Aside0 (paronymref02_Lines.l0 kq x3_1 t101 x5_1 = some r) ∧ Aside0 (kq ≤ k) ∧ Aside0 (Kd.S k90 90 w' w.heap.size (fun k_ => some k_ ≠ (v102 : Value).ownBlock) v3 x3_1) ∧ Aside0 (Kd.R Kd.string 9 w' w.heap.size (fun _ => True) v102 t101) ∧ Aside0 (Below w.heap.size w w'))
  case atStart => exact ⟨(([] : List (S90))), (0), (by first | rfl | (simp; done) | (simp [*]; done)), H', ⟨Nat.le_refl _⟩, ⟨by first | exact Kd.S_nil _ _ _ _ _ | exact Kd.N_nil _ _ _ _ _ | exact Kd.V_nil _ _ _ _ _ | exact Kd.Q_nil _ _ _ _ _ | exact Kd.R_nil _ _ _ _ _⟩, ⟨by (with_reducible repeat (first | apply Kd.R_alloc | apply Kd.R_drewN | apply Kd.R_drew)); exact HO103.out⟩, ⟨by repeat (first | (with_reducible first | exact HB.out | apply below_alloc | apply pw_below_drewN | apply below_drew1) | exact HB.out)⟩⟩
  case round =>
    clear H'
    try clear c1
    try clear p2
    obtain ⟨x3_1, x5_1, rfl, HA, HK1, HO_3, HO_4, HB⟩ := hrel
    cases gk with
    | zero => exact absurd HA.out (by simp [paronymref02_Lines.l0])
    | succ k1 =>
      have H := HA.out
      clear HA
      simp only [paronymref02_Lines.l0] at H
      by_cases c4 : x5_1 < (t101.length : Int)
      · rw [if_pos c4] at H
        have c4b0 : decide (x5_1 < (t101.length : Int)) = true := decide_eq_true c4
        clear c4
        by_cases c5 : 0 ≤ x5_1
        · rw [if_pos c5] at H
          have c5b0 : decide (0 ≤ x5_1) = true := decide_eq_true c5
          clear c5
          have HC6 := Aside0.mk H
          clear H
          obtain ⟨Ao7, co7, eo7⟩ := Kd.R_slice HO_4.out
          subst eo7
          have p104 : 0 ≤ (x5_1 : Int) := of_decide_eq_true (by first | (with_reducible assumption) | assumption)
          have q104 : x5_1 < (t101.length : Int) := of_decide_eq_true (by first | (with_reducible assumption) | assumption)
          obtain ⟨ad104, e104, hx104_0⟩ := Kd.at_string (Kd.R_reads' HO_4.out).2.2 x5_1 p104 q104
          cases e104
          replace p104 := eq_true p104
          replace q104 := eq_true q104
          go_upto_region 7 with (fail)
          go_cut [32] (fun v32 wc => ∃ (kq : Nat) (x32_5 : Bool), v32 = .bool x32_5 ∧ Aside0 (paronymref02_Lines.j1 kq x3_1 t101 x5_1 (rdOf ByteArray.empty t101 x5_1) x32_5 = some r) ∧ Aside0 (kq ≤ k1) ∧ Aside0 (Kd.S k90 90 wc w.heap.size (fun k_ => some k_ ≠ ((.slice (some ad104) t101.length co7) : Value).ownBlock) u3 x3_1) ∧ Aside0 (Kd.R Kd.string 9 wc w.heap.size (fun _ => True) (.slice (some ad104) t101.length co7) t101) ∧ Aside0 (Below w.heap.size w wc))
          case first =>
            have H := HC6.out
            clear HC6
            by_cases c8 : ((rdOf ByteArray.empty t101 x5_1).size : Int) > 0
            · rw [if_pos c8] at H
              have c8b0 : decide (0 < ((rdOf ByteArray.empty t101 x5_1).size : Int)) = true := decide_eq_true c8
              have c8b1 : decide (0 < (rdOf ByteArray.empty t101 x5_1).size) = true := decide_eq_true (by omega)
              clear c8
              (first | rw [c8b0] | (simp only [i64_w, i32_w]; rw [c8b0]) | rw [c8b1] | (simp only [i64_w, i32_w]; rw [c8b1]) | skip)
              obtain ⟨ji9, hji9⟩ : ∃ j_ : Int, (wrap64 (((rdOf ByteArray.empty t101 x5_1).size : Int) - 1)) = j_ := ⟨_, rfl⟩
              replace H : (if 0 ≤ (ji9) then (if (ji9) < ((rdOf ByteArray.empty t101 x5_1).size : Int) then (paronymref02_Lines.j1 k1 x3_1 t101 x5_1 (rdOf ByteArray.empty t101 x5_1) ((bt (rdOf ByteArray.empty t101 x5_1) (ji9)) == 13)) else (none)) else (none)) = some r := by first | (rw [hji9] at H; exact H) | (simp only [hji9] at H ⊢; exact H)
              have hji9w : (IntKind.i64.wrap (((rdOf ByteArray.empty t101 x5_1).size : Int) - 1)) = ji9 := (i64_w _).trans hji9
              by_cases c10 : 0 ≤ (ji9)
              · rw [if_pos c10] at H
                have c10b0 : decide (0 ≤ (ji9)) = true := decide_eq_true c10
                clear c10
                by_cases c11 : (ji9) < ((rdOf ByteArray.empty t101 x5_1).size : Int)
                · rw [if_pos c11] at H
                  have c11b0 : decide ((ji9) < ((rdOf ByteArray.empty t101 x5_1).size : Int)) = true := decide_eq_true c11
                  clear c11
                  have H' := Aside0.mk H
                  clear H
                  have p12 : 0 ≤ ((ji9) : Int) := of_decide_eq_true (by first | (with_reducible assumption) | assumption)
                  have q12 : (ji9) < ((rdOf ByteArray.empty t101 x5_1).size : Int) := of_decide_eq_true (by first | (with_reducible assumption) | assumption)
                  have hx12 := bt_at (rdOf ByteArray.empty t101 x5_1) (ji9)
                  replace p12 := eq_true p12
                  replace q12 := eq_true q12
                  go_wp2
                  go_meet
                  case rel => exact ⟨_, (((bt (rdOf ByteArray.empty t101 x5_1) (ji9)) == 13)), (by first | rfl | (simp; done) | (simp only [← hji9] <;> (first | rfl | simp)) | (simp [*]; done)), H', ⟨by have := HK1.out; first | omega | exact Nat.le_refl _⟩, ⟨by (with_reducible repeat (first | apply Kd.S_alloc | apply Kd.S_drewN | apply Kd.S_drew)); exact HO_3.out⟩, ⟨by (with_reducible repeat (first | apply Kd.R_alloc | apply Kd.R_drewN | apply Kd.R_drew)); exact HO_4.out⟩, ⟨by repeat (first | (with_reducible first | exact HB.out | apply below_alloc | apply pw_below_drewN | apply below_drew1) | exact HB.out)⟩⟩
                · rw [if_neg c11] at H
                  exact absurd H (by simp)
              · rw [if_neg c10] at H
                exact absurd H (by simp)
            · rw [if_neg c8] at H
              have c8b0 : decide (0 < ((rdOf ByteArray.empty t101 x5_1).size : Int)) = false := decide_eq_false c8
              have c8b1 : decide (0 < (rdOf ByteArray.empty t101 x5_1).size) = false := decide_eq_false (by omega)
              clear c8
              (first | rw [c8b0] | (simp only [i64_w, i32_w]; rw [c8b0]) | rw [c8b1] | (simp only [i64_w, i32_w]; rw [c8b1]) | skip)
              have H' := Aside0.mk H
              clear H
              go_wp2
              go_meet
              case rel => exact ⟨_, (false), (by first | rfl | (simp; done) | (simp [*]; done)), H', ⟨by have := HK1.out; first | omega | exact Nat.le_refl _⟩, ⟨by (with_reducible repeat (first | apply Kd.S_alloc | apply Kd.S_drewN | apply Kd.S_drew)); exact HO_3.out⟩, ⟨by (with_reducible repeat (first | apply Kd.R_alloc | apply Kd.R_drewN | apply Kd.R_drew)); exact HO_4.out⟩, ⟨by repeat (first | (with_reducible first | exact HB.out | apply below_alloc | apply pw_below_drewN | apply below_drew1) | exact HB.out)⟩⟩
          case rest =>
            clear HC6
            try clear c1
            try clear p1
            try clear q1
            try clear hx1
            try clear p2
            try clear c4
            try clear c4b0
            try clear c5
            try clear c5b0
            try clear p6
            try clear c8
            try clear c8b0
            try clear c8b1
            try clear c10
            try clear c10b0
            try clear p10
            try clear q10
            try clear hx10
            try clear c11
            try clear c11b0
            try clear p12
            try clear q12
            try clear hx12
            try clear hx104_0
            try clear p104
            try clear p12
            try clear p2
            try clear q104
            try clear q12
            obtain ⟨kq, x32_5, rfl, HA, HJ5, HO_3, HO_4, HB⟩ := hcut
            cases kq with
            | zero => exact absurd HA.out (by simp [paronymref02_Lines.j1])
            | succ kj5 =>
              have H := HA.out
              clear HA
              simp only [paronymref02_Lines.j1] at H
              have HC13 := Aside0.mk H
              clear H
              go_upto_if 32 with (fail)
              go_cut [6] (fun v6 wc => ∃ (kq : Nat) (x6_12 : ByteArray), v6 = .string x6_12 ∧ Aside0 (paronymref02_Lines.j2 kq x3_1 t101 x5_1 x6_12 = some r) ∧ Aside0 (kq ≤ kj5) ∧ Aside0 (Kd.S k90 90 wc w.heap.size (fun k_ => some k_ ≠ ((.slice (some ad104) t101.length co7) : Value).ownBlock) u3 x3_1) ∧ Aside0 (Kd.R Kd.string 9 wc w.heap.size (fun _ => True) (.slice (some ad104) t101.length co7) t101) ∧ Aside0 (Below w.heap.size w wc))
              case first =>
                have H := HC13.out
                clear HC13
                by_cases c14 : x32_5 = true
                · subst c14
                  have H1 : (if 0 ≤ (wrap64 (((rdOf ByteArray.empty t101 x5_1).size : Int) - 1)) then (if (wrap64 (((rdOf ByteArray.empty t101 x5_1).size : Int) - 1)) ≤ ((rdOf ByteArray.empty t101 x5_1).size : Int) then (paronymref02_Lines.j2 kj5 x3_1 t101 x5_1 ((rdOf ByteArray.empty t101 x5_1).extract 0 ((wrap64 (((rdOf ByteArray.empty t101 x5_1).size : Int) - 1)) : Int).toNat)) else (none)) else (none)) = some r := by rw [if_pos rfl] at H; exact H
                  clear H
                  have H := H1
                  clear H1
                  obtain ⟨ji15, hji15⟩ : ∃ j_ : Int, (wrap64 (((rdOf ByteArray.empty t101 x5_1).size : Int) - 1)) = j_ := ⟨_, rfl⟩
                  replace H : (if 0 ≤ (ji15) then (if (ji15) ≤ ((rdOf ByteArray.empty t101 x5_1).size : Int) then (paronymref02_Lines.j2 kj5 x3_1 t101 x5_1 ((rdOf ByteArray.empty t101 x5_1).extract 0 ((ji15) : Int).toNat)) else (none)) else (none)) = some r := by first | (rw [hji15] at H; exact H) | (simp only [hji15] at H ⊢; exact H)
                  have hji15w : (IntKind.i64.wrap (((rdOf ByteArray.empty t101 x5_1).size : Int) - 1)) = ji15 := (i64_w _).trans hji15
                  by_cases c16 : 0 ≤ (ji15)
                  · rw [if_pos c16] at H
                    have c16b0 := eq_true c16
                    have c16b1 : decide (0 ≤ (ji15)) = true := decide_eq_true c16
                    clear c16
                    by_cases c17 : (ji15) ≤ ((rdOf ByteArray.empty t101 x5_1).size : Int)
                    · rw [if_pos c17] at H
                      have c17b0 := eq_true c17
                      have c17b1 : decide ((ji15) ≤ ((rdOf ByteArray.empty t101 x5_1).size : Int)) = true := decide_eq_true c17
                      clear c17
                      have H' := Aside0.mk H
                      clear H
                      go_wp2
                      go_meet
                      case rel => exact ⟨_, ((rdOf ByteArray.empty t101 x5_1).extract 0 ((ji15) : Int).toNat), (by first | rfl | (simp; done) | (simp only [← hji15] <;> (first | rfl | simp)) | (simp [*]; done)), H', ⟨by have := HK1.out; have := HJ5.out; first | omega | exact Nat.le_refl _⟩, ⟨by (with_reducible repeat (first | apply Kd.S_alloc | apply Kd.S_drewN | apply Kd.S_drew)); exact HO_3.out⟩, ⟨by (with_reducible repeat (first | apply Kd.R_alloc | apply Kd.R_drewN | apply Kd.R_drew)); exact HO_4.out⟩, ⟨by repeat (first | (with_reducible first | exact HB.out | apply below_alloc | apply pw_below_drewN | apply below_drew1) | exact HB.out)⟩⟩
                    · rw [if_neg c17] at H
                      exact absurd H (by simp)
                  · rw [if_neg c16] at H
                    exact absurd H (by simp)
                · replace c14 := Bool.eq_false_iff.mpr c14
                  subst c14
                  have H1 : (paronymref02_Lines.j2 kj5 x3_1 t101 x5_1 (rdOf ByteArray.empty t101 x5_1)) = some r := by rw [if_neg (show ¬ (false = true) by decide)] at H; exact H
                  clear H
                  have H := H1
                  clear H1
                  have H' := Aside0.mk H
                  clear H
                  go_wp2
                  go_meet
                  case rel => exact ⟨_, ((rdOf ByteArray.empty t101 x5_1)), (by first | rfl | (simp; done) | (simp [*]; done)), H', ⟨by have := HK1.out; have := HJ5.out; first | omega | exact Nat.le_refl _⟩, ⟨by (with_reducible repeat (first | apply Kd.S_alloc | apply Kd.S_drewN | apply Kd.S_drew)); exact HO_3.out⟩, ⟨by (with_reducible repeat (first | apply Kd.R_alloc | apply Kd.R_drewN | apply Kd.R_drew)); exact HO_4.out⟩, ⟨by repeat (first | (with_reducible first | exact HB.out | apply below_alloc | apply pw_below_drewN | apply below_drew1) | exact HB.out)⟩⟩
              case rest =>
                clear HC13
                try clear c1
                try clear p1
                try clear q1
                try clear hx1
                try clear p2
                try clear c4
                try clear c4b0
                try clear c5
                try clear c5b0
                try clear p6
                try clear c8
                try clear c8b0
                try clear c8b1
                try clear c10
                try clear c10b0
                try clear p10
                try clear q10
                try clear hx10
                try clear c11
                try clear c11b0
                try clear p12
                try clear q12
                try clear hx12
                try clear c14
                try clear c16
                try clear c16b0
                try clear c16b1
                try clear c17
                try clear c17b0
                try clear c17b1
                try clear hx104_0
                try clear p1
                try clear p10
                try clear p104
                try clear p12
                try clear p2
                try clear p6
                try clear q1
                try clear q10
                try clear q104
                try clear q12
                obtain ⟨kq, x6_12, rfl, HA, HJ12, HO_3, HO_4, HB⟩ := hcut
                cases kq with
                | zero => exact absurd HA.out (by simp [paronymref02_Lines.j2])
                | succ kj12 =>
                  have H := HA.out
                  clear HA
                  simp only [paronymref02_Lines.j2] at H
                  replace H := Option.bind_eq_some_iff.mp H
                  obtain ⟨t105, A180, H⟩ := H
                  replace H : (if 0 < (t105.length : Int) then ((paronymref02_Trim.f kj12 (rdOf ByteArray.empty t105 0)).bind fun t109 => (if t109.toList = ([] : List UInt8) then (paronymref02_Lines.l0 kj12 x3_1 t101 (wrap64 (x5_1 + 1))) else ((paronymref02_Cut.f kj12 (rdOf ByteArray.empty t105 0) 59).bind fun t110 => (paronymref02_Lines.l1 kj12 x3_1 t101 x5_1 t110 ([] : List ByteArray) 0)))) else (none)) = some r := H
                  have A18 := Aside0.mk A180
                  clear A180
                  by_cases c19 : 0 < (t105.length : Int)
                  · rw [if_pos c19] at H
                    have c19b0 : decide (0 < (t105.length : Int)) = true := decide_eq_true c19
                    have c19b1 : decide (0 < t105.length) = true := decide_eq_true (by omega)
                    clear c19
                    replace H := Option.bind_eq_some_iff.mp H
                    obtain ⟨t109, A200, H⟩ := H
                    replace H : (if t109.toList = ([] : List UInt8) then (paronymref02_Lines.l0 kj12 x3_1 t101 (wrap64 (x5_1 + 1))) else ((paronymref02_Cut.f kj12 (rdOf ByteArray.empty t105 0) 59).bind fun t110 => (paronymref02_Lines.l1 kj12 x3_1 t101 x5_1 t110 ([] : List ByteArray) 0))) = some r := H
                    have A20 := Aside0.mk A200
                    clear A200
                    by_cases c21 : t109.toList = ([] : List UInt8)
                    · rw [if_pos c21] at H
                      have c21b0 : (t109.toList == ([] : List UInt8)) = true := beq_iff_eq.mpr c21
                      have c21b1 : (t109.toList != ([] : List UInt8)) = false := bne_eq_false_iff_eq.mpr c21
                      clear c21
                      have H' := Aside0.mk H
                      clear H
                      go_wp2_with (first | ((with_reducible refine gate_callee (f := 18) rfl ?_); refine goesL_ (some 39) rfl rfl Tryz.func18 (by kernel_rfl) rfl #[.string x6_12, .int .u8 35] rfl (by (try simp only [List.map_toArray, List.map_cons, List.map_nil]); first | done | rfl | (simp only [List.length_drop, List.length_take]; rfl)) ?_; (with_reducible refine (paronymref02_Cut.calls kj12 x6_12 35 t105 _ A18.out).mono ?_); rintro e w22 ⟨v106, rfl, ho0, hb⟩; refine ⟨_, rfl, ?_⟩; have n0_ := Aside0.mk (Kd.S_elder' (by (with_reducible repeat (first | apply Kd.S_alloc | apply Kd.S_drewN | apply Kd.S_drew)); exact HO_3.out) (Kd.R_base ho0) hb); have n1_ := Aside0.mk (Kd.R_elder' (by (with_reducible repeat (first | apply Kd.R_alloc | apply Kd.R_drewN | apply Kd.R_drew)); exact HO_4.out) (Kd.R_base ho0) hb); have n2_ := Aside0.mk (Kd.R_lower (Kd.R_new' ho0 (Kd.R_lt (by (with_reducible repeat (first | apply Kd.R_alloc | apply Kd.R_drewN | apply Kd.R_drew)); exact HO_4.out))) (below_size (by repeat (first | (with_reducible first | exact HB.out | apply below_alloc | apply pw_below_drewN | apply below_drew1) | exact HB.out)))); have n3_ := Aside0.mk (below_step (by repeat (first | (with_reducible first | exact HB.out | apply below_alloc | apply pw_below_drewN | apply below_drew1) | exact HB.out)) hb); clear HO_3; clear HO_4; clear HB; have HO_3 := n0_; have HO_4 := n1_; have HO107 := n2_; have HB := n3_; clear n0_ n1_ n2_ n3_; (try clear hb); (try clear hb2); (try clear hk); (try clear hi); (try clear ho0); obtain ⟨Ao23, co23, eo23⟩ := Kd.R_slice HO107.out; subst eo23; have p108 : 0 ≤ (0 : Int) := (by omega); have q108 : 0 < (t105.length : Int) := of_decide_eq_true (by first | (with_reducible assumption) | assumption); obtain ⟨ad108, e108, hx108_0⟩ := Kd.at_string (Kd.R_reads' HO107.out).2.2 0 p108 q108; cases e108; have qi108 : (0 < t105.length) = True := eq_true (by omega); (try rw [show ((0 : Int)).toNat = 0 from rfl] at hx108_0); (try rw [Addr.add_zero'] at hx108_0); replace p108 := eq_true p108; replace q108 := eq_true q108) | ((with_reducible refine gate_callee (f := 76) rfl ?_); refine goesL_ (some 43) rfl rfl Tryz.func76 (by kernel_rfl) rfl #[.string (rdOf ByteArray.empty t105 0)] rfl (by (try simp only [List.map_toArray, List.map_cons, List.map_nil]); first | done | rfl | (simp only [List.length_drop, List.length_take]; rfl)) ?_; (with_reducible refine (paronymref02_Trim.calls kj12 (rdOf ByteArray.empty t105 0) t109 _ A20.out).mono ?_); rintro e w' ⟨rfl, ⟨nd, rfl⟩⟩; refine ⟨_, rfl, ?_⟩))
                      go_roundg kj12
                      case measure => have := HK1.out; have := HJ5.out; have := HJ12.out; omega
                      case rel => exact ⟨(x3_1), (wrap64 (x5_1 + 1)), (by first | rfl | (simp; done) | (simp [*]; done)), H', ⟨by have := HK1.out; have := HJ5.out; have := HJ12.out; omega⟩, ⟨by (with_reducible repeat (first | apply Kd.S_alloc | apply Kd.S_drewN | apply Kd.S_drew)); exact Kd.S_mono HO_3.out (fun _ hk => hk.1)⟩, ⟨by (with_reducible repeat (first | apply Kd.R_alloc | apply Kd.R_drewN | apply Kd.R_drew)); exact Kd.R_mono HO_4.out (fun _ hk => trivial)⟩, ⟨by repeat (first | (with_reducible first | exact HB.out | apply below_alloc | apply pw_below_drewN | apply below_drew1) | exact HB.out)⟩⟩
                    · rw [if_neg c21] at H
                      have c21b0 : (t109.toList == ([] : List UInt8)) = false := beq_eq_false_iff_ne.mpr c21
                      have c21b1 : (t109.toList != ([] : List UInt8)) = true := bne_iff_ne.mpr c21
                      replace H := Option.bind_eq_some_iff.mp H
                      obtain ⟨t110, A240, H⟩ := H
                      replace H : (paronymref02_Lines.l1 kj12 x3_1 t101 x5_1 t110 ([] : List ByteArray) 0) = some r := H
                      have A24 := Aside0.mk A240
                      clear A240
                      have H' := Aside0.mk H
                      clear H
                      go_wp2_with (first | ((with_reducible refine gate_callee (f := 18) rfl ?_); refine goesL_ (some 39) rfl rfl Tryz.func18 (by kernel_rfl) rfl #[.string x6_12, .int .u8 35] rfl (by (try simp only [List.map_toArray, List.map_cons, List.map_nil]); first | done | rfl | (simp only [List.length_drop, List.length_take]; rfl)) ?_; (with_reducible refine (paronymref02_Cut.calls kj12 x6_12 35 t105 _ A18.out).mono ?_); rintro e w25 ⟨v106, rfl, ho0, hb⟩; refine ⟨_, rfl, ?_⟩; have n0_ := Aside0.mk (Kd.S_elder' (by (with_reducible repeat (first | apply Kd.S_alloc | apply Kd.S_drewN | apply Kd.S_drew)); exact HO_3.out) (Kd.R_base ho0) hb); have n1_ := Aside0.mk (Kd.R_elder' (by (with_reducible repeat (first | apply Kd.R_alloc | apply Kd.R_drewN | apply Kd.R_drew)); exact HO_4.out) (Kd.R_base ho0) hb); have n2_ := Aside0.mk (Kd.R_lower (Kd.R_new' ho0 (Kd.R_lt (by (with_reducible repeat (first | apply Kd.R_alloc | apply Kd.R_drewN | apply Kd.R_drew)); exact HO_4.out))) (below_size (by repeat (first | (with_reducible first | exact HB.out | apply below_alloc | apply pw_below_drewN | apply below_drew1) | exact HB.out)))); have n3_ := Aside0.mk (below_step (by repeat (first | (with_reducible first | exact HB.out | apply below_alloc | apply pw_below_drewN | apply below_drew1) | exact HB.out)) hb); clear HO_3; clear HO_4; clear HB; have HO_3 := n0_; have HO_4 := n1_; have HO107 := n2_; have HB := n3_; clear n0_ n1_ n2_ n3_; (try clear hb); (try clear hb2); (try clear hk); (try clear hi); (try clear ho0); obtain ⟨Ao26, co26, eo26⟩ := Kd.R_slice HO107.out; subst eo26; have p108 : 0 ≤ (0 : Int) := (by omega); have q108 : 0 < (t105.length : Int) := of_decide_eq_true (by first | (with_reducible assumption) | assumption); obtain ⟨ad108, e108, hx108_0⟩ := Kd.at_string (Kd.R_reads' HO107.out).2.2 0 p108 q108; cases e108; have qi108 : (0 < t105.length) = True := eq_true (by omega); (try rw [show ((0 : Int)).toNat = 0 from rfl] at hx108_0); (try rw [Addr.add_zero'] at hx108_0); replace p108 := eq_true p108; replace q108 := eq_true q108) | ((with_reducible refine gate_callee (f := 76) rfl ?_); refine goesL_ (some 43) rfl rfl Tryz.func76 (by kernel_rfl) rfl #[.string (rdOf ByteArray.empty t105 0)] rfl (by (try simp only [List.map_toArray, List.map_cons, List.map_nil]); first | done | rfl | (simp only [List.length_drop, List.length_take]; rfl)) ?_; (with_reducible refine (paronymref02_Trim.calls kj12 (rdOf ByteArray.empty t105 0) t109 _ A20.out).mono ?_); rintro e w' ⟨rfl, ⟨nd, rfl⟩⟩; refine ⟨_, rfl, ?_⟩) | ((with_reducible refine gate_callee (f := 18) rfl ?_); refine goesL_ (some 46) rfl rfl Tryz.func18 (by kernel_rfl) rfl #[.string (rdOf ByteArray.empty t105 0), .int .u8 59] rfl (by (try simp only [List.map_toArray, List.map_cons, List.map_nil]); first | done | rfl | (simp only [List.length_drop, List.length_take]; rfl)) ?_; (with_reducible refine (paronymref02_Cut.calls kj12 (rdOf ByteArray.empty t105 0) 59 t110 _ A24.out).mono ?_); rintro e w27 ⟨v111, rfl, ho0, hb⟩; refine ⟨_, rfl, ?_⟩; have n0_ := Aside0.mk (Kd.S_elder' (by (with_reducible repeat (first | apply Kd.S_alloc | apply Kd.S_drewN | apply Kd.S_drew)); exact HO_3.out) (Kd.R_base ho0) hb); have n1_ := Aside0.mk (Kd.R_elder' (by (with_reducible repeat (first | apply Kd.R_alloc | apply Kd.R_drewN | apply Kd.R_drew)); exact HO_4.out) (Kd.R_base ho0) hb); have n2_ := Aside0.mk (Kd.R_elder' (by (with_reducible repeat (first | apply Kd.R_alloc | apply Kd.R_drewN | apply Kd.R_drew)); exact HO107.out) (Kd.R_base ho0) hb); have n3_ := Aside0.mk (Kd.R_lower (Kd.R_new' (Kd.R_new' ho0 (Kd.R_lt (by (with_reducible repeat (first | apply Kd.R_alloc | apply Kd.R_drewN | apply Kd.R_drew)); exact HO_4.out))) (Kd.R_lt (by (with_reducible repeat (first | apply Kd.R_alloc | apply Kd.R_drewN | apply Kd.R_drew)); exact HO107.out))) (below_size (by repeat (first | (with_reducible first | exact HB.out | apply below_alloc | apply pw_below_drewN | apply below_drew1) | exact HB.out)))); have n4_ := Aside0.mk (below_step (by repeat (first | (with_reducible first | exact HB.out | apply below_alloc | apply pw_below_drewN | apply below_drew1) | exact HB.out)) hb); clear HO_3; clear HO_4; clear HO107; clear HB; have HO_3 := n0_; have HO_4 := n1_; have HO107 := n2_; have HO112 := n3_; have HB := n4_; clear n0_ n1_ n2_ n3_ n4_; (try clear hb); (try clear hb2); (try clear hk); (try clear hi); (try clear ho0)))
                      go_loopg [8, 9] kj12 (fun kq v8 v9 w' => ∃ (x8_4 : List ByteArray) (x9_4 : Int), v9 = .int .i64 x9_4 ∧ Aside0 (paronymref02_Lines.l1 kq x3_1 t101 x5_1 t110 x8_4 x9_4 = some r) ∧ Aside0 (kq ≤ kj12) ∧ Aside0 (Kd.S k90 90 w' w.heap.size (fun k_ => some k_ ≠ ((.slice (some ad104) t101.length co7) : Value).ownBlock ∧ some k_ ≠ (v111 : Value).ownBlock ∧ some k_ ≠ (v8 : Value).ownBlock) u3 x3_1) ∧ Aside0 (Kd.R Kd.string 9 w' w.heap.size (fun k_ => some k_ ≠ (v111 : Value).ownBlock ∧ some k_ ≠ (v8 : Value).ownBlock) (.slice (some ad104) t101.length co7) t101) ∧ Aside0 (Kd.R Kd.string 9 w' w.heap.size (fun k_ => some k_ ≠ ((.slice (some ad104) t101.length co7) : Value).ownBlock ∧ some k_ ≠ (v8 : Value).ownBlock) v111 t110) ∧ Aside0 (Kd.R Kd.string 9 w' w.heap.size (fun k_ => some k_ ≠ ((.slice (some ad104) t101.length co7) : Value).ownBlock ∧ some k_ ≠ (v111 : Value).ownBlock) v8 x8_4) ∧ Aside0 (Below w.heap.size w w'))
                      case atStart => exact ⟨(([] : List ByteArray)), (0), (by first | rfl | (simp; done) | (simp [*]; done)), H', ⟨Nat.le_refl _⟩, ⟨by (with_reducible repeat (first | apply Kd.S_alloc | apply Kd.S_drewN | apply Kd.S_drew)); exact Kd.S_mono HO_3.out (fun _ hk => ⟨hk.1.1, ⟨hk.2, (by simp [Value.ownBlock])⟩⟩)⟩, ⟨by (with_reducible repeat (first | apply Kd.R_alloc | apply Kd.R_drewN | apply Kd.R_drew)); exact Kd.R_mono HO_4.out (fun _ hk => ⟨hk.2, (by simp [Value.ownBlock])⟩)⟩, ⟨by (with_reducible repeat (first | apply Kd.R_alloc | apply Kd.R_drewN | apply Kd.R_drew)); exact Kd.R_mono HO112.out (fun _ hk => ⟨hk.1.2, (by simp [Value.ownBlock])⟩)⟩, ⟨by first | exact Kd.R_nil _ _ _ _ _ | exact Kd.N_nil _ _ _ _ _ | exact Kd.V_nil _ _ _ _ _ | exact Kd.Q_nil _ _ _ _ _ | exact Kd.S_nil _ _ _ _ _⟩, ⟨by repeat (first | (with_reducible first | exact HB.out | apply below_alloc | apply pw_below_drewN | apply below_drew1) | exact HB.out)⟩⟩
                      case round =>
                        clear H'
                        try clear c1
                        try clear p1
                        try clear q1
                        try clear hx1
                        try clear qi1
                        try clear c2
                        try clear p2
                        try clear c4
                        try clear c4b0
                        try clear c5
                        try clear c5b0
                        try clear p6
                        try clear c7
                        try clear c8
                        try clear c8b0
                        try clear c8b1
                        try clear c10
                        try clear c10b0
                        try clear p10
                        try clear q10
                        try clear hx10
                        try clear qi10
                        try clear c11
                        try clear c11b0
                        try clear p12
                        try clear q12
                        try clear hx12
                        try clear c14
                        try clear c16
                        try clear c16b0
                        try clear c16b1
                        try clear c17
                        try clear c17b0
                        try clear c17b1
                        try clear c18
                        try clear c19
                        try clear c19b0
                        try clear c19b1
                        try clear c21
                        try clear c21b0
                        try clear c21b1
                        try clear hx104_0
                        try clear hx108_0
                        try clear p1
                        try clear p10
                        try clear p104
                        try clear p108
                        try clear p12
                        try clear p2
                        try clear p6
                        try clear q1
                        try clear q10
                        try clear q104
                        try clear q108
                        try clear q12
                        obtain ⟨x8_4, x9_4, rfl, HA, HK4, HO_3, HO_4, HO_7, HO_8, HB⟩ := hrel
                        cases gk with
                        | zero => exact absurd HA.out (by simp [paronymref02_Lines.l1])
                        | succ k4 =>
                          have H := HA.out
                          clear HA
                          simp only [paronymref02_Lines.l1] at H
                          by_cases c28 : x9_4 < (t110.length : Int)
                          · rw [if_pos c28] at H
                            have c28b0 : decide (x9_4 < (t110.length : Int)) = true := decide_eq_true c28
                            clear c28
                            by_cases c29 : 0 ≤ x9_4
                            · rw [if_pos c29] at H
                              have c29b0 : decide (0 ≤ x9_4) = true := decide_eq_true c29
                              clear c29
                              replace H := Option.bind_eq_some_iff.mp H
                              obtain ⟨t114, A300, H⟩ := H
                              replace H : (if x8_4.length < 8796093022208 then (paronymref02_Lines.l1 k4 x3_1 t101 x5_1 t110 (x8_4 ++ [t114]) (wrap64 (x9_4 + 1))) else (none)) = some r := H
                              have A30 := Aside0.mk A300
                              clear A300
                              by_cases c31 : x8_4.length < 8796093022208
                              · rw [if_pos c31] at H
                                have LMc31 := Aside0.mk c31
                                clear c31
                                obtain ⟨y115, hy115⟩ : ∃ y_ : List ByteArray, y_ = (x8_4 ++ [t114]) := ⟨_, rfl⟩
                                replace H : (paronymref02_Lines.l1 k4 x3_1 t101 x5_1 t110 y115 (wrap64 (x9_4 + 1))) = some r := by first | (rw [hy115]; with_reducible exact H) | (have H2_ := (Option.bind_some _ _).symm.trans H; rw [hy115]; with_reducible exact H2_) | (have H2_ := (Option.bind_some _ _).symm.trans H; with_reducible exact H2_) | with_reducible exact H | (rw [hy115]; exact H) | exact H
                                have Ny115 := Aside0.mk hy115
                                clear hy115
                                have H' := Aside0.mk H
                                clear H
                                obtain ⟨Ao32, co32, eo32⟩ := Kd.R_slice HO_7.out
                                subst eo32
                                have p113 : 0 ≤ (x9_4 : Int) := of_decide_eq_true (by first | (with_reducible assumption) | assumption)
                                have q113 : x9_4 < (t110.length : Int) := of_decide_eq_true (by first | (with_reducible assumption) | assumption)
                                obtain ⟨ad113, e113, hx113_0⟩ := Kd.at_string (Kd.R_reads' HO_7.out).2.2 x9_4 p113 q113
                                cases e113
                                replace p113 := eq_true p113
                                replace q113 := eq_true q113
                                go_wp2_with (first | ((with_reducible refine gate_callee (f := 76) rfl ?_); refine goesL_ (some 58) rfl rfl Tryz.func76 (by kernel_rfl) rfl #[.string (rdOf ByteArray.empty t110 x9_4)] rfl (by (try simp only [List.map_toArray, List.map_cons, List.map_nil]); first | done | rfl | (simp only [List.length_drop, List.length_take]; rfl)) ?_; (with_reducible refine (paronymref02_Trim.calls k4 (rdOf ByteArray.empty t110 x9_4) t114 _ A30.out).mono ?_); rintro e w' ⟨rfl, ⟨nd, rfl⟩⟩; refine ⟨_, rfl, ?_⟩) | ((with_reducible refine gate_builtin (b := .append) (xs := #[.tmp 53, .tmp 59]) rfl ?_); (try (refine gate_guard (by rfl) ?_; dsimp only)); at_builtin; refine Kd.R_append Kd.string (w0 := w) w.heap.size rfl (.tmp 53) (.tmp 59) 23 9 (.string ⟨#[]⟩) 16 rfl Tryz.underlying23 info9 rfl (by decide) (by omega) u8 x8_4 t114 [.string t114] (fun k_ => some k_ ≠ (.slice (some ad104) t101.length co7 : Value).ownBlock ∧ some k_ ≠ (.slice (some ad113) t110.length co32 : Value).ownBlock) (fun _ => False) rfl rfl ?aP (fun _ hk => hk.elim) ?aF ?aO ?aB ?aS ?aL ?_; (case aP => exact rfl); (case aB => exact (by repeat (first | (with_reducible first | exact HB.out | apply below_alloc | apply pw_below_drewN | apply below_drew1) | exact HB.out))); (case aF => exact (fun k_ hk => ⟨Kd.fresh' (Kd.R_lt (by (with_reducible repeat (first | apply Kd.R_alloc | apply Kd.R_drewN | apply Kd.R_drew)); exact HO_4.out)) k_ hk, Kd.fresh' (Kd.R_lt (by (with_reducible repeat (first | apply Kd.R_alloc | apply Kd.R_drewN | apply Kd.R_drew)); exact HO_7.out)) k_ hk⟩)); (case aO => exact (by (with_reducible repeat (first | apply Kd.R_alloc | apply Kd.R_drewN | apply Kd.R_drew)); exact HO_8.out)); (case aS => exact (below_size (by repeat (first | (with_reducible first | exact HB.out | apply below_alloc | apply pw_below_drewN | apply below_drew1) | exact HB.out)))); (case aL => have := LMc31.out; omega); intro v116 w33 ho hb hg hat; rw [← Ny115.out] at ho; have n0_ := Aside0.mk (Kd.S_after (ok := (fun k_ => some k_ ≠ (.slice (some ad104) t101.length co7 : Value).ownBlock ∧ some k_ ≠ (.slice (some ad113) t110.length co32 : Value).ownBlock)) (by (with_reducible repeat (first | apply Kd.S_alloc | apply Kd.S_drewN | apply Kd.S_drew)); exact Kd.S_mono HO_3.out (fun _ hk => ⟨⟨hk.1, hk.2.1⟩, hk.2.2⟩)) hg hat); have n1_ := Aside0.mk (Kd.R_after (ok := (fun k_ => some k_ ≠ (.slice (some ad113) t110.length co32 : Value).ownBlock)) (by (with_reducible repeat (first | apply Kd.R_alloc | apply Kd.R_drewN | apply Kd.R_drew)); exact HO_4.out) hg hat); have n2_ := Aside0.mk (Kd.R_after (ok := (fun k_ => some k_ ≠ (.slice (some ad104) t101.length co7 : Value).ownBlock)) (by (with_reducible repeat (first | apply Kd.R_alloc | apply Kd.R_drewN | apply Kd.R_drew)); exact HO_7.out) hg hat); have n3_ := Aside0.mk (hb); have n4_ := Aside0.mk (ho); clear HO_3; clear HO_4; clear HO_7; clear HB; clear HO_8; have HO_3 := n0_; have HO_4 := n1_; have HO_7 := n2_; have HB := n3_; have HO117 := n4_; clear n0_ n1_ n2_ n3_ n4_; clear ho hb hg hat))
                                go_roundg k4
                                case measure => have := HK1.out; have := HJ5.out; have := HJ12.out; have := HK4.out; omega
                                case rel => exact ⟨(y115), (wrap64 (x9_4 + 1)), (by first | rfl | (simp; done) | (simp [*]; done)), H', ⟨by have := HK1.out; have := HJ5.out; have := HJ12.out; have := HK4.out; omega⟩, ⟨by (with_reducible repeat (first | apply Kd.S_alloc | apply Kd.S_drewN | apply Kd.S_drew)); exact Kd.S_mono HO_3.out (fun _ hk => ⟨hk.1.1, ⟨hk.1.2, hk.2⟩⟩)⟩, ⟨by (with_reducible repeat (first | apply Kd.R_alloc | apply Kd.R_drewN | apply Kd.R_drew)); exact HO_4.out⟩, ⟨by (with_reducible repeat (first | apply Kd.R_alloc | apply Kd.R_drewN | apply Kd.R_drew)); exact HO_7.out⟩, ⟨by (with_reducible repeat (first | apply Kd.R_alloc | apply Kd.R_drewN | apply Kd.R_drew)); exact HO117.out⟩, ⟨by repeat (first | (with_reducible first | exact HB.out | apply below_alloc | apply pw_below_drewN | apply below_drew1) | exact HB.out)⟩⟩
                              · rw [if_neg c31] at H
                                exact absurd H (by simp)
                            · rw [if_neg c29] at H
                              exact absurd H (by simp)
                          · rw [if_neg c28] at H
                            have c28b0 : decide (x9_4 < (t110.length : Int)) = false := decide_eq_false c28
                            clear c28
                            by_cases c34 : x3_1.length < 4398046511104
                            · rw [if_pos c34] at H
                              have LMc34 := Aside0.mk c34
                              clear c34
                              obtain ⟨y118, hy118⟩ : ∃ y_ : List (S90), y_ = (x3_1 ++ [(⟨wrap64 (x5_1 + 1), x8_4⟩ : S90)]) := ⟨_, rfl⟩
                              replace H : (paronymref02_Lines.l0 k4 y118 t101 (wrap64 (x5_1 + 1))) = some r := by first | (rw [hy118]; with_reducible exact H) | (have H2_ := (Option.bind_some _ _).symm.trans H; rw [hy118]; with_reducible exact H2_) | (have H2_ := (Option.bind_some _ _).symm.trans H; with_reducible exact H2_) | with_reducible exact H | (rw [hy118]; exact H) | exact H
                              have Ny118 := Aside0.mk hy118
                              clear hy118
                              have H' := Aside0.mk H
                              clear H
                              obtain ⟨Ao35, co35, eo35⟩ := Kd.R_slice HO_7.out
                              subst eo35
                              obtain ⟨Ao36, co36, eo36⟩ := Kd.R_slice HO_8.out
                              subst eo36
                              go_wp2_with (first | ((with_reducible refine gate_builtin (b := .append) (xs := #[.tmp 61, .tmp 66]) rfl ?_); (try (refine gate_guard (by rfl) ?_; dsimp only)); at_builtin; refine Kd.S_append k90 (w0 := w) w.heap.size rfl (.tmp 61) (.tmp 66) 88 90 (.agg #[(.int .i64 0), (.slice none 0 0)]) 32 rfl Tryz.underlying88 info90 rfl (by decide) (by omega) u3 x3_1 (⟨wrap64 (x5_1 + 1), x8_4⟩ : S90) [.int .i64 (wrap64 (x5_1 + 1)), .slice Ao36 x8_4.length co36] (fun k_ => some k_ ≠ (.slice (some ad104) t101.length co7 : Value).ownBlock ∧ some k_ ≠ (.slice Ao35 t110.length co35 : Value).ownBlock) (fun k_ => some k_ = (.slice Ao36 x8_4.length co36 : Value).ownBlock) rfl rfl ?aP (fun k_ hk_ => ((Kd.R_mono (ok' := fun k_ => ((fun k_ => some k_ ≠ (.slice (some ad104) t101.length co7 : Value).ownBlock ∧ some k_ ≠ (.slice Ao35 t110.length co35 : Value).ownBlock)) k_ ∧ some k_ ≠ (u3 : Value).ownBlock) (Kd.R_apart' (HO_8.out) (Kd.S_typed HO_3.out) (by decide)) (fun k_ hk => ⟨⟨hk.1.1, hk.1.2⟩, hk.2⟩))).1 k_ hk_.symm) ?aF ?aO ?aB ?aS ?aL ?_; (case aP => exact k90_mkM _ _ _ (⟨wrap64 (x5_1 + 1), x8_4⟩ : S90) (Kd.R_mono (Kd.R_tight rfl (Kd.R_mono (ok' := fun k_ => ((fun k_ => some k_ ≠ (.slice (some ad104) t101.length co7 : Value).ownBlock ∧ some k_ ≠ (.slice Ao35 t110.length co35 : Value).ownBlock)) k_ ∧ some k_ ≠ (u3 : Value).ownBlock) (Kd.R_apart' (HO_8.out) (Kd.S_typed HO_3.out) (by decide)) (fun k_ hk => ⟨⟨hk.1.1, hk.1.2⟩, hk.2⟩))) (fun _ h_ => h_))); (case aB => exact (by repeat (first | (with_reducible first | exact HB.out | apply below_alloc | apply pw_below_drewN | apply below_drew1) | exact HB.out))); (case aF => exact (fun k_ hk => ⟨Kd.fresh' (Kd.R_lt (by (with_reducible repeat (first | apply Kd.R_alloc | apply Kd.R_drewN | apply Kd.R_drew)); exact HO_4.out)) k_ hk, Kd.fresh' (Kd.R_lt (by (with_reducible repeat (first | apply Kd.R_alloc | apply Kd.R_drewN | apply Kd.R_drew)); exact HO_7.out)) k_ hk⟩)); (case aO => exact (by (with_reducible repeat (first | apply Kd.S_alloc | apply Kd.S_drewN | apply Kd.S_drew)); exact Kd.S_mono HO_3.out (fun k_ hk => ⟨⟨hk.1, hk.2.1⟩, fun e_ => hk.2.2 e_⟩))); (case aS => exact (below_size (by repeat (first | (with_reducible first | exact HB.out | apply below_alloc | apply pw_below_drewN | apply below_drew1) | exact HB.out)))); (case aL => have := LMc34.out; omega); intro v119 w37 ho hb hg hat; rw [← Ny118.out] at ho; have n0_ := Aside0.mk (Kd.R_over' (by (with_reducible repeat (first | apply Kd.R_alloc | apply Kd.R_drewN | apply Kd.R_drew)); exact HO_4.out) (Kd.S_typed (by (with_reducible repeat (first | apply Kd.S_alloc | apply Kd.S_drewN | apply Kd.S_drew)); exact HO_3.out)) (by decide) hg); have n1_ := Aside0.mk (Kd.R_over' (by (with_reducible repeat (first | apply Kd.R_alloc | apply Kd.R_drewN | apply Kd.R_drew)); exact HO_7.out) (Kd.S_typed (by (with_reducible repeat (first | apply Kd.S_alloc | apply Kd.S_drewN | apply Kd.S_drew)); exact HO_3.out)) (by decide) hg); have n2_ := Aside0.mk (hb); have n3_ := Aside0.mk (ho); clear HO_4; clear HO_7; clear HB; clear HO_3; clear HO_8; have HO_4 := n0_; have HO_7 := n1_; have HB := n2_; have HO120 := n3_; clear n0_ n1_ n2_ n3_; clear ho hb hg hat))
                              go_roundg k4
                              case measure => have := HK1.out; have := HJ5.out; have := HJ12.out; have := HK4.out; omega
                              case rel => exact ⟨(y118), (wrap64 (x5_1 + 1)), (by first | rfl | (simp; done) | (simp [*]; done)), H', ⟨by have := HK1.out; have := HJ5.out; have := HJ12.out; have := HK4.out; omega⟩, ⟨by (with_reducible repeat (first | apply Kd.S_alloc | apply Kd.S_drewN | apply Kd.S_drew)); exact Kd.S_mono HO120.out (fun _ hk => hk.1)⟩, ⟨by (with_reducible repeat (first | apply Kd.R_alloc | apply Kd.R_drewN | apply Kd.R_drew)); exact Kd.R_mono HO_4.out (fun _ hk => trivial)⟩, ⟨by repeat (first | (with_reducible first | exact HB.out | apply below_alloc | apply pw_below_drewN | apply below_drew1) | exact HB.out)⟩⟩
                            · rw [if_neg c34] at H
                              exact absurd H (by simp)
                  · rw [if_neg c19] at H
                    exact absurd H (by simp)
        · rw [if_neg c5] at H
          exact absurd H (by simp)
      · rw [if_neg c4] at H
        have c4b0 : decide (x5_1 < (t101.length : Int)) = false := decide_eq_false c4
        clear c4
        obtain rfl := Option.some.inj H
        obtain ⟨Ao38, co38, eo38⟩ := Kd.R_slice HO_4.out
        subst eo38
        go_wp2
        go_ret
        exact ⟨_, by first | rfl | (simp [errW_none, errW_some] <;> rfl) | (simp [*, errW_none, errW_some] <;> rfl), by (with_reducible repeat (first | apply Kd.S_alloc | apply Kd.S_drewN | apply Kd.S_drew)); exact Kd.S_mono HO_3.out (fun _ hk => trivial), by repeat (first | (with_reducible first | exact HB.out | apply below_alloc | apply pw_below_drewN | apply below_drew1) | exact HB.out)⟩
end Go.Proofs.YtbpdcbibooiimaaGreatDoor.Q
/- Layer 2's reference on lists: Trim, Lines. -/
namespace Go.Proofs.YtbpdcbibooiimaaGreatDoor.K
open Go.RowKit Go.Proofs.YtbpdcbibooiimaaGreatDoorW.PrintWords Go.Proofs.YtbpdcbibooiimaaGreatDoorW.PrintMore Go.Proofs.YtbpdcbibooiimaaGreatDoor.Q
theorem str_front {x : Int} {l : List Int} : (strOfNums (x :: l)).extract 1 (strOfNums (x :: l)).size = strOfNums l := by
  rw [extract_str, size_str, List.take_length]; rfl
theorem str_init {l : List Int} {x : Int} : (strOfNums (l ++ [x])).extract 0 l.length = strOfNums l := by
  rw [extract_str, List.drop_zero, List.take_left]
theorem trimR_ev : ∀ (n : Nat) (L : List Int), L.length = n → Oct L → L.length ≤ 1000000 → Ev (fun k => paronymref02_Trim.l1 k (strOfNums L)) (strOfNums (trimR L)) := by
  intro n
  induction n with
  | zero =>
    intro L hn ho hl
    obtain rfl := List.length_eq_zero_iff.1 hn
    exact Ev.step (fun k => rfl) (Ev.neg (by rw [size_str]; simp) (Ev.ret rfl))
  | succ n ih =>
    intro L hn ho hl
    obtain ⟨l, x, rfl⟩ : ∃ l x, L = l ++ [x] := ⟨L.dropLast, L.getLast (fun e => by rw [e] at hn; simp at hn), (List.dropLast_concat_getLast _).symm⟩
    have hl1 : l.length = n := by simpa using hn
    have hz : (strOfNums (l ++ [x])).size = n + 1 := by rw [size_str, hn]
    have hw : wrap64 (((strOfNums (l ++ [x])).size : Int) - 1) = (n : Int) := by rw [hz, w64 (by omega) (by omega)]; omega
    have hb : bt (strOfNums (l ++ [x])) (n : Int) = x := by
      rw [bt_str ho (by omega) (by simp; omega), rd_nat _ n (by simp; omega)]
      simp [← hl1]
    have next := ih l hl1 (fun y hy => ho y (by simp [hy])) (by omega)
    rw [trimR_snoc]
    refine Ev.step (fun k => rfl) ?_
    by_cases h1 : x = 32
    · rw [if_pos (by simp [blk, h1])]
      refine Ev.pos (by omega) (Ev.pos (by omega) (Ev.pos (by omega) (Ev.pos (by rw [hw, hb]; exact h1) (Ev.pos (by omega) ?_))))
      rw [hw, Int.toNat_natCast, ← hl1, str_init]
      exact next
    · by_cases h2 : x = 9
      · rw [if_pos (by simp [blk, h2])]
        refine Ev.pos (by omega) (Ev.pos (by omega) (Ev.pos (by omega) (Ev.neg (by rw [hw, hb]; exact h1) (Ev.pos (by rw [hw, hb]; exact h2) (Ev.pos (by omega) ?_)))))
        rw [hw, Int.toNat_natCast, ← hl1, str_init]
        exact next
      · rw [if_neg (by simp [blk, h1, h2])]
        exact Ev.pos (by omega) (Ev.pos (by omega) (Ev.pos (by omega) (Ev.neg (by rw [hw, hb]; exact h1) (Ev.neg (by rw [hw, hb]; exact h2) (Ev.ret rfl)))))
theorem trim0_ev : ∀ (L : List Int), Oct L → L.length ≤ 1000000 → Ev (fun k => paronymref02_Trim.l0 k (strOfNums L)) (strOfNums (trimL L))
  | [], ho, hl => Ev.step (fun k => rfl) (Ev.neg (by rw [size_str]; simp) (Ev.step (fun k => rfl) (trimR_ev 0 [] rfl ho hl)))
  | x :: L, ho, hl => by
    have hz : (strOfNums (x :: L)).size = L.length + 1 := size_str _
    have hb : bt (strOfNums (x :: L)) 0 = x := by rw [bt_str ho (by omega) (by simp)]; rfl
    have hl' : L.length ≤ 1000000 := by simp at hl; omega
    have next := trim0_ev L (fun y hy => ho y (by simp [hy])) hl'
    unfold trimL
    rw [List.dropWhile_cons]
    by_cases h1 : x = 32
    · rw [if_pos (by simp [blk, h1])]
      refine Ev.step (fun k => rfl) (Ev.pos (by omega) (Ev.pos (by omega) (Ev.pos (by rw [hb]; exact h1) (Ev.pos (by omega) ?_))))
      rw [str_front]
      exact next
    · by_cases h2 : x = 9
      · rw [if_pos (by simp [blk, h2])]
        refine Ev.step (fun k => rfl) (Ev.pos (by omega) (Ev.pos (by omega) (Ev.neg (by rw [hb]; exact h1) (Ev.pos (by rw [hb]; exact h2) (Ev.pos (by omega) ?_)))))
        rw [str_front]
        exact next
      · rw [if_neg (by simp [blk, h1, h2])]
        exact Ev.step (fun k => rfl) (Ev.pos (by omega) (Ev.pos (by omega) (Ev.neg (by rw [hb]; exact h1) (Ev.neg (by rw [hb]; exact h2) (Ev.step (fun k => rfl) (trimR_ev _ _ rfl ho hl))))))
theorem trim_ev (L : List Int) (ho : Oct L) (hl : L.length ≤ 1000000) : Ev (fun k => paronymref02_Trim.f k (strOfNums L)) (strOfNums (trimL L)) := trim0_ev L ho hl
end Go.Proofs.YtbpdcbibooiimaaGreatDoor.K
/- Layer 2's reference on lists: Lines. -/
namespace Go.Proofs.YtbpdcbibooiimaaGreatDoor.K
open Go.RowKit Go.Proofs.YtbpdcbibooiimaaGreatDoorW.PrintWords Go.Proofs.YtbpdcbibooiimaaGreatDoorW.PrintMore Go.Proofs.YtbpdcbibooiimaaGreatDoor.Q
def fieldsL (l : List Int) : Option (List (List Int)) := if trimL (bodyL l) = [] then none else some ((spl 59 (bodyL l)).map trimL)
def linesS : Nat → List (List Int) → List S90
  | _, [] => []
  | i, l :: r => match fieldsL (stripCR l) with
    | none => linesS (i + 1) r
    | some f => ⟨(i : Int) + 1, f.map strOfNums⟩ :: linesS (i + 1) r
theorem fields_loop {Y : List (List Int)} (ho : ∀ l ∈ Y, Oct l) (hl : ∀ l ∈ Y, l.length ≤ 1000000) (hY : Y.length ≤ 1000000) (x3 : List S90) (x4 : List ByteArray) (i : Int) {r : List S90} (h3 : x3.length ≤ 1000000)
    (next : Ev (fun k => paronymref02_Lines.l0 k (x3 ++ [⟨wrap64 (i + 1), (Y.map trimL).map strOfNums⟩]) x4 (wrap64 (i + 1))) r) : ∀ (d j : Nat), Y.length - j = d → j ≤ Y.length → Ev (fun k => paronymref02_Lines.l1 k x3 x4 i (Y.map strOfNums) (((Y.take j).map trimL).map strOfNums) (j : Int)) r := by
  intro d
  induction d with
  | zero =>
    intro j h1 h2
    rw [List.take_of_length_le (by omega)]
    exact Ev.step (fun k => rfl) (Ev.neg (by rw [List.length_map]; omega) (Ev.pos (by omega) next))
  | succ d ih =>
    intro j h1 h2
    have hj : j < Y.length := by omega
    have nx := ih (j + 1) (by omega) (by omega)
    refine Ev.step (fun k => rfl) (Ev.pos (by rw [List.length_map]; omega) (Ev.pos (by omega) (Ev.bind (a := strOfNums (trimL Y[j])) ?_ (Ev.pos (by simp; omega) ?_))))
    · rw [rdOf_map2 Y j hj]
      exact trim_ev _ (ho _ (List.getElem_mem hj)) (hl _ (List.getElem_mem hj))
    · rw [w64 (by omega) (by omega)]
      rw [← List.take_append_getElem hj, List.map_append, List.map_append] at nx
      exact nx
theorem lines_loop {X : List (List Int)} (ho : ∀ l ∈ X, Oct l) (hl : ∀ l ∈ X, l.length ≤ 100000) (hX : X.length ≤ 100001) : ∀ (d i : Nat) (acc : List S90), X.length - i = d → i ≤ X.length → acc.length ≤ i →
    Ev (fun k => paronymref02_Lines.l0 k acc (X.map strOfNums) (i : Int)) (acc ++ linesS i (X.drop i)) := by
  intro d
  induction d with
  | zero =>
    intro i acc h1 h2 h3
    rw [List.drop_eq_nil_iff.2 (by omega)]
    exact Ev.step (fun k => rfl) (Ev.neg (by rw [List.length_map]; omega) (Ev.ret (by simp [linesS])))
  | succ d ih =>
    intro i acc h1 h2 h3
    have hi : i < X.length := by omega
    obtain ⟨s, hs⟩ : ∃ s, s = X[i] := ⟨_, rfl⟩
    have hos : Oct s := hs ▸ ho _ (List.getElem_mem hi)
    have hls : s.length ≤ 100000 := hs ▸ hl _ (List.getElem_mem hi)
    have hrd := rdOf_map2 X i hi
    rw [← hs] at hrd
    rw [List.drop_eq_getElem_cons hi, ← hs]
    have hsz := size_str s
    have h2 : ∀ t, Oct t → t.length ≤ 100000 → t = stripCR s → Ev (fun k => paronymref02_Lines.j2 k acc (X.map strOfNums) (i : Int) (strOfNums t)) (acc ++ linesS i (s :: X.drop (i + 1))) := fun t hot hlt e => by
      have hlen := List.length_pos_iff.2 (spl_ne 35 t)
      have hbm := body_mem t
      have hob := oct_spl hot hbm
      have hlb := len_spl hbm
      have hr0 : rdOf ByteArray.empty ((spl 35 t).map strOfNums) 0 = strOfNums (bodyL t) := by
        obtain ⟨r, hr⟩ := body_cons t
        rw [hr]; rfl
      refine Ev.step (fun k => rfl) (Ev.bind (cut_ev hot (by omega) 35) (Ev.pos (by rw [List.length_map]; omega) (Ev.bind (a := strOfNums (trimL (bodyL t))) ?_ ?_)))
      · rw [hr0]; exact trim_ev _ hob (by omega)
      · by_cases hn : trimL (bodyL t) = []
        · refine Ev.pos (str_nilU.2 hn) ?_
          rw [w64 (by omega) (by omega)]
          have nx := ih (i + 1) acc (by omega) (by omega) (by omega)
          have : fieldsL (stripCR s) = none := by rw [← e]; unfold fieldsL; rw [if_pos hn]
          unfold linesS
          rw [this]
          exact nx
        · refine Ev.neg (fun h => hn (str_nilU.1 h)) (Ev.bind (a := (spl 59 (bodyL t)).map strOfNums) ?_ ?_)
          · rw [hr0]; exact cut_ev hob (by omega) 59
          · have hf : fieldsL (stripCR s) = some ((spl 59 (bodyL t)).map trimL) := by rw [← e]; unfold fieldsL; rw [if_neg hn]
            have hcnt := splP_count (fun x => decide (x = (59 : Int))) (bodyL t)
            refine fields_loop (Y := spl 59 (bodyL t)) (fun l hm => oct_spl hob hm) (fun l hm => by have := len_spl hm; omega) (by unfold spl; omega) acc _ (i : Int) (by omega) ?_ _ 0 rfl (Nat.zero_le _)
            rw [w64 (by omega) (by omega)]
            have nx := ih (i + 1) (acc ++ [⟨(i : Int) + 1, ((spl 59 (bodyL t)).map trimL).map strOfNums⟩]) (by omega) (by omega) (by simp; omega)
            have e2 : acc ++ linesS i (s :: X.drop (i + 1)) = acc ++ [⟨(i : Int) + 1, ((spl 59 (bodyL t)).map trimL).map strOfNums⟩] ++ linesS (i + 1) (X.drop (i + 1)) := by
              rw [show linesS i (s :: X.drop (i + 1)) = _ from rfl]
              conv => lhs; unfold linesS
              rw [hf, List.append_assoc]
              rfl
            rw [e2]
            exact nx
    by_cases hz : s.length = 0
    · obtain rfl := List.length_eq_zero_iff.1 hz
      refine Ev.step (fun k => rfl) (Ev.pos (by rw [List.length_map]; omega) (Ev.pos (by omega) (Ev.neg (by rw [hrd, hsz]; simp) ?_)))
      rw [hrd]
      exact Ev.step (f := fun k => paronymref02_Lines.j2 k acc (X.map strOfNums) (i : Int) (strOfNums [])) (fun k => rfl) (h2 [] hos hls rfl)
    · have hne : s ≠ [] := fun e => hz (by rw [e]; rfl)
      have hw : wrap64 (((strOfNums s).size : Int) - 1) = ((s.length - 1 : Nat) : Int) := by rw [hsz, w64 (by omega) (by omega)]; omega
      have hb : bt (strOfNums s) ((s.length - 1 : Nat) : Int) = s.getLast hne := by
        rw [bt_str hos (by omega) (by omega), rd_nat s _ (by omega), List.getLast_eq_getElem]
      refine Ev.step (fun k => rfl) (Ev.pos (by rw [List.length_map]; omega) (Ev.pos (by omega) (Ev.pos (by rw [hrd]; omega) (Ev.pos (by rw [hrd, hw]; omega) (Ev.pos (by rw [hrd, hw]; omega) ?_)))))
      rw [hrd, hw, hb]
      by_cases h13 : s.getLast hne = 13
      · have hst : stripCR s = s.dropLast := by unfold stripCR; rw [if_pos (by rw [List.getLast?_eq_some_getLast hne, h13])]
        refine Ev.step (fun k => rfl) (Ev.pos (by simpa using h13) (Ev.pos (by rw [hw]; omega) (Ev.pos (by rw [hw]; omega) ?_)))
        rw [hw, Int.toNat_natCast, extract_str, List.drop_zero, ← List.dropLast_eq_take]
        exact h2 _ (by rw [← hst]; exact oct_strip hos) (by rw [List.length_dropLast]; omega) hst.symm
      · have hst : stripCR s = s := by unfold stripCR; rw [if_neg (by rw [List.getLast?_eq_some_getLast hne]; simpa using h13)]
        exact Ev.step (fun k => rfl) (Ev.neg (by simpa using h13) (h2 _ hos hls hst.symm))
theorem lines_ev {b : List Int} (ho : Oct b) (hl : b.length ≤ 100000) : Ev (fun k => paronymref02_Lines.f k (strOfNums b)) (linesS 0 (spl 10 b)) := by
  refine Ev.bind (cut_ev ho (by omega) 10) ?_
  have hc := splP_count (fun x => decide (x = (10 : Int))) b
  have := lines_loop (X := spl 10 b) (fun l hm => oct_spl ho hm) (fun l hm => by have := len_spl hm; omega) (by unfold spl; omega) (spl 10 b).length 0 [] rfl (Nat.zero_le _) (Nat.zero_le _)
  rw [List.nil_append, List.drop_zero] at this
  exact this
end Go.Proofs.YtbpdcbibooiimaaGreatDoor.K
/- bytes.Clone: the shelf's walk, laid for this program. -/
namespace Go.Proofs
open Go.Shelf
def Tryz.laysk4_ren : Go.Shelf.Ren := ⟨fun | 4 => 68 | n => n, fun | 22 => 22 | 4 => 4 | 5 => 5 | n => n, fun | n => n⟩
theorem Tryz.laysk4 : Go.Proofs.SlLaysK.n4 Tryz.prog Tryz.laysk4_ren := {
  mixed := by kernel_rfl
  f4 := Tryz.func68.trans (congrArg some (by kernel_rfl))
  t4 := Tryz.underlying4
  a4 := Tryz.isAgg4
  z4 := Tryz.sizeOf4
  v4 := Tryz.zeroValue4
  t22 := Tryz.underlying22
  a22 := Tryz.isAgg22
  z22 := Tryz.sizeOf22
  v22 := Tryz.zeroValue22
  t5 := Tryz.underlying5
  i5 := by kernel_rfl }
end Go.Proofs
namespace Go.Proofs.YtbpdcbibooiimaaGreatDoor.Q
open Go.RowKit Go.Shelf Go.Proofs.YtbpdcbibooiimaaGreatDoorW.PrintWords Go.Proofs.YtbpdcbibooiimaaGreatDoorW.PrintLast Go.Proofs.YtbpdcbibooiimaaGreatDoorW.PrintMore
def KeepS (S : Nat → Prop) (A B : World) : Prop := ∀ k, S k → B.heap[k]? = A.heap[k]?
theorem KeepS.refl (S : Nat → Prop) (A : World) : KeepS S A A := fun _ _ => rfl
theorem KeepS.trans {S : Nat → Prop} {A B C : World} (h : KeepS S A B) (k : KeepS S B C) : KeepS S A C := fun j hj => (k j hj).trans (h j hj)
theorem KeepS.grown {S : Nat → Prop} {A B : World} {row : Option Nat} (hg : A.grownBy B row) (hS : ∀ k, S k → k < A.heap.size) (hne : ∀ k, S k → some k ≠ row) : KeepS S A B := fun k hk => hg.block k (hS k hk) (hne k hk)
theorem KeepS.below {S : Nat → Prop} {A B : World} {n : Nat} (hb : Below n A B) (hS : ∀ k, S k → k < n) : KeepS S A B := fun k hk => hb.block k (hS k hk)
theorem keepS_lt {S : Nat → Prop} {A B : World} (h : KeepS S A B) (hS : ∀ k, S k → k < A.heap.size) : ∀ k, S k → k < B.heap.size := fun k hk => by
  have := h k hk
  rw [Array.getElem?_eq_getElem (hS k hk)] at this
  exact (Array.getElem?_eq_some_iff.1 this).1
theorem keepS_b {S : Nat → Prop} {w : World} (hS : ∀ k, S k → k < w.heap.size) : ∀ (W : World) (l : Nat) (o o' : Obj), w.heap.size ≤ l → W.heap[l]? = some o → o.isCells = false → o.isWalk = false → KeepS S W (W.putObj l o') :=
  fun W l o o' hl ho _ _ => by
    intro k hk
    have hkl : k < l := Nat.lt_of_lt_of_le (hS k hk) hl
    have hlt : l < W.heap.size := (Array.getElem?_eq_some_iff.1 ho).1
    exact (grownBy_putObj' W l o').block k (Nat.lt_trans hkl hlt) (fun e => by cases e; exact Nat.lt_irrefl _ hkl)
theorem grownBy_none_of_below {w w1 : World} (h : Below w.heap.size w w1) : w.grownBy w1 none := grown_of_below h none
end Go.Proofs.YtbpdcbibooiimaaGreatDoor.Q
/- Range over a function whose items are slices: what is told of an item in the world in which it is handed over (Pr) comes with it. The proof follows the library's law wpIn_rangeFunc_ownG (RangeFuncWrites), of which this is the wider form; nothing but Pr is new. -/
namespace Go.Proofs.YtbpdcbibooiimaaGreatDoor.Q
open Go.RowKit Go.Shelf Go.Proofs.YtbpdcbibooiimaaGreatDoorW.PrintWords Go.Proofs.YtbpdcbibooiimaaGreatDoorW.PrintLast Go.Proofs.YtbpdcbibooiimaaGreatDoorW.PrintMore
def SeqPr {α : Type} (F : Fence) (n : Nat) (P : Program) (g : Nat) (lb : Array Value) (encs : α → Array Value) (Kp : World → World → Prop) (Pr : α → World → Prop) (S Sp : List α → Prop) (w : World) : Prop :=
  ∀ (l : Nat) (J Jx : List α → World → Prop) (W : World), Below w.heap.size w W → AbidesFrom W.heap.size J → AbidesFrom W.heap.size Jx →
    (∀ pre x W1, J pre W1 → Pr x W1 → Sp (pre ++ [x]) → YieldAt F (n - 1) P l (encs x) W1 fun e W' =>
      (e = .returned (.bool true) ∧ J (pre ++ [x]) W' ∧ Kp W1 W') ∨ (e = .returned (.bool false) ∧ Jx (pre ++ [x]) W')) →
    J [] W →
    CallsIn F n P g (#[.func (.yield l) #[] #[]] ++ lb) W fun e W' => (∃ v, e = .returned v) ∧ ((∃ xs, S xs ∧ J xs W') ∨ (∃ pre, Sp pre ∧ Jx pre W'))
section
variable {F : Fence} {n : Nat} {P : Program}
theorem wpIn_range_pr {α : Type} {g : Operand} {ps : Array Tmp} {assign body : Code} {Q : Exit → Act → World → Prop} {a : Act} {w : World}
    (hro : F.round = none) (h1 : 1 ≤ n) {gf : Nat} {lb : Array Value} (hg : a.eval g = .func (.func gf) #[] lb) (hFg : F.fn gf) (eg : ∀ args w, (callFunc gf args).run P w = .ok (.enter gf args) w)
    {encs : α → Array Value} {Kp : World → World → Prop} {Pr : α → World → Prop} {S Sp : List α → Prop} {w0 : World} (hseq : SeqPr F (n - 1) P gf lb encs Kp Pr S Sp w0)
    (hKt : ∀ {A B C : World}, Kp A B → Kp B C → Kp A C) (hKb : ∀ (W : World) (l : Nat) (o o' : Obj), w.heap.size ≤ l → W.heap[l]? = some o → o.isCells = false → o.isWalk = false → Kp W (W.putObj l o')) (hb0 : Below w0.heap.size w0 w) (hps : ∀ x, (encs x).size = ps.size)
    (hPr : ∀ x, OwnFrom w.heap.size (fun (_ : Unit) W => Pr x W))
    (I : List α → World → Prop) (Ix : Code → List α → World → Prop) (hI : OwnFrom w.heap.size I) (hIx : ∀ c, OwnFrom w.heap.size (Ix c)) (h0 : I [] w) (a₁ : α → Act)
    (hassign : ∀ (l : Nat) (x : α) (W : World) (K : Act → World → Prop), K (a₁ x) W →
      assign.wpIn (F.inRound l) (n - 1 - 1) P (Exit.then K (fun _ _ _ => False)) { tmps := (ps.zip (encs x)).foldl (fun t (p, v) => t.setIfInBounds p v) a.tmps, defers := [] } W)
    (hbody : ∀ (l : Nat) (pre : List α) (x : α) (W : World), I pre W → Pr x W → Sp (pre ++ [x]) → body.wpIn (F.inRound l) (n - 1 - 1) P (ownPostG w.heap.size Kp I Ix (pre ++ [x]) W) (a₁ x) W)
    (hdone : ∀ (D : Nat) (xs : List α) (W : World), w.heap.size ≤ D → S xs → I xs W → W.heap[D]? = some (.deferred (some [])) → Q .normal { a with defers := { target := .collected D, args := #[] } :: a.defers } W)
    (hstop : ∀ (D : Nat) (c : Code) (pre : List α) (W : World), w.heap.size ≤ D → Sp pre → Ix c pre W → W.heap[D]? = some (.deferred (some [])) → c.wpIn F n P Q { a with defers := { target := .collected D, args := #[] } :: a.defers } W) :
    (Code.rangeFunc g ps assign body).wpIn F n P Q a w := by
  refine wpIn_rangeFunc ?_
  intro fn hfn
  rw [hro]
  let L : Nat := w.heap.size + 1
  obtain ⟨rec, hrec⟩ : ∃ rec : LoopState → Option Code → Loop, rec = fun st pe => { state := st, pending := pe, fn, tmps := a.tmps, params := ps, assign, body, defers := w.heap.size } := ⟨_, rfl⟩
  obtain ⟨W1, hW1⟩ : ∃ W1, (w.alloc (.deferred (some []))).alloc (.loop (rec .ready none)) = W1 := ⟨_, rfl⟩
  have hL1 : W1.heap[L]? = some (.loop (rec .ready none)) := by
    have := World.alloc_heap_new (w.alloc (.deferred (some []))) (.loop (rec .ready none))
    rw [World.size_alloc] at this
    rw [← hW1]; exact this
  have hD1 : W1.heap[w.heap.size]? = some (.deferred (some [])) := by
    rw [← hW1]; exact (Below.heap_alloc _ _ _ (by simp)).trans (World.alloc_heap_new w _)
  have hb1 : Below w0.heap.size w0 W1 := by
    rw [← hW1]; exact hb0.trans ((((Below.refl _ w).alloc (Nat.le_refl _) _).alloc (by simp) _).mono hb0.size)
  have hsz1 : W1.heap.size = w.heap.size + 2 := by rw [← hW1]; simp
  have walk_row : ∀ {A : World} {row : Option Nat}, (∀ r, row = some r → W1.heap.size ≤ r ∧ ∃ o : Obj, A.heap[r]? = some o ∧ o.isWalk = true) → (∀ r, row = some r → w.heap.size ≤ r ∧ ∃ o : Obj, A.heap[r]? = some o ∧ o.isCells = false) :=
    fun hr r e => by obtain ⟨hB, o, ho, hw⟩ := hr r e; exact ⟨by omega, o, ho, Obj.not_cells_of_walk hw⟩
  have stay : ∀ {A B : World} {row : Option Nat} {k : Nat} {o : Obj}, A.grownBy B row → (∀ r, row = some r → W1.heap.size ≤ r ∧ ∃ o : Obj, A.heap[r]? = some o ∧ o.isWalk = true) → A.heap[k]? = some o → o.isWalk = false → B.heap[k]? = some o :=
    fun hg' hr hk hw => (grownBy_keeps hg' (fun r e => (hr r e).2) hk hw).trans hk
  refine ⟨L, [{ target := .collected w.heap.size, args := #[] }], W1, { target := .fn (.func gf) lb, args := #[.func (.yield L) #[] #[]] }, W1, gf, #[.func (.yield L) #[] #[]] ++ lb, W1, ?_, ?_, ?_, ?_, fun _ => h1, ?_⟩
  · rw [← hW1, hrec]; exact run_enterLoop_outer _ _ _ _ _
  · simp only [resolve, hg]
    simp [go_sem]
  · intro f' hf'; simp [Target.leads] at hf'; subst hf'; exact hFg
  · simp [invoke, go_sem, eg]
  · have call := hseq L (fun pre W => I pre W ∧ W.heap[L]? = some (.loop (rec .ready none)) ∧ W.heap[w.heap.size]? = some (.deferred (some [])))
      (fun pre W => ∃ c, Ix c pre W ∧ W.heap[L]? = some (.loop (rec .done (some c))) ∧ W.heap[w.heap.size]? = some (.deferred (some []))) W1 hb1
      (fun s A B row hs hg' hr => ⟨hI s A B row hs.1 hg' (walk_row hr), stay hg' hr hs.2.1 rfl, stay hg' hr hs.2.2 rfl⟩)
      (fun s A B row ⟨c, hc, hl, hk⟩ hg' hr => ⟨c, hIx c s A B row hc hg' (walk_row hr), stay hg' hr hl rfl, stay hg' hr hk rfl⟩)
      ?round ⟨by rw [← hW1]; exact hI.alloc _ (hI.alloc _ h0), hL1, hD1⟩
    case round =>
      rintro pre x W ⟨hi, hl, hk⟩ hpr hlen
      have hlt : L < W.heap.size := (Array.getElem?_eq_some_iff.1 hl).1
      have hLD : w.heap.size ≠ L := by show w.heap.size ≠ w.heap.size + 1; omega
      have hLw : w.heap.size ≤ L := by show w.heap.size ≤ w.heap.size + 1; omega
      have hy := run_yield (P := P) (args := encs x) hl (by rw [hrec]; exact hps x)
      rw [hrec] at hy
      refine ⟨fn, _, assign, body, hy, roundIn_of_wpIn hfn (hassign _ x W _ ⟨_, run_beginRound hl (by rw [hrec]), ?_⟩)⟩
      obtain ⟨WB, hWB⟩ : ∃ WB, W.putObj L (.loop { rec .ready none with state := .busy }) = WB := ⟨_, rfl⟩
      have hl2 : WB.heap[L]? = some (.loop { rec .ready none with state := .busy }) := by rw [← hWB]; exact World.putObj_heap_same hlt
      have hk2 : WB.heap[w.heap.size]? = some (.deferred (some [])) := by rw [← hWB]; exact (World.putObj_heap_other hLD).trans hk
      have hw2 : Kp W WB := by rw [← hWB]; exact hKb _ _ _ _ hLw hl rfl rfl
      have hi2 : I pre WB := by rw [← hWB]; exact hI.putObj _ hi hLw hl rfl
      have hp2 : Pr x WB := by rw [← hWB]; exact (hPr x).putObj (s := ()) _ hpr hLw hl rfl
      rw [hWB]
      refine wpIn_mono (hbody _ pre x WB hi2 hp2 hlen) ?_
      have fin : ∀ (jump : Option Code) (W3 : World), KeepsFrom w.heap.size WB W3 →
          (Instr.endRound L jump).run P W3 = .ok (.bool jump.isNone) (W3.putObj L (.loop (rec (if jump.isNone then .ready else .done) jump))) ∧
          W3.heap[L]? = some (.loop { rec .ready none with state := .busy }) ∧
          (W3.putObj L (.loop (rec (if jump.isNone then .ready else .done) jump))).heap[L]? = some (.loop (rec (if jump.isNone then .ready else .done) jump)) ∧
          (W3.putObj L (.loop (rec (if jump.isNone then .ready else .done) jump))).heap[w.heap.size]? = some (.deferred (some [])) := fun jump W3 hk3 => by
        have hl3 := hk3.same _ _ hLw hl2 rfl
        have hd3 := hk3.same _ _ (Nat.le_refl _) hk2 rfl
        have hend := run_endRound (P := P) jump hl3
        refine ⟨?_, hl3, World.putObj_heap_same (Array.getElem?_eq_some_iff.1 hl3).1, (World.putObj_heap_other hLD).trans hd3⟩
        rw [hrec] at hend ⊢
        exact hend
      have out : ∀ (c : Code) (W3 : World), KeepsFrom w.heap.size WB W3 → Ix c (pre ++ [x]) W3 → ∃ v W', (Instr.endRound L (some c)).run P W3 = .ok v W' ∧ v = .bool false ∧ ∃ c', Ix c' (pre ++ [x]) W' ∧ W'.heap[L]? = some (.loop (rec .done (some c'))) ∧ W'.heap[w.heap.size]? = some (.deferred (some [])) := fun c W3 hk3 hi3 => by
        obtain ⟨hr, hl3, hl4, hk4⟩ := fin (some c) W3 hk3
        exact ⟨_, _, hr, rfl, c, (hIx _).putObj _ hi3 hLw hl3 rfl, hl4, hk4⟩
      rintro e a3 W3 hp
      cases e with
      | normal =>
        obtain ⟨hk3, hkp3, hi3⟩ := hp
        obtain ⟨hr, hl3, hl4, hk4⟩ := fin none W3 hk3
        exact ⟨_, _, hr, .inl ⟨rfl, ⟨hI.putObj _ hi3 hLw hl3 rfl, hl4, hk4⟩, hKt (hKt hw2 hkp3) (hKb _ _ _ _ hLw hl3 rfl rfl)⟩⟩
      | ret =>
        obtain ⟨v, W', hr, rfl, h⟩ := out .ret W3 hp.1 hp.2
        exact ⟨_, _, hr, .inr ⟨rfl, h⟩⟩
      | exit id =>
        obtain ⟨v, W', hr, rfl, h⟩ := out (.exit id) W3 hp.1 hp.2
        exact ⟨_, _, hr, .inr ⟨rfl, h⟩⟩
      | goto t =>
        obtain ⟨v, W', hr, rfl, h⟩ := out (.goto t) W3 hp.1 hp.2
        exact ⟨_, _, hr, .inr ⟨rfl, h⟩⟩
      | panic ch => exact hp.elim
      | outgrown => exact hp.elim
    refine call.mono ?_
    have hLD : w.heap.size ≠ L := by show w.heap.size ≠ w.heap.size + 1; omega
    have hLw : w.heap.size ≤ L := by show w.heap.size ≤ w.heap.size + 1; omega
    rintro e W2 ⟨⟨v, rfl⟩, (⟨xs, hS, hi, hl, hk⟩ | ⟨pre, hSp, c, hi, hl, hk⟩)⟩
    · exact ⟨none, _, by have := run_endLoop (P := P) hl (by rw [hrec]; simp); rw [hrec] at this; exact this, hdone _ xs _ (Nat.le_refl _) hS (hI.putObj _ hi hLw hl rfl) ((World.putObj_heap_other hLD).trans hk)⟩
    · exact ⟨some c, _, by have := run_endLoop (P := P) hl (by rw [hrec]; simp); rw [hrec] at this; exact this, hstop _ c pre _ (Nat.le_refl _) hSp ((hIx c).putObj _ hi hLw hl rfl) ((World.putObj_heap_other hLD).trans hk)⟩
end
/-! a region that draws its order, in a round: operations that defer nothing go as outside of it -/
def noDefer (ops : Array Oper) : Bool := ops.all fun o => match o.op with | .defer _ => false | _ => true
theorem noDefer_spec {ops : Array Oper} (h : noDefer ops = true) (i : Nat) (o : Oper) (ho : ops[i]? = some o) (c : Call) : o.op ≠ .defer c := fun e => by
  have := Array.all_eq_true_iff_forall_mem.1 h o (Array.mem_of_getElem? ho)
  simp [e] at this
theorem wpOpIn_round {F : Fence} {n : Nat} {P : Program} {ops : Array Oper} {Q : Exit → Act → World → Prop} {l i : Nat} (hro : F.round = none) (hno : ∀ (o : Oper), ops[i]? = some o → ∀ c, o.op ≠ .defer c) {K K' : Act → World → Prop} (hK : ∀ a w, K a w → K' a w) {a : Act} {w : World} (h : wpOpIn F n P ops Q i K a w) : wpOpIn (F.inRound l) n P ops Q i K' a w := by
  unfold Go.wpOpIn at h ⊢
  cases ho : ops[i]? with
  | none => rw [ho] at h; exact hK _ _ h
  | some o =>
    rw [ho] at h
    simp only at h ⊢
    by_cases hw : Region.wanted o (yielded ops a.tmps) = true
    · rw [if_pos hw] at h ⊢
      have h := Oper.wpIn_mono hK h
      unfold Oper.wpIn at h ⊢
      rw [hro, Oper.semAt_none] at h
      rw [Oper.semAt_eq _ _ _ (hno o ho)]
      exact h
    · rw [if_neg hw] at h ⊢
      exact ⟨h.1, hK _ _ h.2⟩
theorem wpAnyIn_round {F : Fence} {n : Nat} {P : Program} {md : Region.Mode} {ops : Array Oper} {Q : Exit → Act → World → Prop} {l : Nat} (hro : F.round = none) (hno : noDefer ops = true) : ∀ (fuel : Nat) (listed : Array Bool) (a : Act) (w : World), wpAnyIn F n P md ops Q fuel listed a w → wpAnyIn (F.inRound l) n P md ops Q fuel listed a w
  | 0, _, _, _, h => h
  | fuel + 1, listed, a, w, h => ⟨h.1, fun i hi => wpOpIn_round hro (noDefer_spec hno i) (wpAnyIn_round hro hno fuel _) (h.2 i hi)⟩
end Go.Proofs.YtbpdcbibooiimaaGreatDoor.Q
/- Range over a function whose loop variable is a cell: the assignment makes memory too. After wpIn_range_pr. -/
namespace Go.Proofs.YtbpdcbibooiimaaGreatDoor.Q
open Go.RowKit Go.Shelf Go.Proofs.YtbpdcbibooiimaaGreatDoorW.PrintWords Go.Proofs.YtbpdcbibooiimaaGreatDoorW.PrintLast Go.Proofs.YtbpdcbibooiimaaGreatDoorW.PrintMore
section
variable {F : Fence} {n : Nat} {P : Program}
theorem wpIn_range_as {α : Type} {g : Operand} {ps : Array Tmp} {assign body : Code} {Q : Exit → Act → World → Prop} {a : Act} {w : World}
    (hro : F.round = none) (h1 : 1 ≤ n) {gf : Nat} {lb : Array Value} (hg : a.eval g = .func (.func gf) #[] lb) (hFg : F.fn gf) (eg : ∀ args w, (callFunc gf args).run P w = .ok (.enter gf args) w)
    {encs : α → Array Value} {Kp : World → World → Prop} {Pr : α → World → Prop} {S Sp : List α → Prop} {w0 : World} (hseq : SeqPr F (n - 1) P gf lb encs Kp Pr S Sp w0)
    (hKt : ∀ {A B C : World}, Kp A B → Kp B C → Kp A C) (hKb : ∀ (W : World) (l : Nat) (o o' : Obj), w.heap.size ≤ l → W.heap[l]? = some o → o.isCells = false → o.isWalk = false → Kp W (W.putObj l o')) (hb0 : Below w0.heap.size w0 w) (hps : ∀ x, (encs x).size = ps.size)
    (I : List α → World → Prop) (Ix : Code → List α → World → Prop) (hI : OwnFrom w.heap.size I) (hIx : ∀ c, OwnFrom w.heap.size (Ix c)) (h0 : I [] w) (I1 : List α → α → Act → World → Prop) (hI1 : ∀ pre x a1, OwnFrom w.heap.size (fun (_ : Unit) W => I1 pre x a1 W))
    (hassign : ∀ (l : Nat) (pre : List α) (x : α) (W : World) (K : Act → World → Prop), I pre W → Pr x W → (∀ a1 W1, KeepsFrom w.heap.size W W1 → Kp W W1 → I1 pre x a1 W1 → K a1 W1) →
      assign.wpIn (F.inRound l) (n - 1 - 1) P (Exit.then K (fun _ _ _ => False)) { tmps := (ps.zip (encs x)).foldl (fun t (p, v) => t.setIfInBounds p v) a.tmps, defers := [] } W)
    (hbody : ∀ (l : Nat) (pre : List α) (x : α) (a1 : Act) (W : World), I1 pre x a1 W → Sp (pre ++ [x]) → body.wpIn (F.inRound l) (n - 1 - 1) P (ownPostG w.heap.size Kp I Ix (pre ++ [x]) W) a1 W)
    (hdone : ∀ (D : Nat) (xs : List α) (W : World), w.heap.size ≤ D → S xs → I xs W → W.heap[D]? = some (.deferred (some [])) → Q .normal { a with defers := { target := .collected D, args := #[] } :: a.defers } W)
    (hstop : ∀ (D : Nat) (c : Code) (pre : List α) (W : World), w.heap.size ≤ D → Sp pre → Ix c pre W → W.heap[D]? = some (.deferred (some [])) → c.wpIn F n P Q { a with defers := { target := .collected D, args := #[] } :: a.defers } W) :
    (Code.rangeFunc g ps assign body).wpIn F n P Q a w := by
  refine wpIn_rangeFunc ?_
  intro fn hfn
  rw [hro]
  let L : Nat := w.heap.size + 1
  obtain ⟨rec, hrec⟩ : ∃ rec : LoopState → Option Code → Loop, rec = fun st pe => { state := st, pending := pe, fn, tmps := a.tmps, params := ps, assign, body, defers := w.heap.size } := ⟨_, rfl⟩
  obtain ⟨W1, hW1⟩ : ∃ W1, (w.alloc (.deferred (some []))).alloc (.loop (rec .ready none)) = W1 := ⟨_, rfl⟩
  have hL1 : W1.heap[L]? = some (.loop (rec .ready none)) := by
    have := World.alloc_heap_new (w.alloc (.deferred (some []))) (.loop (rec .ready none))
    rw [World.size_alloc] at this
    rw [← hW1]; exact this
  have hD1 : W1.heap[w.heap.size]? = some (.deferred (some [])) := by
    rw [← hW1]; exact (Below.heap_alloc _ _ _ (by simp)).trans (World.alloc_heap_new w _)
  have hb1 : Below w0.heap.size w0 W1 := by
    rw [← hW1]; exact hb0.trans ((((Below.refl _ w).alloc (Nat.le_refl _) _).alloc (by simp) _).mono hb0.size)
  have hsz1 : W1.heap.size = w.heap.size + 2 := by rw [← hW1]; simp
  have walk_row : ∀ {A : World} {row : Option Nat}, (∀ r, row = some r → W1.heap.size ≤ r ∧ ∃ o : Obj, A.heap[r]? = some o ∧ o.isWalk = true) → (∀ r, row = some r → w.heap.size ≤ r ∧ ∃ o : Obj, A.heap[r]? = some o ∧ o.isCells = false) :=
    fun hr r e => by obtain ⟨hB, o, ho, hw⟩ := hr r e; exact ⟨by omega, o, ho, Obj.not_cells_of_walk hw⟩
  have stay : ∀ {A B : World} {row : Option Nat} {k : Nat} {o : Obj}, A.grownBy B row → (∀ r, row = some r → W1.heap.size ≤ r ∧ ∃ o : Obj, A.heap[r]? = some o ∧ o.isWalk = true) → A.heap[k]? = some o → o.isWalk = false → B.heap[k]? = some o :=
    fun hg' hr hk hw => (grownBy_keeps hg' (fun r e => (hr r e).2) hk hw).trans hk
  refine ⟨L, [{ target := .collected w.heap.size, args := #[] }], W1, { target := .fn (.func gf) lb, args := #[.func (.yield L) #[] #[]] }, W1, gf, #[.func (.yield L) #[] #[]] ++ lb, W1, ?_, ?_, ?_, ?_, fun _ => h1, ?_⟩
  · rw [← hW1, hrec]; exact run_enterLoop_outer _ _ _ _ _
  · simp only [resolve, hg]
    simp [go_sem]
  · intro f' hf'; simp [Target.leads] at hf'; subst hf'; exact hFg
  · simp [invoke, go_sem, eg]
  · have call := hseq L (fun pre W => I pre W ∧ W.heap[L]? = some (.loop (rec .ready none)) ∧ W.heap[w.heap.size]? = some (.deferred (some [])))
      (fun pre W => ∃ c, Ix c pre W ∧ W.heap[L]? = some (.loop (rec .done (some c))) ∧ W.heap[w.heap.size]? = some (.deferred (some []))) W1 hb1
      (fun s A B row hs hg' hr => ⟨hI s A B row hs.1 hg' (walk_row hr), stay hg' hr hs.2.1 rfl, stay hg' hr hs.2.2 rfl⟩)
      (fun s A B row ⟨c, hc, hl, hk⟩ hg' hr => ⟨c, hIx c s A B row hc hg' (walk_row hr), stay hg' hr hl rfl, stay hg' hr hk rfl⟩)
      ?round ⟨by rw [← hW1]; exact hI.alloc _ (hI.alloc _ h0), hL1, hD1⟩
    case round =>
      rintro pre x W ⟨hi, hl, hk⟩ hpr hlen
      have hlt : L < W.heap.size := (Array.getElem?_eq_some_iff.1 hl).1
      have hLD : w.heap.size ≠ L := by show w.heap.size ≠ w.heap.size + 1; omega
      have hLw : w.heap.size ≤ L := by show w.heap.size ≤ w.heap.size + 1; omega
      have hy := run_yield (P := P) (args := encs x) hl (by rw [hrec]; exact hps x)
      rw [hrec] at hy
      refine ⟨fn, _, assign, body, hy, roundIn_of_wpIn hfn (hassign _ pre x W _ hi hpr (fun a1 WA hkA hkpA hi1 => ⟨_, run_beginRound (hkA.same _ _ hLw hl rfl) (by rw [hrec]), ?_⟩))⟩
      have hl := hkA.same _ _ hLw hl rfl
      have hk := hkA.same _ _ (Nat.le_refl _) hk rfl
      have hlt : L < WA.heap.size := (Array.getElem?_eq_some_iff.1 hl).1
      obtain ⟨WB, hWB⟩ : ∃ WB, WA.putObj L (.loop { rec .ready none with state := .busy }) = WB := ⟨_, rfl⟩
      have hl2 : WB.heap[L]? = some (.loop { rec .ready none with state := .busy }) := by rw [← hWB]; exact World.putObj_heap_same hlt
      have hk2 : WB.heap[w.heap.size]? = some (.deferred (some [])) := by rw [← hWB]; exact (World.putObj_heap_other hLD).trans hk
      have hw2 : Kp W WB := by rw [← hWB]; exact hKt hkpA (hKb _ _ _ _ hLw hl rfl rfl)
      have hi2 : I1 pre x a1 WB := by rw [← hWB]; exact (hI1 pre x a1).putObj (s := ()) _ hi1 hLw hl rfl
      rw [hWB]
      refine wpIn_mono (hbody _ pre x a1 WB hi2 hlen) ?_
      have fin : ∀ (jump : Option Code) (W3 : World), KeepsFrom w.heap.size WB W3 →
          (Instr.endRound L jump).run P W3 = .ok (.bool jump.isNone) (W3.putObj L (.loop (rec (if jump.isNone then .ready else .done) jump))) ∧
          W3.heap[L]? = some (.loop { rec .ready none with state := .busy }) ∧
          (W3.putObj L (.loop (rec (if jump.isNone then .ready else .done) jump))).heap[L]? = some (.loop (rec (if jump.isNone then .ready else .done) jump)) ∧
          (W3.putObj L (.loop (rec (if jump.isNone then .ready else .done) jump))).heap[w.heap.size]? = some (.deferred (some [])) := fun jump W3 hk3 => by
        have hl3 := hk3.same _ _ hLw hl2 rfl
        have hd3 := hk3.same _ _ (Nat.le_refl _) hk2 rfl
        have hend := run_endRound (P := P) jump hl3
        refine ⟨?_, hl3, World.putObj_heap_same (Array.getElem?_eq_some_iff.1 hl3).1, (World.putObj_heap_other hLD).trans hd3⟩
        rw [hrec] at hend ⊢
        exact hend
      have out : ∀ (c : Code) (W3 : World), KeepsFrom w.heap.size WB W3 → Ix c (pre ++ [x]) W3 → ∃ v W', (Instr.endRound L (some c)).run P W3 = .ok v W' ∧ v = .bool false ∧ ∃ c', Ix c' (pre ++ [x]) W' ∧ W'.heap[L]? = some (.loop (rec .done (some c'))) ∧ W'.heap[w.heap.size]? = some (.deferred (some [])) := fun c W3 hk3 hi3 => by
        obtain ⟨hr, hl3, hl4, hk4⟩ := fin (some c) W3 hk3
        exact ⟨_, _, hr, rfl, c, (hIx _).putObj _ hi3 hLw hl3 rfl, hl4, hk4⟩
      rintro e a3 W3 hp
      cases e with
      | normal =>
        obtain ⟨hk3, hkp3, hi3⟩ := hp
        obtain ⟨hr, hl3, hl4, hk4⟩ := fin none W3 hk3
        exact ⟨_, _, hr, .inl ⟨rfl, ⟨hI.putObj _ hi3 hLw hl3 rfl, hl4, hk4⟩, hKt (hKt hw2 hkp3) (hKb _ _ _ _ hLw hl3 rfl rfl)⟩⟩
      | ret =>
        obtain ⟨v, W', hr, rfl, h⟩ := out .ret W3 hp.1 hp.2
        exact ⟨_, _, hr, .inr ⟨rfl, h⟩⟩
      | exit id =>
        obtain ⟨v, W', hr, rfl, h⟩ := out (.exit id) W3 hp.1 hp.2
        exact ⟨_, _, hr, .inr ⟨rfl, h⟩⟩
      | goto t =>
        obtain ⟨v, W', hr, rfl, h⟩ := out (.goto t) W3 hp.1 hp.2
        exact ⟨_, _, hr, .inr ⟨rfl, h⟩⟩
      | panic ch => exact hp.elim
      | outgrown => exact hp.elim
    refine call.mono ?_
    have hLD : w.heap.size ≠ L := by show w.heap.size ≠ w.heap.size + 1; omega
    have hLw : w.heap.size ≤ L := by show w.heap.size ≤ w.heap.size + 1; omega
    rintro e W2 ⟨⟨v, rfl⟩, (⟨xs, hS, hi, hl, hk⟩ | ⟨pre, hSp, c, hi, hl, hk⟩)⟩
    · exact ⟨none, _, by have := run_endLoop (P := P) hl (by rw [hrec]; simp); rw [hrec] at this; exact this, hdone _ xs _ (Nat.le_refl _) hS (hI.putObj _ hi hLw hl rfl) ((World.putObj_heap_other hLD).trans hk)⟩
    · exact ⟨some c, _, by have := run_endLoop (P := P) hl (by rw [hrec]; simp); rw [hrec] at this; exact this, hstop _ c pre _ (Nat.le_refl _) hSp ((hIx c).putObj _ hi hLw hl rfl) ((World.putObj_heap_other hLD).trans hk)⟩
end
end Go.Proofs.YtbpdcbibooiimaaGreatDoor.Q
/- Marks among the deferred calls. -/
namespace Go.Proofs.YtbpdcbibooiimaaGreatDoor.Q
open Go.RowKit Go.Shelf Go.Proofs.YtbpdcbibooiimaaGreatDoorW.PrintWords Go.Proofs.YtbpdcbibooiimaaGreatDoorW.PrintLast Go.Proofs.YtbpdcbibooiimaaGreatDoorW.PrintMore
def marks (Ds : List Nat) : List Deferred := Ds.map (fun D => { target := .collected D, args := #[] })
def MarksIn (n0 : Nat) (Ds : List Nat) (W : World) : Prop := Ds.Nodup ∧ ∀ D ∈ Ds, n0 ≤ D ∧ W.heap[D]? = some (.deferred (some []))
theorem MarksIn.nil (n0 : Nat) (W : World) : MarksIn n0 [] W := ⟨List.nodup_nil, fun D h => by cases h⟩
theorem MarksIn.step {n0 : Nat} {Ds : List Nat} {W W' : World} (h : MarksIn n0 Ds W) (hb : ∀ D ∈ Ds, W'.heap[D]? = W.heap[D]?) : MarksIn n0 Ds W' := ⟨h.1, fun D hD => ⟨(h.2 D hD).1, (hb D hD).trans (h.2 D hD).2⟩⟩
theorem MarksIn.lt {n0 : Nat} {Ds : List Nat} {W : World} (h : MarksIn n0 Ds W) {D : Nat} (hD : D ∈ Ds) : D < W.heap.size := (Array.getElem?_eq_some_iff.1 (h.2 D hD).2).1
theorem MarksIn.below {n0 B : Nat} {Ds : List Nat} {W W' : World} (h : MarksIn n0 Ds W) (hb : Below B W W') (hB : W.heap.size ≤ B) : MarksIn n0 Ds W' := h.step fun D hD => hb.block D (Nat.lt_of_lt_of_le (h.lt hD) hB)
theorem MarksIn.cons {n0 : Nat} {Ds : List Nat} {W : World} {D : Nat} (h : MarksIn n0 Ds W) (hn : ∀ E ∈ Ds, E < D) (hB : n0 ≤ D) (hD : W.heap[D]? = some (.deferred (some []))) : MarksIn n0 (D :: Ds) W :=
  ⟨List.nodup_cons.2 ⟨fun hm => Nat.lt_irrefl _ (hn D hm), h.1⟩, fun E hE => by
    rcases List.mem_cons.1 hE with rfl | hE
    · exact ⟨hB, hD⟩
    · exact h.2 E hE⟩
theorem leaves_marks {F : Fence} {n : Nat} {P : Program} {fn : Func} {tmps : Array Value} {R : Ending → World → Prop} {n0 : Nat} : ∀ (Ds : List Nat) (W : World), MarksIn n0 Ds W →
    (∀ W', Below n0 W W' → LeavesInM F n P fn tmps R [] .returning W') → LeavesInM F n P fn tmps R (marks Ds) .returning W
  | [], W, _, h => h W (Below.refl _ _)
  | D :: Ds, W, hn, h => by
    have hd := hn.2 D (List.mem_cons_self ..)
    have hlt : D < W.heap.size := (Array.getElem?_eq_some_iff.1 hd.2).1
    have hb : Below n0 W (W.putObj D (.deferred none)) := (Below.refl n0 W).grown (grownBy_putObj' W D _) (by omega) (fun k e => by cases e; exact hd.1)
    refine ⟨by simp, .inl ⟨_, _, rfl, run_takeDeferred hd.2, ?_⟩⟩
    refine leaves_marks Ds _ ⟨(List.nodup_cons.1 hn.1).2, fun E hE => ⟨(hn.2 E (List.mem_cons_of_mem _ hE)).1, ?_⟩⟩ (fun W' hW' => h W' (hb.trans hW'))
    have hne : E ≠ D := fun e => (List.nodup_cons.1 hn.1).1 (e ▸ hE)
    rw [World.putObj_heap_other hne]
    exact (hn.2 E (List.mem_cons_of_mem _ hE)).2
end Go.Proofs.YtbpdcbibooiimaaGreatDoor.Q
/- What a body keeps, told by blocks (out of XHall, XHlst). -/
namespace Go.Proofs.YtbpdcbibooiimaaGreatDoor.Q
open Go.RowKit Go.Shelf Go.Proofs.YtbpdcbibooiimaaGreatDoorW.PrintWords Go.Proofs.YtbpdcbibooiimaaGreatDoorW.PrintLast Go.Proofs.YtbpdcbibooiimaaGreatDoorW.PrintMore
def KeepC (T : Nat → Prop) (A B : World) : Prop := A.heap.size ≤ B.heap.size ∧ ∀ k o, A.heap[k]? = some o → o.isCells = true → ¬ T k → B.heap[k]? = some o
theorem KeepC.refl (T : Nat → Prop) (A : World) : KeepC T A A := ⟨Nat.le_refl _, fun _ _ h _ _ => h⟩
theorem KeepC.trans {T : Nat → Prop} {A B C : World} (h : KeepC T A B) (k : KeepC T B C) : KeepC T A C := ⟨Nat.le_trans h.1 k.1, fun j o hj hc hn => k.2 j o (h.2 j o hj hc hn) hc hn⟩
theorem KeepC.of_below {T : Nat → Prop} {A B : World} (h : Below A.heap.size A B) : KeepC T A B := ⟨h.size, fun k o hk _ _ => (h.block k (Array.getElem?_eq_some_iff.1 hk).1).trans hk⟩
theorem KeepC.of_set {T : Nat → Prop} {A : World} {p : Addr} {v : Value} (h : T p.block) : KeepC T A (A.setCell p v) := ⟨by simp, fun k o hk _ hn => (Below.heap_setCell A p v k (fun e => hn (e ▸ h))).trans hk⟩
theorem keepC_put {T : Nat → Prop} {w : World} : ∀ (W : World) (l : Nat) (o o' : Obj), w.heap.size ≤ l → W.heap[l]? = some o → o.isCells = false → o.isWalk = false → KeepC T W (W.putObj l o') :=
  fun W l o o' _ ho hc _ => ⟨(grownBy_putObj' W l o').size, fun k ob hk hkc _ => by
    have hne : k ≠ l := fun e => by
      subst e
      rw [ho] at hk
      injection hk with hk
      rw [← hk, hc] at hkc
      cases hkc
    exact (World.putObj_heap_other hne).trans hk⟩
theorem KeepC.grown {T : Nat → Prop} {A B : World} {row : Option Nat} (hg : A.grownBy B row) (hT : ∀ k, row = some k → T k) : KeepC T A B :=
  ⟨hg.size, fun k o hk _ hn => (hg.block k (Array.getElem?_eq_some_iff.1 hk).1 (fun e => hn (hT k e.symm))).trans hk⟩
end Go.Proofs.YtbpdcbibooiimaaGreatDoor.Q
/- field.Lines: the call, and the iterator. -/
namespace Go.Proofs.YtbpdcbibooiimaaGreatDoor.Q
open Go.RowKit Go.Shelf Go.Proofs.YtbpdcbibooiimaaGreatDoorW.PrintWords Go.Proofs.YtbpdcbibooiimaaGreatDoorW.PrintLast Go.Proofs.YtbpdcbibooiimaaGreatDoorW.PrintMore Go.Proofs.YtbpdcbibooiimaaGreatDoor.K
attribute [local go_sem] Oper.semAt_some
def linesI : Nat → List (List Int) → List (Int × List (List Int))
  | _, [] => []
  | i, l :: r => match fieldsL (stripCR l) with
    | none => linesI (i + 1) r
    | some f => ((i : Int) + 1, f) :: linesI (i + 1) r
theorem linesI_cons (i : Nat) (x : List Int) (X : List (List Int)) : linesI i (x :: X) = match fieldsL (stripCR x) with
    | none => linesI (i + 1) X
    | some f => ((i : Int) + 1, f) :: linesI (i + 1) X := rfl
theorem linesI_app : ∀ (X : List (List Int)) (i : Nat) (l : List Int), linesI i (X ++ [l]) = linesI i X ++ (match fieldsL (stripCR l) with | none => [] | some f => [(((i + X.length : Nat) : Int) + 1, f)])
  | [], i, l => by
    rw [List.nil_append, linesI_cons]
    cases fieldsL (stripCR l) <;> simp [linesI]
  | x :: X, i, l => by
    have ih := linesI_app X (i + 1) l
    have e : i + 1 + X.length = i + (x :: X).length := by simp; omega
    rw [e] at ih
    rw [List.cons_append, linesI_cons, linesI_cons, ih]
    cases fieldsL (stripCR x) <;> rfl
theorem linesI_pre : ∀ (Z A : List (List Int)), linesI 0 A <+: linesI 0 (A ++ Z)
  | [], A => by rw [List.append_nil]; exact List.prefix_refl _
  | z :: Z, A => by
    rw [show A ++ z :: Z = (A ++ [z]) ++ Z by simp]
    exact (by rw [linesI_app]; exact List.prefix_append _ _ : linesI 0 A <+: linesI 0 (A ++ [z])).trans (linesI_pre Z _)
def rowC (X : List (List Int)) : Array Value := (X.map (fun p => Value.string (strOfNums p))).toArray
set_option maxHeartbeats 2000000 in
set_option maxRecDepth 100000 in
theorem bytes_Clone.calls (A : Option Addr) (c : Nat) (L : List Int) (w : World) (hr : Kd.C (Kd.int .u8) w A L.length L) (hc : L.length ≤ c) (hl : L.length ≤ 1000000) :
    Calls Tryz.prog 68 #[.slice A L.length c] w fun e w' => ∃ A' c', e = .returned (.slice A' L.length c') ∧ Kd.C (Kd.int .u8) w' A' L.length L ∧ Below w.heap.size w w' := by
  cases A with
  | none =>
    have h0 : L = [] := by
      rcases Nat.eq_zero_or_pos L.length with h | h
      · exact List.length_eq_zero_iff.1 h
      · obtain ⟨ad, e, _⟩ := hr.2.2 h; cases e
    subst h0
    refine (Any.bytes_Clone_nil Tryz.laysk4 0 c w).mono ?_
    rintro e w' ⟨rfl, rfl⟩
    exact ⟨none, _, rfl, hr, Below.refl _ _⟩
  | some a =>
    have hrd := Kd.reads_of_C (enc := Value.int .u8) (d := (0 : Int)) (h1 := fun _ => rfl) hr
    refine (Any.bytes_Clone_at Tryz.laysk4 a L.length c L w rfl (by omega) (fun i hi => ?_)).mono ?_
    · obtain ⟨ad, e, h⟩ := hrd.2.2 (by omega)
      cases e
      exact h i hi
    · rintro e w' ⟨v', rfl, ho, hne, hb⟩
      have hR : Kd.R (Kd.int .u8) 5 w' w.heap.size (fun _ => True) v' L := Kd.R_of_own ho (fun _ _ => trivial)
      obtain ⟨A', c', rfl, hc', hC⟩ := Kd.R_reads hR
      exact ⟨A', c', rfl, hC, hb⟩
set_option maxHeartbeats 2000000 in
set_option maxRecDepth 100000 in
theorem field_Lines.calls (A : Option Addr) (c : Nat) (L : List Int) (ho : Oct L) (hl : L.length ≤ 1000000) (w : World) (hE : EnvF w) (hr : Kd.C (Kd.int .u8) w A L.length L) (hc : L.length ≤ c) :
    Calls Tryz.prog 44 #[.slice A L.length c] w fun e w' => ∃ g gb, e = .returned (.func (.func 69) #[] #[.pointer (some ⟨gb, 0, none⟩)]) ∧ w.heap.size ≤ g ∧ w.heap.size ≤ gb ∧
      w'.heap[g]? = some (.cells (rowC (spl 10 L)) 9 (0, 0)) ∧ Boxed w' gb 23 (.slice (some ⟨g, 0, none⟩) (spl 10 L).length (spl 10 L).length) ∧ Below w.heap.size w w' := by
  have HR := Aside0.mk hr
  have HC := Aside0.mk hc
  have HE := Aside0.mk hE
  have HO := Aside0.mk ho
  have HL := Aside0.mk hl
  clear hr hc hE ho hl
  go_enter Tryz.func44, Tryz.ntmps44
  go_wp2_with (first
    | (go_at_call 68; refine (bytes_Clone.calls A c L _ HR.out HC.out HL.out).mono ?_; rintro e w1 ⟨A1, c1, rfl, hC1, hb⟩; have HB := Aside0.mk hb; have hcv := Kd.C_string (P := Tryz.prog) (c := c1) Tryz.underlying22 Tryz.underlying5 Tryz.underlying9 hC1; clear hb hC1)
    | (go_at_call 67; refine (sSplit10.calls L HO.out HL.out _ (HE.out.below HB.out)).mono ?_; rintro e w2 ⟨rfl, rfl⟩))
  go_ret
  exact ⟨w1.heap.size, w1.heap.size + 1, rfl, HB.out.size, by have := HB.out.size; omega, by
    have h := heap_alloc_new w1 (.cells ((spl 10 L).map (fun p => .string (strOfNums p))).toArray 9)
    exact (Below.heap_alloc _ _ _ (by simp)).trans h, by
    have := Boxed.new (w1.alloc (.cells ((spl 10 L).map (fun p => .string (strOfNums p))).toArray 9)) 23 (.slice (some ⟨w1.heap.size, 0, none⟩) (spl 10 L).length (spl 10 L).length)
    rwa [World.size_alloc] at this, (HB.out.alloc HB.out.size _).alloc (by simp; have := HB.out.size; omega) _⟩
abbrev LItem := Int × Nat × List (List Int)
def LItem.enc (x : LItem) : Array Value := #[.agg #[.int .i64 x.1, .slice (some ⟨x.2.1, 0, none⟩) x.2.2.length x.2.2.length]]
def LItem.pr (x : LItem) : Int × List (List Int) := (x.1, x.2.2)
def LItem.at_ (x : LItem) (W : World) : Prop := W.heap[x.2.1]? = some (.cells (rowC x.2.2) 9 (0, 0))
theorem fldC_all (Y : List (List Int)) : fldC Y Y.length = rowC (Y.map trimL) := by
  unfold fldC rowC fldA
  rw [List.take_length, List.drop_length, List.append_nil]
theorem EnvF.keep {T : Nat → Prop} {A B : World} (h : EnvF A) (k : KeepC T A B) (h0 : ¬ T 0) (h6 : ¬ T 8) : EnvF B := by
  have key : ∀ (b i : Nat) (v : Value), ¬ T b → A.cell? ⟨b, i, none⟩ = some v → B.cell? ⟨b, i, none⟩ = some v := fun b i v hb hc => by
    unfold World.cell? at hc ⊢
    cases ho : A.heap[b]? with
    | none => simp only [ho] at hc; cases hc
    | some o =>
      simp only [ho] at hc
      cases o with
      | cells c t fr => simp only [k.2 b _ ho rfl hb]; exact hc
      | _ => cases hc
  obtain ⟨⟨m, h1⟩, h2⟩ := h
  exact ⟨⟨m, key _ _ _ h0 h1⟩, key _ _ _ h6 h2⟩
theorem row_cell {W : World} {g i : Nat} {X : List (List Int)} (h : W.heap[g]? = some (.cells (rowC X) 9 (0, 0))) (hi : i < X.length) : W.cell? ⟨g, i, none⟩ = some (.string (strOfNums X[i])) := by
  unfold World.cell?
  rw [h]
  show (rowC X)[i]? = _
  unfold rowC
  simp [hi]
set_option maxHeartbeats 4000000 in
set_option maxRecDepth 100000 in
theorem field_Lines.stops (L : List Int) (ho : Oct L) (hl : L.length ≤ 1000000) (g gb : Nat) (w : World) (T : Nat → Prop) (hE : EnvF w) (hT0 : ¬ T 0) (hT6 : ¬ T 8) (hTg : ¬ T g)
    (hg : w.heap[g]? = some (.cells (rowC (spl 10 L)) 9 (0, 0))) (hb : Boxed w gb 23 (.slice (some ⟨g, 0, none⟩) (spl 10 L).length (spl 10 L).length)) (n : Nat) (hn : 3 ≤ n) :
    SeqPr Fence.wide n Tryz.prog 69 #[.pointer (some ⟨gb, 0, none⟩)] LItem.enc (KeepC T) LItem.at_ (fun ys => ys.map LItem.pr = linesI 0 (spl 10 L)) (fun pre => pre.map LItem.pr <+: linesI 0 (spl 10 L)) w := fun l J Jx W hW hJ hJx hY h0 => by
  refine callsIn_of_wp Tryz.func69 rfl trivial ?_ rfl
  simp only [Tryz.ntmps69, List.size_toArray, List.length_cons, List.length_nil, Nat.reduceAdd, Nat.reduceSub, Array.replicate_succ, Array.replicate_zero, List.push_toArray, List.append_toArray, List.nil_append, List.cons_append]
  obtain ⟨X, hX⟩ : ∃ X, X = spl 10 L := ⟨_, rfl⟩
  have hXo : ∀ p ∈ X, Oct p := fun p hp => by rw [hX] at hp; exact oct_spl ho hp
  have hXl : ∀ p ∈ X, p.length ≤ 1000000 := fun p hp => by rw [hX] at hp; have := len_spl hp; omega
  have hXn : X.length ≤ 1000001 := by rw [hX]; have := splP_count (fun x => decide (x = (10 : Int))) L; unfold spl; omega
  rw [← hX] at hg hb hY ⊢
  have hbW : Boxed W gb 23 (.slice (some ⟨g, 0, none⟩) X.length X.length) := (hW.block _ hb.lt).trans hb
  have hgW : W.heap[g]? = some (.cells (rowC X) 9 (0, 0)) := (hW.block _ (Array.getElem?_eq_some_iff.1 hg).1).trans hg
  have HE := Aside0.mk (hE.below hW)
  have HG := Aside0.mk hgW
  have HJ := Aside0.mk hJ
  have HY := Aside0.mk hY
  have H0 := Aside0.mk h0
  have HXO := Aside0.mk hXo
  have HXL := Aside0.mk hXl
  have HXN := Aside0.mk hXn
  have HT := Aside0.mk (And.intro hT0 (And.intro hT6 hTg))
  have hcell := hbW.cell
  clear hX hXo hXl hXn hg hb hbW hgW hJ hJx hY h0 hE hT0 hT6 hTg hW ho hl
  gi_wp2
  clear hcell
  gi_loopg [8] (X.length + 1) (fun kq s8 wr => ∃ (i : Nat) (pre : List LItem), s8 = .int .i64 (i : Int) ∧ Aside0 (i + kq = X.length + 1 ∧ i ≤ X.length) ∧ Aside0 (pre.map LItem.pr = linesI 0 (X.take i)) ∧ Aside0 (J pre wr) ∧ Aside0 (KeepC T W wr))
  case atStart => exact ⟨0, [], rfl, ⟨by omega, by omega⟩, ⟨by simp [linesI]⟩, H0, ⟨KeepC.refl _ _⟩⟩
  case round =>
    obtain ⟨i, pre, rfl, HI, HP, HJp, KK⟩ := hrel
    cases gk with
    | zero => exact absurd HI.out (by omega)
    | succ kq =>
      by_cases c1 : (i : Int) < (X.length : Int)
      · have hi : i < X.length := by omega
        have hge : wr.heap[g]? = some (.cells (rowC X) 9 (0, 0)) := KK.out.2 g _ HG.out rfl HT.out.2.2
        have hcl := row_cell hge hi
        obtain ⟨p, hp⟩ : ∃ p, p = X[i] := ⟨_, rfl⟩
        rw [← hp] at hcl
        have hpm : p ∈ X := hp ▸ List.getElem_mem hi
        have hop := HXO.out p hpm
        have hlp := HXL.out p hpm
        have htk : X.take (i + 1) = X.take i ++ [p] := by rw [hp, List.take_append_getElem]
        have hln := linesI_app (X.take i) 0 p
        rw [← htk, List.length_take, Nat.min_eq_left (by omega), Nat.zero_add] at hln
        have HII := Aside0.mk hi
        have HLN := Aside0.mk hln
        have hEw : EnvF wr := HE.out.keep KK.out HT.out.1 HT.out.2.1
        have HEW := Aside0.mk hEw
        have HST := Aside0.mk (fun w => sStrip.calls p hop hlp w)
        have e0 := eq_true c1
        have e1 : decide ((i : Int) < (X.length : Int)) = true := decide_eq_true c1
        have e2 : (i < X.length) = True := eq_true hi
        have m2 : wrap64 ((i : Int) + 1) = (i : Int) + 1 := w64 (by omega) (by have := HXN.out; omega)
        obtain ⟨q, hq⟩ : ∃ q, q = stripCR p := ⟨_, rfl⟩
        rw [← hq] at HST HLN
        have hoq : Oct q := by rw [hq]; exact oct_strip hop
        have hlq : q.length ≤ 1000000 := by rw [hq]; have := len_strip p; omega
        obtain ⟨sp, hsp⟩ : ∃ s, s = strOfNums p := ⟨_, rfl⟩
        rw [← hsp] at hcl HST
        by_cases hn : trimL (bodyL q) = []
        · have hf : fieldsL q = none := by unfold fieldsL; rw [if_pos hn]
          rw [hf] at HLN
          have HF := Aside0.mk (fun w hE => field_fields.callsN q hoq hlq hn w hE)
          obtain ⟨sq, hsq⟩ : ∃ s, s = strOfNums q := ⟨_, rfl⟩
          rw [← hsq] at HST HF
          clear c1 hi hge hp hpm hop hlp htk hln hEw hq hoq hlq hsp hn hf hsq
          gi_wp2_with (first
            | (refine ⟨trivial, (fun h => by cases h), ?_⟩; gi_at_call 71; (refine (callsIn_wide.2 (HST.out _)).mono ?_); rintro e w1 ⟨rfl, rfl⟩)
            | (refine ⟨trivial, (fun h => by cases h), ?_⟩; gi_at_call 70; (refine (callsIn_wide.2 (HF.out _ HEW.out)).mono ?_); rintro e w2 ⟨rfl, hb⟩; have HB := Aside0.mk hb; clear hb))
          repeat (refine ⟨(fun f h => by cases h), ?_⟩; (try gi_wp2))
          gi_roundg kq
          case measure => omega
          case rel =>
            exact ⟨i + 1, pre, by first | rfl | (rw [m2]; rfl), ⟨by have := HI.out; omega, by have := HII.out; omega⟩, ⟨by rw [HP.out, HLN.out, List.append_nil]⟩, ⟨HJ.out _ _ _ none HJp.out (grownBy_none_of_below HB.out) (fun r e => by cases e)⟩, ⟨KK.out.trans (KeepC.of_below HB.out)⟩⟩
        · have hf : fieldsL q = some ((spl 59 (bodyL q)).map trimL) := by unfold fieldsL; rw [if_neg hn]
          rw [hf] at HLN
          obtain ⟨Y, hY⟩ : ∃ Y, Y = spl 59 (bodyL q) := ⟨_, rfl⟩
          rw [← hY] at HLN
          have HF := Aside0.mk (fun w hE => field_fields.callsS Y q hoq hlq hn hY w hE)
          obtain ⟨sq, hsq⟩ : ∃ s, s = strOfNums q := ⟨_, rfl⟩
          rw [← hsq] at HST HF
          have hYl : (Y.map trimL).length = Y.length := List.length_map ..
          have HYL := Aside0.mk hYl
          clear c1 hi hge hp hpm hop hlp htk hln hEw hq hoq hlq hsp hn hf hsq hY hYl
          gi_wp2_with (first
            | (refine ⟨trivial, (fun h => by cases h), ?_⟩; gi_at_call 71; (refine (callsIn_wide.2 (HST.out _)).mono ?_); rintro e w1 ⟨rfl, rfl⟩)
            | (refine ⟨trivial, (fun h => by cases h), ?_⟩; gi_at_call 70; (refine (callsIn_wide.2 (HF.out _ HEW.out)).mono ?_); rintro e w2 ⟨gf, rfl, hgl, hgf, hb⟩
               have HB := Aside0.mk hb
               rw [fldC_all] at hgf
               have hj2 := HJ.out _ _ _ none HJp.out (grownBy_none_of_below hb) (fun r e => by cases e)
               obtain ⟨fn, tmps, assign, body, hy, hRR⟩ := HY.out pre (((i : Int) + 1, gf, Y.map trimL) : LItem) w2 hj2 hgf (by
                 rw [List.map_append, HP.out]
                 have : [(((i : Int) + 1, gf, Y.map trimL) : LItem)].map LItem.pr = [((i : Int) + 1, Y.map trimL)] := rfl
                 rw [this, ← HLN.out]
                 have := linesI_pre (X.drop (i + 1)) (X.take (i + 1))
                 rwa [List.take_append_drop] at this)
               have HRR := Aside0.mk hRR
               simp only [LItem.enc, HYL.out] at hy
               clear hb hgf hj2 hRR hgl))
          refine ⟨fun _ => by omega, ?_⟩
          refine HRR.out.mono ?_
          rintro e W3 (⟨rfl, hJ3, hk3⟩ | ⟨rfl, hJx3⟩)
          · have HJ3 := Aside0.mk hJ3
            have HK3 := Aside0.mk ((KK.out.trans (KeepC.of_below HB.out)).trans hk3)
            clear hJ3 hk3 HRR hy hcl
            gi_wp2
            gi_roundg kq
            case measure => omega
            case rel =>
              exact ⟨i + 1, pre ++ [(((i : Int) + 1, gf, Y.map trimL) : LItem)], by first | rfl | (rw [m2]; rfl), ⟨by have := HI.out; omega, by have := HII.out; omega⟩, ⟨by rw [List.map_append, HP.out, HLN.out]; rfl⟩, HJ3, HK3⟩
          · have HJX := Aside0.mk hJx3
            have HSP : Aside0 ((pre ++ [(((i : Int) + 1, gf, Y.map trimL) : LItem)]).map LItem.pr <+: linesI 0 X) := ⟨by
              rw [List.map_append, HP.out]
              have h1 : [(((i : Int) + 1, gf, Y.map trimL) : LItem)].map LItem.pr = [((i : Int) + 1, Y.map trimL)] := rfl
              rw [h1, ← HLN.out]
              have := linesI_pre (X.drop (i + 1)) (X.take (i + 1))
              rwa [List.take_append_drop] at this⟩
            clear hJx3 HRR hy hcl
            gi_wp2
            refine bodyPost_ret (results_none rfl _ _ _) rfl ?_
            exact ⟨⟨_, rfl⟩, .inr ⟨_, HSP.out, HJX.out⟩⟩
      · have e0 := eq_false c1
        have e1 : decide ((i : Int) < (X.length : Int)) = false := decide_eq_false c1
        have hi : i = X.length := by have := HI.out; omega
        subst hi
        clear c1
        gi_wp2
        go_end0
        exact ⟨⟨_, rfl⟩, .inl ⟨pre, by rw [HP.out, List.take_length], HJp.out⟩⟩
end Go.Proofs.YtbpdcbibooiimaaGreatDoor.Q
namespace Go.Proofs.YtbpdcbibooiimaaGreatDoor.Q
open Go.RowKit Go.Proofs.YtbpdcbibooiimaaGreatDoorW.PrintWords Go.Proofs.YtbpdcbibooiimaaGreatDoorW.PrintLast Go.Proofs.YtbpdcbibooiimaaGreatDoorW.PrintMore
attribute [local go_sem] max2_int min2_int max_two min_two max_three min_three max_four min_four   -- for this text's walks alone
/-! ### span_Table_find_1: function 93 -/
def span_Table_find_1.f (a0_0 : Int) (a0_1 : Int) (a0_2 : ByteArray) (a1 : Int) : Option (Int) := if a0_1 < a1 then (some (-1)) else (some 1)
set_option maxHeartbeats 8000000 in
set_option maxRecDepth 100000 in
theorem span_Table_find_1.calls (a0_0 : Int) (a0_1 : Int) (a0_2 : ByteArray) (a1 : Int) (r : Int) (w : World) (h : span_Table_find_1.f a0_0 a0_1 a0_2 a1 = some r) :
    Calls Tryz.prog 93 #[.agg #[.int .i64 a0_0, .int .i64 a0_1, .string a0_2], .int .i64 a1] w fun e w' => e = .returned (.int .i64 r) ∧ Below w.heap.size w w' := by
  have hu83 := Tryz.underlying83
  have HB := Aside0.mk (Below.refl w.heap.size w)
  have H : (if a0_1 < a1 then (some (-1)) else (some 1)) = some r := h
  clear h
  by_cases c3 : a0_1 < a1
  · rw [if_pos c3] at H
    have c3b0 : decide (a0_1 < a1) = true := decide_eq_true c3
    clear c3
    obtain rfl := Option.some.inj H
    go_enter Tryz.func93, Tryz.ntmps93
    go_wp2_with (first | ((with_reducible refine gate_dst (N := 2) rfl ?_); refine box_event ?hg (N := 2) ?hd (cs := #[.int .i64 a0_0, .int .i64 a0_1, .string a0_2]) (t := 83) ?hr ?_; (case hd => rfl); (case hg => rfl); (case hr => first | (go_simp; done) | (go_simp; rfl)); intro gb101 hg w4 hbox hb; have n0_ := Aside0.mk (below_step (by repeat (first | (with_reducible first | exact HB.out | apply below_alloc | apply pw_below_drewN | apply below_drew1) | exact HB.out)) hb); have n1_ := Aside0.mk (hbox); have n2_ := Aside0.mk ((by rw [hg]; exact (below_size (by repeat (first | (with_reducible first | exact HB.out | apply below_alloc | apply pw_below_drewN | apply below_drew1) | exact HB.out))) : w.heap.size ≤ gb101)); have n3_ := Aside0.mk ((by rw [hg]; exact (below_size (by repeat (first | (with_reducible first | exact HB.out | apply below_alloc | apply pw_below_drewN | apply below_drew1) | exact HB.out))) : w.heap.size ≤ gb101)); clear HB; have HB := n0_; have BK101 := n1_; have GW101 := n2_; have GE101 := n3_; clear n0_ n1_ n2_ n3_; clear hb hbox hg; have hcz5_0 : w4.cell? ⟨gb101, 0, none⟩ = some (.int .i64 a0_0) := (blk_cell BK101.out 0).trans rfl; have hcz5_1 : w4.cell? ⟨gb101, 1, none⟩ = some (.int .i64 a0_1) := (blk_cell BK101.out 1).trans rfl; have hcz5_2 : w4.cell? ⟨gb101, 2, none⟩ = some (.string a0_2) := (blk_cell BK101.out 2).trans rfl; have hfz5_0 := blk_frozen BK101.out 0; have hfz5_1 := blk_frozen BK101.out 1; have hfz5_2 := blk_frozen BK101.out 2))
    go_ret
    exact ⟨by first | rfl | (simp [errW_none, errW_some] <;> rfl) | (simp [*, errW_none, errW_some] <;> rfl), by repeat (first | (with_reducible first | exact HB.out | apply below_alloc | apply pw_below_drewN | apply below_drew1 | refine below_set ?_ GE101.out) | exact HB.out)⟩
  · rw [if_neg c3] at H
    have c3b0 : decide (a0_1 < a1) = false := decide_eq_false c3
    clear c3
    obtain rfl := Option.some.inj H
    go_enter Tryz.func93, Tryz.ntmps93
    go_wp2_with (first | ((with_reducible refine gate_dst (N := 2) rfl ?_); refine box_event ?hg (N := 2) ?hd (cs := #[.int .i64 a0_0, .int .i64 a0_1, .string a0_2]) (t := 83) ?hr ?_; (case hd => rfl); (case hg => rfl); (case hr => first | (go_simp; done) | (go_simp; rfl)); intro gb101 hg w6 hbox hb; have n0_ := Aside0.mk (below_step (by repeat (first | (with_reducible first | exact HB.out | apply below_alloc | apply pw_below_drewN | apply below_drew1) | exact HB.out)) hb); have n1_ := Aside0.mk (hbox); have n2_ := Aside0.mk ((by rw [hg]; exact (below_size (by repeat (first | (with_reducible first | exact HB.out | apply below_alloc | apply pw_below_drewN | apply below_drew1) | exact HB.out))) : w.heap.size ≤ gb101)); have n3_ := Aside0.mk ((by rw [hg]; exact (below_size (by repeat (first | (with_reducible first | exact HB.out | apply below_alloc | apply pw_below_drewN | apply below_drew1) | exact HB.out))) : w.heap.size ≤ gb101)); clear HB; have HB := n0_; have BK101 := n1_; have GW101 := n2_; have GE101 := n3_; clear n0_ n1_ n2_ n3_; clear hb hbox hg; have hcz7_0 : w6.cell? ⟨gb101, 0, none⟩ = some (.int .i64 a0_0) := (blk_cell BK101.out 0).trans rfl; have hcz7_1 : w6.cell? ⟨gb101, 1, none⟩ = some (.int .i64 a0_1) := (blk_cell BK101.out 1).trans rfl; have hcz7_2 : w6.cell? ⟨gb101, 2, none⟩ = some (.string a0_2) := (blk_cell BK101.out 2).trans rfl; have hfz7_0 := blk_frozen BK101.out 0; have hfz7_1 := blk_frozen BK101.out 1; have hfz7_2 := blk_frozen BK101.out 2))
    go_ret
    exact ⟨by first | rfl | (simp [errW_none, errW_some] <;> rfl) | (simp [*, errW_none, errW_some] <;> rfl), by repeat (first | (with_reducible first | exact HB.out | apply below_alloc | apply pw_below_drewN | apply below_drew1 | refine below_set ?_ GE101.out) | exact HB.out)⟩
end Go.Proofs.YtbpdcbibooiimaaGreatDoor.Q
namespace Go.Proofs.YtbpdcbibooiimaaGreatDoor.Q
open Go.RowKit Go.Proofs.YtbpdcbibooiimaaGreatDoorW.PrintWords Go.Proofs.YtbpdcbibooiimaaGreatDoorW.PrintLast Go.Proofs.YtbpdcbibooiimaaGreatDoorW.PrintMore
attribute [local go_sem] max2_int min2_int max_two min_two max_three min_three max_four min_four   -- for this text's walks alone
/-! ### span_Span_int_at_span_Table_find_1: function 92 -/
def span_Span_int_at_span_Table_find_1.l0 : Nat → List (S83) → Int → Int → Int → Int → Option (Int × Bool)
  | 0, _, _, _, _, _ => none
  | k + 1, x0, x1, x8, x9, x10 => if x9 < x10 then (if 0 ≤ (wrap64 ((IntKind.u64.wrap (wrap64 (x9 + x10))) / 2)) then (if (wrap64 ((IntKind.u64.wrap (wrap64 (x9 + x10))) / 2)) < (x0.length : Int) then ((span_Table_find_1.f ((rd_T83 x0 (wrap64 ((IntKind.u64.wrap (wrap64 (x9 + x10))) / 2))).f0) ((rd_T83 x0 (wrap64 ((IntKind.u64.wrap (wrap64 (x9 + x10))) / 2))).f1) ((rd_T83 x0 (wrap64 ((IntKind.u64.wrap (wrap64 (x9 + x10))) / 2))).f2) x1).bind fun t102 => (if t102 < 0 then (span_Span_int_at_span_Table_find_1.l0 k x0 x1 x8 (wrap64 ((wrap64 ((IntKind.u64.wrap (wrap64 (x9 + x10))) / 2)) + 1)) x10) else (span_Span_int_at_span_Table_find_1.l0 k x0 x1 x8 x9 (wrap64 ((IntKind.u64.wrap (wrap64 (x9 + x10))) / 2))))) else (none)) else (none)) else (if x9 < x8 then (if 0 ≤ x9 then (if x9 < (x0.length : Int) then ((span_Table_find_1.f ((rd_T83 x0 x9).f0) ((rd_T83 x0 x9).f1) ((rd_T83 x0 x9).f2) x1).bind fun t104 => (some (x9, (t104 == 0)))) else (none)) else (none)) else (some (x9, false)))
def span_Span_int_at_span_Table_find_1.f (k : Nat) (l0 : List (S83)) (a1 : Int)  : Option (Int × Bool) := span_Span_int_at_span_Table_find_1.l0 k l0 a1 (l0.length : Int) 0 (l0.length : Int)
theorem span_Span_int_at_span_Table_find_1.mono_l : ∀ k, (∀ y0 y1 y2 y3 y4, LeO (span_Span_int_at_span_Table_find_1.l0 k y0 y1 y2 y3 y4) (span_Span_int_at_span_Table_find_1.l0 (k + 1) y0 y1 y2 y3 y4))
  | 0 => fun _ _ _ _ _ r h => by simp [span_Span_int_at_span_Table_find_1.l0] at h
  | k + 1 => by
    have ih0 := span_Span_int_at_span_Table_find_1.mono_l k
    · intro y0 y1 y2 y3 y4
      unfold span_Span_int_at_span_Table_find_1.l0
      repeat' first
      | (with_reducible exact ih0 _ _ _ _ _)
      | (with_reducible exact LeO.refl _)
      | (with_reducible exact LeO.none _)
      | (with_reducible refine LeO.ite ?_ ?_)
      | (with_reducible refine LeO.bind ?_ (fun _ => ?_))
      | exact ih0 _ _ _ _ _
      | exact LeO.none _
      | refine LeO.ite ?_ ?_
      | refine LeO.bind ?_ (fun _ => ?_)
theorem span_Span_int_at_span_Table_find_1.mono : ∀ a0 a1 k, LeO (span_Span_int_at_span_Table_find_1.f k a0 a1) (span_Span_int_at_span_Table_find_1.f (k + 1) a0 a1) := by
  intro a0 a1 k
  have ih0 := span_Span_int_at_span_Table_find_1.mono_l k
  unfold span_Span_int_at_span_Table_find_1.f
  repeat' first
      | (with_reducible exact ih0 _ _ _ _ _)
      | (with_reducible exact LeO.refl _)
      | (with_reducible exact LeO.none _)
      | (with_reducible refine LeO.ite ?_ ?_)
      | (with_reducible refine LeO.bind ?_ (fun _ => ?_))
      | exact ih0 _ _ _ _ _
      | exact LeO.none _
      | refine LeO.ite ?_ ?_
      | refine LeO.bind ?_ (fun _ => ?_)
set_option maxHeartbeats 8000000 in
set_option maxRecDepth 100000 in
theorem span_Span_int_at_span_Table_find_1.calls (k : Nat) (A0 : Option Addr) (c0 : Nat) (l0 : List (S83)) (a1 : Int)  (r1 : Int) (r2 : Bool) (w : World) (hr0 : Kd.C k83 w A0 l0.length l0) (hc0 : l0.length ≤ c0) (h : span_Span_int_at_span_Table_find_1.f k l0 a1 = some (r1, r2)) :
    Calls Tryz.prog 92 #[.slice A0 l0.length c0, .int .i64 a1, .func (.func 93) #[] #[]] w fun e w' => e = .returned (.tuple #[.int .i64 r1, .bool r2]) ∧ Below w.heap.size w w' := by
  have hu83 := Tryz.underlying83
  have HR0 := Aside0.mk hr0
  have HC0 := Aside0.mk hc0
  clear hr0 hc0
  have HB := Aside0.mk (Below.refl w.heap.size w)
  have H : (span_Span_int_at_span_Table_find_1.l0 k l0 a1 (l0.length : Int) 0 (l0.length : Int)) = some (r1, r2) := h
  clear h
  have H' := Aside0.mk H
  clear H
  go_enter Tryz.func92, Tryz.ntmps92
  go_wp2
  go_loopg [9, 10] k (fun kq v9 v10 w' => ∃ (x9_1 : Int) (x10_1 : Int), v9 = .int .i64 x9_1 ∧ v10 = .int .i64 x10_1 ∧ Aside0 (span_Span_int_at_span_Table_find_1.l0 kq l0 a1 (l0.length : Int) x9_1 x10_1 = some (r1, r2)) ∧ Aside0 (kq ≤ k) ∧ Aside0 (Below w.heap.size w w'))
  case atStart => exact ⟨(0), ((l0.length : Int)), (by first | rfl | (simp; done) | (simp [*]; done)), (by first | rfl | (simp; done) | (simp [*]; done)), H', ⟨Nat.le_refl _⟩, ⟨by repeat (first | (with_reducible first | exact HB.out | apply below_alloc | apply pw_below_drewN | apply below_drew1) | exact HB.out)⟩⟩
  case round =>
    clear H'
    try clear p2
    obtain ⟨x9_1, x10_1, rfl, rfl, HA, HK1, HB⟩ := hrel
    cases gk with
    | zero => exact absurd HA.out (by simp [span_Span_int_at_span_Table_find_1.l0])
    | succ k1 =>
      have H := HA.out
      clear HA
      simp only [span_Span_int_at_span_Table_find_1.l0] at H
      by_cases c4 : x9_1 < x10_1
      · rw [if_pos c4] at H
        have c4b0 : decide (x9_1 < x10_1) = true := decide_eq_true c4
        clear c4
        obtain ⟨ji5, hji5⟩ : ∃ j_ : Int, (wrap64 ((IntKind.u64.wrap (wrap64 (x9_1 + x10_1))) / 2)) = j_ := ⟨_, rfl⟩
        replace H : (if 0 ≤ (ji5) then (if (ji5) < (l0.length : Int) then ((span_Table_find_1.f ((rd_T83 l0 (ji5)).f0) ((rd_T83 l0 (ji5)).f1) ((rd_T83 l0 (ji5)).f2) a1).bind fun t102 => (if t102 < 0 then (span_Span_int_at_span_Table_find_1.l0 k1 l0 a1 (l0.length : Int) (wrap64 ((ji5) + 1)) x10_1) else (span_Span_int_at_span_Table_find_1.l0 k1 l0 a1 (l0.length : Int) x9_1 ji5))) else (none)) else (none)) = some (r1, r2) := by first | (rw [hji5] at H; exact H) | (simp only [hji5] at H ⊢; exact H)
        have hji5w : (IntKind.i64.wrap ((IntKind.u64.wrap (wrap64 (x9_1 + x10_1))) / 2)) = ji5 := (i64_w _).trans hji5
        by_cases c6 : 0 ≤ (ji5)
        · rw [if_pos c6] at H
          have c6b0 : decide (0 ≤ (ji5)) = true := decide_eq_true c6
          clear c6
          by_cases c7 : (ji5) < (l0.length : Int)
          · rw [if_pos c7] at H
            have c7b0 : decide ((ji5) < (l0.length : Int)) = true := decide_eq_true c7
            clear c7
            replace H := Option.bind_eq_some_iff.mp H
            obtain ⟨t102, A80, H⟩ := H
            replace H : (if t102 < 0 then (span_Span_int_at_span_Table_find_1.l0 k1 l0 a1 (l0.length : Int) (wrap64 ((ji5) + 1)) x10_1) else (span_Span_int_at_span_Table_find_1.l0 k1 l0 a1 (l0.length : Int) x9_1 ji5)) = some (r1, r2) := H
            have A8 := Aside0.mk A80
            clear A80
            by_cases c9 : t102 < 0
            · rw [if_pos c9] at H
              have c9b0 : decide (t102 < 0) = true := decide_eq_true c9
              clear c9
              have H' := Aside0.mk H
              clear H
              have p101 : 0 ≤ ((ji5) : Int) := of_decide_eq_true (by first | (with_reducible assumption) | assumption)
              have q101 : (ji5) < (l0.length : Int) := of_decide_eq_true (by first | (with_reducible assumption) | assumption)
              obtain ⟨ad101, e101, hx101_0, hx101_1, hx101_2⟩ := at_T83 HR0.out (ji5) p101 q101
              cases e101
              replace hx101_0 := (HB.out.cell (World.block_lt_of_cell? w _ hx101_0)).trans hx101_0
              replace hx101_1 := (HB.out.cell (World.block_lt_of_cell? w _ hx101_1)).trans hx101_1
              replace hx101_2 := (HB.out.cell (World.block_lt_of_cell? w _ hx101_2)).trans hx101_2
              replace p101 := eq_true p101
              replace q101 := eq_true q101
              go_wp2_with (first | (go_at_call 93; (with_reducible refine (span_Table_find_1.calls ((rd_T83 l0 (ji5)).f0) ((rd_T83 l0 (ji5)).f1) ((rd_T83 l0 (ji5)).f2) a1 t102 _ A8.out).mono ?_); rintro e w10 ⟨rfl, hb⟩; have n0_ := Aside0.mk (below_step (by repeat (first | (with_reducible first | exact HB.out | apply below_alloc | apply pw_below_drewN | apply below_drew1) | exact HB.out)) hb); clear HB; have HB := n0_; clear n0_; (try clear hb); (try clear hb2); (try clear hk); (try clear hi)))
              go_roundg k1
              case measure => have := HK1.out; omega
              case rel => exact ⟨(wrap64 ((ji5) + 1)), (x10_1), (by first | rfl | (simp; done) | (simp only [← hji5] <;> (first | rfl | simp)) | (simp [*]; done)), (by first | rfl | (simp; done) | (simp [*]; done)), H', ⟨by have := HK1.out; omega⟩, ⟨by repeat (first | (with_reducible first | exact HB.out | apply below_alloc | apply pw_below_drewN | apply below_drew1) | exact HB.out)⟩⟩
            · rw [if_neg c9] at H
              have c9b0 : decide (t102 < 0) = false := decide_eq_false c9
              clear c9
              have H' := Aside0.mk H
              clear H
              have p101 : 0 ≤ ((ji5) : Int) := of_decide_eq_true (by first | (with_reducible assumption) | assumption)
              have q101 : (ji5) < (l0.length : Int) := of_decide_eq_true (by first | (with_reducible assumption) | assumption)
              obtain ⟨ad101, e101, hx101_0, hx101_1, hx101_2⟩ := at_T83 HR0.out (ji5) p101 q101
              cases e101
              replace hx101_0 := (HB.out.cell (World.block_lt_of_cell? w _ hx101_0)).trans hx101_0
              replace hx101_1 := (HB.out.cell (World.block_lt_of_cell? w _ hx101_1)).trans hx101_1
              replace hx101_2 := (HB.out.cell (World.block_lt_of_cell? w _ hx101_2)).trans hx101_2
              replace p101 := eq_true p101
              replace q101 := eq_true q101
              go_wp2_with (first | (go_at_call 93; (with_reducible refine (span_Table_find_1.calls ((rd_T83 l0 (ji5)).f0) ((rd_T83 l0 (ji5)).f1) ((rd_T83 l0 (ji5)).f2) a1 t102 _ A8.out).mono ?_); rintro e w11 ⟨rfl, hb⟩; have n0_ := Aside0.mk (below_step (by repeat (first | (with_reducible first | exact HB.out | apply below_alloc | apply pw_below_drewN | apply below_drew1) | exact HB.out)) hb); clear HB; have HB := n0_; clear n0_; (try clear hb); (try clear hb2); (try clear hk); (try clear hi)))
              go_roundg k1
              case measure => have := HK1.out; omega
              case rel => exact ⟨(x9_1), (ji5), (by first | rfl | (simp; done) | (simp [*]; done)), (by first | rfl | (simp; done) | (simp only [← hji5] <;> (first | rfl | simp)) | (simp [*]; done)), H', ⟨by have := HK1.out; omega⟩, ⟨by repeat (first | (with_reducible first | exact HB.out | apply below_alloc | apply pw_below_drewN | apply below_drew1) | exact HB.out)⟩⟩
          · rw [if_neg c7] at H
            exact absurd H (by simp)
        · rw [if_neg c6] at H
          exact absurd H (by simp)
      · rw [if_neg c4] at H
        have c4b0 : decide (x9_1 < x10_1) = false := decide_eq_false c4
        clear c4
        by_cases c12 : x9_1 < (l0.length : Int)
        · rw [if_pos c12] at H
          have c12b0 : decide (x9_1 < (l0.length : Int)) = true := decide_eq_true c12
          clear c12
          by_cases c13 : 0 ≤ x9_1
          · rw [if_pos c13] at H
            have c13b0 : decide (0 ≤ x9_1) = true := decide_eq_true c13
            clear c13
            by_cases c14 : x9_1 < (l0.length : Int)
            · rw [if_pos c14] at H
              have c14b0 : decide (x9_1 < (l0.length : Int)) = true := decide_eq_true c14
              clear c14
              replace H := Option.bind_eq_some_iff.mp H
              obtain ⟨t104, A150, H⟩ := H
              replace H : (some (x9_1, (t104 == 0))) = some (r1, r2) := H
              have A15 := Aside0.mk A150
              clear A150
              simp only [Option.some.injEq, Prod.mk.injEq] at H
              obtain ⟨rfl, rfl⟩ := H
              have p103 : 0 ≤ (x9_1 : Int) := of_decide_eq_true (by first | (with_reducible assumption) | assumption)
              have q103 : x9_1 < (l0.length : Int) := of_decide_eq_true (by first | (with_reducible assumption) | assumption)
              obtain ⟨ad103, e103, hx103_0, hx103_1, hx103_2⟩ := at_T83 HR0.out x9_1 p103 q103
              cases e103
              replace hx103_0 := (HB.out.cell (World.block_lt_of_cell? w _ hx103_0)).trans hx103_0
              replace hx103_1 := (HB.out.cell (World.block_lt_of_cell? w _ hx103_1)).trans hx103_1
              replace hx103_2 := (HB.out.cell (World.block_lt_of_cell? w _ hx103_2)).trans hx103_2
              replace p103 := eq_true p103
              replace q103 := eq_true q103
              go_wp2_with (first | (go_at_call 93; (with_reducible refine (span_Table_find_1.calls ((rd_T83 l0 x9_1).f0) ((rd_T83 l0 x9_1).f1) ((rd_T83 l0 x9_1).f2) a1 t104 _ A15.out).mono ?_); rintro e w16 ⟨rfl, hb⟩; have n0_ := Aside0.mk (below_step (by repeat (first | (with_reducible first | exact HB.out | apply below_alloc | apply pw_below_drewN | apply below_drew1) | exact HB.out)) hb); clear HB; have HB := n0_; clear n0_; (try clear hb); (try clear hb2); (try clear hk); (try clear hi)))
              go_ret2
              exact ⟨by first | rfl | (simp [errW_none, errW_some] <;> rfl) | (simp [*, errW_none, errW_some] <;> rfl), by repeat (first | (with_reducible first | exact HB.out | apply below_alloc | apply pw_below_drewN | apply below_drew1) | exact HB.out)⟩
            · rw [if_neg c14] at H
              exact absurd H (by simp)
          · rw [if_neg c13] at H
            exact absurd H (by simp)
        · rw [if_neg c12] at H
          have c12b0 : decide (x9_1 < (l0.length : Int)) = false := decide_eq_false c12
          clear c12
          simp only [Option.some.injEq, Prod.mk.injEq] at H
          obtain ⟨rfl, rfl⟩ := H
          go_wp2
          go_ret2
          exact ⟨by first | rfl | (simp [errW_none, errW_some] <;> rfl) | (simp [*, errW_none, errW_some] <;> rfl), by repeat (first | (with_reducible first | exact HB.out | apply below_alloc | apply pw_below_drewN | apply below_drew1) | exact HB.out)⟩
end Go.Proofs.YtbpdcbibooiimaaGreatDoor.Q
/- span: a table, its spans, find, Len, Value, Has. -/
namespace Go.Proofs.YtbpdcbibooiimaaGreatDoor.Q
open Go.RowKit Go.Proofs.YtbpdcbibooiimaaGreatDoorW.PrintWords Go.Proofs.YtbpdcbibooiimaaGreatDoorW.PrintLast Go.Proofs.YtbpdcbibooiimaaGreatDoorW.PrintMore
def Row43 (W : World) (v : Value) (L : List S83) : Prop :=
  (v = .slice none 0 0 ∧ L = []) ∨ ∃ ad c, v = .slice (some ad) L.length c ∧ L.length ≤ c ∧ Kd.C k83 W (some ad) L.length L ∧ ∃ cells, W.heap[ad.block]? = some (.cells cells 83 (0, 0))
theorem Row43.below {W W' : World} {v : Value} {L : List S83} (h : Row43 W v L) (hb : Below W.heap.size W W') : Row43 W' v L := by
  rcases h with h | ⟨ad, c, h1, h2, h3, cells, h4⟩
  · exact .inl h
  · exact .inr ⟨ad, c, h1, h2, Kd.C_below h3 hb, cells, (hb.block _ (Array.getElem?_eq_some_iff.1 h4).1).trans h4⟩
theorem Row43.open_ {W : World} {v : Value} {L : List S83} (h : Row43 W v L) : ∃ A c, v = .slice A L.length c ∧ L.length ≤ c ∧ Kd.C k83 W A L.length L := by
  rcases h with ⟨rfl, rfl⟩ | ⟨ad, c, h1, h2, h3, _⟩
  · exact ⟨none, 0, rfl, Nat.le_refl _, ⟨rfl, by simp, fun h => by simp at h⟩⟩
  · exact ⟨some ad, c, h1, h2, h3⟩
def Tab (W : World) (p : Option Addr) (L : List S83) : Prop :=
  (p = none ∧ L = []) ∨ ∃ g v, p = some ⟨g, 0, none⟩ ∧ W.heap[g]? = some (.cells #[v] 130 (0, 0)) ∧ Row43 W v L
theorem Tab.below {W W' : World} {p : Option Addr} {L : List S83} (h : Tab W p L) (hb : Below W.heap.size W W') : Tab W' p L := by
  rcases h with h | ⟨g, v, h1, h2, h3⟩
  · exact .inl h
  · exact .inr ⟨g, v, h1, (hb.block g (Array.getElem?_eq_some_iff.1 h2).1).trans h2, h3.below hb⟩
set_option maxHeartbeats 2000000 in
set_option maxRecDepth 100000 in
theorem span_spans.calls (p : Option Addr) (L : List S83) (w : World) (hT : Tab w p L) :
    Calls Tryz.prog 65 #[.pointer p] w fun e w' => (∃ A c, e = .returned (.slice A L.length c) ∧ Row43 w (.slice A L.length c) L ∧ L.length ≤ c ∧ Kd.C k83 w A L.length L) ∧ w' = w := by
  rcases hT with ⟨rfl, rfl⟩ | ⟨g, v, rfl, h2, h3⟩
  · go_enter Tryz.func65, Tryz.ntmps65
    go_wp2
    go_ret
    exact ⟨⟨none, 0, rfl, .inl ⟨rfl, rfl⟩, Nat.le_refl _, ⟨rfl, by simp, fun h => by simp at h⟩⟩, rfl⟩
  · have h3' := h3
    obtain ⟨A, c, rfl, h4, h5⟩ := h3'.open_
    have hc : w.cell? ⟨g, 0, none⟩ = some (.slice A L.length c) := by unfold World.cell?; rw [h2]; rfl
    have H3 := Aside0.mk h3
    have H4 := Aside0.mk h4
    have H5 := Aside0.mk h5
    clear h2 h3 h4 h5 h3'
    go_enter Tryz.func65, Tryz.ntmps65
    go_wp2
    go_ret
    exact ⟨⟨A, c, rfl, H3.out, H4.out, H5.out⟩, rfl⟩
theorem Tab.open_ {W : World} {p : Option Addr} {L : List S83} (h : Tab W p L) :
    (p = none ∧ L = []) ∨ ∃ g A c, p = some ⟨g, 0, none⟩ ∧ W.heap[g]? = some (.cells #[.slice A L.length c] 130 (0, 0)) ∧ L.length ≤ c ∧ Kd.C k83 W A L.length L := by
  rcases h with h | ⟨g, v, h1, h2, h3⟩
  · exact .inl h
  · obtain ⟨A, c, rfl, h4, h5⟩ := h3.open_
    exact .inr ⟨g, A, c, h1, h2, h4, h5⟩
theorem span_spans.calls' (p : Option Addr) (L : List S83) (w : World) (hT : Tab w p L) :
    Calls Tryz.prog 65 #[.pointer p] w fun e w' => (∃ A c, e = .returned (.slice A L.length c) ∧ L.length ≤ c ∧ Kd.C k83 w A L.length L) ∧ w' = w :=
  (span_spans.calls p L w hT).mono fun e w' ⟨⟨A, c, h1, _, h3, h4⟩, h5⟩ => ⟨⟨A, c, h1, h3, h4⟩, h5⟩
def span_find.f (k : Nat) (L : List S83) (c : Int) : Option Int := (span_Span_int_at_span_Table_find_1.f k L c).bind fun t => some t.1
set_option maxHeartbeats 2000000 in
set_option maxRecDepth 100000 in
theorem span_find.calls (k : Nat) (p : Option Addr) (L : List S83) (c r : Int) (w : World) (hT : Tab w p L) (h : span_find.f k L c = some r) :
    Calls Tryz.prog 66 #[.pointer p, .int .i64 c] w fun e w' => e = .returned (.int .i64 r) ∧ Below w.heap.size w w' := by
  unfold span_find.f at h
  obtain ⟨⟨t1, t2⟩, h1, h2⟩ := Option.bind_eq_some_iff.mp h
  obtain rfl := Option.some.inj h2
  have HT := Aside0.mk hT
  have H1 := Aside0.mk h1
  clear hT h1 h h2
  go_enter Tryz.func66, Tryz.ntmps66
  go_wp2_with (first
    | (go_at_call 65
       refine (span_spans.calls p L _ HT.out).mono ?_
       rintro e w1 ⟨⟨A, n, rfl, -, hn, hC⟩, rfl⟩
       have HN := Aside0.mk hn
       have HC := Aside0.mk hC
       clear hn hC)
    | (go_at_call 92
       refine (span_Span_int_at_span_Table_find_1.calls k A n L c t1 t2 _ HC.out HN.out H1.out).mono ?_
       rintro e w2 ⟨rfl, hb⟩
       have HB := Aside0.mk hb
       clear hb))
  go_ret
  exact ⟨rfl, HB.out⟩
set_option maxHeartbeats 2000000 in
set_option maxRecDepth 100000 in
theorem span_Len.calls (p : Option Addr) (L : List S83) (w : World) (hT : Tab w p L) :
    Calls Tryz.prog 41 #[.pointer p] w fun e w' => e = .returned (.int .i64 (L.length : Int)) ∧ w' = w := by
  have HT := Aside0.mk hT
  clear hT
  go_enter Tryz.func41, Tryz.ntmps41
  go_wp2_with (first
    | (go_at_call 65
       refine (span_spans.calls p L _ HT.out).mono ?_
       rintro e w1 ⟨⟨A, n, rfl, -, hn, hC⟩, rfl⟩
       have HN := Aside0.mk hn
       have HC := Aside0.mk hC
       clear hn hC))
  go_ret
  exact ⟨rfl, rfl⟩
end Go.Proofs.YtbpdcbibooiimaaGreatDoor.Q
/- span: Value. -/
namespace Go.Proofs.YtbpdcbibooiimaaGreatDoor.Q
open Go.RowKit Go.Proofs.YtbpdcbibooiimaaGreatDoorW.PrintWords Go.Proofs.YtbpdcbibooiimaaGreatDoorW.PrintLast Go.Proofs.YtbpdcbibooiimaaGreatDoorW.PrintMore
def span_Value.f (k : Nat) (L : List S83) (c : Int) : Option ByteArray := (span_find.f k L c).bind fun i => if i < (L.length : Int) then (if 0 ≤ i then (if (rd_T83 L i).f0 ≤ c then some (rd_T83 L i).f2 else some (⟨#[]⟩ : ByteArray)) else none) else some (⟨#[]⟩ : ByteArray)
set_option maxHeartbeats 2000000 in
set_option maxRecDepth 100000 in
theorem span_Value.calls (k : Nat) (p : Option Addr) (L : List S83) (c : Int) (r : ByteArray) (w : World) (hT : Tab w p L) (h : span_Value.f k L c = some r) :
    Calls Tryz.prog 42 #[.pointer p, .int .i64 c] w fun e w' => e = .returned (.string r) ∧ Below w.heap.size w w' := by
  unfold span_Value.f at h
  obtain ⟨i, h1, h2⟩ := Option.bind_eq_some_iff.mp h
  have H1 := Aside0.mk h1
  clear h1 h
  by_cases c1 : i < (L.length : Int)
  · rw [if_pos c1] at h2
    by_cases c2 : 0 ≤ i
    · rw [if_pos c2] at h2
      have hT' := hT.open_
      rcases hT' with ⟨_, rfl⟩ | ⟨g, A, n, rfl, q2, q3, q4⟩
      · simp at c1; omega
      have hcg : w.cell? ⟨g, 0, none⟩ = some (.slice A L.length n) := by unfold World.cell?; rw [q2]; rfl
      obtain ⟨ad, rfl, hx0, hx1, hx2⟩ := at_T83 q4 i c2 c1
      have HT := Aside0.mk hT
      have HCG := Aside0.mk hcg
      have HX0 := Aside0.mk hx0
      have HX2 := Aside0.mk hx2
      have HX1 := Aside0.mk hx1
      have HN := Aside0.mk q3
      have b1 : decide (i < (L.length : Int)) = true := decide_eq_true c1
      have b2 : decide (0 ≤ i) = true := decide_eq_true c2
      have e1 := eq_true c1
      have e2 := eq_true c2
      clear hT q2 q3 q4 hcg hx0 hx1 hx2 c1 c2
      by_cases c3 : (rd_T83 L i).f0 ≤ c
      · rw [if_pos c3] at h2
        obtain rfl := Option.some.inj h2
        have b3 : decide ((rd_T83 L i).f0 ≤ c) = true := decide_eq_true c3
        clear h2 c3
        go_enter Tryz.func42, Tryz.ntmps42
        go_wp2_with (first
          | (go_at_call 66
             refine (span_find.calls k _ L c i _ HT.out H1.out).mono ?_
             rintro e w2 ⟨rfl, hb⟩
             have HB := Aside0.mk hb
             have hcg := (hb.cell (World.block_lt_of_cell? w _ HCG.out)).trans HCG.out
             have hx0 := (hb.cell (World.block_lt_of_cell? w _ HX0.out)).trans HX0.out
             have hx1 := (hb.cell (World.block_lt_of_cell? w _ HX1.out)).trans HX1.out
             have hx2 := (hb.cell (World.block_lt_of_cell? w _ HX2.out)).trans HX2.out
             clear hb)
          | (go_at_call 65
             refine (span_spans.calls' _ L _ (HT.out.below HB.out)).mono ?_
             rintro e w1 ⟨⟨A, n, rfl, hn, hC⟩, rfl⟩
             clear hn hC))
        go_ret
        exact ⟨rfl, HB.out⟩
      · rw [if_neg c3] at h2
        obtain rfl := Option.some.inj h2
        have b3 : decide ((rd_T83 L i).f0 ≤ c) = false := decide_eq_false c3
        clear h2 c3
        go_enter Tryz.func42, Tryz.ntmps42
        go_wp2_with (first
          | (go_at_call 66
             refine (span_find.calls k _ L c i _ HT.out H1.out).mono ?_
             rintro e w2 ⟨rfl, hb⟩
             have HB := Aside0.mk hb
             have hcg := (hb.cell (World.block_lt_of_cell? w _ HCG.out)).trans HCG.out
             have hx0 := (hb.cell (World.block_lt_of_cell? w _ HX0.out)).trans HX0.out
             have hx1 := (hb.cell (World.block_lt_of_cell? w _ HX1.out)).trans HX1.out
             have hx2 := (hb.cell (World.block_lt_of_cell? w _ HX2.out)).trans HX2.out
             clear hb)
          | (go_at_call 65
             refine (span_spans.calls' _ L _ (HT.out.below HB.out)).mono ?_
             rintro e w1 ⟨⟨A, n, rfl, hn, hC⟩, rfl⟩
             clear hn hC))
        go_ret
        exact ⟨rfl, HB.out⟩
    · rw [if_neg c2] at h2; cases h2
  · rw [if_neg c1] at h2
    obtain rfl := Option.some.inj h2
    have b1 : decide (i < (L.length : Int)) = false := decide_eq_false c1
    have e1 := eq_false c1
    have HT := Aside0.mk hT
    have hT' := hT.open_
    rcases hT' with ⟨rfl, -⟩ | ⟨g, A, n, rfl, q2, q3, q4⟩
    · clear h2 c1 hT
      go_enter Tryz.func42, Tryz.ntmps42
      go_wp2_with (first
        | (go_at_call 66
           refine (span_find.calls k _ L c i _ HT.out H1.out).mono ?_
           rintro e w2 ⟨rfl, hb⟩
           have HB := Aside0.mk hb
           clear hb)
        | (go_at_call 65
           refine (span_spans.calls' _ L _ (HT.out.below HB.out)).mono ?_
           rintro e w1 ⟨⟨A, n, rfl, hn, hC⟩, rfl⟩
           clear hn hC))
      go_ret
      exact ⟨rfl, HB.out⟩
    · clear h2 c1 hT q2 q3 q4
      go_enter Tryz.func42, Tryz.ntmps42
      go_wp2_with (first
        | (go_at_call 66
           refine (span_find.calls k _ L c i _ HT.out H1.out).mono ?_
           rintro e w2 ⟨rfl, hb⟩
           have HB := Aside0.mk hb
           clear hb)
        | (go_at_call 65
           refine (span_spans.calls' _ L _ (HT.out.below HB.out)).mono ?_
           rintro e w1 ⟨⟨A, n, rfl, hn, hC⟩, rfl⟩
           clear hn hC))
      go_ret
      exact ⟨rfl, HB.out⟩
end Go.Proofs.YtbpdcbibooiimaaGreatDoor.Q
/- slices.Clone at []span.Span: printed by genrow.py. -/
namespace Go.Proofs.YtbpdcbibooiimaaGreatDoor.Q
open Go.RowKit Go.Proofs.YtbpdcbibooiimaaGreatDoorW.PrintWords Go.Proofs.YtbpdcbibooiimaaGreatDoorW.PrintLast Go.Proofs.YtbpdcbibooiimaaGreatDoorW.PrintMore
theorem span_info : (Tryz.prog.info? 83).map (fun i => (i.zero, i.size, i.bytes)) = some (some (.agg #[(.int .i64 0), (.int .i64 0), (.string ⟨#[]⟩)]), 3, 32) := by kernel_rfl
set_option maxHeartbeats 1000000 in
set_option maxRecDepth 100000 in
theorem span_Clone.calls (A0 : Option Addr) (c0 : Nat) (l0 : List S83) (w : World) (hr0 : Kd.C k83 w A0 l0.length l0) (hc0 : l0.length ≤ c0) (hl : l0.length < 1099511627776) :
    Calls Tryz.prog 75 #[.slice A0 l0.length c0] w fun e w' => ∃ v0_ : Value, e = .returned (v0_) ∧ Kd.R k83 83 w' w.heap.size (fun _ => True) v0_ l0 ∧ Below w.heap.size w w' := by
    have HR := Aside0.mk hr0
    have HL := Aside0.mk hl
    have heq := fun (W : World) => run_eql_slice_nil (P := Tryz.prog) W 127 83 A0 l0.length c0 Tryz.underlying127
    clear hr0 hl
    cases A0 with
    | none =>
      have hz : l0 = [] := by
        rcases Nat.eq_zero_or_pos l0.length with e | e
        · exact List.eq_nil_of_length_eq_zero e
        · obtain ⟨ad, h, _⟩ := HR.out.2.2 e
          cases h
      have HZ := Aside0.mk hz
      clear hz
      go_enter Tryz.func75, Tryz.ntmps75
      go_wp2
      go_ret
      exact ⟨_, rfl, by rw [HZ.out]; exact Kd.R_nil _ _ _ _ _, Below.refl _ _⟩
    | some ad =>
      go_enter Tryz.func75, Tryz.ntmps75
      go_wp2_with (first
        | ((with_reducible refine gate_dst (N := 5) rfl ?_)
           refine Kd.R_lit k83 (w0 := w) w.heap.size 83 ?hg (N := 5) ?hd (xs := ([] : List S83)) (inner := []) (ok := fun _ => True) (okp := fun _ => True) ?hr (Reps.none _ _) (fun _ hk => hk) trivial (Below.refl _ _) (Nat.le_refl _) (by simp) ?_
           (case hd => rfl)
           (case hg => rfl)
           (case hr => first | (go_simp; done) | (go_simp; rfl))
           intro v1 w1 hR1 hB1 _ _
           have HR1 := Aside0.mk hR1
           have HB1 := Aside0.mk hB1
           clear hR1 hB1)
        | ((with_reducible refine gate_builtin (b := .append) (xs := #[.tmp 5, .tmp 6]) rfl ?_)
           at_builtin
           refine Kd.R_append_rows k83 (w0 := w) w.heap.size rfl (.tmp 5) (.tmp 6) 127 83 (.agg #[(.int .i64 0), (.int .i64 0), (.string ⟨#[]⟩)]) 32 rfl Tryz.underlying127 span_info rfl (by decide) (by omega) _ [] l0 _ _ _ (fun _ => True) (fun _ => False) rfl rfl HR1.out (Kd.C_below HR.out HB1.out) (fun _ _ h => h) (fun _ h => h.elim) (fun _ _ => trivial) HB1.out HB1.out.size (by have := HL.out; simp only [List.length_nil]; omega) ?_
           intro v2 w2 hR2 hB2 _ _
           rw [List.nil_append] at hR2
           have HR2 := Aside0.mk hR2
           have HB2 := Aside0.mk hB2
           clear hR2 hB2 HR1 HB1))
      go_ret
      exact ⟨_, rfl, HR2.out, HB2.out⟩
end Go.Proofs.YtbpdcbibooiimaaGreatDoor.Q
/- copy between rows whose elements have any number of cells; append of zeros to a row of the call's own. -/
namespace Go.Proofs.YtbpdcbibooiimaaGreatDoor.Q
open Go.RowKit Go.Proofs.YtbpdcbibooiimaaGreatDoorW.PrintWords Go.Proofs.YtbpdcbibooiimaaGreatDoorW.PrintLast Go.Proofs.YtbpdcbibooiimaaGreatDoorW.PrintMore
theorem run_copy_rowN {P : Program} (w : World) (dT sT ty elem : TypeId) (size g o dLen dCap : Nat) (a : Addr) (sLen sCap : Nat) (cur : Array Value) (t : TypeId) (cs : List Value)
    (hu : P.underlying dT = some (.slice elem)) (hs : (P.info? elem).map (·.size) = some size)
    (hg : w.heap[g]? = some (.cells cur t (0, 0))) (hn : cs.length = Nat.min sLen dLen * size)
    (hsrc : ∀ j v, cs[j]? = some v → w.cell? (a.add j) = some v) (hfit : o + cs.length ≤ cur.size) (h1 : ∀ v ∈ cs, v.oneCell' = true) :
    (Builtin.copy_ #[dT, sT] ty #[.slice (some ⟨g, o, none⟩) dLen dCap, .slice (some a) sLen sCap]).run P w =
      .ok (goInt (Nat.min sLen dLen : Nat)) (w.setRow g (cur.toList.take o ++ cs ++ cur.toList.drop (o + cs.length)).toArray) := by
  have hst := run_storeCells_at P g o t cs 0 cur w hg (by simpa using hfit) h1
  cases hq : P.info? elem with
  | none => simp [hq] at hs
  | some i =>
    have hi : i.size = size := by simpa [hq] using hs
    have hl := run_firstCells_some (P := P) w size (Nat.min sLen dLen) a sLen sCap cs hn hsrc
    simp [Builtin.copy_, run_underlying hu, Builtin.lenOf, sizeOf, typeInfo, hq, hi, hl, hst]
theorem put_take {α : Type} (cur cs : List α) (o n : Nat) (h : o + cs.length ≤ n) (hn : n ≤ cur.length) :
    (cur.take o ++ cs ++ cur.drop (o + cs.length)).take n = (cur.take n).take o ++ cs ++ (cur.take n).drop (o + cs.length) := by
  rw [List.take_append, List.take_append, List.take_take, List.take_take, List.drop_take]
  have h1 : (cur.take o).length = o := by rw [List.length_take]; omega
  rw [List.length_append, h1, List.take_of_length_le (l := cs) (by omega)]
  congr 2
  · rw [Nat.min_comm]
theorem put_length {α : Type} (cur cs : List α) (o : Nat) (h : o + cs.length ≤ cur.length) : (cur.take o ++ cs ++ cur.drop (o + cs.length)).length = cur.length := by
  simp only [List.length_append, List.length_take, List.length_drop]
  omega
theorem put_shift {α : Type} (cs sp vs : List α) (o n m : Nat) (hn : cs.length = n) (ho : o ≤ n) (hv : vs.length = m) (hsp : sp.length = m) :
    let l := cs ++ sp
    let l1 := l.take (o + m) ++ cs.drop o ++ l.drop (o + m + (cs.drop o).length)
    l1.take o ++ vs ++ l1.drop (o + vs.length) = cs.take o ++ vs ++ cs.drop o := by
  intro l l1
  have e1 : (cs.drop o).length = n - o := by rw [List.length_drop, hn]
  have hl : l.length = n + m := by simp [l, hn, hsp]
  have e2 : l.drop (o + m + (cs.drop o).length) = [] := List.drop_eq_nil_of_le (by rw [hl, e1]; omega)
  have e3 : (l.take (o + m)).length = o + m := by rw [List.length_take]; omega
  have e4 : l1 = l.take (o + m) ++ cs.drop o := by simp only [l1, e2, List.append_nil]
  have e5 : l1.take o = cs.take o := by
    rw [e4, List.take_append_of_le_length (by omega), List.take_take, Nat.min_eq_left (by omega)]
    show (cs ++ sp).take o = _
    rw [List.take_append_of_le_length (by omega)]
  have e6 : l1.drop (o + vs.length) = cs.drop o := by
    rw [e4, hv, List.drop_append_of_le_length (by omega), List.drop_eq_nil_of_le (by omega), List.nil_append]
  rw [e5, e6]
theorem put_grow {α : Type} (cs zs vs : List α) (o n m : Nat) (hn : cs.length = n) (ho : o ≤ n) (hv : vs.length = m) (hz : zs.length = m + (n - o)) :
    let l := cs.take o ++ zs
    let l1 := l.take o ++ vs ++ l.drop (o + vs.length)
    l1.take (o + m) ++ cs.drop o ++ l1.drop (o + m + (cs.drop o).length) = cs.take o ++ vs ++ cs.drop o := by
  intro l l1
  have e0 : (cs.take o).length = o := by rw [List.length_take]; omega
  have e1 : (cs.drop o).length = n - o := by rw [List.length_drop, hn]
  have hl : l.length = n + m := by simp only [l, List.length_append, e0, hz]; omega
  have e5 : l.take o = cs.take o := by
    show (cs.take o ++ zs).take o = _
    rw [List.take_append_of_le_length (by omega), List.take_of_length_le (by omega)]
  have e6 : l1.length = n + m := by
    show (l.take o ++ vs ++ l.drop (o + vs.length)).length = _
    rw [put_length _ _ _ (by omega), hl]
  have e7 : l1.take (o + m) = cs.take o ++ vs := by
    show (l.take o ++ vs ++ l.drop (o + vs.length)).take (o + m) = _
    rw [e5, List.take_append_of_le_length (by rw [List.length_append, e0]; omega), List.take_of_length_le (by rw [List.length_append, e0]; omega)]
  have e8 : l1.drop (o + m + (cs.drop o).length) = [] := List.drop_eq_nil_of_le (by rw [e6, e1]; omega)
  rw [e7, e8, List.append_nil]
end Go.Proofs.YtbpdcbibooiimaaGreatDoor.Q
/- slices.Insert of one element at []span.Span: printed by genrow.py. -/
namespace Go.Proofs.YtbpdcbibooiimaaGreatDoor.Q
open Go.Shelf Go.RowKit Go.Lib Go.Proofs.YtbpdcbibooiimaaGreatDoorW.PrintWords Go.Proofs.YtbpdcbibooiimaaGreatDoorW.PrintLast Go.Proofs.YtbpdcbibooiimaaGreatDoorW.PrintMore
set_option maxHeartbeats 4000000 in
set_option maxRecDepth 100000 in
theorem span_Insert.shift (g cap n i vb vc : Nat) (cur : Array Value) (vs : List Value) (tV : TypeId) (w : World) (hi : i < n) (hroom : n + 1 ≤ cap) (hc63 : cap ≤ 9223372036854775807) (hvb : vb ≠ g)
    (hg : w.heap[g]? = some (.cells cur 83 (0, 0))) (hcz : cur.size = cap * 3) (hvl : vs.length = 3) (hv : w.heap[vb]? = some (.cells vs.toArray tV (0, 0)))
    (h1c : ∀ v ∈ cur.toList.take (n * 3), v.oneCell' = true) (h1v : ∀ v ∈ vs, v.oneCell' = true) :
    Calls Tryz.prog 74 #[.slice (some ⟨g, 0, none⟩) n cap, .int .i64 i, .slice (some ⟨vb, 0, none⟩) 1 vc] w fun e w' =>
      e = .returned (.slice (some ⟨g, 0, none⟩) (n + 1) cap) ∧ ∃ c1 c2 : Array Value, w' = (w.drew.setRow g c1).setRow g c2 ∧ c2.size = cap * 3 ∧
        c2.toList.take ((n + 1) * 3) = (cur.toList.take (n * 3)).take (i * 3) ++ vs ++ (cur.toList.take (n * 3)).drop (i * 3) := by
  have mixed : Tryz.prog.follows .mixedOrders = true := by kernel_rfl
  have hz2 : ¬ ((i : Int) = (n : Int)) := by omega
  obtain ⟨i0, hi0, hii⟩ := Option.map_eq_some_iff.1 span_info
  simp only [Prod.mk.injEq] at hii
  have hsz : (Tryz.prog.info? 83).map (·.size) = some 3 := by rw [hi0]; simp [hii.2.1]
  have hso : ∀ w, (Go.sizeOf 83).run Tryz.prog w = .ok 3 w := fun w => by simp [sizeOf, typeInfo, hi0, hii.2.1]
  have hov : ∀ lb cb, (callFunc 98 #[.slice (some ⟨vb, 0, none⟩) 1 vc, .slice (some ⟨g, (i + 1) * 3, none⟩) lb cb]).run Tryz.prog w = .ok (.value (.bool false)) w := fun lb cb => by
    rw [run_callFunc_extern Tryz.func98 (by kernel_rfl) (by kernel_rfl) (by kernel_rfl) (e := Extern.SlicesOverlaps.overlaps #[127, 127] #[4]) (by kernel_rfl),
      Lib.run_overlaps_apart w 127 4 83 Tryz.underlying127 3 hso ⟨vb, 0, none⟩ ⟨g, (i + 1) * 3, none⟩ 1 vc lb cb hvb tV 83 vs.length cur.size (by simp [World.shape?, hv]) (by simp [World.shape?, hg]) (by omega) (by simp [World.frozen?, hv]) (by simp [World.frozen?, hv])]
    rfl
  obtain ⟨cs, hcs⟩ : ∃ cs, cs = cur.toList.take (n * 3) := ⟨_, rfl⟩
  have hcl : cs.length = n * 3 := by rw [hcs, List.length_take, Array.length_toList]; omega
  have hdl : (cs.drop (i * 3)).length = (n - i) * 3 := by rw [List.length_drop, hcl]; omega
  have hget : ∀ j v, (cs.drop (i * 3))[j]? = some v → cur[i * 3 + j]? = some v := fun j v hj => by
    rw [List.getElem?_drop, hcs, List.getElem?_take] at hj
    split at hj
    · simpa using hj
    · cases hj
  obtain ⟨c1, hc1⟩ : ∃ c1, c1 = (cur.toList.take ((i + 1) * 3) ++ cs.drop (i * 3) ++ cur.toList.drop ((i + 1) * 3 + (cs.drop (i * 3)).length)).toArray := ⟨_, rfl⟩
  obtain ⟨c2, hc2⟩ : ∃ c2, c2 = (c1.toList.take (i * 3) ++ vs ++ c1.toList.drop (i * 3 + vs.length)).toArray := ⟨_, rfl⟩
  have hs1 : c1.size = cap * 3 := by
    rw [hc1, List.size_toArray, put_length _ _ _ (by rw [hdl, Array.length_toList]; omega), Array.length_toList, hcz]
  have hs2 : c2.size = cap * 3 := by
    rw [hc2, List.size_toArray, put_length _ _ _ (by rw [hvl, Array.length_toList]; omega), Array.length_toList, hs1]
  have ht2 : c2.toList.take ((n + 1) * 3) = cs.take (i * 3) ++ vs ++ cs.drop (i * 3) := by
    have h0 : cur.toList.take ((n + 1) * 3) = cs ++ (cur.toList.drop (n * 3)).take 3 := by
      rw [hcs, ← List.take_append_drop (n * 3) cur.toList, List.take_append]
      have : (List.take (n * 3) cur.toList).length = n * 3 := by rw [List.length_take, Array.length_toList]; omega
      simp only [List.take_append_drop, List.take_take, this]
      congr 1
      · rw [Nat.min_eq_right (by omega)]
      · congr 1; omega
    have l1 : c1.toList = cur.toList.take ((i + 1) * 3) ++ cs.drop (i * 3) ++ cur.toList.drop ((i + 1) * 3 + (cs.drop (i * 3)).length) := by rw [hc1]
    have l2 : c2.toList = c1.toList.take (i * 3) ++ vs ++ c1.toList.drop (i * 3 + vs.length) := by rw [hc2]
    have h1 := put_take cur.toList (cs.drop (i * 3)) ((i + 1) * 3) ((n + 1) * 3) (by rw [hdl]; omega) (by rw [Array.length_toList]; omega)
    rw [← l1] at h1
    have h2 := put_take c1.toList vs (i * 3) ((n + 1) * 3) (by rw [hvl]; omega) (by rw [Array.length_toList]; omega)
    rw [← l2] at h2
    rw [h2, h1, h0, show (i + 1) * 3 = i * 3 + 3 by omega]
    exact put_shift cs ((cur.toList.drop (n * 3)).take 3) vs (i * 3) (n * 3) 3 hcl (by omega) hvl (by rw [List.length_take, List.length_drop, Array.length_toList]; omega)
  have hcp1 : ∀ ty dc sc, (Builtin.copy_ #[127, 127] ty #[.slice (some ⟨g, (i + 1) * 3, none⟩) (n - i) dc, .slice (some ⟨g, i * 3, none⟩) (n + 1 - i) sc]).run Tryz.prog w.drew = .ok (goInt (Nat.min (n + 1 - i) (n - i) : Nat)) (w.drew.setRow g c1) := fun ty dc sc => by
    rw [run_copy_rowN w.drew _ _ ty 83 3 g ((i + 1) * 3) (n - i) dc ⟨g, i * 3, none⟩ (n + 1 - i) sc cur _ (cs.drop (i * 3)) Tryz.underlying127 hsz hg
      (by rw [hdl, show Nat.min (n + 1 - i) (n - i) = n - i from by simp only [Nat.min_def]; split <;> omega])
      (fun j v hj => by rw [Addr.add_lit]; simp only [World.cell?]; rw [show w.drew.heap[g]? = _ from hg]; exact hget j v hj) (by rw [hdl, hcz]; omega) (fun v hv => h1c v (by rw [← hcs]; exact List.mem_of_mem_drop hv)), ← hc1]
  have hcp2 : ∀ (W : World), W.heap[g]? = some (.cells c1 83 (0, 0)) → W.heap[vb]? = some (.cells vs.toArray tV (0, 0)) → ∀ ty dc, (Builtin.copy_ #[127, 127] ty #[.slice (some ⟨g, i * 3, none⟩) (n + 1 - i) dc, .slice (some ⟨vb, 0, none⟩) 1 vc]).run Tryz.prog W = .ok (goInt (Nat.min 1 (n + 1 - i) : Nat)) (W.setRow g c2) := fun W hW hV ty dc => by
    rw [run_copy_rowN W _ _ ty 83 3 g (i * 3) (n + 1 - i) dc ⟨vb, 0, none⟩ 1 vc c1 _ vs Tryz.underlying127 hsz hW
      (by rw [hvl, show Nat.min 1 (n + 1 - i) = 1 from by simp only [Nat.min_def]; split <;> omega])
      (fun j v hj => by rw [Addr.add_lit]; simp only [World.cell?]; rw [hV]; simpa using hj) (by rw [hvl, hs1]; omega) h1v, ← hc2]
  have hW1 : (w.drew.setRow g c1).heap[g]? = some (.cells c1 83 (0, 0)) := setRow_heap _ _ _ _ _ _ hg
  have hV1 : (w.drew.setRow g c1).heap[vb]? = some (.cells vs.toArray tV (0, 0)) := by rw [setRow_other _ _ _ _ hvb]; exact hv
  have hw1 : IntKind.i64.wrap ((i : Int) + 1) = (i : Int) + 1 := by rw [IntKind.wrap_i64]; omega
  have hw2 : IntKind.i64.wrap ((n : Int) + 1) = (n : Int) + 1 := by rw [IntKind.wrap_i64]; omega
  have hb1 : (0 : Int) ≤ (i : Int) + 1 := by omega
  have hin : i ≤ n := by omega
  have htn : ((i : Int) + 1).toNat = i + 1 := by omega
  have htm : ((n : Int) + 1).toNat = n + 1 := by omega
  have hb2 : ¬ (cap = i + 1) := by omega
  have hb3 : (i : Int) ≤ (n : Int) + 1 := by omega
  have hb4 : ¬ (cap = i) := by omega
  have hb5 : (0 : Int) ≤ (n : Int) + 1 := by omega
  have hb6 : ¬ ((cap : Int) < (n : Int) + 1) := by omega
  have HT := Aside0.mk ht2
  have HS := Aside0.mk hs2
  rw [← hcs]
  clear hdl hget hc1 hc2 hs1 hs2 ht2 hsz hso hi0 hii hcs hcl h1c h1v
  go_enter Tryz.func74, Tryz.ntmps74
  go_wp2_with (simp only [hov])
  go_region_law_o (refine step_copy_runI rfl _ _ 127 127 rfl _ _ (by simp [Act.eval, Act.put]) (by simp [Act.eval, Act.put]) (hcp1 _ _ _) ?_)
  go_wp2_with (at_builtin; refine wpList_copy_runI _ rfl _ _ 127 127 rfl _ _ rfl rfl (hcp2 _ hW1 hV1 _ _) ?_)
  go_ret
  exact ⟨rfl, c1, c2, rfl, HS.out, HT.out⟩
set_option maxHeartbeats 4000000 in
set_option maxRecDepth 100000 in
theorem span_Insert.end_ (base : Nat) (v : Value) (n vb vc : Nat) (cs vs : List Value) (tV : TypeId) (w : World) (hown : w.ownsRow base 83 3 v n cs) (hbase : base ≤ w.heap.size) (hsm : n < 1099511627776)
    (hvl : vs.length = 3) (hv : w.heap[vb]? = some (.cells vs.toArray tV (0, 0))) (h1v : ∀ v ∈ vs, v.oneCell' = true) :
    Calls Tryz.prog 74 #[v, .int .i64 n, .slice (some ⟨vb, 0, none⟩) 1 vc] w fun e w' =>
      ∃ v', e = .returned v' ∧ w'.ownsRow base 83 3 v' (n + 1) (cs ++ vs) ∧ w.grownBy w' v.ownBlock ∧ ∃ g c, v' = .slice (some ⟨g, 0, none⟩) (n + 1) c := by
  obtain ⟨i0, hi0, hii⟩ := Option.map_eq_some_iff.1 span_info
  simp only [Prod.mk.injEq] at hii
  have hvs : ∀ j u, vs[j]? = some u → w.cell? ((⟨vb, 0, none⟩ : Addr).add j) = some u := fun j u hj => by
    rw [Addr.add_lit]; simp only [World.cell?]; rw [hv]; simpa using hj
  have hop : ∀ (ops : Array Oper) (rest : List Oper) (o : Oper) (a : Act) (Q : Exit → Act → World → Prop), o.guard = none → o.op = Op.call { callee := Callee.builtin Builtin.append, args := #[Operand.tmp 23, Operand.tmp 24], argTypes := #[127, 127] } →
      a.eval (.tmp 23) = v → a.eval (.tmp 24) = .slice (some ⟨vb, 0, none⟩) 1 vc →
      (∀ v' w', (w'.ownsRow base 83 3 v' (n + 1) (cs ++ vs) ∧ w.grownBy w' v.ownBlock ∧ ∃ g c, v' = .slice (some ⟨g, 0, none⟩) (n + 1) c) → wpList Tryz.prog ops Q rest (a.put o.dst v') w') → wpList Tryz.prog ops Q (o :: rest) a w := by
    intro ops rest o a Q hgd ho hs hx h
    refine wpList_append_own w hgd _ _ _ ho base 83 i0 _ 3 32 Tryz.underlying127 hi0 hii.1 hii.2.1 hii.2.2 rfl (by omega) v n cs hs hown ⟨vb, 0, none⟩ 1 vc vs hx (by rw [hvl]) hvs h1v (by simp only [maxLen]; omega) (by omega) hbase ?_
    intro v' w' q1 q2 q3
    refine h v' w' ⟨q1, q2, ?_⟩
    rcases q1.2 with ⟨_, q⟩ | ⟨g, c, _, q, _⟩
    · omega
    · exact ⟨g, c, q⟩
  have HO := Aside0.mk hown
  rcases hown.2 with ⟨rfl, rfl⟩ | ⟨g, cap, cur, rfl, hbg, hg, hnc, hcm, hcs, htake⟩
  · clear hown hi0 hii hvs hvl h1v
    go_enter Tryz.func74, Tryz.ntmps74
    go_wp2_with (at_builtin; refine hop _ _ _ _ _ rfl rfl rfl rfl ?_; (rintro v' w' hv'; have HV := Aside0.mk hv'; clear hv'))
    go_ret
    exact ⟨_, rfl, HV.out⟩
  · clear hown hi0 hii hvs hvl h1v hg hcs htake hcm hbg
    go_enter Tryz.func74, Tryz.ntmps74
    go_wp2_with (at_builtin; refine hop _ _ _ _ _ rfl rfl rfl rfl ?_; (rintro v' w' hv'; have HV := Aside0.mk hv'; clear hv'))
    all_goals (go_ret; exact ⟨_, rfl, HV.out⟩)
def span_cells (x : S83) : List Value := [.int .i64 x.f0, .int .i64 x.f1, .string x.f2]
theorem span_grown (w : World) (ROW c1 c2 : Array Value) (e : TypeId) :
    Below w.heap.size w ((((w.alloc (.cells ROW e)).drew.setRow w.heap.size c1).drew).setRow w.heap.size c2) ∧ ((((w.alloc (.cells ROW e)).drew.setRow w.heap.size c1).drew).setRow w.heap.size c2).heap[w.heap.size]? = some (.cells c2 e (0, 0)) := by
  have h0 : (w.alloc (.cells ROW e)).heap[w.heap.size]? = some (.cells ROW e (0, 0)) := heap_alloc_new w _
  have h1 : ((w.alloc (.cells ROW e)).drew.setRow w.heap.size c1).heap[w.heap.size]? = some (.cells c1 e (0, 0)) := setRow_heap _ _ ROW _ _ _ h0
  have h2 := setRow_heap ((w.alloc (.cells ROW e)).drew.setRow w.heap.size c1).drew w.heap.size c1 c2 e (0, 0) h1
  refine ⟨⟨rfl, rfl, rfl, ?_, fun k hk => ?_⟩, h2⟩
  · have := (Array.getElem?_eq_some_iff.1 h2).1
    omega
  · rw [setRow_other _ _ _ _ (by omega)]
    show ((w.alloc (.cells ROW e)).drew.setRow w.heap.size c1).heap[k]? = _
    rw [setRow_other _ _ _ _ (by omega)]
    exact heap_alloc_old w _ hk
set_option maxHeartbeats 4000000 in
set_option maxRecDepth 100000 in
theorem span_Insert.grow (g n i vb vc : Nat) (cur : Array Value) (vs : List Value) (tV : TypeId) (w : World) (hi : i < n) (hsm : n < 1099511627776) (hvb : vb ≠ g)
    (hg : w.heap[g]? = some (.cells cur 83 (0, 0))) (hcz : cur.size = n * 3) (hvl : vs.length = 3) (hv : w.heap[vb]? = some (.cells vs.toArray tV (0, 0)))
    (h1c : ∀ v ∈ cur.toList, v.oneCell' = true) (h1v : ∀ v ∈ vs, v.oneCell' = true) :
    Calls Tryz.prog 74 #[.slice (some ⟨g, 0, none⟩) n n, .int .i64 i, .slice (some ⟨vb, 0, none⟩) 1 vc] w fun e w' =>
      ∃ G c2, e = .returned (.slice (some ⟨w.heap.size, 0, none⟩) (n + 1) G) ∧ n + 1 ≤ G ∧ G ≤ maxLen ∧ Below w.heap.size w w' ∧ w'.heap[w.heap.size]? = some (.cells c2 83 (0, 0)) ∧ c2.size = G * 3 ∧
        c2.toList.take ((n + 1) * 3) = cur.toList.take (i * 3) ++ vs ++ cur.toList.drop (i * 3) := by
  have mixed : Tryz.prog.follows .mixedOrders = true := by kernel_rfl
  have hz2 : ¬ ((i : Int) = (n : Int)) := by omega
  obtain ⟨i0, hi0, hii⟩ := Option.map_eq_some_iff.1 span_info
  simp only [Prod.mk.injEq] at hii
  have hsz : (Tryz.prog.info? 83).map (·.size) = some 3 := by rw [hi0]; simp [hii.2.1]
  have hbw : g < w.heap.size := (Array.getElem?_eq_some_iff.1 hg).1
  have hvw : vb < w.heap.size := (Array.getElem?_eq_some_iff.1 hv).1
  obtain ⟨cs, hcs⟩ : ∃ cs, cs = cur.toList := ⟨_, rfl⟩
  have hcl : cs.length = n * 3 := by rw [hcs, Array.length_toList, hcz]
  have hdl : (cs.drop (i * 3)).length = (n - i) * 3 := by rw [List.length_drop, hcl]; omega
  have hold : (Builtin.firstCells i0.size i (.slice (some ⟨g, 0, none⟩) i n)).run Tryz.prog w.drew = .ok (cs.take (i * 3)).toArray w.drew := by
    rw [hii.2.1]
    exact run_firstCells_some w.drew 3 i ⟨g, 0, none⟩ i n (cs.take (i * 3)) (by rw [List.length_take]; omega) (fun j v hj => by
      rw [Addr.add_lit]; simp only [World.cell?]; rw [show w.drew.heap[g]? = _ from hg]
      rw [List.getElem?_take, hcs] at hj
      split at hj
      · simpa using hj
      · cases hj)
  obtain ⟨G, hG⟩ : ∃ G, G = grownCap w (n + 1) n 83 := ⟨_, rfl⟩
  have hGn : n + 1 ≤ G := by rw [hG]; exact grownCap_ge w _ _ _
  have hG63 : G ≤ maxLen := by rw [hG]; exact grownCap_le_maxLen w (n + 1) n _ (by unfold maxLen; omega)
  have hG64 : G ≤ 9223372036854775807 := by unfold maxLen at hG63; omega
  obtain ⟨zs, hzs⟩ : ∃ zs : Array Value, zs = Builtin.zeroCells (Value.cells (.agg #[(.int .i64 0), (.int .i64 0), (.string ⟨#[]⟩)])) (n + 1 - i) := ⟨_, rfl⟩
  obtain ⟨zr, hzr⟩ : ∃ zr : Array Value, zr = Builtin.zeroCells (Value.cells (.agg #[(.int .i64 0), (.int .i64 0), (.string ⟨#[]⟩)])) (G - (n + 1)) := ⟨_, rfl⟩
  have hzl : zs.size = (n + 1 - i) * 3 := by rw [hzs, size_zeroCells]; rfl
  have hzrl : zr.size = (G - (n + 1)) * 3 := by rw [hzr, size_zeroCells]; rfl
  obtain ⟨ROW, hROW⟩ : ∃ ROW : Array Value, ROW = (cs.take (i * 3)).toArray ++ zs ++ zr := ⟨_, rfl⟩
  have hRl : ROW.size = G * 3 := by
    rw [hROW]
    simp only [Array.size_append, List.size_toArray, List.length_take, hzl, hzrl]
    omega
  have hRt : ROW.toList.take ((n + 1) * 3) = cs.take (i * 3) ++ zs.toList := by
    rw [hROW]
    simp only [Array.toList_append]
    rw [List.take_left']
    simp only [List.length_append, List.length_take, Array.length_toList, hzl]
    omega
  have hrz : ∀ ty, (Builtin.append_ #[127, 3] ty #[.slice (some ⟨g, 0, none⟩) i n, .int .i64 ((n : Int) + 1 - (i : Int))]).run Tryz.prog w =
      .ok (.slice (some ⟨w.heap.size, 0, none⟩) (n + 1) G) (w.drew.alloc (.cells ROW 83)) := fun ty => by
    have h := Lib.run_append_grow_zeros w 127 3 ty 83 i0 _ .i64 .i64 Tryz.underlying127 Tryz.underlying3 hi0 hii.1 (some ⟨g, 0, none⟩) i n (cs.take (i * 3)) hold (n + 1 - i) (by omega) (by rw [hii.2.1]; omega) (by omega) (by omega) (by rw [hii.2.2]; omega) (by rw [hii.2.2, show i + (n + 1 - i) = n + 1 by omega]; exact growslice_fits (by omega) (by omega))
    rw [show i + (n + 1 - i) = n + 1 by omega, ← hG, ← hzs, ← hzr, ← hROW] at h
    rw [show (n : Int) + 1 - (i : Int) = ((n + 1 - i : Nat) : Int) by omega]
    exact h
  obtain ⟨c1, hc1⟩ : ∃ c1, c1 = (ROW.toList.take (i * 3) ++ vs ++ ROW.toList.drop (i * 3 + vs.length)).toArray := ⟨_, rfl⟩
  obtain ⟨c2, hc2⟩ : ∃ c2, c2 = (c1.toList.take ((i + 1) * 3) ++ cs.drop (i * 3) ++ c1.toList.drop ((i + 1) * 3 + (cs.drop (i * 3)).length)).toArray := ⟨_, rfl⟩
  have hs1 : c1.size = G * 3 := by
    rw [hc1, List.size_toArray, put_length _ _ _ (by rw [hvl, Array.length_toList]; omega), Array.length_toList, hRl]
  have hs2 : c2.size = G * 3 := by
    rw [hc2, List.size_toArray, put_length _ _ _ (by rw [hdl, Array.length_toList]; omega), Array.length_toList, hs1]
  have ht2 : c2.toList.take ((n + 1) * 3) = cs.take (i * 3) ++ vs ++ cs.drop (i * 3) := by
    have l1 : c1.toList = ROW.toList.take (i * 3) ++ vs ++ ROW.toList.drop (i * 3 + vs.length) := by rw [hc1]
    have l2 : c2.toList = c1.toList.take ((i + 1) * 3) ++ cs.drop (i * 3) ++ c1.toList.drop ((i + 1) * 3 + (cs.drop (i * 3)).length) := by rw [hc2]
    have h1 := put_take ROW.toList vs (i * 3) ((n + 1) * 3) (by rw [hvl]; omega) (by rw [Array.length_toList]; omega)
    rw [← l1] at h1
    have h2 := put_take c1.toList (cs.drop (i * 3)) ((i + 1) * 3) ((n + 1) * 3) (by rw [hdl]; omega) (by rw [Array.length_toList]; omega)
    rw [← l2] at h2
    rw [h2, h1, hRt, show (i + 1) * 3 = i * 3 + 3 by omega]
    exact put_grow cs zs.toList vs (i * 3) (n * 3) 3 hcl (by omega) hvl (by rw [Array.length_toList, hzl]; omega)
  have hcpA : ∀ (W : World), W.heap[w.heap.size]? = some (.cells ROW 83 (0, 0)) → W.heap[vb]? = some (.cells vs.toArray tV (0, 0)) → ∀ ty dc, (Builtin.copy_ #[127, 127] ty #[.slice (some ⟨w.heap.size, i * 3, none⟩) (n + 1 - i) dc, .slice (some ⟨vb, 0, none⟩) 1 vc]).run Tryz.prog W = .ok (goInt (Nat.min 1 (n + 1 - i) : Nat)) (W.setRow w.heap.size c1) := fun W hW hV ty dc => by
    rw [run_copy_rowN W _ _ ty 83 3 w.heap.size (i * 3) (n + 1 - i) dc ⟨vb, 0, none⟩ 1 vc ROW _ vs Tryz.underlying127 hsz hW
      (by rw [hvl, show Nat.min 1 (n + 1 - i) = 1 from by simp only [Nat.min_def]; split <;> omega])
      (fun j v hj => by rw [Addr.add_lit]; simp only [World.cell?]; rw [hV]; simpa using hj) (by rw [hvl, hRl]; omega) h1v, ← hc1]
  have hcpB : ∀ (W : World), W.heap[w.heap.size]? = some (.cells c1 83 (0, 0)) → W.heap[g]? = some (.cells cur 83 (0, 0)) → ∀ ty dc sc, (Builtin.copy_ #[127, 127] ty #[.slice (some ⟨w.heap.size, (i + 1) * 3, none⟩) (n - i) dc, .slice (some ⟨g, i * 3, none⟩) (n - i) sc]).run Tryz.prog W = .ok (goInt (Nat.min (n - i) (n - i) : Nat)) (W.setRow w.heap.size c2) := fun W hW hV ty dc sc => by
    rw [run_copy_rowN W _ _ ty 83 3 w.heap.size ((i + 1) * 3) (n - i) dc ⟨g, i * 3, none⟩ (n - i) sc c1 _ (cs.drop (i * 3)) Tryz.underlying127 hsz hW
      (by rw [hdl, show Nat.min (n - i) (n - i) = n - i from by simp only [Nat.min_def]; split <;> omega])
      (fun j v hj => by
        rw [Addr.add_lit]; simp only [World.cell?]; rw [hV]
        rw [List.getElem?_drop, hcs] at hj
        simpa using hj) (by rw [hdl, hs1]; omega) (fun v hv => h1c v (by rw [← hcs]; exact List.mem_of_mem_drop hv)), ← hc2]
  have hA1 : (w.alloc (.cells ROW 83)).drew.heap[w.heap.size]? = some (.cells ROW 83 (0, 0)) := heap_alloc_new w _
  have hA2 : (w.alloc (.cells ROW 83)).drew.heap[vb]? = some (.cells vs.toArray tV (0, 0)) := (heap_alloc_old w _ hvw).trans hv
  have hA3 : (w.alloc (.cells ROW 83)).drew.heap[g]? = some (.cells cur 83 (0, 0)) := (heap_alloc_old w _ hbw).trans hg
  have hB1 : ((w.alloc (.cells ROW 83)).drew.setRow w.heap.size c1).drew.heap[w.heap.size]? = some (.cells c1 83 (0, 0)) := setRow_heap _ _ _ _ _ _ hA1
  have hB2 : ((w.alloc (.cells ROW 83)).drew.setRow w.heap.size c1).drew.heap[g]? = some (.cells cur 83 (0, 0)) := (setRow_other _ _ _ _ (by omega)).trans hA3
  have hw1 : IntKind.i64.wrap ((i : Int) + 1) = (i : Int) + 1 := by rw [IntKind.wrap_i64]; omega
  have hw2 : IntKind.i64.wrap ((n : Int) + 1) = (n : Int) + 1 := by rw [IntKind.wrap_i64]; omega
  have hw3 : IntKind.i64.wrap ((n : Int) + 1 - (i : Int)) = (n : Int) + 1 - (i : Int) := by rw [IntKind.wrap_i64]; omega
  have hb1 : (0 : Int) ≤ (i : Int) + 1 := by omega
  have hin : i ≤ n := by omega
  have htn : ((i : Int) + 1).toNat = i + 1 := by omega
  have hb3 : (i : Int) ≤ (n : Int) := by omega
  have hb4 : ¬ (n = i) := by omega
  have hGi : ¬ (G = i) := by omega
  have hGim : ¬ (G = i + 1) := by omega
  have hb6 : ((n : Int) < (n : Int) + 1) := by omega
  have HT := Aside0.mk ht2
  have HS := Aside0.mk hs2
  have HG := Aside0.mk hGn
  have HG63 := Aside0.mk hG63
  have HF := Aside0.mk (span_grown w ROW c1 c2 83)
  rw [← hcs]
  clear hdl hc1 hc2 hs1 hs2 ht2 hsz hi0 hii hcs hcl h1c h1v hold hG hzs hzr hzl hzrl hROW hRl hRt hG63
  go_enter Tryz.func74, Tryz.ntmps74
  go_wp2_with (first
    | (at_builtin; refine Lib.wpList_append_run _ rfl _ _ _ _ rfl _ _ rfl rfl _ _ (hrz _) ?_)
    | (at_builtin; refine wpList_copy_runI _ rfl _ _ 127 127 rfl _ _ rfl rfl (hcpA _ hA1 hA2 _ _) ?_)
    | (simp only [hcpA _ hA1 hA2]))
  go_region_law_o (refine step_copy_runI rfl _ _ 127 127 rfl (.slice (some ⟨w.heap.size, (i + 1) * 3, none⟩) (n - i) (G - (i + 1))) (.slice (some ⟨g, i * 3, none⟩) (n - i) (n - i)) (by simp [Act.eval, Act.put]) (by simp [Act.eval, Act.put]) (hcpB _ hB1 hB2 _ _ _) ?_)
  go_wp2
  go_ret
  exact ⟨G, c2, rfl, HG.out, HG63.out, HF.out.1, HF.out.2, HS.out, HT.out⟩
theorem span_flat (w : World) (base : Nat) (ok : Nat → Prop) (x : S83) (cs : List Value) : k83.M w base ok x cs ↔ cs = span_cells x := ⟨k83_openM, fun h => h ▸ k83_mkM w base ok x⟩
theorem span_Insert.calls (base : Nat) (v : Value) (L : List S83) (i : Nat) (x : S83) (vb vc : Nat) (tV : TypeId) (w : World) (hR : Kd.R k83 83 w base (fun _ => True) v L) (hi : i ≤ L.length) (hsm : L.length < 1099511627776) (hbase : base ≤ w.heap.size)
    (hv : w.heap[vb]? = some (.cells (span_cells x).toArray tV (0, 0))) (hvb : some vb ≠ v.ownBlock) :
    Calls Tryz.prog 74 #[v, .int .i64 i, .slice (some ⟨vb, 0, none⟩) 1 vc] w fun e w' =>
      ∃ v', e = .returned v' ∧ Kd.R k83 83 w' base (fun _ => True) v' (L.take i ++ x :: L.drop i) ∧ Below base w w' := by
  obtain ⟨_, cs, hown, hrep⟩ := hR
  have hown : w.ownsRow base 83 3 v L.length cs := hown
  have hrep : Reps (fun x c => c = span_cells x) 3 L cs := hrep.imp_ (fun p c h => (span_flat _ _ _ _ _).1 h)
  have hx1 : (span_cells x).length = 3 := rfl
  have h1v : ∀ u ∈ span_cells x, u.oneCell' = true := k83.K_one (w := w) (x := x) (k83.K_of_M (base := 0) (ok := fun _ => True) ((span_flat w 0 _ x _).2 rfl))
  have hone : ∀ u ∈ cs, u.oneCell' = true := by
    intro u hu
    obtain ⟨j, hj, hju⟩ := List.mem_iff_getElem.1 hu
    have hl := hown.1
    have hq := hrep.2 (j / 3) (L[j / 3]'(by omega)) (List.getElem?_eq_getElem (by omega))
    have hm : u ∈ (cs.drop (j / 3 * 3)).take 3 := by
      rw [List.mem_take_iff_getElem]
      refine ⟨j % 3, by rw [List.length_drop]; omega, ?_⟩
      rw [List.getElem_drop, ← hju]
      congr 1
      omega
    rw [hq] at hm
    exact k83.K_one (w := w) (x := L[j / 3]'(by omega)) (k83.K_of_M (base := 0) (ok := fun _ => True) ((span_flat w 0 _ _ _).2 rfl)) u hm
  have hnew : Reps (fun x c => c = span_cells x) 3 (L.take i ++ x :: L.drop i) (cs.take (i * 3) ++ span_cells x ++ cs.drop (i * 3)) := by
    have h1 := Kd.reps_append (Reps.snoc (p := x) (Kd.reps_take hrep hi) rfl hx1) (Kd.reps_drop (m := i) hrep)
    rw [List.append_assoc] at h1
    exact h1
  have hln : (cs.take (i * 3) ++ span_cells x ++ cs.drop (i * 3)).length = (L.length + 1) * 3 := by
    have := hown.1
    simp only [List.length_append, List.length_take, List.length_drop, hx1]
    omega
  have hLn : (L.take i ++ x :: L.drop i).length = L.length + 1 := by
    simp only [List.length_append, List.length_take, List.length_drop, List.length_cons]
    omega
  have fin : ∀ (w' : World) (v' : Value), w'.ownsRow base 83 3 v' (L.length + 1) (cs.take (i * 3) ++ span_cells x ++ cs.drop (i * 3)) → Kd.R k83 83 w' base (fun _ => True) v' (L.take i ++ x :: L.drop i) := fun w' v' h =>
    ⟨fun _ _ => trivial, _, by rw [hLn]; exact h, hnew.imp_ (fun p c h => (span_flat _ _ _ _ _).2 h)⟩
  by_cases hin : i = L.length
  · subst hin
    have he : cs.take (L.length * 3) ++ span_cells x ++ cs.drop (L.length * 3) = cs ++ span_cells x := by
      rw [List.take_of_length_le (by have := hown.1; omega), List.drop_eq_nil_of_le (by have := hown.1; omega), List.append_nil]
    refine (span_Insert.end_ base v L.length vb vc cs (span_cells x) tV w hown hbase hsm hx1 hv h1v).mono ?_
    rintro e w' ⟨v', rfl, h1, h2, _⟩
    refine ⟨v', rfl, fin w' v' (by rw [he]; exact h1), (Below.refl base w).grown h2 hbase (own_base hown)⟩
  · rcases hown.2 with ⟨rfl, h0⟩ | ⟨g, cap, cur, rfl, hbg, hg, hnc, hcm, hcs, htake⟩
    · omega
    · have hvb' : vb ≠ g := fun e => hvb (by rw [e]; rfl)
      have hgs : g < w.heap.size := (Array.getElem?_eq_some_iff.1 hg).1
      have h1c : ∀ u ∈ cur.toList.take (L.length * 3), u.oneCell' = true := by rw [htake]; exact hone
      by_cases hroom : L.length + 1 ≤ cap
      · refine (span_Insert.shift g cap L.length i vb vc cur (span_cells x) tV w (by omega) hroom (by unfold maxLen at hcm; omega) hvb' hg hcs hx1 hv h1c h1v).mono ?_
        rintro e w' ⟨rfl, c1, c2, rfl, h2, h3⟩
        rw [htake] at h3
        have q1 : (w.drew.setRow g c1).heap[g]? = some (.cells c1 83 (0, 0)) := setRow_heap _ _ cur _ _ _ hg
        have q2 := setRow_heap (w.drew.setRow g c1) g c1 c2 _ _ q1
        refine ⟨_, rfl, fin _ _ ⟨hln, .inr ⟨g, cap, c2, rfl, hbg, q2, hroom, hcm, h2, h3⟩⟩, rfl, rfl, rfl, ?_, fun k hk => ?_⟩
        · simp [World.setRow]
        · rw [setRow_other _ _ _ _ (by omega), setRow_other _ _ _ _ (by omega)]
          rfl
      · have hcap : cap = L.length := by omega
        subst hcap
        have hct : cur.toList.take (L.length * 3) = cur.toList := List.take_of_length_le (by rw [Array.length_toList]; omega)
        rw [hct] at htake h1c
        refine (span_Insert.grow g L.length i vb vc cur (span_cells x) tV w (by omega) hsm hvb' hg hcs hx1 hv h1c h1v).mono ?_
        rintro e w' ⟨G, c2, rfl, h1, h2, h3, h4, h5, h6⟩
        rw [htake] at h6
        exact ⟨_, rfl, fin _ _ ⟨hln, .inr ⟨w.heap.size, G, c2, rfl, hbase, h4, h1, h2, h5, h6⟩⟩, h3.mono hbase⟩
end Go.Proofs.YtbpdcbibooiimaaGreatDoor.Q
/- span: Add, its refusals ahead of the last switch. -/
namespace Go.Proofs.YtbpdcbibooiimaaGreatDoor.Q
open Go.RowKit Go.Shelf Go.Proofs.YtbpdcbibooiimaaGreatDoorW.PrintWords Go.Proofs.YtbpdcbibooiimaaGreatDoorW.PrintLast Go.Proofs.YtbpdcbibooiimaaGreatDoorW.PrintMore
def span_Add.r (L : List S83) (s : S83) (i : Int) : Int × List S83 :=
  if s.f0 < 0 ∨ 1114111 < s.f1 ∨ s.f1 < s.f0 then (14, [])
  else if s.f2.toList = [] then (16, [])
  else if i < (L.length : Int) ∧ (rd_T83 L i).f0 ≤ s.f1 then (15, [])
  else (0, L.take i.toNat ++ s :: L.drop i.toNat)
def AddS (w : World) (s : S83) (W : World) : Prop := W.heap[w.heap.size]? = some (.cells #[.int .i64 s.f0, .int .i64 s.f1, .string s.f2] 83 (0, 0)) ∧ Below w.heap.size w W
theorem AddS.below {w : World} {s : S83} {W W' : World} (h : AddS w s W) (hb : Below W.heap.size W W') : AddS w s W' :=
  ⟨(hb.block _ (Array.getElem?_eq_some_iff.1 h.1).1).trans h.1, h.2.trans (hb.mono h.2.size)⟩
theorem AddS.cells {w : World} {s : S83} {W : World} (h : AddS w s W) : W.cell? ⟨w.heap.size, 0, none⟩ = some (.int .i64 s.f0) ∧ W.cell? ⟨w.heap.size, 1, none⟩ = some (.int .i64 s.f1) ∧ W.cell? ⟨w.heap.size, 2, none⟩ = some (.string s.f2) := by
  refine ⟨?_, ?_, ?_⟩ <;> (simp only [World.cell?]; rw [h.1]; rfl)
theorem AddS.start (w : World) (s : S83) : AddS w s (w.alloc (.cells #[.int .i64 s.f0, .int .i64 s.f1, .string s.f2] 83 (0, 0))) := ⟨heap_alloc_new w _, (Below.refl _ w).alloc (Nat.le_refl _) _⟩
set_option maxHeartbeats 2000000 in
set_option maxRecDepth 100000 in
theorem span_Add.range (k : Nat) (p : Option Addr) (L : List S83) (s : S83) (i : Int) (w : World) (hT : Tab w p L) (hf : span_find.f k L s.f0 = some i) (hc : s.f0 < 0 ∨ 1114111 < s.f1 ∨ s.f1 < s.f0) :
    Calls Tryz.prog 47 #[.pointer p, .agg #[.int .i64 s.f0, .int .i64 s.f1, .string s.f2]] w fun e w' => e = .returned (.tuple #[.pointer none, .int .i64 14]) ∧ Below w.heap.size w w' := by
  have HT := Aside0.mk hT
  have HF := Aside0.mk hf
  clear hT hf
  have arm : ∀ b1 b2 b3 : Bool, decide (s.f0 < 0) = b1 → decide (1114111 < s.f1) = b2 → decide (s.f1 < s.f0) = b3 → (b1 || (b2 || b3)) = true → Calls Tryz.prog 47 #[.pointer p, .agg #[.int .i64 s.f0, .int .i64 s.f1, .string s.f2]] w fun e w' => e = .returned (.tuple #[.pointer none, .int .i64 14]) ∧ Below w.heap.size w w' := by
    intro b1 b2 b3 h1 h2 h3 h4
    cases b1 <;> cases b2 <;> cases b3 <;> (first | (simp at h4; done) | skip)
    all_goals
      clear h4
      go_enter Tryz.func47, Tryz.ntmps47
      have HS := Aside0.mk (AddS.start w s)
      go_wp2_with (first
        | (go_at_call 66
           refine (span_find.calls k p L s.f0 i _ (HT.out.below HS.out.2) HF.out).mono ?_
           rintro e w2 ⟨rfl, hb⟩
           have HS2 := Aside0.mk (HS.out.below hb)
           obtain ⟨hx0, hx1, hx2⟩ := HS2.out.cells
           clear hb))
      go_ret2
      exact ⟨rfl, HS2.out.2⟩
  refine arm _ _ _ rfl rfl rfl ?_
  rcases hc with h | h | h <;> simp [h]
set_option maxHeartbeats 2000000 in
set_option maxRecDepth 100000 in
theorem span_Add.empty (k : Nat) (p : Option Addr) (L : List S83) (s : S83) (i : Int) (w : World) (hT : Tab w p L) (hf : span_find.f k L s.f0 = some i) (hc : ¬ (s.f0 < 0 ∨ 1114111 < s.f1 ∨ s.f1 < s.f0)) (hv : s.f2.toList = ([] : List UInt8)) :
    Calls Tryz.prog 47 #[.pointer p, .agg #[.int .i64 s.f0, .int .i64 s.f1, .string s.f2]] w fun e w' => e = .returned (.tuple #[.pointer none, .int .i64 16]) ∧ Below w.heap.size w w' := by
  have HT := Aside0.mk hT
  have HF := Aside0.mk hf
  have h1 : decide (s.f0 < 0) = false := by simp; omega
  have h2 : decide (1114111 < s.f1) = false := by simp; omega
  have h3 : decide (s.f1 < s.f0) = false := by simp; omega
  have b1 : (s.f2.toList == ([] : List UInt8)) = true := beq_iff_eq.mpr hv
  have b3 : s.f2.toList.isEmpty = true := by rw [hv]; rfl
  clear hT hf hc
  go_enter Tryz.func47, Tryz.ntmps47
  have HS := Aside0.mk (AddS.start w s)
  go_wp2_with (first
    | (go_at_call 66
       refine (span_find.calls k p L s.f0 i _ (HT.out.below HS.out.2) HF.out).mono ?_
       rintro e w2 ⟨rfl, hb⟩
       have HS2 := Aside0.mk (HS.out.below hb)
       obtain ⟨hx0, hx1, hx2⟩ := HS2.out.cells
       clear hb))
  go_ret2
  exact ⟨rfl, HS2.out.2⟩
end Go.Proofs.YtbpdcbibooiimaaGreatDoor.Q
