/- Part 2 of 4 of the proof of ConfusTurned: lines in another order tell the same table. For every input; no condition. -/
import Derived.Test.YtbpdcbibooiimaaGreatDoorCConfusTurned1
import Derived.Deep.LoopGhost
import Derived.IntWalk
import Derived.Ground.NamesProg
import Derived.Ground.SlbCloneProg
import Derived.Shelf.Lay
import Derived.Shelf.Bytes.SlClone
import Derived.RangeFuncLeaves
import Derived.RangeFuncBox
import Derived.Sort.LoopGhostIn
import Derived.Laws.Cover3
import Derived.Shelf.Strings.Search3
import Derived.Lib.IndexBytes
import Derived.Laws.Bits64b
import Derived.RangeFuncCalls
import Derived.Laws.AppendOwn
import Derived.Lib.SlKeysI
import Derived.Shelf.SlIterI.Nil
import Derived.Shelf.SortM.Plain
import Derived.Shelf.SortM.SortNone
import Derived.Ground.GgzProg
import Derived.Ground.SlgmProg
import Derived.WalkSpells
import Derived.Lib.LazyBuf

-- from Hfld
/- field.fields: the walk. -/
namespace Go.Proofs.YtbpdcbibooiimaaGreatDoor.Q
open Go.RowKit Go.Shelf Go.Proofs.YtbpdcbibooiimaaGreatDoorW.PrintWords Go.Proofs.YtbpdcbibooiimaaGreatDoorW.PrintLast Go.Proofs.YtbpdcbibooiimaaGreatDoorW.PrintMore Go.Proofs.YtbpdcbibooiimaaGreatDoor.K
set_option linter.unusedVariables false
set_option linter.unusedSimpArgs false

theorem sSplit59.calls (L : List Int) (ho : Oct L) (hl : L.length ≤ 1000000) (w : World) (hE : EnvF w) : Calls Tryz.prog 67 #[.string (strOfNums L), .string ⟨#[59]⟩] w fun e w' => e = .returned (.slice (some ⟨w.heap.size, 0, none⟩) (spl 59 L).length (spl 59 L).length) ∧ w' = w.alloc (.cells ((spl 59 L).map (fun p => .string (strOfNums p))).toArray 9) := sSplit.calls 59 (by omega) L ho hl w hE
theorem sSplit10.calls (L : List Int) (ho : Oct L) (hl : L.length ≤ 1000000) (w : World) (hE : EnvF w) : Calls Tryz.prog 67 #[.string (strOfNums L), .string ⟨#[10]⟩] w fun e w' => e = .returned (.slice (some ⟨w.heap.size, 0, none⟩) (spl 10 L).length (spl 10 L).length) ∧ w' = w.alloc (.cells ((spl 10 L).map (fun p => .string (strOfNums p))).toArray 9) := sSplit.calls 10 (by omega) L ho hl w hE
/-- The pieces, the first of them trimmed. -/
def fldA (Y : List (List Int)) (i : Nat) : List (List Int) := (Y.take i).map trimL ++ Y.drop i
def fldC (Y : List (List Int)) (i : Nat) : Array Value := ((fldA Y i).map (fun p => Value.string (strOfNums p))).toArray
theorem fldA_len (Y : List (List Int)) (i : Nat) : (fldA Y i).length = Y.length := by unfold fldA; simp; omega
theorem fldC_at {Y : List (List Int)} {i : Nat} (h : i < Y.length) : (fldC Y i)[i]? = some (.string (strOfNums Y[i])) := by
  have h1 : (fldA Y i)[i]? = some Y[i] := by
    unfold fldA
    rw [List.getElem?_append_right (by simp; omega)]
    simp [Nat.min_eq_left (Nat.le_of_lt h), h]
  unfold fldC
  simp only [List.getElem?_toArray, List.getElem?_map, h1, Option.map_some]
theorem fldC_set {Y : List (List Int)} {i : Nat} (h : i < Y.length) : (fldC Y i).setIfInBounds i (.string (strOfNums (trimL Y[i]))) = fldC Y (i + 1) := by
  have h1 : (fldA Y i).set i (trimL Y[i]) = fldA Y (i + 1) := by
    unfold fldA
    have hl : ((Y.take i).map trimL).length = i := by simp; omega
    rw [List.set_append_right _ _ (by omega), hl, Nat.sub_self, List.drop_eq_getElem_cons h, List.set_cons_zero, ← List.take_append_getElem h, List.map_append, List.append_assoc]
    rfl
  unfold fldC
  rw [← h1, List.map_set]
  simp
set_option maxHeartbeats 4000000 in
set_option maxRecDepth 100000 in
theorem field_fields.callsS (Y : List (List Int)) (L : List Int) (ho : Oct L) (hl : L.length ≤ 1000000) (hn : trimL (bodyL L) ≠ []) (hY : Y = spl 59 (bodyL L)) (w : World) (hE : EnvF w) :
    Calls Tryz.prog 70 #[.string (strOfNums L)] w fun e w' => ∃ g, e = .returned (.slice (some ⟨g, 0, none⟩) Y.length Y.length) ∧ w.heap.size ≤ g ∧ w'.heap[g]? = some (.cells (fldC Y Y.length) 9 (0, 0)) ∧ Below w.heap.size w w' := by
  have hbm := body_mem L
  have hob : Oct (bodyL L) := oct_spl ho hbm
  have hlb := len_spl hbm
  obtain ⟨B, hB⟩ : ∃ B, B = bodyL L := ⟨_, rfl⟩
  rw [← hB] at hn hY hob hlb
  have HCUT := Aside0.mk (fun w hE => sCut.calls L ho hl w hE)
  rw [← hB] at HCUT
  have HTR := Aside0.mk (fun w => sTrim.calls B hob (by omega) w)
  have HSP := Aside0.mk (fun w hE => sSplit59.calls B hob (by omega) w hE)
  have hyo : ∀ p ∈ Y, Oct p := fun p hp => by rw [hY] at hp; exact oct_spl hob hp
  have hyl : ∀ p ∈ Y, p.length ≤ 1000000 := fun p hp => by rw [hY] at hp; have := len_spl hp; omega
  have hyn : Y.length ≤ 1000001 := by rw [hY]; have := splP_count (fun x => decide (x = (59 : Int))) B; unfold spl; omega
  have HYO := Aside0.mk hyo
  have HYL := Aside0.mk hyl
  have HYN := Aside0.mk hyn
  have HE := Aside0.mk hE
  have HYE := Aside0.mk hY
  obtain ⟨sl, hsl⟩ : ∃ s, s = strOfNums L := ⟨_, rfl⟩
  obtain ⟨sb, hsb⟩ : ∃ s, s = strOfNums B := ⟨_, rfl⟩
  obtain ⟨st, hst⟩ : ∃ s, s = strOfNums (trimL B) := ⟨_, rfl⟩
  rw [← hsl] at HCUT ⊢
  rw [← hsb] at HCUT HTR HSP
  rw [← hst] at HTR
  have hne : st.toList ≠ [] := fun e => hn (str_nilU.1 (by rw [← hst]; exact e))
  have f2 : decide (st = (⟨#[]⟩ : ByteArray)) = false := decide_eq_false (fun e => hne (by rw [e]; exact str_nilU.2 rfl))
  have f3 : (st.toList == ([] : List UInt8)) = false := beq_eq_false_iff_ne.mpr hne
  clear hbm hob hlb hB hyo hyl hyn hE hY ho hl hn hsl hsb hst hne
  go_enter Tryz.func70, Tryz.ntmps70
  go_wp2_with (first
    | (go_at_call 95; (with_reducible refine (HCUT.out _ HE.out).mono ?_); rintro e w1 ⟨s2, b2, rfl, hb⟩; have HB := Aside0.mk hb; clear hb)
    | (go_at_call 96; (with_reducible refine (HTR.out _).mono ?_); rintro e w2 ⟨rfl, hb⟩; have HB2 := Aside0.mk hb; clear hb)
    | (go_at_call 67; (with_reducible refine (HSP.out _ ((HE.out.below HB.out).below HB2.out)).mono ?_); rintro e w3 ⟨rfl, rfl⟩; rw [← HYE.out]))
  have hg0 := heap_alloc_new w2 (.cells (Y.map (fun p => .string (strOfNums p))).toArray 9)
  have hbb : Below w.heap.size w (w2.alloc (.cells (Y.map (fun p => .string (strOfNums p))).toArray 9)) := (HB.out.trans (HB2.out.mono HB.out.size)).alloc (Nat.le_trans HB.out.size HB2.out.size) _
  obtain ⟨g, hg⟩ : ∃ g, g = w2.heap.size := ⟨_, rfl⟩
  have HG : Aside0 (w.heap.size ≤ g) := ⟨by rw [hg]; exact Nat.le_trans HB.out.size HB2.out.size⟩
  rw [← hg] at hg0 ⊢
  have hg1 : (w2.alloc (.cells (Y.map (fun p => .string (strOfNums p))).toArray 9)).heap[g]? = some (.cells (fldC Y 0) 9 (0, 0)) := hg0
  generalize hw3 : w2.alloc (.cells (Y.map (fun p => .string (strOfNums p))).toArray 9) = w3 at *
  have H3 := Aside0.mk hg1
  have HB3 := Aside0.mk hbb
  clear hw3 hg0 hg1 hbb hg
  go_loopg [21] (Y.length + 1) (fun kq s21 wr => ∃ i : Nat, s21 = .int .i64 (i : Int) ∧ Aside0 (i + kq = Y.length + 1 ∧ i ≤ Y.length) ∧ Aside0 (wr.heap[g]? = some (.cells (fldC Y i) 9 (0, 0))) ∧ Aside0 (Below w.heap.size w wr))
  case atStart => exact ⟨0, rfl, ⟨by omega, by omega⟩, H3, HB3⟩
  case round =>
    clear H3 HB3
    obtain ⟨i, rfl, HI, HH, HBR⟩ := hrel
    cases gk with
    | zero => exact absurd HI.out (by omega)
    | succ kq =>
    by_cases c1 : (i : Int) < (Y.length : Int)
    · have hi : i < Y.length := by omega
      have HII := Aside0.mk hi
      have e0 := eq_true c1
      have e1 : decide ((i : Int) < (Y.length : Int)) = true := decide_eq_true c1
      have e2 : (i < Y.length) = True := eq_true hi
      have hsz : (fldC Y i).size = Y.length := by unfold fldC; simp [fldA_len]
      have hlt : i < (fldC Y i).size := by omega
      have hcl : wr.cell? ⟨g, i, none⟩ = some (.string (strOfNums Y[i])) := by
        unfold World.cell?
        rw [HH.out]
        exact fldC_at hi
      obtain ⟨p, hp⟩ : ∃ p, p = Y[i] := ⟨_, rfl⟩
      rw [← hp] at hcl
      have hpm : p ∈ Y := hp ▸ List.getElem_mem hi
      have HT := Aside0.mk (fun w => sTrim.calls p (HYO.out p hpm) (HYL.out p hpm) w)
      have HSET : Aside0 ((fldC Y i).setIfInBounds i (.string (strOfNums (trimL p))) = fldC Y (i + 1)) := ⟨by rw [hp]; exact fldC_set hi⟩
      have m1 : IntKind.i64.wrap ((i : Int) + 1) = (i : Int) + 1 := Go.IntWalk.i64_in _ (by have := HYN.out; omega)
      have m2 : wrap64 ((i : Int) + 1) = (i : Int) + 1 := w64 (by omega) (by have := HYN.out; omega)
      clear c1 hi hp hpm hsz hlt
      obtain ⟨sp, hsp⟩ : ∃ s, s = strOfNums p := ⟨_, rfl⟩
      rw [← hsp] at hcl HT
      clear hsp HTR HCUT HSP
      go_wp2_with (go_at_call 96; (with_reducible refine (HT.out _).mono ?_); rintro e w4 ⟨rfl, hb⟩; have HB4 := Aside0.mk hb; have hgl := (Array.getElem?_eq_some_iff.1 HH.out).1; have hh4 : w4.heap[g]? = some (.cells (fldC Y i) 9 (0, 0)) := (hb.block g hgl).trans HH.out; have HH4 := Aside0.mk hh4; have hc4 : ∃ x, w4.cell? ⟨g, i, none⟩ = some x := ⟨_, (hb.cell (World.block_lt_of_cell? wr _ hcl)).trans hcl⟩; obtain ⟨x4, hc4⟩ := hc4; have hf4 : w4.frozen? ⟨g, i, none⟩ = false := (by unfold World.frozen?; rw [hh4]; rfl); clear hb hgl hh4)
      go_roundg kq
      case measure => omega
      case rel =>
        refine ⟨i + 1, by first | rfl | (rw [m2]; rfl), ⟨by have := HI.out; omega, by have := HII.out; omega⟩, ⟨?_⟩, ⟨(HBR.out.trans (HB4.out.mono HBR.out.size)).setCell HG.out _⟩⟩
        have := heap_setCell_same w4 g i (fldC Y i) 9 (.string (strOfNums (trimL p))) HH4.out
        rw [HSET.out] at this
        exact this
    · have hin : i = Y.length := by have := HI.out; omega
      subst hin
      have e0 := eq_false c1
      have e1 : decide ((Y.length : Int) < (Y.length : Int)) = false := decide_eq_false c1
      clear c1
      go_wp2
      go_ret
      exact ⟨g, rfl, HG.out, HH.out, HBR.out⟩
set_option maxHeartbeats 2000000 in
set_option maxRecDepth 100000 in
theorem field_fields.callsN (L : List Int) (ho : Oct L) (hl : L.length ≤ 1000000) (hn : trimL (bodyL L) = []) (w : World) (hE : EnvF w) :
    Calls Tryz.prog 70 #[.string (strOfNums L)] w fun e w' => e = .returned (.slice none 0 0) ∧ Below w.heap.size w w' := by
  have hbm := body_mem L
  have hob : Oct (bodyL L) := oct_spl ho hbm
  have hlb := len_spl hbm
  obtain ⟨B, hB⟩ : ∃ B, B = bodyL L := ⟨_, rfl⟩
  rw [← hB] at hn hob hlb
  have HCUT := Aside0.mk (fun w hE => sCut.calls L ho hl w hE)
  rw [← hB] at HCUT
  have htr := fun w => sTrim.calls B hob (by omega) w
  rw [hn] at htr
  have HTR := Aside0.mk htr
  have HE := Aside0.mk hE
  obtain ⟨sl, hsl⟩ : ∃ s, s = strOfNums L := ⟨_, rfl⟩
  obtain ⟨sb, hsb⟩ : ∃ s, s = strOfNums B := ⟨_, rfl⟩
  obtain ⟨st, hst⟩ : ∃ s, s = strOfNums [] := ⟨_, rfl⟩
  rw [← hsl] at HCUT ⊢
  rw [← hsb] at HCUT HTR
  rw [← hst] at HTR
  have f2 : decide (st = (⟨#[]⟩ : ByteArray)) = true := decide_eq_true (by rw [hst]; rfl)
  have f3 : (st.toList == ([] : List UInt8)) = true := beq_iff_eq.mpr (by rw [hst]; exact str_nilU.2 rfl)
  clear hbm hob hlb hB hE ho hl hn hsl hsb hst htr
  go_enter Tryz.func70, Tryz.ntmps70
  go_wp2_with (first
    | (go_at_call 95; (with_reducible refine (HCUT.out _ HE.out).mono ?_); rintro e w1 ⟨s2, b2, rfl, hb⟩; have HB := Aside0.mk hb; clear hb)
    | (go_at_call 96; (with_reducible refine (HTR.out _).mono ?_); rintro e w2 ⟨rfl, hb⟩; have HB2 := Aside0.mk hb; clear hb))
  go_ret
  exact ⟨rfl, HB.out.trans (HB2.out.mono HB.out.size)⟩
end Go.Proofs.YtbpdcbibooiimaaGreatDoor.Q

-- from Qf76
-- Made by hp.py, a program of this session, with the kit's printer. Not trusted: Lean checks it.
namespace Go.Proofs.YtbpdcbibooiimaaGreatDoor.Q
open Go.RowKit Go.Proofs.YtbpdcbibooiimaaGreatDoorW.PrintWords Go.Proofs.YtbpdcbibooiimaaGreatDoorW.PrintLast Go.Proofs.YtbpdcbibooiimaaGreatDoorW.PrintMore
attribute [local go_sem] max2_int min2_int max_two min_two max_three min_three max_four min_four   -- for this text's walks alone
set_option linter.unusedVariables false
set_option linter.unusedSimpArgs false

/-! ### paronymref02_Trim: function 76 -/
mutual
def paronymref02_Trim.j1 : Nat → ByteArray → Option (ByteArray)
  | 0, _ => none
  | k + 1, x0 => paronymref02_Trim.l1 k x0
def paronymref02_Trim.l1 : Nat → ByteArray → Option (ByteArray)
  | 0, _ => none
  | k + 1, x0 => if (x0.size : Int) > 0 then (if 0 ≤ (wrap64 ((x0.size : Int) - 1)) then (if (wrap64 ((x0.size : Int) - 1)) < (x0.size : Int) then (if (bt x0 (wrap64 ((x0.size : Int) - 1))) = 32 then (if (wrap64 ((x0.size : Int) - 1)) ≤ (x0.size : Int) then (paronymref02_Trim.l1 k (x0.extract 0 ((wrap64 ((x0.size : Int) - 1)) : Int).toNat)) else (none)) else (if (bt x0 (wrap64 ((x0.size : Int) - 1))) = 9 then (if (wrap64 ((x0.size : Int) - 1)) ≤ (x0.size : Int) then (paronymref02_Trim.l1 k (x0.extract 0 ((wrap64 ((x0.size : Int) - 1)) : Int).toNat)) else (none)) else (some x0))) else (none)) else (none)) else (some x0)
def paronymref02_Trim.l0 : Nat → ByteArray → Option (ByteArray)
  | 0, _ => none
  | k + 1, x0 => if (x0.size : Int) > 0 then (if 0 < (x0.size : Int) then (if (bt x0 0) = 32 then (if 1 ≤ (x0.size : Int) then (paronymref02_Trim.l0 k (x0.extract 1 x0.size)) else (none)) else (if (bt x0 0) = 9 then (if 1 ≤ (x0.size : Int) then (paronymref02_Trim.l0 k (x0.extract 1 x0.size)) else (none)) else (paronymref02_Trim.j1 k x0))) else (none)) else (paronymref02_Trim.j1 k x0)
end
def paronymref02_Trim.f (k : Nat) (a0 : ByteArray) : Option (ByteArray) := paronymref02_Trim.l0 k a0
theorem paronymref02_Trim.mono_l : ∀ k, (∀ y0, LeO (paronymref02_Trim.j1 k y0) (paronymref02_Trim.j1 (k + 1) y0)) ∧ (∀ y0, LeO (paronymref02_Trim.l1 k y0) (paronymref02_Trim.l1 (k + 1) y0)) ∧ (∀ y0, LeO (paronymref02_Trim.l0 k y0) (paronymref02_Trim.l0 (k + 1) y0))
  | 0 => ⟨fun _ r h => by simp [paronymref02_Trim.j1] at h, fun _ r h => by simp [paronymref02_Trim.l1] at h, fun _ r h => by simp [paronymref02_Trim.l0] at h⟩
  | k + 1 => by
    obtain ⟨ih0, ih1, ih2⟩ := paronymref02_Trim.mono_l k
    refine ⟨?_, ?_, ?_⟩
    · intro y0
      unfold paronymref02_Trim.j1
      repeat' first
      | (with_reducible exact ih0 _)
      | (with_reducible exact ih1 _)
      | (with_reducible exact ih2 _)
      | (with_reducible exact LeO.refl _)
      | (with_reducible exact LeO.none _)
      | (with_reducible refine LeO.ite ?_ ?_)
      | (with_reducible refine LeO.bind ?_ (fun _ => ?_))
      | exact ih0 _
      | exact ih1 _
      | exact ih2 _
      | exact LeO.none _
      | refine LeO.ite ?_ ?_
      | refine LeO.bind ?_ (fun _ => ?_)
    · intro y0
      unfold paronymref02_Trim.l1
      repeat' first
      | (with_reducible exact ih0 _)
      | (with_reducible exact ih1 _)
      | (with_reducible exact ih2 _)
      | (with_reducible exact LeO.refl _)
      | (with_reducible exact LeO.none _)
      | (with_reducible refine LeO.ite ?_ ?_)
      | (with_reducible refine LeO.bind ?_ (fun _ => ?_))
      | exact ih0 _
      | exact ih1 _
      | exact ih2 _
      | exact LeO.none _
      | refine LeO.ite ?_ ?_
      | refine LeO.bind ?_ (fun _ => ?_)
    · intro y0
      unfold paronymref02_Trim.l0
      repeat' first
      | (with_reducible exact ih0 _)
      | (with_reducible exact ih1 _)
      | (with_reducible exact ih2 _)
      | (with_reducible exact LeO.refl _)
      | (with_reducible exact LeO.none _)
      | (with_reducible refine LeO.ite ?_ ?_)
      | (with_reducible refine LeO.bind ?_ (fun _ => ?_))
      | exact ih0 _
      | exact ih1 _
      | exact ih2 _
      | exact LeO.none _
      | refine LeO.ite ?_ ?_
      | refine LeO.bind ?_ (fun _ => ?_)
theorem paronymref02_Trim.mono : ∀ a0 k, LeO (paronymref02_Trim.f k a0) (paronymref02_Trim.f (k + 1) a0) := by
  intro a0 k
  obtain ⟨ih0, ih1, ih2⟩ := paronymref02_Trim.mono_l k
  unfold paronymref02_Trim.f
  repeat' first
      | (with_reducible exact ih0 _)
      | (with_reducible exact ih1 _)
      | (with_reducible exact ih2 _)
      | (with_reducible exact LeO.refl _)
      | (with_reducible exact LeO.none _)
      | (with_reducible refine LeO.ite ?_ ?_)
      | (with_reducible refine LeO.bind ?_ (fun _ => ?_))
      | exact ih0 _
      | exact ih1 _
      | exact ih2 _
      | exact LeO.none _
      | refine LeO.ite ?_ ?_
      | refine LeO.bind ?_ (fun _ => ?_)
set_option maxHeartbeats 8000000 in
set_option maxRecDepth 100000 in
theorem paronymref02_Trim.calls (k : Nat) (a0 : ByteArray) (r : ByteArray) (w : World) (h : paronymref02_Trim.f k a0 = some r) :
    Calls Tryz.prog 76 #[.string a0] w fun e w' => e = .returned (.string r) ∧ Drawn0 w w' := by
  have H : (paronymref02_Trim.l0 k a0) = some r := h
  clear h
  have HC2 := Aside0.mk H
  clear H
  go_enter Tryz.func76, Tryz.ntmps76
  go_upto_block 0 with (fail)
  go_cut [0] (fun v0 wc => ∃ (kq : Nat) (x0_1 : ByteArray), v0 = .string x0_1 ∧ Aside0 (paronymref02_Trim.j1 kq x0_1 = some r) ∧ Aside0 (kq ≤ k) ∧ Drawn0 w wc)
  case first =>
    have H := HC2.out
    clear HC2
    have H' := Aside0.mk H
    clear H
    go_wp2
    go_loopg [0] k (fun kq v0 w' => ∃ (x0_1 : ByteArray), v0 = .string x0_1 ∧ Aside0 (paronymref02_Trim.l0 kq x0_1 = some r) ∧ Aside0 (kq ≤ k) ∧ Drawn0 w w')
    case atStart => exact ⟨(a0), (by first | rfl | (simp; done) | (simp [*]; done)), H', ⟨Nat.le_refl _⟩, by repeat (first | exact Drawn0.refl _ | apply Drawn0.step)⟩
    case round =>
      clear H'
      try clear p2
      obtain ⟨x0_1, rfl, HA, HK1, ⟨m1, rfl⟩⟩ := hrel
      cases gk with
      | zero => exact absurd HA.out (by simp [paronymref02_Trim.l0])
      | succ k1 =>
        have H := HA.out
        clear HA
        simp only [paronymref02_Trim.l0] at H
        by_cases c3 : (x0_1.size : Int) > 0
        · rw [if_pos c3] at H
          have c3b0 : decide (0 < (x0_1.size : Int)) = true := decide_eq_true c3
          have c3b1 : decide (0 < x0_1.size) = true := decide_eq_true (by omega)
          clear c3
          (first | rw [c3b0] | (simp only [i64_w, i32_w]; rw [c3b0]) | rw [c3b1] | (simp only [i64_w, i32_w]; rw [c3b1]) | skip)
          by_cases c4 : 0 < (x0_1.size : Int)
          · rw [if_pos c4] at H
            have c4b0 : decide (0 < (x0_1.size : Int)) = true := decide_eq_true c4
            have c4b1 : decide (0 < x0_1.size) = true := decide_eq_true (by omega)
            clear c4
            by_cases c6 : (bt x0_1 0) = 32
            · rw [if_pos c6] at H
              have c6b0 : ((bt x0_1 0) == 32) = true := beq_iff_eq.mpr c6
              have c6b1 : ((bt x0_1 0) != 32) = false := bne_eq_false_iff_eq.mpr c6
              clear c6
              by_cases c7 : 1 ≤ (x0_1.size : Int)
              · rw [if_pos c7] at H
                have c7b0 := eq_true c7
                have c7b1 : decide (1 ≤ (x0_1.size : Int)) = true := decide_eq_true c7
                clear c7
                have H' := Aside0.mk H
                clear H
                have p5 : 0 ≤ (0 : Int) := (by omega)
                have q5 : 0 < x0_1.size := (by have : (0 : Int) < (x0_1.size : Int) := of_decide_eq_true (by first | (with_reducible assumption) | assumption); omega)
                have hx5 : ∀ h : 0 < x0_1.size, ((x0_1[0]'h).toNat : Int) = bt x0_1 0 := bt_at x0_1 0
                clear p5
                have qi5 : (0 < (x0_1.size : Int)) = True := eq_true (of_decide_eq_true (by first | (with_reducible assumption) | assumption))
                replace q5 := eq_true q5
                go_wp2
                go_roundg k1
                case measure => have := HK1.out; omega
                case rel => exact ⟨(x0_1.extract 1 x0_1.size), (by first | rfl | (simp; done) | (simp [*]; done)), H', ⟨by have := HK1.out; omega⟩, by repeat (first | exact Drawn0.refl _ | apply Drawn0.step)⟩
              · rw [if_neg c7] at H
                exact absurd H (by simp)
            · rw [if_neg c6] at H
              have c6b0 : ((bt x0_1 0) == 32) = false := beq_eq_false_iff_ne.mpr c6
              have c6b1 : ((bt x0_1 0) != 32) = true := bne_iff_ne.mpr c6
              by_cases c9 : (bt x0_1 0) = 9
              · rw [if_pos c9] at H
                have c9b0 : ((bt x0_1 0) == 9) = true := beq_iff_eq.mpr c9
                have c9b1 : ((bt x0_1 0) != 9) = false := bne_eq_false_iff_eq.mpr c9
                clear c9
                by_cases c10 : 1 ≤ (x0_1.size : Int)
                · rw [if_pos c10] at H
                  have c10b0 := eq_true c10
                  have c10b1 : decide (1 ≤ (x0_1.size : Int)) = true := decide_eq_true c10
                  clear c10
                  have H' := Aside0.mk H
                  clear H
                  have p5 : 0 ≤ (0 : Int) := (by omega)
                  have q5 : 0 < x0_1.size := (by have : (0 : Int) < (x0_1.size : Int) := of_decide_eq_true (by first | (with_reducible assumption) | assumption); omega)
                  have hx5 : ∀ h : 0 < x0_1.size, ((x0_1[0]'h).toNat : Int) = bt x0_1 0 := bt_at x0_1 0
                  clear p5
                  have qi5 : (0 < (x0_1.size : Int)) = True := eq_true (of_decide_eq_true (by first | (with_reducible assumption) | assumption))
                  replace q5 := eq_true q5
                  have p8 : 0 ≤ (0 : Int) := (by omega)
                  have q8 : 0 < x0_1.size := (by have : (0 : Int) < (x0_1.size : Int) := of_decide_eq_true (by first | (with_reducible assumption) | assumption); omega)
                  have hx8 : ∀ h : 0 < x0_1.size, ((x0_1[0]'h).toNat : Int) = bt x0_1 0 := bt_at x0_1 0
                  clear p8
                  have qi8 : (0 < (x0_1.size : Int)) = True := eq_true (of_decide_eq_true (by first | (with_reducible assumption) | assumption))
                  replace q8 := eq_true q8
                  go_wp2
                  go_roundg k1
                  case measure => have := HK1.out; omega
                  case rel => exact ⟨(x0_1.extract 1 x0_1.size), (by first | rfl | (simp; done) | (simp [*]; done)), H', ⟨by have := HK1.out; omega⟩, by repeat (first | exact Drawn0.refl _ | apply Drawn0.step)⟩
                · rw [if_neg c10] at H
                  exact absurd H (by simp)
              · rw [if_neg c9] at H
                have c9b0 : ((bt x0_1 0) == 9) = false := beq_eq_false_iff_ne.mpr c9
                have c9b1 : ((bt x0_1 0) != 9) = true := bne_iff_ne.mpr c9
                have H' := Aside0.mk H
                clear H
                have p5 : 0 ≤ (0 : Int) := (by omega)
                have q5 : 0 < x0_1.size := (by have : (0 : Int) < (x0_1.size : Int) := of_decide_eq_true (by first | (with_reducible assumption) | assumption); omega)
                have hx5 : ∀ h : 0 < x0_1.size, ((x0_1[0]'h).toNat : Int) = bt x0_1 0 := bt_at x0_1 0
                clear p5
                have qi5 : (0 < (x0_1.size : Int)) = True := eq_true (of_decide_eq_true (by first | (with_reducible assumption) | assumption))
                replace q5 := eq_true q5
                have p8 : 0 ≤ (0 : Int) := (by omega)
                have q8 : 0 < x0_1.size := (by have : (0 : Int) < (x0_1.size : Int) := of_decide_eq_true (by first | (with_reducible assumption) | assumption); omega)
                have hx8 : ∀ h : 0 < x0_1.size, ((x0_1[0]'h).toNat : Int) = bt x0_1 0 := bt_at x0_1 0
                clear p8
                have qi8 : (0 < (x0_1.size : Int)) = True := eq_true (of_decide_eq_true (by first | (with_reducible assumption) | assumption))
                replace q8 := eq_true q8
                go_wp2
                go_meet
                case rel => exact ⟨_, (x0_1), (by first | rfl | (simp; done) | (simp [*]; done)), H', ⟨by have := HK1.out; first | omega | exact Nat.le_refl _⟩, by repeat (first | exact Drawn0.refl _ | apply Drawn0.step)⟩
          · rw [if_neg c4] at H
            exact absurd H (by simp)
        · rw [if_neg c3] at H
          have c3b0 : decide (0 < (x0_1.size : Int)) = false := decide_eq_false c3
          have c3b1 : decide (0 < x0_1.size) = false := decide_eq_false (by omega)
          clear c3
          (first | rw [c3b0] | (simp only [i64_w, i32_w]; rw [c3b0]) | rw [c3b1] | (simp only [i64_w, i32_w]; rw [c3b1]) | skip)
          have H' := Aside0.mk H
          clear H
          go_wp2
          go_meet
          case rel => exact ⟨_, (x0_1), (by first | rfl | (simp; done) | (simp [*]; done)), H', ⟨by have := HK1.out; first | omega | exact Nat.le_refl _⟩, by repeat (first | exact Drawn0.refl _ | apply Drawn0.step)⟩
  case rest =>
    clear HC2
    try clear c1
    try clear p2
    try clear c3
    try clear c3b0
    try clear c3b1
    try clear c4
    try clear c4b0
    try clear c4b1
    try clear p5
    try clear q5
    try clear hx5
    try clear qi5
    try clear c6
    try clear c6b0
    try clear c6b1
    try clear c7
    try clear c7b0
    try clear c7b1
    try clear p8
    try clear q8
    try clear hx8
    try clear qi8
    try clear c9
    try clear c9b0
    try clear c9b1
    try clear c10
    try clear c10b0
    try clear c10b1
    try clear p2
    try clear p5
    try clear p8
    try clear q5
    try clear q8
    obtain ⟨kq, x0_1, rfl, HA, HJ1, ⟨mc1, rfl⟩⟩ := hcut
    cases kq with
    | zero => exact absurd HA.out (by simp [paronymref02_Trim.j1])
    | succ kj1 =>
      have H := HA.out
      clear HA
      simp only [paronymref02_Trim.j1] at H
      have H' := Aside0.mk H
      clear H
      go_wp2
      go_loopg [0] kj1 (fun kq v0 w' => ∃ (x0_2 : ByteArray), v0 = .string x0_2 ∧ Aside0 (paronymref02_Trim.l1 kq x0_2 = some r) ∧ Aside0 (kq ≤ kj1) ∧ Drawn0 w w')
      case atStart => exact ⟨(x0_1), (by first | rfl | (simp; done) | (simp [*]; done)), H', ⟨Nat.le_refl _⟩, by repeat (first | exact Drawn0.refl _ | apply Drawn0.step)⟩
      case round =>
        clear H'
        try clear c1
        try clear p2
        try clear c3
        try clear c3b0
        try clear c3b1
        try clear c4
        try clear c4b0
        try clear c4b1
        try clear p5
        try clear q5
        try clear hx5
        try clear qi5
        try clear c6
        try clear c6b0
        try clear c6b1
        try clear c7
        try clear c7b0
        try clear c7b1
        try clear p8
        try clear q8
        try clear hx8
        try clear qi8
        try clear c9
        try clear c9b0
        try clear c9b1
        try clear c10
        try clear c10b0
        try clear c10b1
        try clear p2
        try clear p5
        try clear p8
        try clear q5
        try clear q8
        obtain ⟨x0_2, rfl, HA, HK2, ⟨m2, rfl⟩⟩ := hrel
        cases gk with
        | zero => exact absurd HA.out (by simp [paronymref02_Trim.l1])
        | succ k2 =>
          have H := HA.out
          clear HA
          simp only [paronymref02_Trim.l1] at H
          by_cases c11 : (x0_2.size : Int) > 0
          · rw [if_pos c11] at H
            have c11b0 : decide (0 < (x0_2.size : Int)) = true := decide_eq_true c11
            have c11b1 : decide (0 < x0_2.size) = true := decide_eq_true (by omega)
            clear c11
            obtain ⟨ji12, hji12⟩ : ∃ j_ : Int, (wrap64 ((x0_2.size : Int) - 1)) = j_ := ⟨_, rfl⟩
            replace H : (if 0 ≤ (ji12) then (if (ji12) < (x0_2.size : Int) then (if (bt x0_2 (ji12)) = 32 then (if (ji12) ≤ (x0_2.size : Int) then (paronymref02_Trim.l1 k2 (x0_2.extract 0 ((ji12) : Int).toNat)) else (none)) else (if (bt x0_2 (ji12)) = 9 then (if (ji12) ≤ (x0_2.size : Int) then (paronymref02_Trim.l1 k2 (x0_2.extract 0 ((ji12) : Int).toNat)) else (none)) else (some x0_2))) else (none)) else (none)) = some r := by first | (rw [hji12] at H; exact H) | (simp only [hji12] at H ⊢; exact H)
            have hji12w : (IntKind.i64.wrap ((x0_2.size : Int) - 1)) = ji12 := (i64_w _).trans hji12
            by_cases c13 : 0 ≤ (ji12)
            · rw [if_pos c13] at H
              have c13b0 : decide (0 ≤ (ji12)) = true := decide_eq_true c13
              clear c13
              by_cases c14 : (ji12) < (x0_2.size : Int)
              · rw [if_pos c14] at H
                have c14b0 : decide ((ji12) < (x0_2.size : Int)) = true := decide_eq_true c14
                clear c14
                by_cases c16 : (bt x0_2 (ji12)) = 32
                · rw [if_pos c16] at H
                  have c16b0 : ((bt x0_2 (ji12)) == 32) = true := beq_iff_eq.mpr c16
                  have c16b1 : ((bt x0_2 (ji12)) != 32) = false := bne_eq_false_iff_eq.mpr c16
                  clear c16
                  have c17b0 := eq_true (of_decide_eq_true (by first | (with_reducible assumption) | assumption) : 0 ≤ (ji12))
                  by_cases c18 : (ji12) ≤ (x0_2.size : Int)
                  · rw [if_pos c18] at H
                    have c18b0 := eq_true c18
                    have c18b1 : decide ((ji12) ≤ (x0_2.size : Int)) = true := decide_eq_true c18
                    clear c18
                    have H' := Aside0.mk H
                    clear H
                    have p15 : 0 ≤ ((ji12) : Int) := of_decide_eq_true (by first | (with_reducible assumption) | assumption)
                    have q15 : (ji12) < (x0_2.size : Int) := of_decide_eq_true (by first | (with_reducible assumption) | assumption)
                    have hx15 := bt_at x0_2 (ji12)
                    replace p15 := eq_true p15
                    replace q15 := eq_true q15
                    go_wp2
                    go_roundg k2
                    case measure => have := HJ1.out; have := HK2.out; omega
                    case rel => exact ⟨(x0_2.extract 0 ((ji12) : Int).toNat), (by first | rfl | (simp; done) | (simp only [← hji12] <;> (first | rfl | simp)) | (simp [*]; done)), H', ⟨by have := HJ1.out; have := HK2.out; omega⟩, by repeat (first | exact Drawn0.refl _ | apply Drawn0.step)⟩
                  · rw [if_neg c18] at H
                    exact absurd H (by simp)
                · rw [if_neg c16] at H
                  have c16b0 : ((bt x0_2 (ji12)) == 32) = false := beq_eq_false_iff_ne.mpr c16
                  have c16b1 : ((bt x0_2 (ji12)) != 32) = true := bne_iff_ne.mpr c16
                  by_cases c20 : (bt x0_2 (ji12)) = 9
                  · rw [if_pos c20] at H
                    have c20b0 : ((bt x0_2 (ji12)) == 9) = true := beq_iff_eq.mpr c20
                    have c20b1 : ((bt x0_2 (ji12)) != 9) = false := bne_eq_false_iff_eq.mpr c20
                    clear c20
                    have c21b0 := eq_true (of_decide_eq_true (by first | (with_reducible assumption) | assumption) : 0 ≤ (ji12))
                    by_cases c22 : (ji12) ≤ (x0_2.size : Int)
                    · rw [if_pos c22] at H
                      have c22b0 := eq_true c22
                      have c22b1 : decide ((ji12) ≤ (x0_2.size : Int)) = true := decide_eq_true c22
                      clear c22
                      have H' := Aside0.mk H
                      clear H
                      have p15 : 0 ≤ ((ji12) : Int) := of_decide_eq_true (by first | (with_reducible assumption) | assumption)
                      have q15 : (ji12) < (x0_2.size : Int) := of_decide_eq_true (by first | (with_reducible assumption) | assumption)
                      have hx15 := bt_at x0_2 (ji12)
                      replace p15 := eq_true p15
                      replace q15 := eq_true q15
                      have p19 : 0 ≤ ((ji12) : Int) := of_decide_eq_true (by first | (with_reducible assumption) | assumption)
                      have q19 : (ji12) < (x0_2.size : Int) := of_decide_eq_true (by first | (with_reducible assumption) | assumption)
                      have hx19 := bt_at x0_2 (ji12)
                      replace p19 := eq_true p19
                      replace q19 := eq_true q19
                      go_wp2
                      go_roundg k2
                      case measure => have := HJ1.out; have := HK2.out; omega
                      case rel => exact ⟨(x0_2.extract 0 ((ji12) : Int).toNat), (by first | rfl | (simp; done) | (simp only [← hji12] <;> (first | rfl | simp)) | (simp [*]; done)), H', ⟨by have := HJ1.out; have := HK2.out; omega⟩, by repeat (first | exact Drawn0.refl _ | apply Drawn0.step)⟩
                    · rw [if_neg c22] at H
                      exact absurd H (by simp)
                  · rw [if_neg c20] at H
                    have c20b0 : ((bt x0_2 (ji12)) == 9) = false := beq_eq_false_iff_ne.mpr c20
                    have c20b1 : ((bt x0_2 (ji12)) != 9) = true := bne_iff_ne.mpr c20
                    obtain rfl := Option.some.inj H
                    have p15 : 0 ≤ ((ji12) : Int) := of_decide_eq_true (by first | (with_reducible assumption) | assumption)
                    have q15 : (ji12) < (x0_2.size : Int) := of_decide_eq_true (by first | (with_reducible assumption) | assumption)
                    have hx15 := bt_at x0_2 (ji12)
                    replace p15 := eq_true p15
                    replace q15 := eq_true q15
                    have p19 : 0 ≤ ((ji12) : Int) := of_decide_eq_true (by first | (with_reducible assumption) | assumption)
                    have q19 : (ji12) < (x0_2.size : Int) := of_decide_eq_true (by first | (with_reducible assumption) | assumption)
                    have hx19 := bt_at x0_2 (ji12)
                    replace p19 := eq_true p19
                    replace q19 := eq_true q19
                    go_wp2
                    go_ret
                    exact ⟨by first | rfl | (simp; done) | (simp only [← hji12] <;> (first | rfl | simp)) | (simp [*]; done), by repeat (first | exact Drawn0.refl _ | apply Drawn0.step)⟩
              · rw [if_neg c14] at H
                exact absurd H (by simp)
            · rw [if_neg c13] at H
              exact absurd H (by simp)
          · rw [if_neg c11] at H
            have c11b0 : decide (0 < (x0_2.size : Int)) = false := decide_eq_false c11
            have c11b1 : decide (0 < x0_2.size) = false := decide_eq_false (by omega)
            clear c11
            obtain rfl := Option.some.inj H
            go_wp2
            go_ret
            exact ⟨by first | rfl | (simp; done) | (simp [*]; done), by repeat (first | exact Drawn0.refl _ | apply Drawn0.step)⟩

end Go.Proofs.YtbpdcbibooiimaaGreatDoor.Q

-- from Qf48
-- Made by hp.py, a program of this session, with the kit's printer. Not trusted: Lean checks it.
namespace Go.Proofs.YtbpdcbibooiimaaGreatDoor.Q
open Go.RowKit Go.Proofs.YtbpdcbibooiimaaGreatDoorW.PrintWords Go.Proofs.YtbpdcbibooiimaaGreatDoorW.PrintLast Go.Proofs.YtbpdcbibooiimaaGreatDoorW.PrintMore
attribute [local go_sem] max2_int min2_int max_two min_two max_three min_three max_four min_four   -- for this text's walks alone
set_option linter.unusedVariables false
set_option linter.unusedSimpArgs false

/-! ### paronymref02_Lines: function 48 -/
mutual
def paronymref02_Lines.l0 : Nat → List (S90) → List ByteArray → Int → Option ((List (S90)))
  | 0, _, _, _ => none
  | k + 1, x3, x4, x5 => if x5 < (x4.length : Int) then (if 0 ≤ x5 then (if ((rdOf ByteArray.empty x4 x5).size : Int) > 0 then (if 0 ≤ (wrap64 (((rdOf ByteArray.empty x4 x5).size : Int) - 1)) then (if (wrap64 (((rdOf ByteArray.empty x4 x5).size : Int) - 1)) < ((rdOf ByteArray.empty x4 x5).size : Int) then (paronymref02_Lines.j1 k x3 x4 x5 (rdOf ByteArray.empty x4 x5) ((bt (rdOf ByteArray.empty x4 x5) (wrap64 (((rdOf ByteArray.empty x4 x5).size : Int) - 1))) == 13)) else (none)) else (none)) else (paronymref02_Lines.j1 k x3 x4 x5 (rdOf ByteArray.empty x4 x5) false)) else (none)) else (some x3)
def paronymref02_Lines.j1 : Nat → List (S90) → List ByteArray → Int → ByteArray → Bool → Option ((List (S90)))
  | 0, _, _, _, _, _ => none
  | k + 1, x3, x4, x5, x6, x32 => if x32 = true then (if 0 ≤ (wrap64 ((x6.size : Int) - 1)) then (if (wrap64 ((x6.size : Int) - 1)) ≤ (x6.size : Int) then (paronymref02_Lines.j2 k x3 x4 x5 (x6.extract 0 ((wrap64 ((x6.size : Int) - 1)) : Int).toNat)) else (none)) else (none)) else (paronymref02_Lines.j2 k x3 x4 x5 x6)
def paronymref02_Lines.j2 : Nat → List (S90) → List ByteArray → Int → ByteArray → Option ((List (S90)))
  | 0, _, _, _, _ => none
  | k + 1, x3, x4, x5, x6 => (paronymref02_Cut.f k x6 35).bind fun t105 => (if 0 < (t105.length : Int) then ((paronymref02_Trim.f k (rdOf ByteArray.empty t105 0)).bind fun t109 => (if t109.toList = ([] : List UInt8) then (paronymref02_Lines.l0 k x3 x4 (wrap64 (x5 + 1))) else ((paronymref02_Cut.f k (rdOf ByteArray.empty t105 0) 59).bind fun t110 => (paronymref02_Lines.l1 k x3 x4 x5 t110 ([] : List ByteArray) 0)))) else (none))
def paronymref02_Lines.l1 : Nat → List (S90) → List ByteArray → Int → List ByteArray → List ByteArray → Int → Option ((List (S90)))
  | 0, _, _, _, _, _, _ => none
  | k + 1, x3, x4, x5, x7, x8, x9 => if x9 < (x7.length : Int) then (if 0 ≤ x9 then ((paronymref02_Trim.f k (rdOf ByteArray.empty x7 x9)).bind fun t114 => (if x8.length < 8796093022208 then (paronymref02_Lines.l1 k x3 x4 x5 x7 (x8 ++ [t114]) (wrap64 (x9 + 1))) else (none))) else (none)) else (if x3.length < 4398046511104 then (paronymref02_Lines.l0 k (x3 ++ [(⟨wrap64 (x5 + 1), x8⟩ : S90)]) x4 (wrap64 (x5 + 1))) else (none))
end
def paronymref02_Lines.f (k : Nat) (a0 : ByteArray) : Option ((List (S90))) := (paronymref02_Cut.f k a0 10).bind fun t101 => (paronymref02_Lines.l0 k ([] : List (S90)) t101 0)
theorem paronymref02_Lines.mono_l : ∀ k, (∀ y0 y1 y2, LeO (paronymref02_Lines.l0 k y0 y1 y2) (paronymref02_Lines.l0 (k + 1) y0 y1 y2)) ∧ (∀ y0 y1 y2 y3 y4, LeO (paronymref02_Lines.j1 k y0 y1 y2 y3 y4) (paronymref02_Lines.j1 (k + 1) y0 y1 y2 y3 y4)) ∧ (∀ y0 y1 y2 y3, LeO (paronymref02_Lines.j2 k y0 y1 y2 y3) (paronymref02_Lines.j2 (k + 1) y0 y1 y2 y3)) ∧ (∀ y0 y1 y2 y3 y4 y5, LeO (paronymref02_Lines.l1 k y0 y1 y2 y3 y4 y5) (paronymref02_Lines.l1 (k + 1) y0 y1 y2 y3 y4 y5))
  | 0 => ⟨fun _ _ _ r h => by simp [paronymref02_Lines.l0] at h, fun _ _ _ _ _ r h => by simp [paronymref02_Lines.j1] at h, fun _ _ _ _ r h => by simp [paronymref02_Lines.j2] at h, fun _ _ _ _ _ _ r h => by simp [paronymref02_Lines.l1] at h⟩
  | k + 1 => by
    obtain ⟨ih0, ih1, ih2, ih3⟩ := paronymref02_Lines.mono_l k
    refine ⟨?_, ?_, ?_, ?_⟩
    · intro y0 y1 y2
      unfold paronymref02_Lines.l0
      repeat' first
      | (with_reducible exact ih0 _ _ _)
      | (with_reducible exact ih1 _ _ _ _ _)
      | (with_reducible exact ih2 _ _ _ _)
      | (with_reducible exact ih3 _ _ _ _ _ _)
      | (with_reducible exact paronymref02_Cut.mono _ _ _)
      | (with_reducible exact paronymref02_Trim.mono _ _)
      | (with_reducible exact LeO.refl _)
      | (with_reducible exact LeO.none _)
      | (with_reducible refine LeO.ite ?_ ?_)
      | (with_reducible refine LeO.bind ?_ (fun _ => ?_))
      | exact ih0 _ _ _
      | exact ih1 _ _ _ _ _
      | exact ih2 _ _ _ _
      | exact ih3 _ _ _ _ _ _
      | exact paronymref02_Cut.mono _ _ _
      | exact paronymref02_Trim.mono _ _
      | exact LeO.none _
      | refine LeO.ite ?_ ?_
      | refine LeO.bind ?_ (fun _ => ?_)
    · intro y0 y1 y2 y3 y4
      unfold paronymref02_Lines.j1
      repeat' first
      | (with_reducible exact ih0 _ _ _)
      | (with_reducible exact ih1 _ _ _ _ _)
      | (with_reducible exact ih2 _ _ _ _)
      | (with_reducible exact ih3 _ _ _ _ _ _)
      | (with_reducible exact paronymref02_Cut.mono _ _ _)
      | (with_reducible exact paronymref02_Trim.mono _ _)
      | (with_reducible exact LeO.refl _)
      | (with_reducible exact LeO.none _)
      | (with_reducible refine LeO.ite ?_ ?_)
      | (with_reducible refine LeO.bind ?_ (fun _ => ?_))
      | exact ih0 _ _ _
      | exact ih1 _ _ _ _ _
      | exact ih2 _ _ _ _
      | exact ih3 _ _ _ _ _ _
      | exact paronymref02_Cut.mono _ _ _
      | exact paronymref02_Trim.mono _ _
      | exact LeO.none _
      | refine LeO.ite ?_ ?_
      | refine LeO.bind ?_ (fun _ => ?_)
    · intro y0 y1 y2 y3
      unfold paronymref02_Lines.j2
      repeat' first
      | (with_reducible exact ih0 _ _ _)
      | (with_reducible exact ih1 _ _ _ _ _)
      | (with_reducible exact ih2 _ _ _ _)
      | (with_reducible exact ih3 _ _ _ _ _ _)
      | (with_reducible exact paronymref02_Cut.mono _ _ _)
      | (with_reducible exact paronymref02_Trim.mono _ _)
      | (with_reducible exact LeO.refl _)
      | (with_reducible exact LeO.none _)
      | (with_reducible refine LeO.ite ?_ ?_)
      | (with_reducible refine LeO.bind ?_ (fun _ => ?_))
      | exact ih0 _ _ _
      | exact ih1 _ _ _ _ _
      | exact ih2 _ _ _ _
      | exact ih3 _ _ _ _ _ _
      | exact paronymref02_Cut.mono _ _ _
      | exact paronymref02_Trim.mono _ _
      | exact LeO.none _
      | refine LeO.ite ?_ ?_
      | refine LeO.bind ?_ (fun _ => ?_)
    · intro y0 y1 y2 y3 y4 y5
      unfold paronymref02_Lines.l1
      repeat' first
      | (with_reducible exact ih0 _ _ _)
      | (with_reducible exact ih1 _ _ _ _ _)
      | (with_reducible exact ih2 _ _ _ _)
      | (with_reducible exact ih3 _ _ _ _ _ _)
      | (with_reducible exact paronymref02_Cut.mono _ _ _)
      | (with_reducible exact paronymref02_Trim.mono _ _)
      | (with_reducible exact LeO.refl _)
      | (with_reducible exact LeO.none _)
      | (with_reducible refine LeO.ite ?_ ?_)
      | (with_reducible refine LeO.bind ?_ (fun _ => ?_))
      | exact ih0 _ _ _
      | exact ih1 _ _ _ _ _
      | exact ih2 _ _ _ _
      | exact ih3 _ _ _ _ _ _
      | exact paronymref02_Cut.mono _ _ _
      | exact paronymref02_Trim.mono _ _
      | exact LeO.none _
      | refine LeO.ite ?_ ?_
      | refine LeO.bind ?_ (fun _ => ?_)
theorem paronymref02_Lines.mono : ∀ a0 k, LeO (paronymref02_Lines.f k a0) (paronymref02_Lines.f (k + 1) a0) := by
  intro a0 k
  obtain ⟨ih0, ih1, ih2, ih3⟩ := paronymref02_Lines.mono_l k
  unfold paronymref02_Lines.f
  repeat' first
      | (with_reducible exact ih0 _ _ _)
      | (with_reducible exact ih1 _ _ _ _ _)
      | (with_reducible exact ih2 _ _ _ _)
      | (with_reducible exact ih3 _ _ _ _ _ _)
      | (with_reducible exact paronymref02_Cut.mono _ _ _)
      | (with_reducible exact paronymref02_Trim.mono _ _)
      | (with_reducible exact LeO.refl _)
      | (with_reducible exact LeO.none _)
      | (with_reducible refine LeO.ite ?_ ?_)
      | (with_reducible refine LeO.bind ?_ (fun _ => ?_))
      | exact ih0 _ _ _
      | exact ih1 _ _ _ _ _
      | exact ih2 _ _ _ _
      | exact ih3 _ _ _ _ _ _
      | exact paronymref02_Cut.mono _ _ _
      | exact paronymref02_Trim.mono _ _
      | exact LeO.none _
      | refine LeO.ite ?_ ?_
      | refine LeO.bind ?_ (fun _ => ?_)
set_option maxHeartbeats 8000000 in
set_option maxRecDepth 100000 in
theorem paronymref02_Lines.calls (k : Nat) (a0 : ByteArray) (r : List (S90)) (w : World) (h : paronymref02_Lines.f k a0 = some r) :
    Calls Tryz.prog 48 #[.string a0] w fun e w' => ∃ v0_ : Value, e = .returned (v0_) ∧ Kd.S k90 90 w' w.heap.size (fun _ => True) v0_ r ∧ Below w.heap.size w w' := by
  have hu90 := Tryz.underlying90
  have HB := Aside0.mk (Below.refl w.heap.size w)
  have H : ((paronymref02_Cut.f k a0 10).bind fun t101 => (paronymref02_Lines.l0 k ([] : List (S90)) t101 0)) = some r := h
  clear h
  replace H := Option.bind_eq_some_iff.mp H
  obtain ⟨t101, A20, H⟩ := H
  replace H : (paronymref02_Lines.l0 k ([] : List (S90)) t101 0) = some r := H
  have A2 := Aside0.mk A20
  clear A20
  have H' := Aside0.mk H
  clear H
  go_enter Tryz.func48, Tryz.ntmps48
  go_wp2_with (first | ((with_reducible refine gate_callee (f := 18) rfl ?_); refine goesL_ (some 11) rfl rfl Tryz.func18 (by kernel_rfl) rfl #[.string a0, .int .u8 10] rfl (by (try simp only [List.map_toArray, List.map_cons, List.map_nil]); first | done | rfl | (simp only [List.length_drop, List.length_take]; rfl)) ?_; (with_reducible refine (paronymref02_Cut.calls k a0 10 t101 _ A2.out).mono ?_); rintro e w3 ⟨v102, rfl, ho0, hb⟩; refine ⟨_, rfl, ?_⟩; have n0_ := Aside0.mk (Kd.R_lower ho0 (below_size (by repeat (first | (with_reducible first | exact HB.out | apply below_alloc | apply pw_below_drewN | apply below_drew1) | exact HB.out)))); have n1_ := Aside0.mk (below_step (by repeat (first | (with_reducible first | exact HB.out | apply below_alloc | apply pw_below_drewN | apply below_drew1) | exact HB.out)) hb); clear HB; have HO103 := n0_; have HB := n1_; clear n0_ n1_; (try clear hb); (try clear hb2); (try clear hk); (try clear hi); (try clear ho0)))
  go_loopg [3, 5] k (fun kq v3 v5 w' => ∃ (x3_1 : List (S90)) (x5_1 : Int), v5 = .int .i64 x5_1 ∧ Aside0 (paronymref02_Lines.l0 kq x3_1 t101 x5_1 = some r) ∧ Aside0 (kq ≤ k) ∧ Aside0 (Kd.S k90 90 w' w.heap.size (fun k_ => some k_ ≠ (v102 : Value).ownBlock) v3 x3_1) ∧ Aside0 (Kd.R Kd.string 9 w' w.heap.size (fun _ => True) v102 t101) ∧ Aside0 (Below w.heap.size w w'))
  case atStart => exact ⟨(([] : List (S90))), (0), (by first | rfl | (simp; done) | (simp [*]; done)), H', ⟨Nat.le_refl _⟩, ⟨by first | exact Kd.S_nil _ _ _ _ _ | exact Kd.N_nil _ _ _ _ _ | exact Kd.V_nil _ _ _ _ _ | exact Kd.Q_nil _ _ _ _ _ | exact Kd.R_nil _ _ _ _ _⟩, ⟨by (with_reducible repeat (first | apply Kd.R_alloc | apply Kd.R_drewN | apply Kd.R_drew)); exact HO103.out⟩, ⟨by repeat (first | (with_reducible first | exact HB.out | apply below_alloc | apply pw_below_drewN | apply below_drew1) | exact HB.out)⟩⟩
  case round =>
    clear H'
    try clear c1
    try clear p2
    obtain ⟨x3_1, x5_1, rfl, HA, HK1, HO_3, HO_4, HB⟩ := hrel
    cases gk with
    | zero => exact absurd HA.out (by simp [paronymref02_Lines.l0])
    | succ k1 =>
      have H := HA.out
      clear HA
      simp only [paronymref02_Lines.l0] at H
      by_cases c4 : x5_1 < (t101.length : Int)
      · rw [if_pos c4] at H
        have c4b0 : decide (x5_1 < (t101.length : Int)) = true := decide_eq_true c4
        clear c4
        by_cases c5 : 0 ≤ x5_1
        · rw [if_pos c5] at H
          have c5b0 : decide (0 ≤ x5_1) = true := decide_eq_true c5
          clear c5
          have HC6 := Aside0.mk H
          clear H
          obtain ⟨Ao7, co7, eo7⟩ := Kd.R_slice HO_4.out
          subst eo7
          have p104 : 0 ≤ (x5_1 : Int) := of_decide_eq_true (by first | (with_reducible assumption) | assumption)
          have q104 : x5_1 < (t101.length : Int) := of_decide_eq_true (by first | (with_reducible assumption) | assumption)
          obtain ⟨ad104, e104, hx104_0⟩ := Kd.at_string (Kd.R_reads' HO_4.out).2.2 x5_1 p104 q104
          cases e104
          replace p104 := eq_true p104
          replace q104 := eq_true q104
          go_upto_region 7 with (fail)
          go_cut [32] (fun v32 wc => ∃ (kq : Nat) (x32_5 : Bool), v32 = .bool x32_5 ∧ Aside0 (paronymref02_Lines.j1 kq x3_1 t101 x5_1 (rdOf ByteArray.empty t101 x5_1) x32_5 = some r) ∧ Aside0 (kq ≤ k1) ∧ Aside0 (Kd.S k90 90 wc w.heap.size (fun k_ => some k_ ≠ ((.slice (some ad104) t101.length co7) : Value).ownBlock) u3 x3_1) ∧ Aside0 (Kd.R Kd.string 9 wc w.heap.size (fun _ => True) (.slice (some ad104) t101.length co7) t101) ∧ Aside0 (Below w.heap.size w wc))
          case first =>
            have H := HC6.out
            clear HC6
            by_cases c8 : ((rdOf ByteArray.empty t101 x5_1).size : Int) > 0
            · rw [if_pos c8] at H
              have c8b0 : decide (0 < ((rdOf ByteArray.empty t101 x5_1).size : Int)) = true := decide_eq_true c8
              have c8b1 : decide (0 < (rdOf ByteArray.empty t101 x5_1).size) = true := decide_eq_true (by omega)
              clear c8
              (first | rw [c8b0] | (simp only [i64_w, i32_w]; rw [c8b0]) | rw [c8b1] | (simp only [i64_w, i32_w]; rw [c8b1]) | skip)
              obtain ⟨ji9, hji9⟩ : ∃ j_ : Int, (wrap64 (((rdOf ByteArray.empty t101 x5_1).size : Int) - 1)) = j_ := ⟨_, rfl⟩
              replace H : (if 0 ≤ (ji9) then (if (ji9) < ((rdOf ByteArray.empty t101 x5_1).size : Int) then (paronymref02_Lines.j1 k1 x3_1 t101 x5_1 (rdOf ByteArray.empty t101 x5_1) ((bt (rdOf ByteArray.empty t101 x5_1) (ji9)) == 13)) else (none)) else (none)) = some r := by first | (rw [hji9] at H; exact H) | (simp only [hji9] at H ⊢; exact H)
              have hji9w : (IntKind.i64.wrap (((rdOf ByteArray.empty t101 x5_1).size : Int) - 1)) = ji9 := (i64_w _).trans hji9
              by_cases c10 : 0 ≤ (ji9)
              · rw [if_pos c10] at H
                have c10b0 : decide (0 ≤ (ji9)) = true := decide_eq_true c10
                clear c10
                by_cases c11 : (ji9) < ((rdOf ByteArray.empty t101 x5_1).size : Int)
                · rw [if_pos c11] at H
                  have c11b0 : decide ((ji9) < ((rdOf ByteArray.empty t101 x5_1).size : Int)) = true := decide_eq_true c11
                  clear c11
                  have H' := Aside0.mk H
                  clear H
                  have p12 : 0 ≤ ((ji9) : Int) := of_decide_eq_true (by first | (with_reducible assumption) | assumption)
                  have q12 : (ji9) < ((rdOf ByteArray.empty t101 x5_1).size : Int) := of_decide_eq_true (by first | (with_reducible assumption) | assumption)
                  have hx12 := bt_at (rdOf ByteArray.empty t101 x5_1) (ji9)
                  replace p12 := eq_true p12
                  replace q12 := eq_true q12
                  go_wp2
                  go_meet
                  case rel => exact ⟨_, (((bt (rdOf ByteArray.empty t101 x5_1) (ji9)) == 13)), (by first | rfl | (simp; done) | (simp only [← hji9] <;> (first | rfl | simp)) | (simp [*]; done)), H', ⟨by have := HK1.out; first | omega | exact Nat.le_refl _⟩, ⟨by (with_reducible repeat (first | apply Kd.S_alloc | apply Kd.S_drewN | apply Kd.S_drew)); exact HO_3.out⟩, ⟨by (with_reducible repeat (first | apply Kd.R_alloc | apply Kd.R_drewN | apply Kd.R_drew)); exact HO_4.out⟩, ⟨by repeat (first | (with_reducible first | exact HB.out | apply below_alloc | apply pw_below_drewN | apply below_drew1) | exact HB.out)⟩⟩
                · rw [if_neg c11] at H
                  exact absurd H (by simp)
              · rw [if_neg c10] at H
                exact absurd H (by simp)
            · rw [if_neg c8] at H
              have c8b0 : decide (0 < ((rdOf ByteArray.empty t101 x5_1).size : Int)) = false := decide_eq_false c8
              have c8b1 : decide (0 < (rdOf ByteArray.empty t101 x5_1).size) = false := decide_eq_false (by omega)
              clear c8
              (first | rw [c8b0] | (simp only [i64_w, i32_w]; rw [c8b0]) | rw [c8b1] | (simp only [i64_w, i32_w]; rw [c8b1]) | skip)
              have H' := Aside0.mk H
              clear H
              go_wp2
              go_meet
              case rel => exact ⟨_, (false), (by first | rfl | (simp; done) | (simp [*]; done)), H', ⟨by have := HK1.out; first | omega | exact Nat.le_refl _⟩, ⟨by (with_reducible repeat (first | apply Kd.S_alloc | apply Kd.S_drewN | apply Kd.S_drew)); exact HO_3.out⟩, ⟨by (with_reducible repeat (first | apply Kd.R_alloc | apply Kd.R_drewN | apply Kd.R_drew)); exact HO_4.out⟩, ⟨by repeat (first | (with_reducible first | exact HB.out | apply below_alloc | apply pw_below_drewN | apply below_drew1) | exact HB.out)⟩⟩
          case rest =>
            clear HC6
            try clear c1
            try clear p1
            try clear q1
            try clear hx1
            try clear p2
            try clear c4
            try clear c4b0
            try clear c5
            try clear c5b0
            try clear p6
            try clear c8
            try clear c8b0
            try clear c8b1
            try clear c10
            try clear c10b0
            try clear p10
            try clear q10
            try clear hx10
            try clear c11
            try clear c11b0
            try clear p12
            try clear q12
            try clear hx12
            try clear hx104_0
            try clear p104
            try clear p12
            try clear p2
            try clear q104
            try clear q12
            obtain ⟨kq, x32_5, rfl, HA, HJ5, HO_3, HO_4, HB⟩ := hcut
            cases kq with
            | zero => exact absurd HA.out (by simp [paronymref02_Lines.j1])
            | succ kj5 =>
              have H := HA.out
              clear HA
              simp only [paronymref02_Lines.j1] at H
              have HC13 := Aside0.mk H
              clear H
              go_upto_if 32 with (fail)
              go_cut [6] (fun v6 wc => ∃ (kq : Nat) (x6_12 : ByteArray), v6 = .string x6_12 ∧ Aside0 (paronymref02_Lines.j2 kq x3_1 t101 x5_1 x6_12 = some r) ∧ Aside0 (kq ≤ kj5) ∧ Aside0 (Kd.S k90 90 wc w.heap.size (fun k_ => some k_ ≠ ((.slice (some ad104) t101.length co7) : Value).ownBlock) u3 x3_1) ∧ Aside0 (Kd.R Kd.string 9 wc w.heap.size (fun _ => True) (.slice (some ad104) t101.length co7) t101) ∧ Aside0 (Below w.heap.size w wc))
              case first =>
                have H := HC13.out
                clear HC13
                by_cases c14 : x32_5 = true
                · subst c14
                  have H1 : (if 0 ≤ (wrap64 (((rdOf ByteArray.empty t101 x5_1).size : Int) - 1)) then (if (wrap64 (((rdOf ByteArray.empty t101 x5_1).size : Int) - 1)) ≤ ((rdOf ByteArray.empty t101 x5_1).size : Int) then (paronymref02_Lines.j2 kj5 x3_1 t101 x5_1 ((rdOf ByteArray.empty t101 x5_1).extract 0 ((wrap64 (((rdOf ByteArray.empty t101 x5_1).size : Int) - 1)) : Int).toNat)) else (none)) else (none)) = some r := by rw [if_pos rfl] at H; exact H
                  clear H
                  have H := H1
                  clear H1
                  obtain ⟨ji15, hji15⟩ : ∃ j_ : Int, (wrap64 (((rdOf ByteArray.empty t101 x5_1).size : Int) - 1)) = j_ := ⟨_, rfl⟩
                  replace H : (if 0 ≤ (ji15) then (if (ji15) ≤ ((rdOf ByteArray.empty t101 x5_1).size : Int) then (paronymref02_Lines.j2 kj5 x3_1 t101 x5_1 ((rdOf ByteArray.empty t101 x5_1).extract 0 ((ji15) : Int).toNat)) else (none)) else (none)) = some r := by first | (rw [hji15] at H; exact H) | (simp only [hji15] at H ⊢; exact H)
                  have hji15w : (IntKind.i64.wrap (((rdOf ByteArray.empty t101 x5_1).size : Int) - 1)) = ji15 := (i64_w _).trans hji15
                  by_cases c16 : 0 ≤ (ji15)
                  · rw [if_pos c16] at H
                    have c16b0 := eq_true c16
                    have c16b1 : decide (0 ≤ (ji15)) = true := decide_eq_true c16
                    clear c16
                    by_cases c17 : (ji15) ≤ ((rdOf ByteArray.empty t101 x5_1).size : Int)
                    · rw [if_pos c17] at H
                      have c17b0 := eq_true c17
                      have c17b1 : decide ((ji15) ≤ ((rdOf ByteArray.empty t101 x5_1).size : Int)) = true := decide_eq_true c17
                      clear c17
                      have H' := Aside0.mk H
                      clear H
                      go_wp2
                      go_meet
                      case rel => exact ⟨_, ((rdOf ByteArray.empty t101 x5_1).extract 0 ((ji15) : Int).toNat), (by first | rfl | (simp; done) | (simp only [← hji15] <;> (first | rfl | simp)) | (simp [*]; done)), H', ⟨by have := HK1.out; have := HJ5.out; first | omega | exact Nat.le_refl _⟩, ⟨by (with_reducible repeat (first | apply Kd.S_alloc | apply Kd.S_drewN | apply Kd.S_drew)); exact HO_3.out⟩, ⟨by (with_reducible repeat (first | apply Kd.R_alloc | apply Kd.R_drewN | apply Kd.R_drew)); exact HO_4.out⟩, ⟨by repeat (first | (with_reducible first | exact HB.out | apply below_alloc | apply pw_below_drewN | apply below_drew1) | exact HB.out)⟩⟩
                    · rw [if_neg c17] at H
                      exact absurd H (by simp)
                  · rw [if_neg c16] at H
                    exact absurd H (by simp)
                · replace c14 := Bool.eq_false_iff.mpr c14
                  subst c14
                  have H1 : (paronymref02_Lines.j2 kj5 x3_1 t101 x5_1 (rdOf ByteArray.empty t101 x5_1)) = some r := by rw [if_neg (show ¬ (false = true) by decide)] at H; exact H
                  clear H
                  have H := H1
                  clear H1
                  have H' := Aside0.mk H
                  clear H
                  go_wp2
                  go_meet
                  case rel => exact ⟨_, ((rdOf ByteArray.empty t101 x5_1)), (by first | rfl | (simp; done) | (simp [*]; done)), H', ⟨by have := HK1.out; have := HJ5.out; first | omega | exact Nat.le_refl _⟩, ⟨by (with_reducible repeat (first | apply Kd.S_alloc | apply Kd.S_drewN | apply Kd.S_drew)); exact HO_3.out⟩, ⟨by (with_reducible repeat (first | apply Kd.R_alloc | apply Kd.R_drewN | apply Kd.R_drew)); exact HO_4.out⟩, ⟨by repeat (first | (with_reducible first | exact HB.out | apply below_alloc | apply pw_below_drewN | apply below_drew1) | exact HB.out)⟩⟩
              case rest =>
                clear HC13
                try clear c1
                try clear p1
                try clear q1
                try clear hx1
                try clear p2
                try clear c4
                try clear c4b0
                try clear c5
                try clear c5b0
                try clear p6
                try clear c8
                try clear c8b0
                try clear c8b1
                try clear c10
                try clear c10b0
                try clear p10
                try clear q10
                try clear hx10
                try clear c11
                try clear c11b0
                try clear p12
                try clear q12
                try clear hx12
                try clear c14
                try clear c16
                try clear c16b0
                try clear c16b1
                try clear c17
                try clear c17b0
                try clear c17b1
                try clear hx104_0
                try clear p1
                try clear p10
                try clear p104
                try clear p12
                try clear p2
                try clear p6
                try clear q1
                try clear q10
                try clear q104
                try clear q12
                obtain ⟨kq, x6_12, rfl, HA, HJ12, HO_3, HO_4, HB⟩ := hcut
                cases kq with
                | zero => exact absurd HA.out (by simp [paronymref02_Lines.j2])
                | succ kj12 =>
                  have H := HA.out
                  clear HA
                  simp only [paronymref02_Lines.j2] at H
                  replace H := Option.bind_eq_some_iff.mp H
                  obtain ⟨t105, A180, H⟩ := H
                  replace H : (if 0 < (t105.length : Int) then ((paronymref02_Trim.f kj12 (rdOf ByteArray.empty t105 0)).bind fun t109 => (if t109.toList = ([] : List UInt8) then (paronymref02_Lines.l0 kj12 x3_1 t101 (wrap64 (x5_1 + 1))) else ((paronymref02_Cut.f kj12 (rdOf ByteArray.empty t105 0) 59).bind fun t110 => (paronymref02_Lines.l1 kj12 x3_1 t101 x5_1 t110 ([] : List ByteArray) 0)))) else (none)) = some r := H
                  have A18 := Aside0.mk A180
                  clear A180
                  by_cases c19 : 0 < (t105.length : Int)
                  · rw [if_pos c19] at H
                    have c19b0 : decide (0 < (t105.length : Int)) = true := decide_eq_true c19
                    have c19b1 : decide (0 < t105.length) = true := decide_eq_true (by omega)
                    clear c19
                    replace H := Option.bind_eq_some_iff.mp H
                    obtain ⟨t109, A200, H⟩ := H
                    replace H : (if t109.toList = ([] : List UInt8) then (paronymref02_Lines.l0 kj12 x3_1 t101 (wrap64 (x5_1 + 1))) else ((paronymref02_Cut.f kj12 (rdOf ByteArray.empty t105 0) 59).bind fun t110 => (paronymref02_Lines.l1 kj12 x3_1 t101 x5_1 t110 ([] : List ByteArray) 0))) = some r := H
                    have A20 := Aside0.mk A200
                    clear A200
                    by_cases c21 : t109.toList = ([] : List UInt8)
                    · rw [if_pos c21] at H
                      have c21b0 : (t109.toList == ([] : List UInt8)) = true := beq_iff_eq.mpr c21
                      have c21b1 : (t109.toList != ([] : List UInt8)) = false := bne_eq_false_iff_eq.mpr c21
                      clear c21
                      have H' := Aside0.mk H
                      clear H
                      go_wp2_with (first | ((with_reducible refine gate_callee (f := 18) rfl ?_); refine goesL_ (some 39) rfl rfl Tryz.func18 (by kernel_rfl) rfl #[.string x6_12, .int .u8 35] rfl (by (try simp only [List.map_toArray, List.map_cons, List.map_nil]); first | done | rfl | (simp only [List.length_drop, List.length_take]; rfl)) ?_; (with_reducible refine (paronymref02_Cut.calls kj12 x6_12 35 t105 _ A18.out).mono ?_); rintro e w22 ⟨v106, rfl, ho0, hb⟩; refine ⟨_, rfl, ?_⟩; have n0_ := Aside0.mk (Kd.S_elder' (by (with_reducible repeat (first | apply Kd.S_alloc | apply Kd.S_drewN | apply Kd.S_drew)); exact HO_3.out) (Kd.R_base ho0) hb); have n1_ := Aside0.mk (Kd.R_elder' (by (with_reducible repeat (first | apply Kd.R_alloc | apply Kd.R_drewN | apply Kd.R_drew)); exact HO_4.out) (Kd.R_base ho0) hb); have n2_ := Aside0.mk (Kd.R_lower (Kd.R_new' ho0 (Kd.R_lt (by (with_reducible repeat (first | apply Kd.R_alloc | apply Kd.R_drewN | apply Kd.R_drew)); exact HO_4.out))) (below_size (by repeat (first | (with_reducible first | exact HB.out | apply below_alloc | apply pw_below_drewN | apply below_drew1) | exact HB.out)))); have n3_ := Aside0.mk (below_step (by repeat (first | (with_reducible first | exact HB.out | apply below_alloc | apply pw_below_drewN | apply below_drew1) | exact HB.out)) hb); clear HO_3; clear HO_4; clear HB; have HO_3 := n0_; have HO_4 := n1_; have HO107 := n2_; have HB := n3_; clear n0_ n1_ n2_ n3_; (try clear hb); (try clear hb2); (try clear hk); (try clear hi); (try clear ho0); obtain ⟨Ao23, co23, eo23⟩ := Kd.R_slice HO107.out; subst eo23; have p108 : 0 ≤ (0 : Int) := (by omega); have q108 : 0 < (t105.length : Int) := of_decide_eq_true (by first | (with_reducible assumption) | assumption); obtain ⟨ad108, e108, hx108_0⟩ := Kd.at_string (Kd.R_reads' HO107.out).2.2 0 p108 q108; cases e108; have qi108 : (0 < t105.length) = True := eq_true (by omega); (try rw [show ((0 : Int)).toNat = 0 from rfl] at hx108_0); (try rw [Addr.add_zero'] at hx108_0); replace p108 := eq_true p108; replace q108 := eq_true q108) | ((with_reducible refine gate_callee (f := 76) rfl ?_); refine goesL_ (some 43) rfl rfl Tryz.func76 (by kernel_rfl) rfl #[.string (rdOf ByteArray.empty t105 0)] rfl (by (try simp only [List.map_toArray, List.map_cons, List.map_nil]); first | done | rfl | (simp only [List.length_drop, List.length_take]; rfl)) ?_; (with_reducible refine (paronymref02_Trim.calls kj12 (rdOf ByteArray.empty t105 0) t109 _ A20.out).mono ?_); rintro e w' ⟨rfl, ⟨nd, rfl⟩⟩; refine ⟨_, rfl, ?_⟩))
                      go_roundg kj12
                      case measure => have := HK1.out; have := HJ5.out; have := HJ12.out; omega
                      case rel => exact ⟨(x3_1), (wrap64 (x5_1 + 1)), (by first | rfl | (simp; done) | (simp [*]; done)), H', ⟨by have := HK1.out; have := HJ5.out; have := HJ12.out; omega⟩, ⟨by (with_reducible repeat (first | apply Kd.S_alloc | apply Kd.S_drewN | apply Kd.S_drew)); exact Kd.S_mono HO_3.out (fun _ hk => hk.1)⟩, ⟨by (with_reducible repeat (first | apply Kd.R_alloc | apply Kd.R_drewN | apply Kd.R_drew)); exact Kd.R_mono HO_4.out (fun _ hk => trivial)⟩, ⟨by repeat (first | (with_reducible first | exact HB.out | apply below_alloc | apply pw_below_drewN | apply below_drew1) | exact HB.out)⟩⟩
                    · rw [if_neg c21] at H
                      have c21b0 : (t109.toList == ([] : List UInt8)) = false := beq_eq_false_iff_ne.mpr c21
                      have c21b1 : (t109.toList != ([] : List UInt8)) = true := bne_iff_ne.mpr c21
                      replace H := Option.bind_eq_some_iff.mp H
                      obtain ⟨t110, A240, H⟩ := H
                      replace H : (paronymref02_Lines.l1 kj12 x3_1 t101 x5_1 t110 ([] : List ByteArray) 0) = some r := H
                      have A24 := Aside0.mk A240
                      clear A240
                      have H' := Aside0.mk H
                      clear H
                      go_wp2_with (first | ((with_reducible refine gate_callee (f := 18) rfl ?_); refine goesL_ (some 39) rfl rfl Tryz.func18 (by kernel_rfl) rfl #[.string x6_12, .int .u8 35] rfl (by (try simp only [List.map_toArray, List.map_cons, List.map_nil]); first | done | rfl | (simp only [List.length_drop, List.length_take]; rfl)) ?_; (with_reducible refine (paronymref02_Cut.calls kj12 x6_12 35 t105 _ A18.out).mono ?_); rintro e w25 ⟨v106, rfl, ho0, hb⟩; refine ⟨_, rfl, ?_⟩; have n0_ := Aside0.mk (Kd.S_elder' (by (with_reducible repeat (first | apply Kd.S_alloc | apply Kd.S_drewN | apply Kd.S_drew)); exact HO_3.out) (Kd.R_base ho0) hb); have n1_ := Aside0.mk (Kd.R_elder' (by (with_reducible repeat (first | apply Kd.R_alloc | apply Kd.R_drewN | apply Kd.R_drew)); exact HO_4.out) (Kd.R_base ho0) hb); have n2_ := Aside0.mk (Kd.R_lower (Kd.R_new' ho0 (Kd.R_lt (by (with_reducible repeat (first | apply Kd.R_alloc | apply Kd.R_drewN | apply Kd.R_drew)); exact HO_4.out))) (below_size (by repeat (first | (with_reducible first | exact HB.out | apply below_alloc | apply pw_below_drewN | apply below_drew1) | exact HB.out)))); have n3_ := Aside0.mk (below_step (by repeat (first | (with_reducible first | exact HB.out | apply below_alloc | apply pw_below_drewN | apply below_drew1) | exact HB.out)) hb); clear HO_3; clear HO_4; clear HB; have HO_3 := n0_; have HO_4 := n1_; have HO107 := n2_; have HB := n3_; clear n0_ n1_ n2_ n3_; (try clear hb); (try clear hb2); (try clear hk); (try clear hi); (try clear ho0); obtain ⟨Ao26, co26, eo26⟩ := Kd.R_slice HO107.out; subst eo26; have p108 : 0 ≤ (0 : Int) := (by omega); have q108 : 0 < (t105.length : Int) := of_decide_eq_true (by first | (with_reducible assumption) | assumption); obtain ⟨ad108, e108, hx108_0⟩ := Kd.at_string (Kd.R_reads' HO107.out).2.2 0 p108 q108; cases e108; have qi108 : (0 < t105.length) = True := eq_true (by omega); (try rw [show ((0 : Int)).toNat = 0 from rfl] at hx108_0); (try rw [Addr.add_zero'] at hx108_0); replace p108 := eq_true p108; replace q108 := eq_true q108) | ((with_reducible refine gate_callee (f := 76) rfl ?_); refine goesL_ (some 43) rfl rfl Tryz.func76 (by kernel_rfl) rfl #[.string (rdOf ByteArray.empty t105 0)] rfl (by (try simp only [List.map_toArray, List.map_cons, List.map_nil]); first | done | rfl | (simp only [List.length_drop, List.length_take]; rfl)) ?_; (with_reducible refine (paronymref02_Trim.calls kj12 (rdOf ByteArray.empty t105 0) t109 _ A20.out).mono ?_); rintro e w' ⟨rfl, ⟨nd, rfl⟩⟩; refine ⟨_, rfl, ?_⟩) | ((with_reducible refine gate_callee (f := 18) rfl ?_); refine goesL_ (some 46) rfl rfl Tryz.func18 (by kernel_rfl) rfl #[.string (rdOf ByteArray.empty t105 0), .int .u8 59] rfl (by (try simp only [List.map_toArray, List.map_cons, List.map_nil]); first | done | rfl | (simp only [List.length_drop, List.length_take]; rfl)) ?_; (with_reducible refine (paronymref02_Cut.calls kj12 (rdOf ByteArray.empty t105 0) 59 t110 _ A24.out).mono ?_); rintro e w27 ⟨v111, rfl, ho0, hb⟩; refine ⟨_, rfl, ?_⟩; have n0_ := Aside0.mk (Kd.S_elder' (by (with_reducible repeat (first | apply Kd.S_alloc | apply Kd.S_drewN | apply Kd.S_drew)); exact HO_3.out) (Kd.R_base ho0) hb); have n1_ := Aside0.mk (Kd.R_elder' (by (with_reducible repeat (first | apply Kd.R_alloc | apply Kd.R_drewN | apply Kd.R_drew)); exact HO_4.out) (Kd.R_base ho0) hb); have n2_ := Aside0.mk (Kd.R_elder' (by (with_reducible repeat (first | apply Kd.R_alloc | apply Kd.R_drewN | apply Kd.R_drew)); exact HO107.out) (Kd.R_base ho0) hb); have n3_ := Aside0.mk (Kd.R_lower (Kd.R_new' (Kd.R_new' ho0 (Kd.R_lt (by (with_reducible repeat (first | apply Kd.R_alloc | apply Kd.R_drewN | apply Kd.R_drew)); exact HO_4.out))) (Kd.R_lt (by (with_reducible repeat (first | apply Kd.R_alloc | apply Kd.R_drewN | apply Kd.R_drew)); exact HO107.out))) (below_size (by repeat (first | (with_reducible first | exact HB.out | apply below_alloc | apply pw_below_drewN | apply below_drew1) | exact HB.out)))); have n4_ := Aside0.mk (below_step (by repeat (first | (with_reducible first | exact HB.out | apply below_alloc | apply pw_below_drewN | apply below_drew1) | exact HB.out)) hb); clear HO_3; clear HO_4; clear HO107; clear HB; have HO_3 := n0_; have HO_4 := n1_; have HO107 := n2_; have HO112 := n3_; have HB := n4_; clear n0_ n1_ n2_ n3_ n4_; (try clear hb); (try clear hb2); (try clear hk); (try clear hi); (try clear ho0)))
                      go_loopg [8, 9] kj12 (fun kq v8 v9 w' => ∃ (x8_4 : List ByteArray) (x9_4 : Int), v9 = .int .i64 x9_4 ∧ Aside0 (paronymref02_Lines.l1 kq x3_1 t101 x5_1 t110 x8_4 x9_4 = some r) ∧ Aside0 (kq ≤ kj12) ∧ Aside0 (Kd.S k90 90 w' w.heap.size (fun k_ => some k_ ≠ ((.slice (some ad104) t101.length co7) : Value).ownBlock ∧ some k_ ≠ (v111 : Value).ownBlock ∧ some k_ ≠ (v8 : Value).ownBlock) u3 x3_1) ∧ Aside0 (Kd.R Kd.string 9 w' w.heap.size (fun k_ => some k_ ≠ (v111 : Value).ownBlock ∧ some k_ ≠ (v8 : Value).ownBlock) (.slice (some ad104) t101.length co7) t101) ∧ Aside0 (Kd.R Kd.string 9 w' w.heap.size (fun k_ => some k_ ≠ ((.slice (some ad104) t101.length co7) : Value).ownBlock ∧ some k_ ≠ (v8 : Value).ownBlock) v111 t110) ∧ Aside0 (Kd.R Kd.string 9 w' w.heap.size (fun k_ => some k_ ≠ ((.slice (some ad104) t101.length co7) : Value).ownBlock ∧ some k_ ≠ (v111 : Value).ownBlock) v8 x8_4) ∧ Aside0 (Below w.heap.size w w'))
                      case atStart => exact ⟨(([] : List ByteArray)), (0), (by first | rfl | (simp; done) | (simp [*]; done)), H', ⟨Nat.le_refl _⟩, ⟨by (with_reducible repeat (first | apply Kd.S_alloc | apply Kd.S_drewN | apply Kd.S_drew)); exact Kd.S_mono HO_3.out (fun _ hk => ⟨hk.1.1, ⟨hk.2, (by simp [Value.ownBlock])⟩⟩)⟩, ⟨by (with_reducible repeat (first | apply Kd.R_alloc | apply Kd.R_drewN | apply Kd.R_drew)); exact Kd.R_mono HO_4.out (fun _ hk => ⟨hk.2, (by simp [Value.ownBlock])⟩)⟩, ⟨by (with_reducible repeat (first | apply Kd.R_alloc | apply Kd.R_drewN | apply Kd.R_drew)); exact Kd.R_mono HO112.out (fun _ hk => ⟨hk.1.2, (by simp [Value.ownBlock])⟩)⟩, ⟨by first | exact Kd.R_nil _ _ _ _ _ | exact Kd.N_nil _ _ _ _ _ | exact Kd.V_nil _ _ _ _ _ | exact Kd.Q_nil _ _ _ _ _ | exact Kd.S_nil _ _ _ _ _⟩, ⟨by repeat (first | (with_reducible first | exact HB.out | apply below_alloc | apply pw_below_drewN | apply below_drew1) | exact HB.out)⟩⟩
                      case round =>
                        clear H'
                        try clear c1
                        try clear p1
                        try clear q1
                        try clear hx1
                        try clear qi1
                        try clear c2
                        try clear p2
                        try clear c4
                        try clear c4b0
                        try clear c5
                        try clear c5b0
                        try clear p6
                        try clear c7
                        try clear c8
                        try clear c8b0
                        try clear c8b1
                        try clear c10
                        try clear c10b0
                        try clear p10
                        try clear q10
                        try clear hx10
                        try clear qi10
                        try clear c11
                        try clear c11b0
                        try clear p12
                        try clear q12
                        try clear hx12
                        try clear c14
                        try clear c16
                        try clear c16b0
                        try clear c16b1
                        try clear c17
                        try clear c17b0
                        try clear c17b1
                        try clear c18
                        try clear c19
                        try clear c19b0
                        try clear c19b1
                        try clear c21
                        try clear c21b0
                        try clear c21b1
                        try clear hx104_0
                        try clear hx108_0
                        try clear p1
                        try clear p10
                        try clear p104
                        try clear p108
                        try clear p12
                        try clear p2
                        try clear p6
                        try clear q1
                        try clear q10
                        try clear q104
                        try clear q108
                        try clear q12
                        obtain ⟨x8_4, x9_4, rfl, HA, HK4, HO_3, HO_4, HO_7, HO_8, HB⟩ := hrel
                        cases gk with
                        | zero => exact absurd HA.out (by simp [paronymref02_Lines.l1])
                        | succ k4 =>
                          have H := HA.out
                          clear HA
                          simp only [paronymref02_Lines.l1] at H
                          by_cases c28 : x9_4 < (t110.length : Int)
                          · rw [if_pos c28] at H
                            have c28b0 : decide (x9_4 < (t110.length : Int)) = true := decide_eq_true c28
                            clear c28
                            by_cases c29 : 0 ≤ x9_4
                            · rw [if_pos c29] at H
                              have c29b0 : decide (0 ≤ x9_4) = true := decide_eq_true c29
                              clear c29
                              replace H := Option.bind_eq_some_iff.mp H
                              obtain ⟨t114, A300, H⟩ := H
                              replace H : (if x8_4.length < 8796093022208 then (paronymref02_Lines.l1 k4 x3_1 t101 x5_1 t110 (x8_4 ++ [t114]) (wrap64 (x9_4 + 1))) else (none)) = some r := H
                              have A30 := Aside0.mk A300
                              clear A300
                              by_cases c31 : x8_4.length < 8796093022208
                              · rw [if_pos c31] at H
                                have LMc31 := Aside0.mk c31
                                clear c31
                                obtain ⟨y115, hy115⟩ : ∃ y_ : List ByteArray, y_ = (x8_4 ++ [t114]) := ⟨_, rfl⟩
                                replace H : (paronymref02_Lines.l1 k4 x3_1 t101 x5_1 t110 y115 (wrap64 (x9_4 + 1))) = some r := by first | (rw [hy115]; with_reducible exact H) | (have H2_ := (Option.bind_some _ _).symm.trans H; rw [hy115]; with_reducible exact H2_) | (have H2_ := (Option.bind_some _ _).symm.trans H; with_reducible exact H2_) | with_reducible exact H | (rw [hy115]; exact H) | exact H
                                have Ny115 := Aside0.mk hy115
                                clear hy115
                                have H' := Aside0.mk H
                                clear H
                                obtain ⟨Ao32, co32, eo32⟩ := Kd.R_slice HO_7.out
                                subst eo32
                                have p113 : 0 ≤ (x9_4 : Int) := of_decide_eq_true (by first | (with_reducible assumption) | assumption)
                                have q113 : x9_4 < (t110.length : Int) := of_decide_eq_true (by first | (with_reducible assumption) | assumption)
                                obtain ⟨ad113, e113, hx113_0⟩ := Kd.at_string (Kd.R_reads' HO_7.out).2.2 x9_4 p113 q113
                                cases e113
                                replace p113 := eq_true p113
                                replace q113 := eq_true q113
                                go_wp2_with (first | ((with_reducible refine gate_callee (f := 76) rfl ?_); refine goesL_ (some 58) rfl rfl Tryz.func76 (by kernel_rfl) rfl #[.string (rdOf ByteArray.empty t110 x9_4)] rfl (by (try simp only [List.map_toArray, List.map_cons, List.map_nil]); first | done | rfl | (simp only [List.length_drop, List.length_take]; rfl)) ?_; (with_reducible refine (paronymref02_Trim.calls k4 (rdOf ByteArray.empty t110 x9_4) t114 _ A30.out).mono ?_); rintro e w' ⟨rfl, ⟨nd, rfl⟩⟩; refine ⟨_, rfl, ?_⟩) | ((with_reducible refine gate_builtin (b := .append) (xs := #[.tmp 53, .tmp 59]) rfl ?_); (try (refine gate_guard (by rfl) ?_; dsimp only)); at_builtin; refine Kd.R_append Kd.string (w0 := w) w.heap.size rfl (.tmp 53) (.tmp 59) 23 9 (.string ⟨#[]⟩) 16 rfl Tryz.underlying23 info9 rfl (by decide) (by omega) u8 x8_4 t114 [.string t114] (fun k_ => some k_ ≠ (.slice (some ad104) t101.length co7 : Value).ownBlock ∧ some k_ ≠ (.slice (some ad113) t110.length co32 : Value).ownBlock) (fun _ => False) rfl rfl ?aP (fun _ hk => hk.elim) ?aF ?aO ?aB ?aS ?aL ?_; (case aP => exact rfl); (case aB => exact (by repeat (first | (with_reducible first | exact HB.out | apply below_alloc | apply pw_below_drewN | apply below_drew1) | exact HB.out))); (case aF => exact (fun k_ hk => ⟨Kd.fresh' (Kd.R_lt (by (with_reducible repeat (first | apply Kd.R_alloc | apply Kd.R_drewN | apply Kd.R_drew)); exact HO_4.out)) k_ hk, Kd.fresh' (Kd.R_lt (by (with_reducible repeat (first | apply Kd.R_alloc | apply Kd.R_drewN | apply Kd.R_drew)); exact HO_7.out)) k_ hk⟩)); (case aO => exact (by (with_reducible repeat (first | apply Kd.R_alloc | apply Kd.R_drewN | apply Kd.R_drew)); exact HO_8.out)); (case aS => exact (below_size (by repeat (first | (with_reducible first | exact HB.out | apply below_alloc | apply pw_below_drewN | apply below_drew1) | exact HB.out)))); (case aL => have := LMc31.out; omega); intro v116 w33 ho hb hg hat; rw [← Ny115.out] at ho; have n0_ := Aside0.mk (Kd.S_after (ok := (fun k_ => some k_ ≠ (.slice (some ad104) t101.length co7 : Value).ownBlock ∧ some k_ ≠ (.slice (some ad113) t110.length co32 : Value).ownBlock)) (by (with_reducible repeat (first | apply Kd.S_alloc | apply Kd.S_drewN | apply Kd.S_drew)); exact Kd.S_mono HO_3.out (fun _ hk => ⟨⟨hk.1, hk.2.1⟩, hk.2.2⟩)) hg hat); have n1_ := Aside0.mk (Kd.R_after (ok := (fun k_ => some k_ ≠ (.slice (some ad113) t110.length co32 : Value).ownBlock)) (by (with_reducible repeat (first | apply Kd.R_alloc | apply Kd.R_drewN | apply Kd.R_drew)); exact HO_4.out) hg hat); have n2_ := Aside0.mk (Kd.R_after (ok := (fun k_ => some k_ ≠ (.slice (some ad104) t101.length co7 : Value).ownBlock)) (by (with_reducible repeat (first | apply Kd.R_alloc | apply Kd.R_drewN | apply Kd.R_drew)); exact HO_7.out) hg hat); have n3_ := Aside0.mk (hb); have n4_ := Aside0.mk (ho); clear HO_3; clear HO_4; clear HO_7; clear HB; clear HO_8; have HO_3 := n0_; have HO_4 := n1_; have HO_7 := n2_; have HB := n3_; have HO117 := n4_; clear n0_ n1_ n2_ n3_ n4_; clear ho hb hg hat))
                                go_roundg k4
                                case measure => have := HK1.out; have := HJ5.out; have := HJ12.out; have := HK4.out; omega
                                case rel => exact ⟨(y115), (wrap64 (x9_4 + 1)), (by first | rfl | (simp; done) | (simp [*]; done)), H', ⟨by have := HK1.out; have := HJ5.out; have := HJ12.out; have := HK4.out; omega⟩, ⟨by (with_reducible repeat (first | apply Kd.S_alloc | apply Kd.S_drewN | apply Kd.S_drew)); exact Kd.S_mono HO_3.out (fun _ hk => ⟨hk.1.1, ⟨hk.1.2, hk.2⟩⟩)⟩, ⟨by (with_reducible repeat (first | apply Kd.R_alloc | apply Kd.R_drewN | apply Kd.R_drew)); exact HO_4.out⟩, ⟨by (with_reducible repeat (first | apply Kd.R_alloc | apply Kd.R_drewN | apply Kd.R_drew)); exact HO_7.out⟩, ⟨by (with_reducible repeat (first | apply Kd.R_alloc | apply Kd.R_drewN | apply Kd.R_drew)); exact HO117.out⟩, ⟨by repeat (first | (with_reducible first | exact HB.out | apply below_alloc | apply pw_below_drewN | apply below_drew1) | exact HB.out)⟩⟩
                              · rw [if_neg c31] at H
                                exact absurd H (by simp)
                            · rw [if_neg c29] at H
                              exact absurd H (by simp)
                          · rw [if_neg c28] at H
                            have c28b0 : decide (x9_4 < (t110.length : Int)) = false := decide_eq_false c28
                            clear c28
                            by_cases c34 : x3_1.length < 4398046511104
                            · rw [if_pos c34] at H
                              have LMc34 := Aside0.mk c34
                              clear c34
                              obtain ⟨y118, hy118⟩ : ∃ y_ : List (S90), y_ = (x3_1 ++ [(⟨wrap64 (x5_1 + 1), x8_4⟩ : S90)]) := ⟨_, rfl⟩
                              replace H : (paronymref02_Lines.l0 k4 y118 t101 (wrap64 (x5_1 + 1))) = some r := by first | (rw [hy118]; with_reducible exact H) | (have H2_ := (Option.bind_some _ _).symm.trans H; rw [hy118]; with_reducible exact H2_) | (have H2_ := (Option.bind_some _ _).symm.trans H; with_reducible exact H2_) | with_reducible exact H | (rw [hy118]; exact H) | exact H
                              have Ny118 := Aside0.mk hy118
                              clear hy118
                              have H' := Aside0.mk H
                              clear H
                              obtain ⟨Ao35, co35, eo35⟩ := Kd.R_slice HO_7.out
                              subst eo35
                              obtain ⟨Ao36, co36, eo36⟩ := Kd.R_slice HO_8.out
                              subst eo36
                              go_wp2_with (first | ((with_reducible refine gate_builtin (b := .append) (xs := #[.tmp 61, .tmp 66]) rfl ?_); (try (refine gate_guard (by rfl) ?_; dsimp only)); at_builtin; refine Kd.S_append k90 (w0 := w) w.heap.size rfl (.tmp 61) (.tmp 66) 88 90 (.agg #[(.int .i64 0), (.slice none 0 0)]) 32 rfl Tryz.underlying88 info90 rfl (by decide) (by omega) u3 x3_1 (⟨wrap64 (x5_1 + 1), x8_4⟩ : S90) [.int .i64 (wrap64 (x5_1 + 1)), .slice Ao36 x8_4.length co36] (fun k_ => some k_ ≠ (.slice (some ad104) t101.length co7 : Value).ownBlock ∧ some k_ ≠ (.slice Ao35 t110.length co35 : Value).ownBlock) (fun k_ => some k_ = (.slice Ao36 x8_4.length co36 : Value).ownBlock) rfl rfl ?aP (fun k_ hk_ => ((Kd.R_mono (ok' := fun k_ => ((fun k_ => some k_ ≠ (.slice (some ad104) t101.length co7 : Value).ownBlock ∧ some k_ ≠ (.slice Ao35 t110.length co35 : Value).ownBlock)) k_ ∧ some k_ ≠ (u3 : Value).ownBlock) (Kd.R_apart' (HO_8.out) (Kd.S_typed HO_3.out) (by decide)) (fun k_ hk => ⟨⟨hk.1.1, hk.1.2⟩, hk.2⟩))).1 k_ hk_.symm) ?aF ?aO ?aB ?aS ?aL ?_; (case aP => exact k90_mkM _ _ _ (⟨wrap64 (x5_1 + 1), x8_4⟩ : S90) (Kd.R_mono (Kd.R_tight rfl (Kd.R_mono (ok' := fun k_ => ((fun k_ => some k_ ≠ (.slice (some ad104) t101.length co7 : Value).ownBlock ∧ some k_ ≠ (.slice Ao35 t110.length co35 : Value).ownBlock)) k_ ∧ some k_ ≠ (u3 : Value).ownBlock) (Kd.R_apart' (HO_8.out) (Kd.S_typed HO_3.out) (by decide)) (fun k_ hk => ⟨⟨hk.1.1, hk.1.2⟩, hk.2⟩))) (fun _ h_ => h_))); (case aB => exact (by repeat (first | (with_reducible first | exact HB.out | apply below_alloc | apply pw_below_drewN | apply below_drew1) | exact HB.out))); (case aF => exact (fun k_ hk => ⟨Kd.fresh' (Kd.R_lt (by (with_reducible repeat (first | apply Kd.R_alloc | apply Kd.R_drewN | apply Kd.R_drew)); exact HO_4.out)) k_ hk, Kd.fresh' (Kd.R_lt (by (with_reducible repeat (first | apply Kd.R_alloc | apply Kd.R_drewN | apply Kd.R_drew)); exact HO_7.out)) k_ hk⟩)); (case aO => exact (by (with_reducible repeat (first | apply Kd.S_alloc | apply Kd.S_drewN | apply Kd.S_drew)); exact Kd.S_mono HO_3.out (fun k_ hk => ⟨⟨hk.1, hk.2.1⟩, fun e_ => hk.2.2 e_⟩))); (case aS => exact (below_size (by repeat (first | (with_reducible first | exact HB.out | apply below_alloc | apply pw_below_drewN | apply below_drew1) | exact HB.out)))); (case aL => have := LMc34.out; omega); intro v119 w37 ho hb hg hat; rw [← Ny118.out] at ho; have n0_ := Aside0.mk (Kd.R_over' (by (with_reducible repeat (first | apply Kd.R_alloc | apply Kd.R_drewN | apply Kd.R_drew)); exact HO_4.out) (Kd.S_typed (by (with_reducible repeat (first | apply Kd.S_alloc | apply Kd.S_drewN | apply Kd.S_drew)); exact HO_3.out)) (by decide) hg); have n1_ := Aside0.mk (Kd.R_over' (by (with_reducible repeat (first | apply Kd.R_alloc | apply Kd.R_drewN | apply Kd.R_drew)); exact HO_7.out) (Kd.S_typed (by (with_reducible repeat (first | apply Kd.S_alloc | apply Kd.S_drewN | apply Kd.S_drew)); exact HO_3.out)) (by decide) hg); have n2_ := Aside0.mk (hb); have n3_ := Aside0.mk (ho); clear HO_4; clear HO_7; clear HB; clear HO_3; clear HO_8; have HO_4 := n0_; have HO_7 := n1_; have HB := n2_; have HO120 := n3_; clear n0_ n1_ n2_ n3_; clear ho hb hg hat))
                              go_roundg k4
                              case measure => have := HK1.out; have := HJ5.out; have := HJ12.out; have := HK4.out; omega
                              case rel => exact ⟨(y118), (wrap64 (x5_1 + 1)), (by first | rfl | (simp; done) | (simp [*]; done)), H', ⟨by have := HK1.out; have := HJ5.out; have := HJ12.out; have := HK4.out; omega⟩, ⟨by (with_reducible repeat (first | apply Kd.S_alloc | apply Kd.S_drewN | apply Kd.S_drew)); exact Kd.S_mono HO120.out (fun _ hk => hk.1)⟩, ⟨by (with_reducible repeat (first | apply Kd.R_alloc | apply Kd.R_drewN | apply Kd.R_drew)); exact Kd.R_mono HO_4.out (fun _ hk => trivial)⟩, ⟨by repeat (first | (with_reducible first | exact HB.out | apply below_alloc | apply pw_below_drewN | apply below_drew1) | exact HB.out)⟩⟩
                            · rw [if_neg c34] at H
                              exact absurd H (by simp)
                  · rw [if_neg c19] at H
                    exact absurd H (by simp)
        · rw [if_neg c5] at H
          exact absurd H (by simp)
      · rw [if_neg c4] at H
        have c4b0 : decide (x5_1 < (t101.length : Int)) = false := decide_eq_false c4
        clear c4
        obtain rfl := Option.some.inj H
        obtain ⟨Ao38, co38, eo38⟩ := Kd.R_slice HO_4.out
        subst eo38
        go_wp2
        go_ret
        exact ⟨_, by first | rfl | (simp [errW_none, errW_some] <;> rfl) | (simp [*, errW_none, errW_some] <;> rfl), by (with_reducible repeat (first | apply Kd.S_alloc | apply Kd.S_drewN | apply Kd.S_drew)); exact Kd.S_mono HO_3.out (fun _ hk => trivial), by repeat (first | (with_reducible first | exact HB.out | apply below_alloc | apply pw_below_drewN | apply below_drew1) | exact HB.out)⟩

end Go.Proofs.YtbpdcbibooiimaaGreatDoor.Q

-- from Plns
/- Layer 2's reference on lists: Trim, Lines. -/
namespace Go.Proofs.YtbpdcbibooiimaaGreatDoor.K
set_option linter.unusedVariables false
set_option linter.unusedSimpArgs false
open Go.RowKit Go.Proofs.YtbpdcbibooiimaaGreatDoorW.PrintWords Go.Proofs.YtbpdcbibooiimaaGreatDoorW.PrintMore Go.Proofs.YtbpdcbibooiimaaGreatDoor.Q

theorem str_front {x : Int} {l : List Int} : (strOfNums (x :: l)).extract 1 (strOfNums (x :: l)).size = strOfNums l := by
  rw [extract_str, size_str, List.take_length]; rfl
theorem str_init {l : List Int} {x : Int} : (strOfNums (l ++ [x])).extract 0 l.length = strOfNums l := by
  rw [extract_str, List.drop_zero, List.take_left]
theorem trimR_ev : ∀ (n : Nat) (L : List Int), L.length = n → Oct L → L.length ≤ 1000000 → Ev (fun k => paronymref02_Trim.l1 k (strOfNums L)) (strOfNums (trimR L)) := by
  intro n
  induction n with
  | zero =>
    intro L hn ho hl
    obtain rfl := List.length_eq_zero_iff.1 hn
    exact Ev.step (fun k => rfl) (Ev.neg (by rw [size_str]; simp) (Ev.ret rfl))
  | succ n ih =>
    intro L hn ho hl
    obtain ⟨l, x, rfl⟩ : ∃ l x, L = l ++ [x] := ⟨L.dropLast, L.getLast (fun e => by rw [e] at hn; simp at hn), (List.dropLast_concat_getLast _).symm⟩
    have hl1 : l.length = n := by simpa using hn
    have hz : (strOfNums (l ++ [x])).size = n + 1 := by rw [size_str, hn]
    have hw : wrap64 (((strOfNums (l ++ [x])).size : Int) - 1) = (n : Int) := by rw [hz, w64 (by omega) (by omega)]; omega
    have hb : bt (strOfNums (l ++ [x])) (n : Int) = x := by
      rw [bt_str ho (by omega) (by simp; omega), rd_nat _ n (by simp; omega)]
      simp [← hl1]
    have next := ih l hl1 (fun y hy => ho y (by simp [hy])) (by omega)
    rw [trimR_snoc]
    refine Ev.step (fun k => rfl) ?_
    by_cases h1 : x = 32
    · rw [if_pos (by simp [blk, h1])]
      refine Ev.pos (by omega) (Ev.pos (by omega) (Ev.pos (by omega) (Ev.pos (by rw [hw, hb]; exact h1) (Ev.pos (by omega) ?_))))
      rw [hw, Int.toNat_natCast, ← hl1, str_init]
      exact next
    · by_cases h2 : x = 9
      · rw [if_pos (by simp [blk, h2])]
        refine Ev.pos (by omega) (Ev.pos (by omega) (Ev.pos (by omega) (Ev.neg (by rw [hw, hb]; exact h1) (Ev.pos (by rw [hw, hb]; exact h2) (Ev.pos (by omega) ?_)))))
        rw [hw, Int.toNat_natCast, ← hl1, str_init]
        exact next
      · rw [if_neg (by simp [blk, h1, h2])]
        exact Ev.pos (by omega) (Ev.pos (by omega) (Ev.pos (by omega) (Ev.neg (by rw [hw, hb]; exact h1) (Ev.neg (by rw [hw, hb]; exact h2) (Ev.ret rfl)))))
theorem trim0_ev : ∀ (L : List Int), Oct L → L.length ≤ 1000000 → Ev (fun k => paronymref02_Trim.l0 k (strOfNums L)) (strOfNums (trimL L))
  | [], ho, hl => Ev.step (fun k => rfl) (Ev.neg (by rw [size_str]; simp) (Ev.step (fun k => rfl) (trimR_ev 0 [] rfl ho hl)))
  | x :: L, ho, hl => by
    have hz : (strOfNums (x :: L)).size = L.length + 1 := size_str _
    have hb : bt (strOfNums (x :: L)) 0 = x := by rw [bt_str ho (by omega) (by simp)]; rfl
    have hl' : L.length ≤ 1000000 := by simp at hl; omega
    have next := trim0_ev L (fun y hy => ho y (by simp [hy])) hl'
    unfold trimL
    rw [List.dropWhile_cons]
    by_cases h1 : x = 32
    · rw [if_pos (by simp [blk, h1])]
      refine Ev.step (fun k => rfl) (Ev.pos (by omega) (Ev.pos (by omega) (Ev.pos (by rw [hb]; exact h1) (Ev.pos (by omega) ?_))))
      rw [str_front]
      exact next
    · by_cases h2 : x = 9
      · rw [if_pos (by simp [blk, h2])]
        refine Ev.step (fun k => rfl) (Ev.pos (by omega) (Ev.pos (by omega) (Ev.neg (by rw [hb]; exact h1) (Ev.pos (by rw [hb]; exact h2) (Ev.pos (by omega) ?_)))))
        rw [str_front]
        exact next
      · rw [if_neg (by simp [blk, h1, h2])]
        exact Ev.step (fun k => rfl) (Ev.pos (by omega) (Ev.pos (by omega) (Ev.neg (by rw [hb]; exact h1) (Ev.neg (by rw [hb]; exact h2) (Ev.step (fun k => rfl) (trimR_ev _ _ rfl ho hl))))))
theorem trim_ev (L : List Int) (ho : Oct L) (hl : L.length ≤ 1000000) : Ev (fun k => paronymref02_Trim.f k (strOfNums L)) (strOfNums (trimL L)) := trim0_ev L ho hl
end Go.Proofs.YtbpdcbibooiimaaGreatDoor.K

-- from Plns2
/- Layer 2's reference on lists: Lines. -/
namespace Go.Proofs.YtbpdcbibooiimaaGreatDoor.K
set_option linter.unusedVariables false
set_option linter.unusedSimpArgs false
open Go.RowKit Go.Proofs.YtbpdcbibooiimaaGreatDoorW.PrintWords Go.Proofs.YtbpdcbibooiimaaGreatDoorW.PrintMore Go.Proofs.YtbpdcbibooiimaaGreatDoor.Q

/-- A line's fields. -/
def fieldsL (l : List Int) : Option (List (List Int)) := if trimL (bodyL l) = [] then none else some ((spl 59 (bodyL l)).map trimL)
def linesS : Nat → List (List Int) → List S90
  | _, [] => []
  | i, l :: r => match fieldsL (stripCR l) with
    | none => linesS (i + 1) r
    | some f => ⟨(i : Int) + 1, f.map strOfNums⟩ :: linesS (i + 1) r
theorem fields_loop {Y : List (List Int)} (ho : ∀ l ∈ Y, Oct l) (hl : ∀ l ∈ Y, l.length ≤ 1000000) (hY : Y.length ≤ 1000000) (x3 : List S90) (x4 : List ByteArray) (i : Int) {r : List S90} (h3 : x3.length ≤ 1000000)
    (next : Ev (fun k => paronymref02_Lines.l0 k (x3 ++ [⟨wrap64 (i + 1), (Y.map trimL).map strOfNums⟩]) x4 (wrap64 (i + 1))) r) : ∀ (d j : Nat), Y.length - j = d → j ≤ Y.length → Ev (fun k => paronymref02_Lines.l1 k x3 x4 i (Y.map strOfNums) (((Y.take j).map trimL).map strOfNums) (j : Int)) r := by
  intro d
  induction d with
  | zero =>
    intro j h1 h2
    rw [List.take_of_length_le (by omega)]
    exact Ev.step (fun k => rfl) (Ev.neg (by rw [List.length_map]; omega) (Ev.pos (by omega) next))
  | succ d ih =>
    intro j h1 h2
    have hj : j < Y.length := by omega
    have nx := ih (j + 1) (by omega) (by omega)
    refine Ev.step (fun k => rfl) (Ev.pos (by rw [List.length_map]; omega) (Ev.pos (by omega) (Ev.bind (a := strOfNums (trimL Y[j])) ?_ (Ev.pos (by simp; omega) ?_))))
    · rw [rdOf_map2 Y j hj]
      exact trim_ev _ (ho _ (List.getElem_mem hj)) (hl _ (List.getElem_mem hj))
    · rw [w64 (by omega) (by omega)]
      rw [← List.take_append_getElem hj, List.map_append, List.map_append] at nx
      exact nx
theorem lines_loop {X : List (List Int)} (ho : ∀ l ∈ X, Oct l) (hl : ∀ l ∈ X, l.length ≤ 100000) (hX : X.length ≤ 100001) : ∀ (d i : Nat) (acc : List S90), X.length - i = d → i ≤ X.length → acc.length ≤ i →
    Ev (fun k => paronymref02_Lines.l0 k acc (X.map strOfNums) (i : Int)) (acc ++ linesS i (X.drop i)) := by
  intro d
  induction d with
  | zero =>
    intro i acc h1 h2 h3
    rw [List.drop_eq_nil_iff.2 (by omega)]
    exact Ev.step (fun k => rfl) (Ev.neg (by rw [List.length_map]; omega) (Ev.ret (by simp [linesS])))
  | succ d ih =>
    intro i acc h1 h2 h3
    have hi : i < X.length := by omega
    obtain ⟨s, hs⟩ : ∃ s, s = X[i] := ⟨_, rfl⟩
    have hos : Oct s := hs ▸ ho _ (List.getElem_mem hi)
    have hls : s.length ≤ 100000 := hs ▸ hl _ (List.getElem_mem hi)
    have hrd := rdOf_map2 X i hi
    rw [← hs] at hrd
    rw [List.drop_eq_getElem_cons hi, ← hs]
    have hsz := size_str s
    -- behind the line's end
    have h2 : ∀ t, Oct t → t.length ≤ 100000 → t = stripCR s → Ev (fun k => paronymref02_Lines.j2 k acc (X.map strOfNums) (i : Int) (strOfNums t)) (acc ++ linesS i (s :: X.drop (i + 1))) := fun t hot hlt e => by
      have hlen := List.length_pos_iff.2 (spl_ne 35 t)
      have hbm := body_mem t
      have hob := oct_spl hot hbm
      have hlb := len_spl hbm
      have hr0 : rdOf ByteArray.empty ((spl 35 t).map strOfNums) 0 = strOfNums (bodyL t) := by
        obtain ⟨r, hr⟩ := body_cons t
        rw [hr]; rfl
      refine Ev.step (fun k => rfl) (Ev.bind (cut_ev hot (by omega) 35) (Ev.pos (by rw [List.length_map]; omega) (Ev.bind (a := strOfNums (trimL (bodyL t))) ?_ ?_)))
      · rw [hr0]; exact trim_ev _ hob (by omega)
      · by_cases hn : trimL (bodyL t) = []
        · refine Ev.pos (str_nilU.2 hn) ?_
          rw [w64 (by omega) (by omega)]
          have nx := ih (i + 1) acc (by omega) (by omega) (by omega)
          have : fieldsL (stripCR s) = none := by rw [← e]; unfold fieldsL; rw [if_pos hn]
          unfold linesS
          rw [this]
          exact nx
        · refine Ev.neg (fun h => hn (str_nilU.1 h)) (Ev.bind (a := (spl 59 (bodyL t)).map strOfNums) ?_ ?_)
          · rw [hr0]; exact cut_ev hob (by omega) 59
          · have hf : fieldsL (stripCR s) = some ((spl 59 (bodyL t)).map trimL) := by rw [← e]; unfold fieldsL; rw [if_neg hn]
            have hcnt := splP_count (fun x => decide (x = (59 : Int))) (bodyL t)
            refine fields_loop (Y := spl 59 (bodyL t)) (fun l hm => oct_spl hob hm) (fun l hm => by have := len_spl hm; omega) (by unfold spl; omega) acc _ (i : Int) (by omega) ?_ _ 0 rfl (Nat.zero_le _)
            rw [w64 (by omega) (by omega)]
            have nx := ih (i + 1) (acc ++ [⟨(i : Int) + 1, ((spl 59 (bodyL t)).map trimL).map strOfNums⟩]) (by omega) (by omega) (by simp; omega)
            have e2 : acc ++ linesS i (s :: X.drop (i + 1)) = acc ++ [⟨(i : Int) + 1, ((spl 59 (bodyL t)).map trimL).map strOfNums⟩] ++ linesS (i + 1) (X.drop (i + 1)) := by
              rw [show linesS i (s :: X.drop (i + 1)) = _ from rfl]
              conv => lhs; unfold linesS
              rw [hf, List.append_assoc]
              rfl
            rw [e2]
            exact nx
    by_cases hz : s.length = 0
    · obtain rfl := List.length_eq_zero_iff.1 hz
      refine Ev.step (fun k => rfl) (Ev.pos (by rw [List.length_map]; omega) (Ev.pos (by omega) (Ev.neg (by rw [hrd, hsz]; simp) ?_)))
      rw [hrd]
      exact Ev.step (f := fun k => paronymref02_Lines.j2 k acc (X.map strOfNums) (i : Int) (strOfNums [])) (fun k => rfl) (h2 [] hos hls rfl)
    · have hne : s ≠ [] := fun e => hz (by rw [e]; rfl)
      have hw : wrap64 (((strOfNums s).size : Int) - 1) = ((s.length - 1 : Nat) : Int) := by rw [hsz, w64 (by omega) (by omega)]; omega
      have hb : bt (strOfNums s) ((s.length - 1 : Nat) : Int) = s.getLast hne := by
        rw [bt_str hos (by omega) (by omega), rd_nat s _ (by omega), List.getLast_eq_getElem]
      refine Ev.step (fun k => rfl) (Ev.pos (by rw [List.length_map]; omega) (Ev.pos (by omega) (Ev.pos (by rw [hrd]; omega) (Ev.pos (by rw [hrd, hw]; omega) (Ev.pos (by rw [hrd, hw]; omega) ?_)))))
      rw [hrd, hw, hb]
      by_cases h13 : s.getLast hne = 13
      · have hst : stripCR s = s.dropLast := by unfold stripCR; rw [if_pos (by rw [List.getLast?_eq_some_getLast hne, h13])]
        refine Ev.step (fun k => rfl) (Ev.pos (by simpa using h13) (Ev.pos (by rw [hw]; omega) (Ev.pos (by rw [hw]; omega) ?_)))
        rw [hw, Int.toNat_natCast, extract_str, List.drop_zero, ← List.dropLast_eq_take]
        exact h2 _ (by rw [← hst]; exact oct_strip hos) (by rw [List.length_dropLast]; omega) hst.symm
      · have hst : stripCR s = s := by unfold stripCR; rw [if_neg (by rw [List.getLast?_eq_some_getLast hne]; simpa using h13)]
        exact Ev.step (fun k => rfl) (Ev.neg (by simpa using h13) (h2 _ hos hls hst.symm))
theorem lines_ev {b : List Int} (ho : Oct b) (hl : b.length ≤ 100000) : Ev (fun k => paronymref02_Lines.f k (strOfNums b)) (linesS 0 (spl 10 b)) := by
  refine Ev.bind (cut_ev ho (by omega) 10) ?_
  have hc := splP_count (fun x => decide (x = (10 : Int))) b
  have := lines_loop (X := spl 10 b) (fun l hm => oct_spl ho hm) (fun l hm => by have := len_spl hm; omega) (by unfold spl; omega) (spl 10 b).length 0 [] rfl (Nat.zero_le _) (Nat.zero_le _)
  rw [List.nil_append, List.drop_zero] at this
  exact this
end Go.Proofs.YtbpdcbibooiimaaGreatDoor.K

-- from Hzl0
/- bytes.Clone: the shelf's walk, laid for this program. -/
namespace Go.Proofs
open Go.Shelf
def Tryz.laysk4_ren : Go.Shelf.Ren := ⟨fun | 4 => 68 | n => n, fun | 22 => 22 | 4 => 4 | 5 => 5 | n => n, fun | n => n⟩
theorem Tryz.laysk4 : Go.Proofs.SlLaysK.n4 Tryz.prog Tryz.laysk4_ren := {
  mixed := by kernel_rfl
  f4 := Tryz.func68.trans (congrArg some (by kernel_rfl))
  t4 := Tryz.underlying4
  a4 := Tryz.isAgg4
  z4 := Tryz.sizeOf4
  v4 := Tryz.zeroValue4
  t22 := Tryz.underlying22
  a22 := Tryz.isAgg22
  z22 := Tryz.sizeOf22
  v22 := Tryz.zeroValue22
  t5 := Tryz.underlying5
  i5 := by kernel_rfl }
end Go.Proofs

-- from Hrfa
/- Range over a function whose loop variable is a cell: the assignment makes memory too. After wpIn_range_pr. -/
namespace Go.Proofs.YtbpdcbibooiimaaGreatDoor.Q
open Go.RowKit Go.Shelf Go.Proofs.YtbpdcbibooiimaaGreatDoorW.PrintWords Go.Proofs.YtbpdcbibooiimaaGreatDoorW.PrintLast Go.Proofs.YtbpdcbibooiimaaGreatDoorW.PrintMore
set_option linter.unusedVariables false
set_option linter.unusedSimpArgs false
section
variable {F : Fence} {n : Nat} {P : Program}
theorem wpIn_range_as {α : Type} {g : Operand} {ps : Array Tmp} {assign body : Code} {Q : Exit → Act → World → Prop} {a : Act} {w : World}
    (hro : F.round = none) (h1 : 1 ≤ n) {gf : Nat} {lb : Array Value} (hg : a.eval g = .func (.func gf) #[] lb) (hFg : F.fn gf) (eg : ∀ args w, (callFunc gf args).run P w = .ok (.enter gf args) w)
    {encs : α → Array Value} {Kp : World → World → Prop} {Pr : α → World → Prop} {S Sp : List α → Prop} {w0 : World} (hseq : SeqPr F (n - 1) P gf lb encs Kp Pr S Sp w0)
    (hKt : ∀ {A B C : World}, Kp A B → Kp B C → Kp A C) (hKb : ∀ (W : World) (l : Nat) (o o' : Obj), w.heap.size ≤ l → W.heap[l]? = some o → o.isCells = false → o.isWalk = false → Kp W (W.putObj l o')) (hb0 : Below w0.heap.size w0 w) (hps : ∀ x, (encs x).size = ps.size)
    (I : List α → World → Prop) (Ix : Code → List α → World → Prop) (hI : OwnFrom w.heap.size I) (hIx : ∀ c, OwnFrom w.heap.size (Ix c)) (h0 : I [] w) (I1 : List α → α → Act → World → Prop) (hI1 : ∀ pre x a1, OwnFrom w.heap.size (fun (_ : Unit) W => I1 pre x a1 W))
    (hassign : ∀ (l : Nat) (pre : List α) (x : α) (W : World) (K : Act → World → Prop), I pre W → Pr x W → (∀ a1 W1, KeepsFrom w.heap.size W W1 → Kp W W1 → I1 pre x a1 W1 → K a1 W1) →
      assign.wpIn (F.inRound l) (n - 1 - 1) P (Exit.then K (fun _ _ _ => False)) { tmps := (ps.zip (encs x)).foldl (fun t (p, v) => t.setIfInBounds p v) a.tmps, defers := [] } W)
    (hbody : ∀ (l : Nat) (pre : List α) (x : α) (a1 : Act) (W : World), I1 pre x a1 W → Sp (pre ++ [x]) → body.wpIn (F.inRound l) (n - 1 - 1) P (ownPostG w.heap.size Kp I Ix (pre ++ [x]) W) a1 W)
    (hdone : ∀ (D : Nat) (xs : List α) (W : World), w.heap.size ≤ D → S xs → I xs W → W.heap[D]? = some (.deferred (some [])) → Q .normal { a with defers := { target := .collected D, args := #[] } :: a.defers } W)
    (hstop : ∀ (D : Nat) (c : Code) (pre : List α) (W : World), w.heap.size ≤ D → Sp pre → Ix c pre W → W.heap[D]? = some (.deferred (some [])) → c.wpIn F n P Q { a with defers := { target := .collected D, args := #[] } :: a.defers } W) :
    (Code.rangeFunc g ps assign body).wpIn F n P Q a w := by
  refine wpIn_rangeFunc ?_
  intro fn hfn
  rw [hro]
  -- the two blocks that the loop lays: the deferred calls' and its own record
  let L : Nat := w.heap.size + 1
  obtain ⟨rec, hrec⟩ : ∃ rec : LoopState → Option Code → Loop, rec = fun st pe => { state := st, pending := pe, fn, tmps := a.tmps, params := ps, assign, body, defers := w.heap.size } := ⟨_, rfl⟩
  obtain ⟨W1, hW1⟩ : ∃ W1, (w.alloc (.deferred (some []))).alloc (.loop (rec .ready none)) = W1 := ⟨_, rfl⟩
  have hL1 : W1.heap[L]? = some (.loop (rec .ready none)) := by
    have := World.alloc_heap_new (w.alloc (.deferred (some []))) (.loop (rec .ready none))
    rw [World.size_alloc] at this
    rw [← hW1]; exact this
  have hD1 : W1.heap[w.heap.size]? = some (.deferred (some [])) := by
    rw [← hW1]; exact (Below.heap_alloc _ _ _ (by simp)).trans (World.alloc_heap_new w _)
  have hb1 : Below w0.heap.size w0 W1 := by
    rw [← hW1]; exact hb0.trans ((((Below.refl _ w).alloc (Nat.le_refl _) _).alloc (by simp) _).mono hb0.size)
  have hsz1 : W1.heap.size = w.heap.size + 2 := by rw [← hW1]; simp
  have walk_row : ∀ {A : World} {row : Option Nat}, (∀ r, row = some r → W1.heap.size ≤ r ∧ ∃ o : Obj, A.heap[r]? = some o ∧ o.isWalk = true) → (∀ r, row = some r → w.heap.size ≤ r ∧ ∃ o : Obj, A.heap[r]? = some o ∧ o.isCells = false) :=
    fun hr r e => by obtain ⟨hB, o, ho, hw⟩ := hr r e; exact ⟨by omega, o, ho, Obj.not_cells_of_walk hw⟩
  have stay : ∀ {A B : World} {row : Option Nat} {k : Nat} {o : Obj}, A.grownBy B row → (∀ r, row = some r → W1.heap.size ≤ r ∧ ∃ o : Obj, A.heap[r]? = some o ∧ o.isWalk = true) → A.heap[k]? = some o → o.isWalk = false → B.heap[k]? = some o :=
    fun hg' hr hk hw => (grownBy_keeps hg' (fun r e => (hr r e).2) hk hw).trans hk
  refine ⟨L, [{ target := .collected w.heap.size, args := #[] }], W1, { target := .fn (.func gf) lb, args := #[.func (.yield L) #[] #[]] }, W1, gf, #[.func (.yield L) #[] #[]] ++ lb, W1, ?_, ?_, ?_, ?_, fun _ => h1, ?_⟩
  · rw [← hW1, hrec]; exact run_enterLoop_outer _ _ _ _ _
  · simp only [resolve, hg]
    simp [go_sem]
  · intro f' hf'; simp [Target.leads] at hf'; subst hf'; exact hFg
  · simp [invoke, go_sem, eg]
  · have call := hseq L (fun pre W => I pre W ∧ W.heap[L]? = some (.loop (rec .ready none)) ∧ W.heap[w.heap.size]? = some (.deferred (some [])))
      (fun pre W => ∃ c, Ix c pre W ∧ W.heap[L]? = some (.loop (rec .done (some c))) ∧ W.heap[w.heap.size]? = some (.deferred (some []))) W1 hb1
      (fun s A B row hs hg' hr => ⟨hI s A B row hs.1 hg' (walk_row hr), stay hg' hr hs.2.1 rfl, stay hg' hr hs.2.2 rfl⟩)
      (fun s A B row ⟨c, hc, hl, hk⟩ hg' hr => ⟨c, hIx c s A B row hc hg' (walk_row hr), stay hg' hr hl rfl, stay hg' hr hk rfl⟩)
      ?round ⟨by rw [← hW1]; exact hI.alloc _ (hI.alloc _ h0), hL1, hD1⟩
    case round =>
      rintro pre x W ⟨hi, hl, hk⟩ hpr hlen
      have hlt : L < W.heap.size := (Array.getElem?_eq_some_iff.1 hl).1
      have hLD : w.heap.size ≠ L := by show w.heap.size ≠ w.heap.size + 1; omega
      have hLw : w.heap.size ≤ L := by show w.heap.size ≤ w.heap.size + 1; omega
      have hy := run_yield (P := P) (args := encs x) hl (by rw [hrec]; exact hps x)
      rw [hrec] at hy
      refine ⟨fn, _, assign, body, hy, roundIn_of_wpIn hfn (hassign _ pre x W _ hi hpr (fun a1 WA hkA hkpA hi1 => ⟨_, run_beginRound (hkA.same _ _ hLw hl rfl) (by rw [hrec]), ?_⟩))⟩
      have hl := hkA.same _ _ hLw hl rfl
      have hk := hkA.same _ _ (Nat.le_refl _) hk rfl
      have hlt : L < WA.heap.size := (Array.getElem?_eq_some_iff.1 hl).1
      obtain ⟨WB, hWB⟩ : ∃ WB, WA.putObj L (.loop { rec .ready none with state := .busy }) = WB := ⟨_, rfl⟩
      have hl2 : WB.heap[L]? = some (.loop { rec .ready none with state := .busy }) := by rw [← hWB]; exact World.putObj_heap_same hlt
      have hk2 : WB.heap[w.heap.size]? = some (.deferred (some [])) := by rw [← hWB]; exact (World.putObj_heap_other hLD).trans hk
      have hw2 : Kp W WB := by rw [← hWB]; exact hKt hkpA (hKb _ _ _ _ hLw hl rfl rfl)
      have hi2 : I1 pre x a1 WB := by rw [← hWB]; exact (hI1 pre x a1).putObj (s := ()) _ hi1 hLw hl rfl
      rw [hWB]
      refine wpIn_mono (hbody _ pre x a1 WB hi2 hlen) ?_
      have fin : ∀ (jump : Option Code) (W3 : World), KeepsFrom w.heap.size WB W3 →
          (Instr.endRound L jump).run P W3 = .ok (.bool jump.isNone) (W3.putObj L (.loop (rec (if jump.isNone then .ready else .done) jump))) ∧
          W3.heap[L]? = some (.loop { rec .ready none with state := .busy }) ∧
          (W3.putObj L (.loop (rec (if jump.isNone then .ready else .done) jump))).heap[L]? = some (.loop (rec (if jump.isNone then .ready else .done) jump)) ∧
          (W3.putObj L (.loop (rec (if jump.isNone then .ready else .done) jump))).heap[w.heap.size]? = some (.deferred (some [])) := fun jump W3 hk3 => by
        have hl3 := hk3.same _ _ hLw hl2 rfl
        have hd3 := hk3.same _ _ (Nat.le_refl _) hk2 rfl
        have hend := run_endRound (P := P) jump hl3
        refine ⟨?_, hl3, World.putObj_heap_same (Array.getElem?_eq_some_iff.1 hl3).1, (World.putObj_heap_other hLD).trans hd3⟩
        rw [hrec] at hend ⊢
        exact hend
      have out : ∀ (c : Code) (W3 : World), KeepsFrom w.heap.size WB W3 → Ix c (pre ++ [x]) W3 → ∃ v W', (Instr.endRound L (some c)).run P W3 = .ok v W' ∧ v = .bool false ∧ ∃ c', Ix c' (pre ++ [x]) W' ∧ W'.heap[L]? = some (.loop (rec .done (some c'))) ∧ W'.heap[w.heap.size]? = some (.deferred (some [])) := fun c W3 hk3 hi3 => by
        obtain ⟨hr, hl3, hl4, hk4⟩ := fin (some c) W3 hk3
        exact ⟨_, _, hr, rfl, c, (hIx _).putObj _ hi3 hLw hl3 rfl, hl4, hk4⟩
      rintro e a3 W3 hp
      cases e with
      | normal =>
        obtain ⟨hk3, hkp3, hi3⟩ := hp
        obtain ⟨hr, hl3, hl4, hk4⟩ := fin none W3 hk3
        exact ⟨_, _, hr, .inl ⟨rfl, ⟨hI.putObj _ hi3 hLw hl3 rfl, hl4, hk4⟩, hKt (hKt hw2 hkp3) (hKb _ _ _ _ hLw hl3 rfl rfl)⟩⟩
      | ret =>
        obtain ⟨v, W', hr, rfl, h⟩ := out .ret W3 hp.1 hp.2
        exact ⟨_, _, hr, .inr ⟨rfl, h⟩⟩
      | exit id =>
        obtain ⟨v, W', hr, rfl, h⟩ := out (.exit id) W3 hp.1 hp.2
        exact ⟨_, _, hr, .inr ⟨rfl, h⟩⟩
      | goto t =>
        obtain ⟨v, W', hr, rfl, h⟩ := out (.goto t) W3 hp.1 hp.2
        exact ⟨_, _, hr, .inr ⟨rfl, h⟩⟩
      | panic ch => exact hp.elim
      | outgrown => exact hp.elim
    refine call.mono ?_
    have hLD : w.heap.size ≠ L := by show w.heap.size ≠ w.heap.size + 1; omega
    have hLw : w.heap.size ≤ L := by show w.heap.size ≤ w.heap.size + 1; omega
    rintro e W2 ⟨⟨v, rfl⟩, (⟨xs, hS, hi, hl, hk⟩ | ⟨pre, hSp, c, hi, hl, hk⟩)⟩
    · exact ⟨none, _, by have := run_endLoop (P := P) hl (by rw [hrec]; simp); rw [hrec] at this; exact this, hdone _ xs _ (Nat.le_refl _) hS (hI.putObj _ hi hLw hl rfl) ((World.putObj_heap_other hLD).trans hk)⟩
    · exact ⟨some c, _, by have := run_endLoop (P := P) hl (by rw [hrec]; simp); rw [hrec] at this; exact this, hstop _ c pre _ (Nat.le_refl _) hSp ((hIx c).putObj _ hi hLw hl rfl) ((World.putObj_heap_other hLD).trans hk)⟩
end

end Go.Proofs.YtbpdcbibooiimaaGreatDoor.Q

-- from Hmrk
/- Marks among the deferred calls. -/
namespace Go.Proofs.YtbpdcbibooiimaaGreatDoor.Q
open Go.RowKit Go.Shelf Go.Proofs.YtbpdcbibooiimaaGreatDoorW.PrintWords Go.Proofs.YtbpdcbibooiimaaGreatDoorW.PrintLast Go.Proofs.YtbpdcbibooiimaaGreatDoorW.PrintMore
set_option linter.unusedVariables false
set_option linter.unusedSimpArgs false

/-- The marks of ranges that have ended. -/
def marks (Ds : List Nat) : List Deferred := Ds.map (fun D => { target := .collected D, args := #[] })
/-- Marks that are whole: different places from n0 on. -/
def MarksIn (n0 : Nat) (Ds : List Nat) (W : World) : Prop := Ds.Nodup ∧ ∀ D ∈ Ds, n0 ≤ D ∧ W.heap[D]? = some (.deferred (some []))
theorem MarksIn.nil (n0 : Nat) (W : World) : MarksIn n0 [] W := ⟨List.nodup_nil, fun D h => by cases h⟩
theorem MarksIn.step {n0 : Nat} {Ds : List Nat} {W W' : World} (h : MarksIn n0 Ds W) (hb : ∀ D ∈ Ds, W'.heap[D]? = W.heap[D]?) : MarksIn n0 Ds W' := ⟨h.1, fun D hD => ⟨(h.2 D hD).1, (hb D hD).trans (h.2 D hD).2⟩⟩
theorem MarksIn.lt {n0 : Nat} {Ds : List Nat} {W : World} (h : MarksIn n0 Ds W) {D : Nat} (hD : D ∈ Ds) : D < W.heap.size := (Array.getElem?_eq_some_iff.1 (h.2 D hD).2).1
theorem MarksIn.below {n0 B : Nat} {Ds : List Nat} {W W' : World} (h : MarksIn n0 Ds W) (hb : Below B W W') (hB : W.heap.size ≤ B) : MarksIn n0 Ds W' := h.step fun D hD => hb.block D (Nat.lt_of_lt_of_le (h.lt hD) hB)
theorem MarksIn.cons {n0 : Nat} {Ds : List Nat} {W : World} {D : Nat} (h : MarksIn n0 Ds W) (hn : ∀ E ∈ Ds, E < D) (hB : n0 ≤ D) (hD : W.heap[D]? = some (.deferred (some []))) : MarksIn n0 (D :: Ds) W :=
  ⟨List.nodup_cons.2 ⟨fun hm => Nat.lt_irrefl _ (hn D hm), h.1⟩, fun E hE => by
    rcases List.mem_cons.1 hE with rfl | hE
    · exact ⟨hB, hD⟩
    · exact h.2 E hE⟩
theorem leaves_marks {F : Fence} {n : Nat} {P : Program} {fn : Func} {tmps : Array Value} {R : Ending → World → Prop} {n0 : Nat} : ∀ (Ds : List Nat) (W : World), MarksIn n0 Ds W →
    (∀ W', Below n0 W W' → LeavesInM F n P fn tmps R [] .returning W') → LeavesInM F n P fn tmps R (marks Ds) .returning W
  | [], W, _, h => h W (Below.refl _ _)
  | D :: Ds, W, hn, h => by
    have hd := hn.2 D (List.mem_cons_self ..)
    have hlt : D < W.heap.size := (Array.getElem?_eq_some_iff.1 hd.2).1
    have hb : Below n0 W (W.putObj D (.deferred none)) := (Below.refl n0 W).grown (grownBy_putObj' W D _) (by omega) (fun k e => by cases e; exact hd.1)
    refine ⟨by simp, .inl ⟨_, _, rfl, run_takeDeferred hd.2, ?_⟩⟩
    refine leaves_marks Ds _ ⟨(List.nodup_cons.1 hn.1).2, fun E hE => ⟨(hn.2 E (List.mem_cons_of_mem _ hE)).1, ?_⟩⟩ (fun W' hW' => h W' (hb.trans hW'))
    have hne : E ≠ D := fun e => (List.nodup_cons.1 hn.1).1 (e ▸ hE)
    rw [World.putObj_heap_other hne]
    exact (hn.2 E (List.mem_cons_of_mem _ hE)).2
end Go.Proofs.YtbpdcbibooiimaaGreatDoor.Q

-- from Hkpc
/- What a body keeps, told by blocks (out of XHall, XHlst). -/
namespace Go.Proofs.YtbpdcbibooiimaaGreatDoor.Q
open Go.RowKit Go.Shelf Go.Proofs.YtbpdcbibooiimaaGreatDoorW.PrintWords Go.Proofs.YtbpdcbibooiimaaGreatDoorW.PrintLast Go.Proofs.YtbpdcbibooiimaaGreatDoorW.PrintMore
set_option linter.unusedVariables false
set_option linter.unusedSimpArgs false

def KeepC (T : Nat → Prop) (A B : World) : Prop := A.heap.size ≤ B.heap.size ∧ ∀ k o, A.heap[k]? = some o → o.isCells = true → ¬ T k → B.heap[k]? = some o
theorem KeepC.refl (T : Nat → Prop) (A : World) : KeepC T A A := ⟨Nat.le_refl _, fun _ _ h _ _ => h⟩
theorem KeepC.trans {T : Nat → Prop} {A B C : World} (h : KeepC T A B) (k : KeepC T B C) : KeepC T A C := ⟨Nat.le_trans h.1 k.1, fun j o hj hc hn => k.2 j o (h.2 j o hj hc hn) hc hn⟩
theorem KeepC.of_below {T : Nat → Prop} {A B : World} (h : Below A.heap.size A B) : KeepC T A B := ⟨h.size, fun k o hk _ _ => (h.block k (Array.getElem?_eq_some_iff.1 hk).1).trans hk⟩
theorem KeepC.of_set {T : Nat → Prop} {A : World} {p : Addr} {v : Value} (h : T p.block) : KeepC T A (A.setCell p v) := ⟨by simp, fun k o hk _ hn => (Below.heap_setCell A p v k (fun e => hn (e ▸ h))).trans hk⟩
theorem keepC_put {T : Nat → Prop} {w : World} : ∀ (W : World) (l : Nat) (o o' : Obj), w.heap.size ≤ l → W.heap[l]? = some o → o.isCells = false → o.isWalk = false → KeepC T W (W.putObj l o') :=
  fun W l o o' _ ho hc _ => ⟨(grownBy_putObj' W l o').size, fun k ob hk hkc _ => by
    have hne : k ≠ l := fun e => by
      subst e
      rw [ho] at hk
      injection hk with hk
      rw [← hk, hc] at hkc
      cases hkc
    exact (World.putObj_heap_other hne).trans hk⟩
theorem KeepC.grown {T : Nat → Prop} {A B : World} {row : Option Nat} (hg : A.grownBy B row) (hT : ∀ k, row = some k → T k) : KeepC T A B :=
  ⟨hg.size, fun k o hk _ hn => (hg.block k (Array.getElem?_eq_some_iff.1 hk).1 (fun e => hn (hT k e.symm))).trans hk⟩
end Go.Proofs.YtbpdcbibooiimaaGreatDoor.Q

-- from Hfln
/- field.Lines: the call, and the iterator. -/
namespace Go.Proofs.YtbpdcbibooiimaaGreatDoor.Q
open Go.RowKit Go.Shelf Go.Proofs.YtbpdcbibooiimaaGreatDoorW.PrintWords Go.Proofs.YtbpdcbibooiimaaGreatDoorW.PrintLast Go.Proofs.YtbpdcbibooiimaaGreatDoorW.PrintMore Go.Proofs.YtbpdcbibooiimaaGreatDoor.K
set_option linter.unusedVariables false
set_option linter.unusedSimpArgs false
attribute [local go_sem] Oper.semAt_some

/-- Lines with their numbers. -/
def linesI : Nat → List (List Int) → List (Int × List (List Int))
  | _, [] => []
  | i, l :: r => match fieldsL (stripCR l) with
    | none => linesI (i + 1) r
    | some f => ((i : Int) + 1, f) :: linesI (i + 1) r
theorem linesI_cons (i : Nat) (x : List Int) (X : List (List Int)) : linesI i (x :: X) = match fieldsL (stripCR x) with
    | none => linesI (i + 1) X
    | some f => ((i : Int) + 1, f) :: linesI (i + 1) X := rfl
theorem linesI_app : ∀ (X : List (List Int)) (i : Nat) (l : List Int), linesI i (X ++ [l]) = linesI i X ++ (match fieldsL (stripCR l) with | none => [] | some f => [(((i + X.length : Nat) : Int) + 1, f)])
  | [], i, l => by
    rw [List.nil_append, linesI_cons]
    cases fieldsL (stripCR l) <;> simp [linesI]
  | x :: X, i, l => by
    have ih := linesI_app X (i + 1) l
    have e : i + 1 + X.length = i + (x :: X).length := by simp; omega
    rw [e] at ih
    rw [List.cons_append, linesI_cons, linesI_cons, ih]
    cases fieldsL (stripCR x) <;> rfl
theorem linesI_pre : ∀ (Z A : List (List Int)), linesI 0 A <+: linesI 0 (A ++ Z)
  | [], A => by rw [List.append_nil]; exact List.prefix_refl _
  | z :: Z, A => by
    rw [show A ++ z :: Z = (A ++ [z]) ++ Z by simp]
    exact (by rw [linesI_app]; exact List.prefix_append _ _ : linesI 0 A <+: linesI 0 (A ++ [z])).trans (linesI_pre Z _)
/-- Pieces as the cells of a row. -/
def rowC (X : List (List Int)) : Array Value := (X.map (fun p => Value.string (strOfNums p))).toArray
set_option maxHeartbeats 2000000 in
set_option maxRecDepth 100000 in
theorem bytes_Clone.calls (A : Option Addr) (c : Nat) (L : List Int) (w : World) (hr : Kd.C (Kd.int .u8) w A L.length L) (hc : L.length ≤ c) (hl : L.length ≤ 1000000) :
    Calls Tryz.prog 68 #[.slice A L.length c] w fun e w' => ∃ A' c', e = .returned (.slice A' L.length c') ∧ Kd.C (Kd.int .u8) w' A' L.length L ∧ Below w.heap.size w w' := by
  cases A with
  | none =>
    have h0 : L = [] := by
      rcases Nat.eq_zero_or_pos L.length with h | h
      · exact List.length_eq_zero_iff.1 h
      · obtain ⟨ad, e, _⟩ := hr.2.2 h; cases e
    subst h0
    refine (Any.bytes_Clone_nil Tryz.laysk4 0 c w).mono ?_
    rintro e w' ⟨rfl, rfl⟩
    exact ⟨none, _, rfl, hr, Below.refl _ _⟩
  | some a =>
    have hrd := Kd.reads_of_C (enc := Value.int .u8) (d := (0 : Int)) (h1 := fun _ => rfl) hr
    refine (Any.bytes_Clone_at Tryz.laysk4 a L.length c L w rfl (by omega) (fun i hi => ?_)).mono ?_
    · obtain ⟨ad, e, h⟩ := hrd.2.2 (by omega)
      cases e
      exact h i hi
    · rintro e w' ⟨v', rfl, ho, hne, hb⟩
      have hR : Kd.R (Kd.int .u8) 5 w' w.heap.size (fun _ => True) v' L := Kd.R_of_own ho (fun _ _ => trivial)
      obtain ⟨A', c', rfl, hc', hC⟩ := Kd.R_reads hR
      exact ⟨A', c', rfl, hC, hb⟩
set_option maxHeartbeats 2000000 in
set_option maxRecDepth 100000 in
theorem field_Lines.calls (A : Option Addr) (c : Nat) (L : List Int) (ho : Oct L) (hl : L.length ≤ 1000000) (w : World) (hE : EnvF w) (hr : Kd.C (Kd.int .u8) w A L.length L) (hc : L.length ≤ c) :
    Calls Tryz.prog 44 #[.slice A L.length c] w fun e w' => ∃ g gb, e = .returned (.func (.func 69) #[] #[.pointer (some ⟨gb, 0, none⟩)]) ∧ w.heap.size ≤ g ∧ w.heap.size ≤ gb ∧
      w'.heap[g]? = some (.cells (rowC (spl 10 L)) 9 (0, 0)) ∧ Boxed w' gb 23 (.slice (some ⟨g, 0, none⟩) (spl 10 L).length (spl 10 L).length) ∧ Below w.heap.size w w' := by
  have HR := Aside0.mk hr
  have HC := Aside0.mk hc
  have HE := Aside0.mk hE
  have HO := Aside0.mk ho
  have HL := Aside0.mk hl
  clear hr hc hE ho hl
  go_enter Tryz.func44, Tryz.ntmps44
  go_wp2_with (first
    | (go_at_call 68; refine (bytes_Clone.calls A c L _ HR.out HC.out HL.out).mono ?_; rintro e w1 ⟨A1, c1, rfl, hC1, hb⟩; have HB := Aside0.mk hb; have hcv := Kd.C_string (P := Tryz.prog) (c := c1) Tryz.underlying22 Tryz.underlying5 Tryz.underlying9 hC1; clear hb hC1)
    | (go_at_call 67; refine (sSplit10.calls L HO.out HL.out _ (HE.out.below HB.out)).mono ?_; rintro e w2 ⟨rfl, rfl⟩))
  go_ret
  exact ⟨w1.heap.size, w1.heap.size + 1, rfl, HB.out.size, by have := HB.out.size; omega, by
    have h := heap_alloc_new w1 (.cells ((spl 10 L).map (fun p => .string (strOfNums p))).toArray 9)
    exact (Below.heap_alloc _ _ _ (by simp)).trans h, by
    have := Boxed.new (w1.alloc (.cells ((spl 10 L).map (fun p => .string (strOfNums p))).toArray 9)) 23 (.slice (some ⟨w1.heap.size, 0, none⟩) (spl 10 L).length (spl 10 L).length)
    rwa [World.size_alloc] at this, (HB.out.alloc HB.out.size _).alloc (by simp; have := HB.out.size; omega) _⟩
/-- An item: the line's number, the block of its fields, the fields. -/
abbrev LItem := Int × Nat × List (List Int)
def LItem.enc (x : LItem) : Array Value := #[.agg #[.int .i64 x.1, .slice (some ⟨x.2.1, 0, none⟩) x.2.2.length x.2.2.length]]
def LItem.pr (x : LItem) : Int × List (List Int) := (x.1, x.2.2)
def LItem.at_ (x : LItem) (W : World) : Prop := W.heap[x.2.1]? = some (.cells (rowC x.2.2) 9 (0, 0))
theorem fldC_all (Y : List (List Int)) : fldC Y Y.length = rowC (Y.map trimL) := by
  unfold fldC rowC fldA
  rw [List.take_length, List.drop_length, List.append_nil]
theorem EnvF.keep {T : Nat → Prop} {A B : World} (h : EnvF A) (k : KeepC T A B) (h0 : ¬ T 0) (h6 : ¬ T 8) : EnvF B := by
  have key : ∀ (b i : Nat) (v : Value), ¬ T b → A.cell? ⟨b, i, none⟩ = some v → B.cell? ⟨b, i, none⟩ = some v := fun b i v hb hc => by
    unfold World.cell? at hc ⊢
    cases ho : A.heap[b]? with
    | none => simp only [ho] at hc; cases hc
    | some o =>
      simp only [ho] at hc
      cases o with
      | cells c t fr => simp only [k.2 b _ ho rfl hb]; exact hc
      | _ => cases hc
  obtain ⟨⟨m, h1⟩, h2⟩ := h
  exact ⟨⟨m, key _ _ _ h0 h1⟩, key _ _ _ h6 h2⟩
theorem row_cell {W : World} {g i : Nat} {X : List (List Int)} (h : W.heap[g]? = some (.cells (rowC X) 9 (0, 0))) (hi : i < X.length) : W.cell? ⟨g, i, none⟩ = some (.string (strOfNums X[i])) := by
  unfold World.cell?
  rw [h]
  show (rowC X)[i]? = _
  unfold rowC
  simp [hi]
set_option maxHeartbeats 4000000 in
set_option maxRecDepth 100000 in
/-- The iterator: every body that keeps all cells but those of T, to which neither the lines' row nor what the functions read belong. -/
theorem field_Lines.stops (L : List Int) (ho : Oct L) (hl : L.length ≤ 1000000) (g gb : Nat) (w : World) (T : Nat → Prop) (hE : EnvF w) (hT0 : ¬ T 0) (hT6 : ¬ T 8) (hTg : ¬ T g)
    (hg : w.heap[g]? = some (.cells (rowC (spl 10 L)) 9 (0, 0))) (hb : Boxed w gb 23 (.slice (some ⟨g, 0, none⟩) (spl 10 L).length (spl 10 L).length)) (n : Nat) (hn : 3 ≤ n) :
    SeqPr Fence.wide n Tryz.prog 69 #[.pointer (some ⟨gb, 0, none⟩)] LItem.enc (KeepC T) LItem.at_ (fun ys => ys.map LItem.pr = linesI 0 (spl 10 L)) (fun pre => pre.map LItem.pr <+: linesI 0 (spl 10 L)) w := fun l J Jx W hW hJ hJx hY h0 => by
  refine callsIn_of_wp Tryz.func69 rfl trivial ?_ rfl
  simp only [Tryz.ntmps69, List.size_toArray, List.length_cons, List.length_nil, Nat.reduceAdd, Nat.reduceSub, Array.replicate_succ, Array.replicate_zero, List.push_toArray, List.append_toArray, List.nil_append, List.cons_append]
  obtain ⟨X, hX⟩ : ∃ X, X = spl 10 L := ⟨_, rfl⟩
  have hXo : ∀ p ∈ X, Oct p := fun p hp => by rw [hX] at hp; exact oct_spl ho hp
  have hXl : ∀ p ∈ X, p.length ≤ 1000000 := fun p hp => by rw [hX] at hp; have := len_spl hp; omega
  have hXn : X.length ≤ 1000001 := by rw [hX]; have := splP_count (fun x => decide (x = (10 : Int))) L; unfold spl; omega
  rw [← hX] at hg hb hY ⊢
  have hbW : Boxed W gb 23 (.slice (some ⟨g, 0, none⟩) X.length X.length) := (hW.block _ hb.lt).trans hb
  have hgW : W.heap[g]? = some (.cells (rowC X) 9 (0, 0)) := (hW.block _ (Array.getElem?_eq_some_iff.1 hg).1).trans hg
  have HE := Aside0.mk (hE.below hW)
  have HG := Aside0.mk hgW
  have HJ := Aside0.mk hJ
  have HY := Aside0.mk hY
  have H0 := Aside0.mk h0
  have HXO := Aside0.mk hXo
  have HXL := Aside0.mk hXl
  have HXN := Aside0.mk hXn
  have HT := Aside0.mk (And.intro hT0 (And.intro hT6 hTg))
  have hcell := hbW.cell
  clear hX hXo hXl hXn hg hb hbW hgW hJ hJx hY h0 hE hT0 hT6 hTg hW ho hl
  gi_wp2
  clear hcell
  gi_loopg [8] (X.length + 1) (fun kq s8 wr => ∃ (i : Nat) (pre : List LItem), s8 = .int .i64 (i : Int) ∧ Aside0 (i + kq = X.length + 1 ∧ i ≤ X.length) ∧ Aside0 (pre.map LItem.pr = linesI 0 (X.take i)) ∧ Aside0 (J pre wr) ∧ Aside0 (KeepC T W wr))
  case atStart => exact ⟨0, [], rfl, ⟨by omega, by omega⟩, ⟨by simp [linesI]⟩, H0, ⟨KeepC.refl _ _⟩⟩
  case round =>
    obtain ⟨i, pre, rfl, HI, HP, HJp, KK⟩ := hrel
    cases gk with
    | zero => exact absurd HI.out (by omega)
    | succ kq =>
      by_cases c1 : (i : Int) < (X.length : Int)
      · have hi : i < X.length := by omega
        have hge : wr.heap[g]? = some (.cells (rowC X) 9 (0, 0)) := KK.out.2 g _ HG.out rfl HT.out.2.2
        have hcl := row_cell hge hi
        obtain ⟨p, hp⟩ : ∃ p, p = X[i] := ⟨_, rfl⟩
        rw [← hp] at hcl
        have hpm : p ∈ X := hp ▸ List.getElem_mem hi
        have hop := HXO.out p hpm
        have hlp := HXL.out p hpm
        have htk : X.take (i + 1) = X.take i ++ [p] := by rw [hp, List.take_append_getElem]
        have hln := linesI_app (X.take i) 0 p
        rw [← htk, List.length_take, Nat.min_eq_left (by omega), Nat.zero_add] at hln
        have HII := Aside0.mk hi
        have HLN := Aside0.mk hln
        have hEw : EnvF wr := HE.out.keep KK.out HT.out.1 HT.out.2.1
        have HEW := Aside0.mk hEw
        have HST := Aside0.mk (fun w => sStrip.calls p hop hlp w)
        have e0 := eq_true c1
        have e1 : decide ((i : Int) < (X.length : Int)) = true := decide_eq_true c1
        have e2 : (i < X.length) = True := eq_true hi
        have m2 : wrap64 ((i : Int) + 1) = (i : Int) + 1 := w64 (by omega) (by have := HXN.out; omega)
        obtain ⟨q, hq⟩ : ∃ q, q = stripCR p := ⟨_, rfl⟩
        rw [← hq] at HST HLN
        have hoq : Oct q := by rw [hq]; exact oct_strip hop
        have hlq : q.length ≤ 1000000 := by rw [hq]; have := len_strip p; omega
        obtain ⟨sp, hsp⟩ : ∃ s, s = strOfNums p := ⟨_, rfl⟩
        rw [← hsp] at hcl HST
        by_cases hn : trimL (bodyL q) = []
        · have hf : fieldsL q = none := by unfold fieldsL; rw [if_pos hn]
          rw [hf] at HLN
          have HF := Aside0.mk (fun w hE => field_fields.callsN q hoq hlq hn w hE)
          obtain ⟨sq, hsq⟩ : ∃ s, s = strOfNums q := ⟨_, rfl⟩
          rw [← hsq] at HST HF
          clear c1 hi hge hp hpm hop hlp htk hln hEw hq hoq hlq hsp hn hf hsq
          gi_wp2_with (first
            | (refine ⟨trivial, (fun h => by cases h), ?_⟩; gi_at_call 71; (refine (callsIn_wide.2 (HST.out _)).mono ?_); rintro e w1 ⟨rfl, rfl⟩)
            | (refine ⟨trivial, (fun h => by cases h), ?_⟩; gi_at_call 70; (refine (callsIn_wide.2 (HF.out _ HEW.out)).mono ?_); rintro e w2 ⟨rfl, hb⟩; have HB := Aside0.mk hb; clear hb))
          repeat (refine ⟨(fun f h => by cases h), ?_⟩; (try gi_wp2))
          gi_roundg kq
          case measure => omega
          case rel =>
            exact ⟨i + 1, pre, by first | rfl | (rw [m2]; rfl), ⟨by have := HI.out; omega, by have := HII.out; omega⟩, ⟨by rw [HP.out, HLN.out, List.append_nil]⟩, ⟨HJ.out _ _ _ none HJp.out (grownBy_none_of_below HB.out) (fun r e => by cases e)⟩, ⟨KK.out.trans (KeepC.of_below HB.out)⟩⟩
        · have hf : fieldsL q = some ((spl 59 (bodyL q)).map trimL) := by unfold fieldsL; rw [if_neg hn]
          rw [hf] at HLN
          obtain ⟨Y, hY⟩ : ∃ Y, Y = spl 59 (bodyL q) := ⟨_, rfl⟩
          rw [← hY] at HLN
          have HF := Aside0.mk (fun w hE => field_fields.callsS Y q hoq hlq hn hY w hE)
          obtain ⟨sq, hsq⟩ : ∃ s, s = strOfNums q := ⟨_, rfl⟩
          rw [← hsq] at HST HF
          have hYl : (Y.map trimL).length = Y.length := List.length_map ..
          have HYL := Aside0.mk hYl
          clear c1 hi hge hp hpm hop hlp htk hln hEw hq hoq hlq hsp hn hf hsq hY hYl
          gi_wp2_with (first
            | (refine ⟨trivial, (fun h => by cases h), ?_⟩; gi_at_call 71; (refine (callsIn_wide.2 (HST.out _)).mono ?_); rintro e w1 ⟨rfl, rfl⟩)
            | (refine ⟨trivial, (fun h => by cases h), ?_⟩; gi_at_call 70; (refine (callsIn_wide.2 (HF.out _ HEW.out)).mono ?_); rintro e w2 ⟨gf, rfl, hgl, hgf, hb⟩
               have HB := Aside0.mk hb
               rw [fldC_all] at hgf
               have hj2 := HJ.out _ _ _ none HJp.out (grownBy_none_of_below hb) (fun r e => by cases e)
               obtain ⟨fn, tmps, assign, body, hy, hRR⟩ := HY.out pre (((i : Int) + 1, gf, Y.map trimL) : LItem) w2 hj2 hgf (by
                 rw [List.map_append, HP.out]
                 have : [(((i : Int) + 1, gf, Y.map trimL) : LItem)].map LItem.pr = [((i : Int) + 1, Y.map trimL)] := rfl
                 rw [this, ← HLN.out]
                 have := linesI_pre (X.drop (i + 1)) (X.take (i + 1))
                 rwa [List.take_append_drop] at this)
               have HRR := Aside0.mk hRR
               simp only [LItem.enc, HYL.out] at hy
               clear hb hgf hj2 hRR hgl))
          refine ⟨fun _ => by omega, ?_⟩
          refine HRR.out.mono ?_
          rintro e W3 (⟨rfl, hJ3, hk3⟩ | ⟨rfl, hJx3⟩)
          · have HJ3 := Aside0.mk hJ3
            have HK3 := Aside0.mk ((KK.out.trans (KeepC.of_below HB.out)).trans hk3)
            clear hJ3 hk3 HRR hy hcl
            gi_wp2
            gi_roundg kq
            case measure => omega
            case rel =>
              exact ⟨i + 1, pre ++ [(((i : Int) + 1, gf, Y.map trimL) : LItem)], by first | rfl | (rw [m2]; rfl), ⟨by have := HI.out; omega, by have := HII.out; omega⟩, ⟨by rw [List.map_append, HP.out, HLN.out]; rfl⟩, HJ3, HK3⟩
          · have HJX := Aside0.mk hJx3
            have HSP : Aside0 ((pre ++ [(((i : Int) + 1, gf, Y.map trimL) : LItem)]).map LItem.pr <+: linesI 0 X) := ⟨by
              rw [List.map_append, HP.out]
              have h1 : [(((i : Int) + 1, gf, Y.map trimL) : LItem)].map LItem.pr = [((i : Int) + 1, Y.map trimL)] := rfl
              rw [h1, ← HLN.out]
              have := linesI_pre (X.drop (i + 1)) (X.take (i + 1))
              rwa [List.take_append_drop] at this⟩
            clear hJx3 HRR hy hcl
            gi_wp2
            refine bodyPost_ret (results_none rfl _ _ _) rfl ?_
            exact ⟨⟨_, rfl⟩, .inr ⟨_, HSP.out, HJX.out⟩⟩
      · have e0 := eq_false c1
        have e1 : decide ((i : Int) < (X.length : Int)) = false := decide_eq_false c1
        have hi : i = X.length := by have := HI.out; omega
        subst hi
        clear c1
        gi_wp2
        go_end0
        exact ⟨⟨_, rfl⟩, .inl ⟨pre, by rw [HP.out, List.take_length], HJp.out⟩⟩
end Go.Proofs.YtbpdcbibooiimaaGreatDoor.Q

-- from Plni
/- The lines' two forms (out of Psm2). -/
namespace Go.Proofs.YtbpdcbibooiimaaGreatDoor.Q
open Go.RowKit Go.Shelf Go.Proofs.YtbpdcbibooiimaaGreatDoorW.PrintWords Go.Proofs.YtbpdcbibooiimaaGreatDoorW.PrintLast Go.Proofs.YtbpdcbibooiimaaGreatDoorW.PrintMore Go.Proofs.YtbpdcbibooiimaaGreatDoor.K
set_option linter.unusedVariables false
set_option linter.unusedSimpArgs false

def toS (p : Int × List (List Int)) : S90 := ⟨p.1, p.2.map strOfNums⟩
theorem linesS_is : ∀ (X : List (List Int)) (i : Nat), linesS i X = (linesI i X).map toS
  | [], i => rfl
  | x :: X, i => by
    rw [linesI_cons]
    unfold linesS
    cases fieldsL (stripCR x) with
    | none => exact linesS_is X (i + 1)
    | some f => simp only [List.map_cons, linesS_is X (i + 1)]; rfl
theorem linesI_len : ∀ (X : List (List Int)) (i : Nat), (linesI i X).length ≤ X.length
  | [], i => Nat.le_refl _
  | x :: X, i => by
    rw [linesI_cons]
    have := linesI_len X (i + 1)
    cases fieldsL (stripCR x) with
    | none => simp only [List.length_cons]; omega
    | some f => simp only [List.length_cons]; omega
theorem linesI_pos : ∀ (X : List (List Int)) (i : Nat) (p : Int × List (List Int)), p ∈ linesI i X → 0 ≤ p.1 ∧ p.1 ≤ i + X.length
  | [], i, p, h => by cases h
  | x :: X, i, p, h => by
    rw [linesI_cons] at h
    have ih := linesI_pos X (i + 1)
    cases hf : fieldsL (stripCR x) with
    | none => rw [hf] at h; have := ih p h; simp only [List.length_cons]; omega
    | some f =>
      rw [hf] at h
      rcases List.mem_cons.1 h with rfl | h
      · simp only [List.length_cons]; omega
      · have := ih p h; simp only [List.length_cons]; omega
theorem strs_row {W : World} {g : Nat} {X : List (List Int)} (h : W.heap[g]? = some (.cells (rowC X) 9 (0, 0))) (hl : X.length ≤ 1000000) : Kd.C Kd.string W (some ⟨g, 0, none⟩) X.length (X.map strOfNums) := by
  refine ⟨by first | rfl | rw [List.length_map], by first | omega | (rw [List.length_map]; omega), fun _ => ⟨⟨g, 0, none⟩, rfl, fun j q hj => ⟨_, rfl, rfl, fun i u hu => ?_⟩⟩⟩
  have hi : i = 0 := by
    cases i with
    | zero => rfl
    | succ i => simp at hu
  subst hi
  simp only [List.getElem?_cons_zero, Option.some.injEq] at hu
  subst hu
  rw [List.getElem?_map, Option.map_eq_some_iff] at hj
  obtain ⟨y, hy, rfl⟩ := hj
  rw [Addr.add_lit]
  simp only [World.cell?]
  rw [h]
  show (rowC X)[0 + (j * 1 + 0)]? = _
  unfold rowC
  simp [hy]
theorem linesI_fl : ∀ (X : List (List Int)) (i : Nat) (n : Nat), (∀ l ∈ X, l.length ≤ n) → ∀ p ∈ linesI i X, p.2.length ≤ n + 1
  | [], i, n, hX, p, h => by cases h
  | x :: X, i, n, hX, p, h => by
    rw [linesI_cons] at h
    have ih := linesI_fl X (i + 1) n (fun l hl => hX l (List.mem_cons_of_mem _ hl))
    cases hf : fieldsL (stripCR x) with
    | none => rw [hf] at h; exact ih p h
    | some f =>
      rw [hf] at h
      rcases List.mem_cons.1 h with rfl | h
      · unfold fieldsL at hf
        split at hf
        · cases hf
        · obtain rfl := Option.some.inj hf
          have h1 := splP_count (fun x => decide (x = (59 : Int))) (bodyL (stripCR x))
          have h2 := len_spl (body_mem (stripCR x))
          have h3 := len_strip x
          have h4 := hX x (List.mem_cons_self ..)
          simp only [List.length_map]
          unfold spl
          omega
      · exact ih p h
theorem keepsFrom_below2 {B : Nat} {V V' : World} (hb : Below V.heap.size V V') : KeepsFrom B V V' := ⟨hb.size, fun k o _ hk _ => (hb.block k (Array.getElem?_eq_some_iff.1 hk).1).trans hk⟩
end Go.Proofs.YtbpdcbibooiimaaGreatDoor.Q

-- from Plno
/- Lines' fields are short texts of octets; a text of a row. -/
namespace Go.Proofs.YtbpdcbibooiimaaGreatDoor.Q
open Go.RowKit Go.Shelf Go.Proofs.YtbpdcbibooiimaaGreatDoorW.PrintWords Go.Proofs.YtbpdcbibooiimaaGreatDoorW.PrintLast Go.Proofs.YtbpdcbibooiimaaGreatDoorW.PrintMore Go.Proofs.YtbpdcbibooiimaaGreatDoor.K
set_option linter.unusedVariables false
set_option linter.unusedSimpArgs false

/-- The cells of a row of texts. -/
theorem strs_cell {w : World} {A : Option Addr} {X : List (List Int)} (h : Kd.C Kd.string w A X.length (X.map strOfNums)) (hp : 0 < X.length) : ∃ ad, A = some ad ∧ ∀ i (hi : i < X.length), w.cell? (ad.add i) = some (.string (strOfNums X[i])) := by
  obtain ⟨ad, e, f⟩ := h.2.2 hp
  refine ⟨ad, e, fun i hi => ?_⟩
  obtain ⟨vs, e1, e2, g⟩ := f i (strOfNums X[i]) (by rw [List.getElem?_map, List.getElem?_eq_getElem hi]; rfl)
  have e2 : vs = [Value.string (strOfNums X[i])] := e2
  subst e2
  have h9 : w.cell? (ad.add (i * 1 + 0)) = some (.string (strOfNums X[i])) := g 0 _ rfl
  rw [Nat.mul_one, Nat.add_zero] at h9
  exact h9
/-- Lines' fields are short texts of octets. -/
theorem trimL_sub (l : List Int) : (trimL l).Sublist l := by
  unfold trimL trimR
  have h1 : (List.dropWhile blk l).Sublist l := List.dropWhile_sublist _
  have h2 : (List.dropWhile blk (List.dropWhile blk l).reverse).Sublist (List.dropWhile blk l).reverse := List.dropWhile_sublist _
  have h3 := h2.reverse
  rw [List.reverse_reverse] at h3
  exact h3.trans h1
theorem fields_oct {l : List Int} {f : List (List Int)} {n : Nat} (ho : Oct l) (hl : l.length ≤ n) (h : fieldsL (stripCR l) = some f) : ∀ p ∈ f, Oct p ∧ p.length ≤ n := by
  unfold fieldsL at h
  split at h
  · cases h
  · obtain rfl := Option.some.inj h
    intro p hp
    obtain ⟨q, hq, rfl⟩ := List.mem_map.1 hp
    have h1 := trimL_sub q
    have hb := body_mem (stripCR l)
    have o2 : Oct q := oct_spl (oct_spl (oct_strip ho) hb) hq
    have l2 := len_spl hq
    have l3 := len_spl hb
    have l4 := len_strip l
    have l5 := h1.length_le
    exact ⟨fun x hx => o2 x (h1.subset hx), by omega⟩
theorem linesI_oct {n : Nat} : ∀ (X : List (List Int)) (i : Nat), (∀ l ∈ X, Oct l ∧ l.length ≤ n) → ∀ p ∈ linesI i X, ∀ q ∈ p.2, Oct q ∧ q.length ≤ n
  | [], i, hX, p, h => by cases h
  | x :: X, i, hX, p, h => by
    rw [linesI_cons] at h
    have ih := linesI_oct X (i + 1) (fun l hl => hX l (List.mem_cons_of_mem _ hl))
    have hx := hX x List.mem_cons_self
    cases hf : fieldsL (stripCR x) with
    | none => rw [hf] at h; exact ih p h
    | some f =>
      rw [hf] at h
      rcases List.mem_cons.1 h with rfl | h
      · exact fields_oct hx.1 hx.2 hf
      · exact ih p h
end Go.Proofs.YtbpdcbibooiimaaGreatDoor.Q

-- from Hrfs
/- Range over a function whose iterator writes one cell of its own (a captured variable): what is told of the rounds is blind to that cell. After wpIn_range_as. -/
namespace Go.Proofs.YtbpdcbibooiimaaGreatDoor.Q
open Go.RowKit Go.Shelf Go.Proofs.YtbpdcbibooiimaaGreatDoorW.PrintWords Go.Proofs.YtbpdcbibooiimaaGreatDoorW.PrintLast Go.Proofs.YtbpdcbibooiimaaGreatDoorW.PrintMore
set_option linter.unusedVariables false
set_option linter.unusedSimpArgs false
/-- The iterator's contract: it may write the cell b between the rounds. -/
def SeqPb {α : Type} (b : Nat) (F : Fence) (n : Nat) (P : Program) (g : Nat) (lb : Array Value) (encs : α → Array Value) (Kp : World → World → Prop) (Pr : α → World → Prop) (S Sp : List α → Prop) (w : World) : Prop :=
  ∀ (l : Nat) (J Jx : List α → World → Prop) (W : World), Below w.heap.size w W → AbidesFrom W.heap.size J → AbidesFrom W.heap.size Jx → (∀ s V v, J s V → J s (V.setCell ⟨b, 0, none⟩ v)) → (∀ s V v, Jx s V → Jx s (V.setCell ⟨b, 0, none⟩ v)) →
    (∀ pre x W1, J pre W1 → Pr x W1 → Sp (pre ++ [x]) → YieldAt F (n - 1) P l (encs x) W1 fun e W' =>
      (e = .returned (.bool true) ∧ J (pre ++ [x]) W' ∧ Kp W1 W') ∨ (e = .returned (.bool false) ∧ Jx (pre ++ [x]) W')) →
    J [] W →
    CallsIn F n P g (#[.func (.yield l) #[] #[]] ++ lb) W fun e W' => (∃ v, e = .returned v) ∧ ((∃ xs, S xs ∧ J xs W') ∨ (∃ pre, Sp pre ∧ Jx pre W'))
section
variable {F : Fence} {n : Nat} {P : Program}
theorem wpIn_range_pb {α : Type} {g : Operand} {ps : Array Tmp} {assign body : Code} {Q : Exit → Act → World → Prop} {a : Act} {w : World}
    (hro : F.round = none) (h1 : 1 ≤ n) {gf : Nat} {lb : Array Value} (hg : a.eval g = .func (.func gf) #[] lb) (hFg : F.fn gf) (eg : ∀ args w, (callFunc gf args).run P w = .ok (.enter gf args) w)
    {encs : α → Array Value} {Kp : World → World → Prop} {Pr : α → World → Prop} {S Sp : List α → Prop} {w0 : World} {b : Nat} (hseq : SeqPb b F (n - 1) P gf lb encs Kp Pr S Sp w0)
    (hKt : ∀ {A B C : World}, Kp A B → Kp B C → Kp A C) (hKb : ∀ (W : World) (l : Nat) (o o' : Obj), w.heap.size ≤ l → W.heap[l]? = some o → o.isCells = false → o.isWalk = false → Kp W (W.putObj l o')) (hb0 : Below w0.heap.size w0 w) (hps : ∀ x, (encs x).size = ps.size)
    (I : List α → World → Prop) (Ix : Code → List α → World → Prop) (hI : OwnFrom w.heap.size I) (hIx : ∀ c, OwnFrom w.heap.size (Ix c)) (h0 : I [] w) (hbl : b < w.heap.size) (hIb : ∀ s V v, I s V → I s (V.setCell ⟨b, 0, none⟩ v)) (hIxb : ∀ c s V v, Ix c s V → Ix c s (V.setCell ⟨b, 0, none⟩ v)) (I1 : List α → α → Act → World → Prop) (hI1 : ∀ pre x a1, OwnFrom w.heap.size (fun (_ : Unit) W => I1 pre x a1 W))
    (hassign : ∀ (l : Nat) (pre : List α) (x : α) (W : World) (K : Act → World → Prop), I pre W → Pr x W → (∀ a1 W1, KeepsFrom w.heap.size W W1 → Kp W W1 → I1 pre x a1 W1 → K a1 W1) →
      assign.wpIn (F.inRound l) (n - 1 - 1) P (Exit.then K (fun _ _ _ => False)) { tmps := (ps.zip (encs x)).foldl (fun t (p, v) => t.setIfInBounds p v) a.tmps, defers := [] } W)
    (hbody : ∀ (l : Nat) (pre : List α) (x : α) (a1 : Act) (W : World), I1 pre x a1 W → Sp (pre ++ [x]) → body.wpIn (F.inRound l) (n - 1 - 1) P (ownPostG w.heap.size Kp I Ix (pre ++ [x]) W) a1 W)
    (hdone : ∀ (D : Nat) (xs : List α) (W : World), w.heap.size ≤ D → S xs → I xs W → W.heap[D]? = some (.deferred (some [])) → Q .normal { a with defers := { target := .collected D, args := #[] } :: a.defers } W)
    (hstop : ∀ (D : Nat) (c : Code) (pre : List α) (W : World), w.heap.size ≤ D → Sp pre → Ix c pre W → W.heap[D]? = some (.deferred (some [])) → c.wpIn F n P Q { a with defers := { target := .collected D, args := #[] } :: a.defers } W) :
    (Code.rangeFunc g ps assign body).wpIn F n P Q a w := by
  refine wpIn_rangeFunc ?_
  intro fn hfn
  rw [hro]
  -- the two blocks that the loop lays: the deferred calls' and its own record
  let L : Nat := w.heap.size + 1
  obtain ⟨rec, hrec⟩ : ∃ rec : LoopState → Option Code → Loop, rec = fun st pe => { state := st, pending := pe, fn, tmps := a.tmps, params := ps, assign, body, defers := w.heap.size } := ⟨_, rfl⟩
  obtain ⟨W1, hW1⟩ : ∃ W1, (w.alloc (.deferred (some []))).alloc (.loop (rec .ready none)) = W1 := ⟨_, rfl⟩
  have hL1 : W1.heap[L]? = some (.loop (rec .ready none)) := by
    have := World.alloc_heap_new (w.alloc (.deferred (some []))) (.loop (rec .ready none))
    rw [World.size_alloc] at this
    rw [← hW1]; exact this
  have hD1 : W1.heap[w.heap.size]? = some (.deferred (some [])) := by
    rw [← hW1]; exact (Below.heap_alloc _ _ _ (by simp)).trans (World.alloc_heap_new w _)
  have hb1 : Below w0.heap.size w0 W1 := by
    rw [← hW1]; exact hb0.trans ((((Below.refl _ w).alloc (Nat.le_refl _) _).alloc (by simp) _).mono hb0.size)
  have hsz1 : W1.heap.size = w.heap.size + 2 := by rw [← hW1]; simp
  have walk_row : ∀ {A : World} {row : Option Nat}, (∀ r, row = some r → W1.heap.size ≤ r ∧ ∃ o : Obj, A.heap[r]? = some o ∧ o.isWalk = true) → (∀ r, row = some r → w.heap.size ≤ r ∧ ∃ o : Obj, A.heap[r]? = some o ∧ o.isCells = false) :=
    fun hr r e => by obtain ⟨hB, o, ho, hw⟩ := hr r e; exact ⟨by omega, o, ho, Obj.not_cells_of_walk hw⟩
  have stay : ∀ {A B : World} {row : Option Nat} {k : Nat} {o : Obj}, A.grownBy B row → (∀ r, row = some r → W1.heap.size ≤ r ∧ ∃ o : Obj, A.heap[r]? = some o ∧ o.isWalk = true) → A.heap[k]? = some o → o.isWalk = false → B.heap[k]? = some o :=
    fun hg' hr hk hw => (grownBy_keeps hg' (fun r e => (hr r e).2) hk hw).trans hk
  refine ⟨L, [{ target := .collected w.heap.size, args := #[] }], W1, { target := .fn (.func gf) lb, args := #[.func (.yield L) #[] #[]] }, W1, gf, #[.func (.yield L) #[] #[]] ++ lb, W1, ?_, ?_, ?_, ?_, fun _ => h1, ?_⟩
  · rw [← hW1, hrec]; exact run_enterLoop_outer _ _ _ _ _
  · simp only [resolve, hg]
    simp [go_sem]
  · intro f' hf'; simp [Target.leads] at hf'; subst hf'; exact hFg
  · simp [invoke, go_sem, eg]
  · have call := hseq L (fun pre W => I pre W ∧ W.heap[L]? = some (.loop (rec .ready none)) ∧ W.heap[w.heap.size]? = some (.deferred (some [])))
      (fun pre W => ∃ c, Ix c pre W ∧ W.heap[L]? = some (.loop (rec .done (some c))) ∧ W.heap[w.heap.size]? = some (.deferred (some []))) W1 hb1
      (fun s A B row hs hg' hr => ⟨hI s A B row hs.1 hg' (walk_row hr), stay hg' hr hs.2.1 rfl, stay hg' hr hs.2.2 rfl⟩)
      (fun s A B row ⟨c, hc, hl, hk⟩ hg' hr => ⟨c, hIx c s A B row hc hg' (walk_row hr), stay hg' hr hl rfl, stay hg' hr hk rfl⟩)
      (fun s V v ⟨h1, h2, h3⟩ => ⟨hIb s V v h1, (Below.heap_setCell V ⟨b, 0, none⟩ v L (by show w.heap.size + 1 ≠ b; omega)).trans h2, (Below.heap_setCell V ⟨b, 0, none⟩ v w.heap.size (by show w.heap.size ≠ b; omega)).trans h3⟩)
      (fun s V v ⟨c, h1, h2, h3⟩ => ⟨c, hIxb c s V v h1, (Below.heap_setCell V ⟨b, 0, none⟩ v L (by show w.heap.size + 1 ≠ b; omega)).trans h2, (Below.heap_setCell V ⟨b, 0, none⟩ v w.heap.size (by show w.heap.size ≠ b; omega)).trans h3⟩)
      ?round ⟨by rw [← hW1]; exact hI.alloc _ (hI.alloc _ h0), hL1, hD1⟩
    case round =>
      rintro pre x W ⟨hi, hl, hk⟩ hpr hlen
      have hlt : L < W.heap.size := (Array.getElem?_eq_some_iff.1 hl).1
      have hLD : w.heap.size ≠ L := by show w.heap.size ≠ w.heap.size + 1; omega
      have hLw : w.heap.size ≤ L := by show w.heap.size ≤ w.heap.size + 1; omega
      have hy := run_yield (P := P) (args := encs x) hl (by rw [hrec]; exact hps x)
      rw [hrec] at hy
      refine ⟨fn, _, assign, body, hy, roundIn_of_wpIn hfn (hassign _ pre x W _ hi hpr (fun a1 WA hkA hkpA hi1 => ⟨_, run_beginRound (hkA.same _ _ hLw hl rfl) (by rw [hrec]), ?_⟩))⟩
      have hl := hkA.same _ _ hLw hl rfl
      have hk := hkA.same _ _ (Nat.le_refl _) hk rfl
      have hlt : L < WA.heap.size := (Array.getElem?_eq_some_iff.1 hl).1
      obtain ⟨WB, hWB⟩ : ∃ WB, WA.putObj L (.loop { rec .ready none with state := .busy }) = WB := ⟨_, rfl⟩
      have hl2 : WB.heap[L]? = some (.loop { rec .ready none with state := .busy }) := by rw [← hWB]; exact World.putObj_heap_same hlt
      have hk2 : WB.heap[w.heap.size]? = some (.deferred (some [])) := by rw [← hWB]; exact (World.putObj_heap_other hLD).trans hk
      have hw2 : Kp W WB := by rw [← hWB]; exact hKt hkpA (hKb _ _ _ _ hLw hl rfl rfl)
      have hi2 : I1 pre x a1 WB := by rw [← hWB]; exact (hI1 pre x a1).putObj (s := ()) _ hi1 hLw hl rfl
      rw [hWB]
      refine wpIn_mono (hbody _ pre x a1 WB hi2 hlen) ?_
      have fin : ∀ (jump : Option Code) (W3 : World), KeepsFrom w.heap.size WB W3 →
          (Instr.endRound L jump).run P W3 = .ok (.bool jump.isNone) (W3.putObj L (.loop (rec (if jump.isNone then .ready else .done) jump))) ∧
          W3.heap[L]? = some (.loop { rec .ready none with state := .busy }) ∧
          (W3.putObj L (.loop (rec (if jump.isNone then .ready else .done) jump))).heap[L]? = some (.loop (rec (if jump.isNone then .ready else .done) jump)) ∧
          (W3.putObj L (.loop (rec (if jump.isNone then .ready else .done) jump))).heap[w.heap.size]? = some (.deferred (some [])) := fun jump W3 hk3 => by
        have hl3 := hk3.same _ _ hLw hl2 rfl
        have hd3 := hk3.same _ _ (Nat.le_refl _) hk2 rfl
        have hend := run_endRound (P := P) jump hl3
        refine ⟨?_, hl3, World.putObj_heap_same (Array.getElem?_eq_some_iff.1 hl3).1, (World.putObj_heap_other hLD).trans hd3⟩
        rw [hrec] at hend ⊢
        exact hend
      have out : ∀ (c : Code) (W3 : World), KeepsFrom w.heap.size WB W3 → Ix c (pre ++ [x]) W3 → ∃ v W', (Instr.endRound L (some c)).run P W3 = .ok v W' ∧ v = .bool false ∧ ∃ c', Ix c' (pre ++ [x]) W' ∧ W'.heap[L]? = some (.loop (rec .done (some c'))) ∧ W'.heap[w.heap.size]? = some (.deferred (some [])) := fun c W3 hk3 hi3 => by
        obtain ⟨hr, hl3, hl4, hk4⟩ := fin (some c) W3 hk3
        exact ⟨_, _, hr, rfl, c, (hIx _).putObj _ hi3 hLw hl3 rfl, hl4, hk4⟩
      rintro e a3 W3 hp
      cases e with
      | normal =>
        obtain ⟨hk3, hkp3, hi3⟩ := hp
        obtain ⟨hr, hl3, hl4, hk4⟩ := fin none W3 hk3
        exact ⟨_, _, hr, .inl ⟨rfl, ⟨hI.putObj _ hi3 hLw hl3 rfl, hl4, hk4⟩, hKt (hKt hw2 hkp3) (hKb _ _ _ _ hLw hl3 rfl rfl)⟩⟩
      | ret =>
        obtain ⟨v, W', hr, rfl, h⟩ := out .ret W3 hp.1 hp.2
        exact ⟨_, _, hr, .inr ⟨rfl, h⟩⟩
      | exit id =>
        obtain ⟨v, W', hr, rfl, h⟩ := out (.exit id) W3 hp.1 hp.2
        exact ⟨_, _, hr, .inr ⟨rfl, h⟩⟩
      | goto t =>
        obtain ⟨v, W', hr, rfl, h⟩ := out (.goto t) W3 hp.1 hp.2
        exact ⟨_, _, hr, .inr ⟨rfl, h⟩⟩
      | panic ch => exact hp.elim
      | outgrown => exact hp.elim
    refine call.mono ?_
    have hLD : w.heap.size ≠ L := by show w.heap.size ≠ w.heap.size + 1; omega
    have hLw : w.heap.size ≤ L := by show w.heap.size ≤ w.heap.size + 1; omega
    rintro e W2 ⟨⟨v, rfl⟩, (⟨xs, hS, hi, hl, hk⟩ | ⟨pre, hSp, c, hi, hl, hk⟩)⟩
    · exact ⟨none, _, by have := run_endLoop (P := P) hl (by rw [hrec]; simp); rw [hrec] at this; exact this, hdone _ xs _ (Nat.le_refl _) hS (hI.putObj _ hi hLw hl rfl) ((World.putObj_heap_other hLD).trans hk)⟩
    · exact ⟨some c, _, by have := run_endLoop (P := P) hl (by rw [hrec]; simp); rw [hrec] at this; exact this, hstop _ c pre _ (Nat.le_refl _) hSp ((hIx c).putObj _ hi hLw hl rfl) ((World.putObj_heap_other hLD).trans hk)⟩
end

end Go.Proofs.YtbpdcbibooiimaaGreatDoor.Q

-- from Hseq
/- strings.SplitSeq at one octet: the call, and the iterator (what is left of the text lies in a cell of its own). -/
namespace Go.Proofs
open Go.Shelf
def Tryz.lays143_ren : Go.Shelf.Ren := ⟨fun | 143 => 115 | 219 => 140 | 217 => 126 | 225 => 171 | 224 => 172 | 267 => 173 | 266 => 145 | 314 => 199 | n => n, fun | 9 => 9 | 3 => 3 | 4 => 4 | 5 => 5 | 46 => 167 | 146 => 231 | 51 => 218 | n => n, fun | 1 => 0 | n => n⟩
theorem Tryz.lays143 : Go.Proofs.Lays.n143 Tryz.prog Tryz.lays143_ren := {
  mixed := by kernel_rfl
  f143 := Tryz.func115.trans (congrArg some (by kernel_rfl))
  f217 := Tryz.func126.trans (congrArg some (by kernel_rfl))
  f219 := Tryz.func140.trans (congrArg some (by kernel_rfl))
  f224 := Tryz.func172.trans (congrArg some (by kernel_rfl))
  f225 := Tryz.func171.trans (congrArg some (by kernel_rfl))
  f266 := Tryz.func145.trans (congrArg some (by kernel_rfl))
  f267 := Tryz.func173.trans (congrArg some (by kernel_rfl))
  f314 := Tryz.func199.trans (congrArg some (by kernel_rfl))
  t3 := Tryz.underlying3
  a3 := Tryz.isAgg3
  z3 := Tryz.sizeOf3
  v3 := Tryz.zeroValue3
  t4 := Tryz.underlying4
  a4 := Tryz.isAgg4
  z4 := Tryz.sizeOf4
  v4 := Tryz.zeroValue4
  t5 := Tryz.underlying5
  a5 := Tryz.isAgg5
  z5 := Tryz.sizeOf5
  v5 := Tryz.zeroValue5
  t9 := Tryz.underlying9
  a9 := Tryz.isAgg9
  z9 := Tryz.sizeOf9
  v9 := Tryz.zeroValue9
  t46 := Tryz.underlying167
  a46 := Tryz.isAgg167
  z46 := Tryz.sizeOf167
  v46 := Tryz.zeroValue167
  t51 := Tryz.underlying218
  a51 := Tryz.isAgg218
  z51 := Tryz.sizeOf218
  v51 := Tryz.zeroValue218
  t146 := Tryz.underlying231
  a146 := Tryz.isAgg231
  z146 := Tryz.sizeOf231
  v146 := Tryz.zeroValue231
  g1 := by kernel_rfl }
end Go.Proofs
namespace Go.Proofs.YtbpdcbibooiimaaGreatDoor.Q
open Go.RowKit Go.Shelf Go.Proofs.YtbpdcbibooiimaaGreatDoorW.PrintWords Go.Proofs.YtbpdcbibooiimaaGreatDoorW.PrintLast Go.Proofs.YtbpdcbibooiimaaGreatDoorW.PrintMore Go.Proofs.YtbpdcbibooiimaaGreatDoor.K
set_option linter.unusedVariables false
set_option linter.unusedSimpArgs false
attribute [local go_sem] Oper.semAt_some

theorem KeepC.box {T : Nat → Prop} {A B : World} (h : KeepC T A B) {k : Nat} {t : TypeId} {v : Value} (hb : Boxed A k t v) (hn : ¬ T k) : Boxed B k t v := h.2 k _ hb rfl hn
theorem boxed_set_o {W : World} {k b : Nat} {t : TypeId} {v u : Value} (h : Boxed W k t v) (hn : k ≠ b) : Boxed (W.setCell ⟨b, 0, none⟩ u) k t v := (Below.heap_setCell W ⟨b, 0, none⟩ u k hn).trans h
/-- What the search finds, told by the pieces. -/
theorem index_spl {L : List Int} (ho : Oct L) : (Lib.indexByte (strOfNums L).data.toList 32 = -1 ∧ spl 32 L = [L]) ∨ ∃ i : Nat, Lib.indexByte (strOfNums L).data.toList 32 = i ∧ i < L.length ∧ spl 32 L = L.take i :: spl 32 (L.drop (i + 1)) := by
  rw [str_data, ← Lib.index_one]
  have hm : ∀ x ∈ L, (UInt8.ofNat x.toNat == (32 : UInt8)) = decide (x = 32) := fun x hx => by
    have := u8_eq (ho x hx) (y := 32) (by decide)
    rw [← this]; rfl
  have hmem : ∀ y ∈ Lib.bytesOf L, ∃ x ∈ L, y = UInt8.ofNat x.toNat := fun y hy => by
    obtain ⟨x, hx, e⟩ := List.mem_map.1 hy
    exact ⟨x, hx, e.symm⟩
  rcases index_one (b := 32) (Lib.bytesOf L) with ⟨h1, h2⟩ | ⟨i, h1, h2, h3, h4⟩
  · refine .inl ⟨h1, splP_miss fun x hx => ?_⟩
    rw [← hm x hx]
    exact h2 _ (List.mem_map.2 ⟨x, hx, rfl⟩)
  · have hi : i < L.length := by have : (Lib.bytesOf L).length = L.length := List.length_map ..; omega
    refine .inr ⟨i, h1, hi, splP_hit (x := L[i]) (by rw [List.getElem_cons_drop, List.take_append_drop]) (fun x hx => ?_) ?_⟩
    · rw [← hm x (List.mem_of_mem_take hx)]
      refine h4 _ ?_
      rw [← Lib.bytesOf_take]
      exact List.mem_map.2 ⟨x, hx, rfl⟩
    · have h5 := hm L[i] (List.getElem_mem hi)
      rw [← h5]
      have h6 : (Lib.bytesOf L)[i]? = some 32 := by rw [h3, List.getElem?_append_right (by rw [List.length_take]; omega), List.length_take, Nat.min_eq_left (by omega), Nat.sub_self]; rfl
      have h7 : (Lib.bytesOf L)[i]? = some (UInt8.ofNat (L[i]).toNat) := by
        show (L.map _)[i]? = _
        rw [List.getElem?_map, List.getElem?_eq_getElem hi]; rfl
      rw [h7] at h6
      rw [Option.some.inj h6]; rfl
set_option maxHeartbeats 2000000 in
set_option maxRecDepth 100000 in
theorem splitSeq.calls (s sep : ByteArray) (w : World) :
    Calls Tryz.prog 130 #[.string s, .string sep, .int .i64 0] w fun e w' => e = .returned (.func (.func 155) #[] #[.pointer (some ⟨w.heap.size + 1, 0, none⟩), .pointer (some ⟨w.heap.size, 0, none⟩), .pointer (some ⟨w.heap.size + 2, 0, none⟩)]) ∧
      w' = ((w.alloc (.cells #[.string s] 9)).alloc (.cells #[.string sep] 9)).alloc (.cells #[.int .i64 0] 3) := by
  go_enter Tryz.func130, Tryz.ntmps130
  go_wp2
  go_ret
  exact ⟨rfl, rfl⟩
set_option maxHeartbeats 2000000 in
set_option maxRecDepth 100000 in
theorem SplitSeq.calls (s sep : ByteArray) (w : World) :
    Calls Tryz.prog 103 #[.string s, .string sep] w fun e w' => e = .returned (.func (.func 155) #[] #[.pointer (some ⟨w.heap.size + 1, 0, none⟩), .pointer (some ⟨w.heap.size, 0, none⟩), .pointer (some ⟨w.heap.size + 2, 0, none⟩)]) ∧
      w' = ((w.alloc (.cells #[.string s] 9)).alloc (.cells #[.string sep] 9)).alloc (.cells #[.int .i64 0] 3) := by
  go_enter Tryz.func103, Tryz.ntmps103
  go_wp2_with (go_at_call 130; refine (splitSeq.calls s sep _).mono ?_; rintro e w2 ⟨rfl, rfl⟩)
  go_ret
  exact ⟨rfl, rfl⟩
set_option maxHeartbeats 4000000 in
set_option maxRecDepth 100000 in
/-- The iterator: every body that keeps all cells but those of T, to which none of the iterator's three belong. -/
theorem splitSeq.stops (L : List Int) (ho : Oct L) (hl : L.length ≤ 1000000) (sb : Nat) (w : World) (T : Nat → Prop) (hT0 : ¬ T sb) (hT1 : ¬ T (sb + 1)) (hT2 : ¬ T (sb + 2))
    (h0 : Boxed w sb 9 (.string (strOfNums L))) (h1 : Boxed w (sb + 1) 9 (.string ⟨#[32]⟩)) (h2 : Boxed w (sb + 2) 3 (.int .i64 0)) (n : Nat) (hn : 3 ≤ n) :
    SeqPb sb Fence.wide n Tryz.prog 155 #[.pointer (some ⟨sb + 1, 0, none⟩), .pointer (some ⟨sb, 0, none⟩), .pointer (some ⟨sb + 2, 0, none⟩)] (fun x : List Int => #[.string (strOfNums x)]) (KeepC T) (fun _ _ => True) (fun ys => ys = spl 32 L) (fun pre => pre <+: spl 32 L) w := fun l J Jx W hW hJ hJx hbJ hbJx hY hj0 => by
  refine callsIn_of_wp Tryz.func155 rfl trivial ?_ rfl
  simp only [Tryz.ntmps155, List.size_toArray, List.length_cons, List.length_nil, Nat.reduceAdd, Nat.reduceSub, Array.replicate_succ, Array.replicate_zero, List.push_toArray, List.append_toArray, List.nil_append, List.cons_append]
  have HBX : Aside0 (Boxed W sb 9 (.string (strOfNums L)) ∧ Boxed W (sb + 1) 9 (.string ⟨#[32]⟩) ∧ Boxed W (sb + 2) 3 (.int .i64 0)) := ⟨(hW.block _ h0.lt).trans h0, (hW.block _ h1.lt).trans h1, (hW.block _ h2.lt).trans h2⟩
  have HJ := Aside0.mk hJ
  have HBJ := Aside0.mk hbJ
  have HY := Aside0.mk hY
  have HJ0 := Aside0.mk hj0
  have HO := Aside0.mk ho
  have HL := Aside0.mk hl
  have HT := Aside0.mk (And.intro hT0 (And.intro hT1 hT2))
  have hc1 := HBX.out.2.1.cell
  have hz1 : (⟨#[32]⟩ : ByteArray).size = 1 := rfl
  clear hW hJ hJx hbJ hbJx hY hj0 ho hl hT0 hT1 hT2 h0 h1 h2
  gi_wp2
  clear hc1
  gi_loopg [7] (L.length + 1) (fun kq s7 wr => ∃ (pre : List (List Int)) (rest : List Int), Aside0 (rest.length < kq ∧ rest.length ≤ 1000000 ∧ Oct rest) ∧ Aside0 (spl 32 L = pre ++ spl 32 rest) ∧ Aside0 (Boxed wr sb 9 (.string (strOfNums rest)) ∧ Boxed wr (sb + 1) 9 (.string ⟨#[32]⟩) ∧ Boxed wr (sb + 2) 3 (.int .i64 0)) ∧ Aside0 (J pre wr))
  case atStart => exact ⟨[], L, ⟨by omega, HL.out, HO.out⟩, ⟨rfl⟩, HBX, HJ0⟩
  case round =>
    clear HBX HJ0
    obtain ⟨pre, rest, HI, HP, HB, HJp⟩ := hrel
    cases gk with
    | zero => exact absurd HI.out.1 (by omega)
    | succ kq =>
    have hc0 := HB.out.1.cell
    have hf0 := HB.out.1.frozen
    have hc1 := HB.out.2.1.cell
    have hc2 := HB.out.2.2.cell
    have HX := Aside0.mk (fun w => Any.strings_Index_one Tryz.lays143 (strOfNums rest) 32 w)
    rcases index_spl HI.out.2.2 with ⟨hi, hsp⟩ | ⟨i, hi, hil, hsp⟩
    · rw [hi] at HX
      have HSP : Aside0 (pre ++ [rest] = spl 32 L) := ⟨by rw [HP.out, hsp]⟩
      obtain ⟨fn, tmps, assign, body, hy, hRR⟩ := HY.out pre rest wr HJp.out trivial (by rw [HSP.out]; exact List.prefix_refl _)
      have HRR := Aside0.mk hRR
      obtain ⟨s, hs⟩ : ∃ s, s = strOfNums rest := ⟨_, rfl⟩
      rw [← hs] at hy HX hc0
      clear hi hsp hRR hs
      gi_wp2_with (refine ⟨trivial, (fun h => by cases h), ?_⟩; gi_at_call 115; (refine (callsIn_wide.2 (HX.out _)).mono ?_); rintro e w1 ⟨rfl, rfl⟩)
      refine ⟨fun _ => by omega, ?_⟩
      refine HRR.out.mono ?_
      rintro e W3 (⟨rfl, hJ3, hk3⟩ | ⟨rfl, hJx3⟩)
      · have HJ3 := Aside0.mk hJ3
        clear hJ3 hk3 HRR hy
        gi_wp2
        go_end0
        exact ⟨⟨_, rfl⟩, .inl ⟨_, HSP.out, HJ3.out⟩⟩
      · have HJX := Aside0.mk hJx3
        clear hJx3 HRR hy
        gi_wp2
        go_end0
        exact ⟨⟨_, rfl⟩, .inr ⟨_, by rw [HSP.out]; exact List.prefix_refl _, HJX.out⟩⟩
    · rw [hi] at HX
      have HSP : Aside0 (spl 32 L = (pre ++ [rest.take i]) ++ spl 32 (rest.drop (i + 1))) := ⟨by rw [HP.out, hsp]; simp⟩
      obtain ⟨fn, tmps, assign, body, hy, hRR⟩ := HY.out pre (rest.take i) wr HJp.out trivial (by rw [HSP.out]; exact List.prefix_append _ _)
      have HRR := Aside0.mk hRR
      have hsz : (strOfNums rest).size = rest.length := size_str rest
      have hex1 : (strOfNums rest).extract 0 i = strOfNums (rest.take i) := by rw [extract_str, List.drop_zero]
      have hex2 : (strOfNums rest).extract (i + 1) rest.length = strOfNums (rest.drop (i + 1)) := by rw [extract_str, List.take_length]
      have m1 : wrap64 (i : Int) = (i : Int) := w64 (by omega) (by have := HI.out; omega)
      have m2 : wrap64 ((i : Int) + 1) = ((i + 1 : Nat) : Int) := by rw [w64 (by omega) (by have := HI.out; omega)]; omega
      have m2' : IntKind.i64.wrap ((i : Int) + 1) = ((i + 1 : Nat) : Int) := by rw [Go.IntWalk.i64_in _ (by have := HI.out; omega)]; omega
      have m3 : ((i : Int) < 0) = False := eq_false (by omega)
      have m4 : decide ((i : Int) < 0) = false := decide_eq_false (by omega)
      have m5 : (i ≤ rest.length) = True := eq_true (by omega)
      have m6 : (i + 1 ≤ rest.length) = True := eq_true (by omega)
      have m7 : ((i : Int) ≤ (rest.length : Int)) = True := eq_true (by omega)
      have m8 : (((i + 1 : Nat) : Int) ≤ (rest.length : Int)) = True := eq_true (by omega)
      have m9 : (0 ≤ (i : Int) + 1) = True := eq_true (by omega)
      have m10 : ((i : Int) + 1 ≤ (rest.length : Int)) = True := eq_true (by omega)
      have m11 : ((i : Int) + 1).toNat = i + 1 := by omega
      have HIL := Aside0.mk hil
      obtain ⟨s, hs⟩ : ∃ s, s = strOfNums rest := ⟨_, rfl⟩
      rw [← hs] at HX hc0 hsz hex1 hex2
      obtain ⟨s1, hs1⟩ : ∃ s, s = strOfNums (rest.take i) := ⟨_, rfl⟩
      rw [← hs1] at hy hex1
      have HS := Aside0.mk hs
      clear hi hsp hRR hs hil hs1
      gi_wp2_with (refine ⟨trivial, (fun h => by cases h), ?_⟩; gi_at_call 115; (refine (callsIn_wide.2 (HX.out _)).mono ?_); rintro e w1 ⟨rfl, rfl⟩)
      refine ⟨fun _ => by omega, ?_⟩
      refine HRR.out.mono ?_
      rintro e W3 (⟨rfl, hJ3, hk3⟩ | ⟨rfl, hJx3⟩)
      · have HJ3 := Aside0.mk hJ3
        have HB3 : Aside0 (Boxed W3 sb 9 (.string s) ∧ Boxed W3 (sb + 1) 9 (.string ⟨#[32]⟩) ∧ Boxed W3 (sb + 2) 3 (.int .i64 0)) := ⟨by rw [HS.out]; exact hk3.box HB.out.1 HT.out.1, hk3.box HB.out.2.1 HT.out.2.1, hk3.box HB.out.2.2 HT.out.2.2⟩
        have hd0 := HB3.out.1.cell
        have hg0 := HB3.out.1.frozen
        have hd1 := HB3.out.2.1.cell
        clear hJ3 hk3 HRR hy hc0 hf0 hc1 hc2
        gi_wp2
        gi_roundg kq
        case measure => omega
        case rel =>
          refine ⟨pre ++ [rest.take i], rest.drop (i + 1), ⟨?_, ?_, HI.out.2.2.drop _⟩, HSP, ⟨?_, boxed_set_o HB3.out.2.1 (by omega), boxed_set_o HB3.out.2.2 (by omega)⟩, ⟨HBJ.out _ _ _ HJ3.out⟩⟩
          · have h1 := HI.out.1
            have h2 := HIL.out
            rw [List.length_drop]; omega
          · have h1 := HI.out.2.1
            rw [List.length_drop]; omega
          · have h := Boxed.set (.string (strOfNums (rest.drop (i + 1)))) HB3.out.1
            first | exact h | (rw [← hex2]; rw [← hex2] at h; exact h)
      · have HJX := Aside0.mk hJx3
        clear hJx3 HRR hy
        gi_wp2
        refine bodyPost_ret (results_none rfl _ _ _) rfl ?_
        exact ⟨⟨_, rfl⟩, .inr ⟨_, by rw [HSP.out]; exact List.prefix_append _ _, HJX.out⟩⟩
end Go.Proofs.YtbpdcbibooiimaaGreatDoor.Q

-- from Hfpt
/- field.Point: the walk. -/
namespace Go.Proofs.YtbpdcbibooiimaaGreatDoor.Q
open Go.RowKit Go.Shelf Go.Proofs.YtbpdcbibooiimaaGreatDoorW.PrintWords Go.Proofs.YtbpdcbibooiimaaGreatDoorW.PrintLast Go.Proofs.YtbpdcbibooiimaaGreatDoorW.PrintMore Go.Proofs.YtbpdcbibooiimaaGreatDoor.K
set_option linter.unusedVariables false
set_option linter.unusedSimpArgs false

def orNo : Option Nat → Int
  | none => -1
  | some d => (d : Int)
theorem dIdx {x : Int} (h : 0 ≤ x ∧ x ≤ 255) : strings_IndexByte.f ⟨#[48, 49, 50, 51, 52, 53, 54, 55, 56, 57, 65, 66, 67, 68, 69, 70]⟩ x = some (orNo (hexV x)) := by
  obtain ⟨n, rfl⟩ := Int.eq_ofNat_of_zero_le h.1
  have hn : n < 256 := by omega
  have key : ∀ k : Fin 256, strings_IndexByte.f ⟨#[48, 49, 50, 51, 52, 53, 54, 55, 56, 57, 65, 66, 67, 68, 69, 70]⟩ (k.val : Int) = some (orNo (hexV (k.val : Int))) := by decide +kernel
  exact key ⟨n, hn⟩
theorem bits_or_i64_nat (a b : Nat) (ha : a < 9223372036854775808) (hb : b < 9223372036854775808) : bits .or .i64 (a : Int) (b : Int) = ((a ||| b : Nat) : Int) := by
  have hx : a ||| b < 2 ^ 63 := Nat.or_lt_two_pow (by omega) (by omega)
  have h1 : (BitVec.ofInt 64 (a : Int)).toNat = a := by
    rw [BitVec.ofInt_natCast, BitVec.toNat_ofNat]; exact Nat.mod_eq_of_lt (by omega)
  have h2 : (BitVec.ofInt 64 (b : Int)).toNat = b := by
    rw [BitVec.ofInt_natCast, BitVec.toNat_ofNat]; exact Nat.mod_eq_of_lt (by omega)
  show IntKind.i64.wrap ((BitVec.ofInt 64 (a : Int) ||| BitVec.ofInt 64 (b : Int)).toNat : Int) = _
  rw [BitVec.toNat_or, h1, h2]
  exact Go.IntWalk.i64_in _ (by omega)
theorem or_add (v d : Nat) (hd : d < 16) : (v * 16) ||| d = v * 16 + d := by
  have := Nat.two_pow_add_eq_or_of_lt (i := 4) (b := d) (by simpa using hd) v
  rw [Nat.mul_comm]
  exact this.symm
/-- What Point tells. -/
def pointR : Option Nat → Int × Int
  | none => (0, 13)
  | some v => ((v : Int), 0)
set_option maxHeartbeats 4000000 in
set_option maxRecDepth 100000 in
theorem field_Point.calls (L : List Int) (ho : Oct L) (hl : L.length ≤ 1000000) (w : World) (hE : EnvF w) :
    Calls Tryz.prog 79 #[.string (strOfNums L)] w fun e w' => e = .returned (.tuple #[.int .i64 (pointR (pointL L)).1, .int .i64 (pointR (pointL L)).2]) ∧ Below w.heap.size w w' := by
  have hz := size_str L
  obtain ⟨n, hn⟩ : ∃ n, n = L.length := ⟨_, rfl⟩
  rw [← hn] at hz
  obtain ⟨R, hR⟩ : ∃ R, R = pointL L := ⟨_, rfl⟩
  rw [← hR]
  rw [pointL_is] at hR
  have HO := Aside0.mk ho
  have HL := Aside0.mk hl
  have HE := Aside0.mk hE
  have HN := Aside0.mk hn
  by_cases h46 : L.length < 4 ∨ 6 < L.length
  · rw [if_pos h46] at hR
    subst hR
    have e0 : decide ((n : Int) < 4) = true ∨ (decide ((n : Int) < 4) = false ∧ decide ((6 : Int) < (n : Int)) = true) := by
      by_cases h4 : n < 4
      · exact .inl (decide_eq_true (by omega))
      · exact .inr ⟨decide_eq_false (by omega), decide_eq_true (by omega)⟩
    clear ho hl hE hn h46
    rcases e0 with e0 | ⟨e0, e1⟩
    · have e2 : ((n : Int) < 4) = True := eq_true (of_decide_eq_true e0)
      have e3 : (n < 4) = True := eq_true (by have := of_decide_eq_true e0; omega)
      go_enter Tryz.func79, Tryz.ntmps79
      go_wp2
      go_ret2
      exact ⟨rfl, Below.refl _ _⟩
    · have e2 : ((n : Int) < 4) = False := eq_false (of_decide_eq_false e0)
      have e3 : (n < 4) = False := eq_false (by have := of_decide_eq_false e0; omega)
      have e4 : ((6 : Int) < (n : Int)) = True := eq_true (of_decide_eq_true e1)
      have e5 : (6 < n) = True := eq_true (by have := of_decide_eq_true e1; omega)
      go_enter Tryz.func79, Tryz.ntmps79
      go_wp2
      go_ret2
      exact ⟨rfl, Below.refl _ _⟩
  · rw [if_neg h46] at hR
    have HR := Aside0.mk hR
    have HH := Aside0.mk h46
    have e0 : decide ((n : Int) < 4) = false := decide_eq_false (by omega)
    have e1 : decide ((6 : Int) < (n : Int)) = false := decide_eq_false (by omega)
    have e2 : ((n : Int) < 4) = False := eq_false (by omega)
    have e3 : (n < 4) = False := eq_false (by omega)
    have e4 : ((6 : Int) < (n : Int)) = False := eq_false (by omega)
    have e5 : (6 < n) = False := eq_false (by omega)
    clear ho hl hE hn h46 hR
    go_enter Tryz.func79, Tryz.ntmps79
    go_wp2
    clear e0 e1 e2 e3 e4 e5
    go_loopg [4, 17] (n + 1) (fun kq s4 s17 wr => ∃ i v : Nat, s17 = .int .i64 (i : Int) ∧ s4 = .int .i64 (v : Int) ∧ Aside0 (i + kq = n + 1 ∧ i ≤ n ∧ v < 16 ^ i ∧ valF 0 L = valF v (L.drop i)) ∧ Aside0 (Below w.heap.size w wr))
    case atStart => exact ⟨0, 0, rfl, rfl, ⟨by omega, by omega, by simp, by simp⟩, ⟨Below.refl _ _⟩⟩
    case round =>
      obtain ⟨i, v, rfl, rfl, HI, HB⟩ := hrel
      cases gk with
      | zero => exact absurd HI.out (by omega)
      | succ kq =>
      by_cases c1 : (i : Int) < (n : Int)
      · have hi : i < L.length := by have := HN.out; omega
        obtain ⟨x, hx⟩ : ∃ x, x = L[i] := ⟨_, rfl⟩
        have hox : 0 ≤ x ∧ x ≤ 255 := by rw [hx]; exact HO.out _ (List.getElem_mem hi)
        have hx12 : ∀ h : (i : Int).toNat < (strOfNums L).size, (((strOfNums L)[(i : Int).toNat]'h).toNat : Int) = x := fun h => by
          rw [bt_at (strOfNums L) (i : Int) h, bt_str HO.out (by omega) (by omega), rd_nat L i hi, hx]
        have hx13 : ∀ h : i < (strOfNums L).size, (((strOfNums L)[i]'h).toNat : Int) = x := fun h => hx12 h
        have e0 := eq_true c1
        have e1 : decide ((i : Int) < (n : Int)) = true := decide_eq_true c1
        have e2 : (i < n) = True := eq_true (by omega)
        have hstep : valF v (L.drop i) = (match hexV x with | none => none | some d => valF (v * 16 + d) (L.drop (i + 1))) := by
          rw [List.drop_eq_getElem_cons hi, hx]; rfl
        have HS := Aside0.mk hstep
        have HX := Aside0.mk hox
        have HV := Aside0.mk (dIdx hox)
        have hv6 : v < 16777216 := Nat.lt_of_lt_of_le HI.out.2.2.1 (Nat.pow_le_pow_right (n := 16) (by omega) (show i ≤ 6 by have := HH.out; have := HN.out; have := HI.out; omega))
        have HV6 := Aside0.mk hv6
        have HC1 := Aside0.mk hi
        clear c1 hi hx hox hstep hv6
        cases hv : hexV x with
        | none =>
          have HVN := Aside0.mk hv
          rw [hv] at HV
          have HV' : Aside0 (strings_IndexByte.f { data := #[48, 49, 50, 51, 52, 53, 54, 55, 56, 57, 65, 66, 67, 68, 69, 70] } x = some (-1)) := ⟨HV.out⟩
          have HRN : Aside0 (R = none) := ⟨by rw [HR.out, HI.out.2.2.2, HS.out, hv]; rfl⟩
          clear hv HV
          go_wp2_with (go_at_call 101; refine (strings_IndexByte.calls _ _ _ _ HV'.out).mono ?_; rintro e w2 ⟨rfl, ⟨m2, rfl⟩⟩)
          go_ret2
          rw [HRN.out]
          exact ⟨rfl, pw_below_drewN HB.out _⟩
        | some d =>
          have hd16 := hexV_lt hv
          rw [hv] at HV
          have HV' : Aside0 (strings_IndexByte.f { data := #[48, 49, 50, 51, 52, 53, 54, 55, 56, 57, 65, 66, 67, 68, 69, 70] } x = some (d : Int)) := ⟨HV.out⟩
          have HSN : Aside0 (valF v (L.drop i) = valF (v * 16 + d) (L.drop (i + 1))) := ⟨by rw [HS.out, hv]⟩
          have m1 : ((d : Int) < 0) = False := eq_false (by omega)
          have m2 : decide ((d : Int) < 0) = false := decide_eq_false (by omega)
          have hv6 := HV6.out
          have m3 : bits BinOp.or IntKind.i64 ((v : Int) * 16) (d : Int) = ((v * 16 + d : Nat) : Int) := by
            have := bits_or_i64_nat (v * 16) d (by omega) (by omega)
            rw [or_add v d hd16] at this
            rw [← this]; rfl
          have HD16 := Aside0.mk hd16
          have m4 : wrap64 ((v : Int) * 16) = (v : Int) * 16 := w64 (by omega) (by omega)
          have m5 : wrap64 ((i : Int) + 1) = (i : Int) + 1 := w64 (by omega) (by have := HI.out; have := HN.out; have := HH.out; omega)
          clear hv HV hd16 hv6
          go_wp2_with (go_at_call 101; refine (strings_IndexByte.calls _ _ _ _ HV'.out).mono ?_; rintro e w2 ⟨rfl, ⟨m2, rfl⟩⟩)
          go_roundg kq
          case measure => omega
          case rel =>
            have h1 := HI.out
            have h2 := HD16.out
            exact ⟨i + 1, v * 16 + d, by first | rfl | (rw [m5]; rfl), rfl, ⟨by omega, by have := HC1.out; have := HN.out; omega, by rw [Nat.pow_succ]; omega, by rw [h1.2.2.2]; exact HSN.out⟩, ⟨pw_below_drewN HB.out _⟩⟩
      · have hin : i = n := by have := HI.out; omega
        have e0 := eq_false c1
        have e1 : decide ((i : Int) < (n : Int)) = false := decide_eq_false c1
        have e2 : (i < n) = False := eq_false (by omega)
        have hRv : R = endP L (some v) := by
          rw [HR.out, HI.out.2.2.2, List.drop_eq_nil_iff.2 (by have := HN.out; omega)]; rfl
        by_cases c2 : 1114111 < v
        · have d0 : ((1114111 : Int) < (v : Int)) = True := eq_true (by omega)
          have d1 : decide ((1114111 : Int) < (v : Int)) = true := decide_eq_true (by omega)
          have d2 : (1114111 < v) = True := eq_true c2
          have HRN : Aside0 (R = none) := ⟨by rw [hRv]; unfold endP; simp only; rw [if_pos c2]⟩
          clear c1 hin hRv c2
          go_wp2
          go_ret2
          rw [HRN.out]
          exact ⟨rfl, HB.out⟩
        · have d0 : ((1114111 : Int) < (v : Int)) = False := eq_false (by omega)
          have d1 : decide ((1114111 : Int) < (v : Int)) = false := decide_eq_false (by omega)
          have d2 : (1114111 < v) = False := eq_false c2
          have HV := Aside0.mk (show v ≤ 1114111 by omega)
          have hEw : EnvF wr := HE.out.below HB.out
          have HEW := Aside0.mk hEw
          by_cases c3 : hexT v = L
          · have f2 : decide (strOfNums (hexT v) = strOfNums L) = true := decide_eq_true (by rw [c3])
            have f3 : ((strOfNums (hexT v)).toList == (strOfNums L).toList) = true := beq_iff_eq.mpr (by rw [c3])
            have f4 : ((strOfNums (hexT v)).toList != (strOfNums L).toList) = false := by rw [bne, f3]; rfl
            have HRN : Aside0 (R = some v) := ⟨by rw [hRv]; unfold endP; simp only; rw [if_neg c2, if_pos c3]⟩
            clear c1 hin hRv c2 hEw c3
            go_wp2_with (go_at_call 102; refine (text.calls v HV.out _ HEW.out).mono ?_; rintro e w2 ⟨rfl, hb⟩; have HB2 := Aside0.mk hb; clear hb)
            go_ret2
            rw [HRN.out]
            exact ⟨rfl, HB.out.trans (HB2.out.mono HB.out.size)⟩
          · have hne : strOfNums (hexT v) ≠ strOfNums L := fun e => c3 (str_inj (hexT_oct v HV.out) HO.out e)
            have hne2 : (strOfNums (hexT v)).toList ≠ (strOfNums L).toList := fun e => hne (toList_inj e)
            have f2 : decide (strOfNums (hexT v) = strOfNums L) = false := decide_eq_false hne
            have f3 : ((strOfNums (hexT v)).toList == (strOfNums L).toList) = false := beq_eq_false_iff_ne.mpr hne2
            have f4 : ((strOfNums (hexT v)).toList != (strOfNums L).toList) = true := by rw [bne, f3]; rfl
            have HRN : Aside0 (R = none) := ⟨by rw [hRv]; unfold endP; simp only; rw [if_neg c2, if_neg c3]⟩
            clear c1 hin hRv c2 hEw c3 hne hne2
            go_wp2_with (go_at_call 102; refine (text.calls v HV.out _ HEW.out).mono ?_; rintro e w2 ⟨rfl, hb⟩; have HB2 := Aside0.mk hb; clear hb)
            go_ret2
            rw [HRN.out]
            exact ⟨rfl, HB.out.trans (HB2.out.mono HB.out.size)⟩
end Go.Proofs.YtbpdcbibooiimaaGreatDoor.Q

-- from Hfsq
/- field.Sequence: the walk. -/
namespace Go.Proofs.YtbpdcbibooiimaaGreatDoor.Q
open Go.RowKit Go.Shelf Go.Proofs.YtbpdcbibooiimaaGreatDoorW.PrintWords Go.Proofs.YtbpdcbibooiimaaGreatDoorW.PrintLast Go.Proofs.YtbpdcbibooiimaaGreatDoorW.PrintMore Go.Proofs.YtbpdcbibooiimaaGreatDoor.K
set_option linter.unusedVariables false
set_option linter.unusedSimpArgs false
attribute [local go_sem] Oper.semAt_some

theorem rowQ_own {α : Type} {d : Kd α} {e B base : Nat} {T : Nat → Prop} {v : Value} {s : List α} : OwnFrom B (fun (_ : Unit) W => Kd.R d e W base T v s) := fun _ W W' row hs hg hr =>
  Kd.R_mono (Kd.R_grown (Kd.R_bound hs) hg (fun k hk e => by
    obtain ⟨_, o, ho, hc⟩ := hr k e.symm
    obtain ⟨_, _, _, q, _, cells, hcell⟩ := hk
    rw [hcell] at ho
    cases ho
    cases hc)) (fun k hk => hk.1)
theorem own_some {w : World} {base : Nat} {e : TypeId} {size n : Nat} {v : Value} {xs : List Value} (h : w.ownsRow base e size v (n + 1) xs) : ∃ A c, v = .slice A (n + 1) c := by
  rcases h.2 with ⟨_, h0⟩ | ⟨g, c, _, rfl, _⟩
  · omega
  · exact ⟨_, _, rfl⟩
theorem seqF_app : ∀ (pre rest : List (List Int)) (cs : List Nat) (acc : List Int), pre.map pointL = cs.map some → seqF (pre ++ rest) acc = seqF rest (acc ++ cs.map (fun (n : Nat) => (n : Int)))
  | [], rest, cs, acc, h => by
    cases cs with
    | nil => simp
    | cons c cs => simp at h
  | p :: pre, rest, cs, acc, h => by
    cases cs with
    | nil => simp at h
    | cons c cs =>
      simp only [List.map_cons, List.cons.injEq] at h
      have ih := seqF_app pre rest cs (acc ++ [(c : Int)]) h.2
      rw [List.cons_append]
      show (match pointL p with | none => _ | some c => _) = _
      rw [h.1]
      simp only
      rw [ih]
      simp
theorem seqF_bad (x : List Int) (rest : List (List Int)) (acc : List Int) (h : pointL x = none) : seqF (x :: rest) acc = ([], 13) := by
  show (match pointL x with | none => _ | some c => _) = _
  rw [h]
/-- The points so far. -/
def sqI (w : World) (pre : List (List Int)) (W : World) : Prop := ∃ (v : Value) (cs : List Nat), Boxed W (w.heap.size + 2) 39 v ∧ Kd.R (Kd.int .i64) 3 W (w.heap.size + 6) (fun _ => True) v (cs.map (fun (n : Nat) => (n : Int))) ∧ pre.map pointL = cs.map some ∧
  Boxed W w.heap.size 39 (.slice none 0 0) ∧ Boxed W (w.heap.size + 1) 27 (.int .i64 0) ∧ Below w.heap.size w W ∧ w.heap.size + 6 ≤ W.heap.size ∧ pre.length ≤ 1000001
def sqX (w : World) (c : Code) (pre : List (List Int)) (W : World) : Prop := c = .ret ∧ (∃ pre0 x cs, pre = pre0 ++ [x] ∧ pre0.map pointL = (cs : List Nat).map some ∧ pointL x = none) ∧
  Boxed W w.heap.size 39 (.slice none 0 0) ∧ Boxed W (w.heap.size + 1) 27 (.int .i64 13) ∧ Below w.heap.size w W ∧ w.heap.size + 6 ≤ W.heap.size
theorem sqI_own (w : World) : OwnFrom (w.heap.size + 6) (sqI w) := fun s W W' row hs hg hr => by
  obtain ⟨v, cs, h1, h2, h3, h4, h5, h6, h7, h8⟩ := hs
  exact ⟨v, cs, boxed_own (w.heap.size + 2) 39 (fun _ : Unit => v) () W W' row h1 hg (fun r e => (hr r e).2), rowQ_own (B := w.heap.size + 6) () W W' row h2 hg hr, h3,
    boxed_own w.heap.size 39 (fun _ : Unit => .slice none 0 0) () W W' row h4 hg (fun r e => (hr r e).2), boxed_own (w.heap.size + 1) 27 (fun _ : Unit => .int .i64 0) () W W' row h5 hg (fun r e => (hr r e).2),
    ownFrom_below (β := Unit) (Nat.le_refl _) (by omega : w.heap.size ≤ w.heap.size + 6) () W W' row h6 hg hr, Nat.le_trans h7 hg.size, h8⟩
theorem sqX_own (w : World) (c : Code) : OwnFrom (w.heap.size + 6) (sqX w c) := fun s W W' row hs hg hr => by
  obtain ⟨h0, h3, h4, h5, h6, h7⟩ := hs
  exact ⟨h0, h3, boxed_own w.heap.size 39 (fun _ : Unit => .slice none 0 0) () W W' row h4 hg (fun r e => (hr r e).2), boxed_own (w.heap.size + 1) 27 (fun _ : Unit => .int .i64 13) () W W' row h5 hg (fun r e => (hr r e).2),
    ownFrom_below (β := Unit) (Nat.le_refl _) (by omega : w.heap.size ≤ w.heap.size + 6) () W W' row h6 hg hr, Nat.le_trans h7 hg.size⟩
theorem rowI_set {W : World} {B b : Nat} {v u : Value} {l : List Int} (h : Kd.R (Kd.int .i64) 3 W B (fun _ => True) v l) (hb : b < B) : Kd.R (Kd.int .i64) 3 (W.setCell ⟨b, 0, none⟩ u) B (fun _ => True) v l := by
  have hown := Kd.own_of_R h
  exact Kd.R_of_own (own_setCell hown (fun e => by have := own_base hown _ e.symm; simp only at this; omega) u) (fun _ _ => trivial)
theorem sqI_blind (w : World) (s : List (List Int)) (V : World) (u : Value) (h : sqI w s V) : sqI w s (V.setCell ⟨w.heap.size + 3, 0, none⟩ u) := by
  obtain ⟨v, cs, h1, h2, h3, h4, h5, h6, h7, h8⟩ := h
  exact ⟨v, cs, boxed_set_o h1 (by omega), rowI_set h2 (by omega), h3, boxed_set_o h4 (by omega), boxed_set_o h5 (by omega), h6.setCell (p := ⟨w.heap.size + 3, 0, none⟩) (by simp) _, by simpa using h7, h8⟩
theorem sqX_blind (w : World) (c : Code) (s : List (List Int)) (V : World) (u : Value) (h : sqX w c s V) : sqX w c s (V.setCell ⟨w.heap.size + 3, 0, none⟩ u) := by
  obtain ⟨h0, h3, h4, h5, h6, h7⟩ := h
  exact ⟨h0, h3, boxed_set_o h4 (by omega), boxed_set_o h5 (by omega), h6.setCell (p := ⟨w.heap.size + 3, 0, none⟩) (by simp) _, by simpa using h7⟩
theorem keepsFrom_below3 {B : Nat} {V V' : World} (hb : Below V.heap.size V V') : KeepsFrom B V V' := ⟨hb.size, fun k o _ hk _ => (hb.block k (Array.getElem?_eq_some_iff.1 hk).1).trans hk⟩
theorem mark_end2 {w W : World} {D b1 b2 : Nat} {t1 t2 : TypeId} {v1 v2 : Value} (u1 u2 : Value) (hb : Below w.heap.size w W) (h1 : Boxed W b1 t1 v1) (h2 : Boxed W b2 t2 v2) (hne : b1 ≠ b2) (hD : W.heap[D]? = some (.deferred (some []))) (l1 : w.heap.size ≤ b1) (l2 : w.heap.size ≤ b2) (lD : w.heap.size ≤ D) :
    ((W.setCell ⟨b1, 0, none⟩ u1).setCell ⟨b2, 0, none⟩ u2).heap[D]? = some (.deferred (some [])) ∧ (∀ o, (((W.setCell ⟨b1, 0, none⟩ u1).setCell ⟨b2, 0, none⟩ u2).putObj D o).cell? ⟨b1, 0, none⟩ = some u1) ∧
      (∀ o, (((W.setCell ⟨b1, 0, none⟩ u1).setCell ⟨b2, 0, none⟩ u2).putObj D o).cell? ⟨b2, 0, none⟩ = some u2) ∧ (∀ o, Below w.heap.size w (((W.setCell ⟨b1, 0, none⟩ u1).setCell ⟨b2, 0, none⟩ u2).putObj D o)) := by
  have hn1 : D ≠ b1 := fun e => by subst e; rw [show W.heap[D]? = _ from h1] at hD; cases hD
  have hn2 : D ≠ b2 := fun e => by subst e; rw [show W.heap[D]? = _ from h2] at hD; cases hD
  have hB := (hb.setCell (p := ⟨b1, 0, none⟩) l1 u1).setCell (p := ⟨b2, 0, none⟩) l2 u2
  have x1 : Boxed ((W.setCell ⟨b1, 0, none⟩ u1).setCell ⟨b2, 0, none⟩ u2) b1 t1 u1 := boxed_set_o (Boxed.set u1 h1) hne
  have x2 : Boxed ((W.setCell ⟨b1, 0, none⟩ u1).setCell ⟨b2, 0, none⟩ u2) b2 t2 u2 := Boxed.set u2 (boxed_set_o h2 (Ne.symm hne))
  refine ⟨(Below.heap_setCell _ ⟨b2, 0, none⟩ u2 D hn2).trans ((Below.heap_setCell W ⟨b1, 0, none⟩ u1 D hn1).trans hD), fun o => ?_, fun o => ?_, fun o => hB.grown (grownBy_putObj' _ D o) hB.size (fun k e => by cases e; exact lD)⟩
  · have hs : Boxed (((W.setCell ⟨b1, 0, none⟩ u1).setCell ⟨b2, 0, none⟩ u2).putObj D o) b1 t1 u1 := (World.putObj_heap_other (Ne.symm hn1)).trans x1
    exact hs.cell
  · have hs : Boxed (((W.setCell ⟨b1, 0, none⟩ u1).setCell ⟨b2, 0, none⟩ u2).putObj D o) b2 t2 u2 := (World.putObj_heap_other (Ne.symm hn2)).trans x2
    exact hs.cell
theorem sq_bad {pre0 : List (List Int)} {x : List Int} {cs : List Nat} {L : List Int} (hne : L ≠ []) (hs : pre0 ++ [x] <+: spl 32 L) (hm : pre0.map pointL = cs.map some) (hx : pointL x = none) : seqL L = ([], 13) := by
  obtain ⟨r, hr⟩ := hs
  unfold seqL
  rw [if_neg hne, ← hr, List.append_assoc, seqF_app pre0 _ cs _ hm, List.singleton_append, seqF_bad _ _ _ hx]
theorem sq_good {cs : List Nat} {L : List Int} (hne : L ≠ []) (hm : (spl 32 L).map pointL = cs.map some) : seqL L = (cs.map (fun (n : Nat) => (n : Int)), 0) := by
  unfold seqL
  have := seqF_app (spl 32 L) [] cs [] hm
  rw [List.append_nil, List.nil_append] at this
  rw [if_neg hne, this]
  rfl
/-- One more point: the append, and the store. -/
theorem sqI_step {w W W9 : World} {pre : List (List Int)} {x : List Int} {v v9 : Value} {cs : List Nat} {c : Nat} (hp : pointL x = some c) (hO : Boxed W (w.heap.size + 2) 39 v) (hR : Kd.R (Kd.int .i64) 3 W (w.heap.size + 6) (fun _ => True) v (cs.map (fun (n : Nat) => (n : Int)))) (hm : pre.map pointL = cs.map some)
    (hr0 : Boxed W w.heap.size 39 (.slice none 0 0)) (hr1 : Boxed W (w.heap.size + 1) 27 (.int .i64 0)) (hb : Below w.heap.size w W) (hsz : w.heap.size + 6 ≤ W.heap.size) (hpl : (pre ++ [x]).length ≤ 1000001)
    (hg : W.grownBy W9 v.ownBlock) (hR9 : Kd.R (Kd.int .i64) 3 W9 (w.heap.size + 6) (fun _ => True) v9 ((cs ++ [c]).map (fun (n : Nat) => (n : Int)))) :
    KeepsFrom (w.heap.size + 6) W (W9.setCell ⟨w.heap.size + 2, 0, none⟩ v9) ∧ KeepC (fun k => k = w.heap.size + 2 ∨ w.heap.size + 6 ≤ k) W (W9.setCell ⟨w.heap.size + 2, 0, none⟩ v9) ∧ sqI w (pre ++ [x]) (W9.setCell ⟨w.heap.size + 2, 0, none⟩ v9) := by
  have hown := Kd.own_of_R hR
  have hrow : ∀ k, v.ownBlock = some k → w.heap.size + 6 ≤ k := fun k e => own_base hown k e
  have hne : ∀ j, j < w.heap.size + 6 → some j ≠ v.ownBlock := fun j hj e => by have := hrow _ e.symm; omega
  have k2 : KeepsOthers W W9 := KeepsOthers.of_grownBy hg (fun j ob hj hob => by
    obtain ⟨cells, hc⟩ := own_typed hown j hj
    rw [hc] at hob
    injection hob with hob
    rw [← hob]; rfl)
  refine ⟨(k2.trans (KeepsOthers.setCell _ _ _)).from _, ?_, v9, cs ++ [c], Boxed.set _ (hO.kept hg (hne _ (by omega))), rowI_set hR9 (by omega), ?_, boxed_set_o (hr0.kept hg (hne _ (by omega))) (by omega), boxed_set_o (hr1.kept hg (hne _ (by omega))) (by omega), ?_, ?_, hpl⟩
  · exact KeepC.trans (KeepC.grown hg (fun k e => .inr (hrow k e))) (KeepC.of_set (.inl rfl))
  · rw [List.map_append, List.map_append, hm]
    show _ ++ [pointL x] = _
    rw [hp]; rfl
  · exact (hb.grown hg (by omega) (fun k e => by have := hrow k e; omega)).setCell (p := ⟨w.heap.size + 2, 0, none⟩) (by simp) _
  · have := hg.size
    show _ ≤ (World.setCell _ _ _).heap.size
    simp; omega
set_option maxHeartbeats 4000000 in
set_option maxRecDepth 100000 in
theorem field_Sequence.main (L : List Int) (ho : Oct L) (hl : L.length ≤ 1000000) (hne : L ≠ []) (w : World) (hE : EnvF w) :
    Calls Tryz.prog 80 #[.string (strOfNums L)] w fun e w' => ∃ v, e = .returned (.tuple #[v, .int .i64 (seqL L).2]) ∧ Kd.R (Kd.int .i64) 3 w' w.heap.size (fun _ => True) v (seqL L).1 ∧ Below w.heap.size w w' := by
  have hb0 : Below w.heap.size w ((w.alloc (.cells #[.slice none 0 0] 39)).alloc (.cells #[.int .i64 0] 27)) := ((Below.refl _ w).alloc (Nat.le_refl _) _).alloc (by simp) _
  have hz : decide (strOfNums L = ByteArray.empty) = false := decide_eq_false (fun e => hne (by have := congrArg ByteArray.size e; rw [size_str] at this; exact List.length_eq_zero_iff.1 (by simpa using this)))
  have hz2 : ((strOfNums L).toList == ([] : List UInt8)) = false := beq_eq_false_iff_ne.mpr (fun e => hne (str_nilU.1 e))
  have hz3 : ((strOfNums L).toList = ([] : List UInt8)) = False := eq_false (fun e => hne (str_nilU.1 e))
  have HE := Aside0.mk hE
  have HO := Aside0.mk ho
  have HL := Aside0.mk hl
  have HNE := Aside0.mk hne
  obtain ⟨s, hs⟩ : ∃ s, s = strOfNums L := ⟨_, rfl⟩
  rw [← hs] at hz hz2 hz3 ⊢
  have HS := Aside0.mk hs
  clear hE ho hl hne hs hb0
  refine (callsIn_wide (n := 20)).1 ?_
  refine callsIn_of_wp_marks Tryz.func80 rfl trivial ?_ rfl
  simp only [Tryz.ntmps80, List.size_toArray, List.length_cons, List.length_nil, Nat.reduceAdd, Nat.reduceSub, Array.replicate_succ, Array.replicate_zero, List.push_toArray, List.append_toArray, List.nil_append, List.cons_append]
  refine wpIn_wide.2 ?_
  go_wp2_with (go_at_call 103; refine (SplitSeq.calls s ⟨#[32]⟩ _).mono ?_; rintro e w2 ⟨rfl, rfl⟩)
  have hst := splitSeq.stops L HO.out HL.out (w.heap.size + 3) ((((((w.alloc (.cells #[.slice none 0 0] 39)).alloc (.cells #[.int .i64 0] 27)).alloc (.cells #[.slice none 0 0] 39)).alloc (.cells #[.string s] 9)).alloc (.cells #[.string ⟨#[32]⟩] 9)).alloc (.cells #[.int .i64 0] 3))
    (fun k => k = w.heap.size + 2 ∨ w.heap.size + 6 ≤ k) (fun e => by omega) (fun e => by omega) (fun e => by omega)
    (by rw [← HS.out]; have := Boxed.new ((((w.alloc (.cells #[.slice none 0 0] 39)).alloc (.cells #[.int .i64 0] 27)).alloc (.cells #[.slice none 0 0] 39))) 9 (.string s); simp only [World.size_alloc] at this; exact (this.alloc _).alloc _)
    (by have := Boxed.new (((((w.alloc (.cells #[.slice none 0 0] 39)).alloc (.cells #[.int .i64 0] 27)).alloc (.cells #[.slice none 0 0] 39))).alloc (.cells #[.string s] 9)) 9 (.string ⟨#[32]⟩); simp only [World.size_alloc] at this; exact this.alloc _)
    (by have := Boxed.new ((((((w.alloc (.cells #[.slice none 0 0] 39)).alloc (.cells #[.int .i64 0] 27)).alloc (.cells #[.slice none 0 0] 39))).alloc (.cells #[.string s] 9)).alloc (.cells #[.string ⟨#[32]⟩] 9)) 3 (.int .i64 0); simp only [World.size_alloc] at this; exact this) 19 (by omega)
  have hb0 : Below w.heap.size w (w.alloc (.cells #[.slice none 0 0] 39)) := (Below.refl _ w).alloc (Nat.le_refl _) _
  have hI0 : sqI w [] ((((((w.alloc (.cells #[.slice none 0 0] 39)).alloc (.cells #[.int .i64 0] 27)).alloc (.cells #[.slice none 0 0] 39)).alloc (.cells #[.string s] 9)).alloc (.cells #[.string ⟨#[32]⟩] 9)).alloc (.cells #[.int .i64 0] 3)) := by
    have h2 := Boxed.new (((w.alloc (.cells #[.slice none 0 0] 39)).alloc (.cells #[.int .i64 0] 27))) 39 (.slice none 0 0)
    have h1 := Boxed.new (w.alloc (.cells #[.slice none 0 0] 39)) 27 (.int .i64 0)
    have h0 := Boxed.new w 39 (.slice none 0 0)
    simp only [World.size_alloc] at h1 h2
    exact ⟨_, [], ((h2.alloc _).alloc _).alloc _, Kd.R_nil _ _ _ _ _, rfl, ((((h0.alloc _).alloc _).alloc _).alloc _).alloc _, (((h1.alloc _).alloc _).alloc _).alloc _, ((((hb0.alloc (by simp only [World.size_alloc]; omega) _).alloc (by simp only [World.size_alloc]; omega) _).alloc (by simp only [World.size_alloc]; omega) _).alloc (by simp only [World.size_alloc]; omega) _).alloc (by simp only [World.size_alloc]; omega) _, by simp, by simp⟩
  have hsz : ((((((w.alloc (.cells #[.slice none 0 0] 39)).alloc (.cells #[.int .i64 0] 27)).alloc (.cells #[.slice none 0 0] 39)).alloc (.cells #[.string s] 9)).alloc (.cells #[.string ⟨#[32]⟩] 9)).alloc (.cells #[.int .i64 0] 3)).heap.size = w.heap.size + 6 := by simp
  generalize ((((((w.alloc (.cells #[.slice none 0 0] 39)).alloc (.cells #[.int .i64 0] 27)).alloc (.cells #[.slice none 0 0] 39)).alloc (.cells #[.string s] 9)).alloc (.cells #[.string ⟨#[32]⟩] 9)).alloc (.cells #[.int .i64 0] 3)) = w6 at *
  have HST := Aside0.mk hst
  have HI0 := Aside0.mk hI0
  have HSZ := Aside0.mk hsz
  clear hst hI0 hb0 hsz hz hz2 hz3

  refine (wpIn_wide (n := 20)).1 ?_
  refine wpIn_range_pb rfl (by omega) (gf := 155) (lb := #[.pointer (some ⟨w.heap.size + 3 + 1, 0, none⟩), .pointer (some ⟨w.heap.size + 3, 0, none⟩), .pointer (some ⟨w.heap.size + 3 + 2, 0, none⟩)]) rfl trivial (enters_of Tryz.func155 (by kernel_rfl) rfl)
    HST.out KeepC.trans keepC_put (Below.refl _ _) (fun _ => rfl)
    (sqI w) (sqX w) (HSZ.out ▸ sqI_own w) (fun c => HSZ.out ▸ sqX_own w c) HI0.out (by have := HSZ.out; omega) (sqI_blind w) (sqX_blind w)
    (fun pre x a1 W => a1 = { tmps := #[Value.string s, undef, Value.pointer (some ⟨w.heap.size, 0, none⟩), Value.pointer (some ⟨w.heap.size + 1, 0, none⟩), Value.pointer (some ⟨w.heap.size + 2, 0, none⟩), Value.string (strOfNums x), undef, undef, Value.string s, Value.bool false, Value.string s,
      Value.func (Fn.func 155) #[] #[.pointer (some ⟨w.heap.size + 3 + 1, 0, none⟩), .pointer (some ⟨w.heap.size + 3, 0, none⟩), .pointer (some ⟨w.heap.size + 3 + 2, 0, none⟩)], Value.string (strOfNums x), undef, undef, undef, undef, undef, undef, undef, undef, undef, undef, undef, undef, undef], defers := [] } ∧ sqI w pre W)
    (fun pre x a1 s W W' row hs hg hr => ⟨hs.1, (HSZ.out ▸ sqI_own w) pre W W' row hs.2 hg hr⟩) ?assign ?body ?done ?stop
  case assign =>
    rintro l' pre x W K hI - hK
    have HI := Aside0.mk hI
    have HK := Aside0.mk hK
    clear hI hK
    gi_wp2
    exact HK.out _ _ (KeepsFrom.refl _ _) (KeepC.refl _ _) ⟨rfl, HI.out⟩
  case body =>
    rintro l' pre x a1 W ⟨rfl, v, cs, hO, hR, hm, hr0, hr1, hb, hsz, hpl⟩ hsp
    have hx : x ∈ spl 32 L := by
      obtain ⟨r, hr⟩ := hsp
      rw [← hr]; simp
    have hpl2 : (pre ++ [x]).length ≤ 1000001 := by
      have h1 := hsp.length_le
      have h2 := splP_count (fun x => decide (x = (32 : Int))) L
      have h3 := HL.out
      unfold spl at h1
      omega
    have hox := oct_spl HO.out hx
    have hlx : x.length ≤ 1000000 := by have := len_spl hx; have := HL.out; omega
    obtain ⟨A5, c5, hv5⟩ := Kd.R_slice hR
    rw [List.length_map] at hv5
    subst hv5
    have HPT := Aside0.mk (fun w hE => field_Point.calls x hox hlx w hE)
    have HEW := Aside0.mk (HE.out.below hb)
    have hcO := hO.cell
    have hfO := hO.frozen
    have hc0 := hr0.cell
    have hf0 := hr0.frozen
    have hc1 := hr1.cell
    have hf1 := hr1.frozen
    have HO5 := Aside0.mk hO
    have HR5 := Aside0.mk hR
    have HM5 := Aside0.mk hm
    have HX0 := Aside0.mk hr0
    have HX1 := Aside0.mk hr1
    have HBB := Aside0.mk hb
    have HSS := Aside0.mk hsz
    have HPL := Aside0.mk hpl2
    obtain ⟨sx, hsx⟩ : ∃ s, s = strOfNums x := ⟨_, rfl⟩
    rw [← hsx] at HPT ⊢
    cases hp : pointL x with
    | none =>
      rw [hp] at HPT
      have HPN := Aside0.mk hp
      clear hO hR hm hr0 hr1 hb hsz hpl hpl2 hsp hx hox hlx hsx hp
      gi_wp2_with (refine ⟨trivial, ?_⟩; gi_at_call 79; refine (CallsIn.inRound l' (callsIn_wide.2 (HPT.out _ HEW.out))).mono ?_; rintro e w2 ⟨rfl, hb⟩; have HB := Aside0.mk hb; have HX0' : Aside0 (Boxed w2 w.heap.size 39 (.slice none 0 0)) := ⟨(hb.block _ HX0.out.lt).trans HX0.out⟩; have HX1' : Aside0 (Boxed w2 (w.heap.size + 1) 27 (.int .i64 0)) := ⟨(hb.block _ HX1.out.lt).trans HX1.out⟩; have hq0 := HX0'.out.cell; have hq1 := HX0'.out.frozen; have hq2 := HX1'.out.cell; have hq3 := HX1'.out.frozen; clear hb; dsimp only [pointR])
      refine ⟨((keepsFrom_below3 HB.out).trans ((KeepsOthers.setCell _ _ _).from _)).trans ((KeepsOthers.setCell _ _ _).from _), rfl, ⟨pre, x, cs, rfl, HM5.out, HPN.out⟩, ?_, ?_, ?_, ?_⟩
      · exact boxed_set_o (Boxed.set _ HX0'.out) (by omega)
      · exact Boxed.set _ (boxed_set_o HX1'.out (by omega))
      · exact ((HBB.out.trans (HB.out.mono HBB.out.size)).setCell (p := ⟨w.heap.size, 0, none⟩) (by simp) _).setCell (p := ⟨w.heap.size + 1, 0, none⟩) (by simp) _
      · have h1 := HB.out.size
        have h2 := HSS.out
        show _ ≤ (World.setCell (World.setCell _ _ _) _ _).heap.size
        simp; omega
    | some c =>
      rw [hp] at HPT
      have HPN := Aside0.mk hp
      obtain ⟨i0, hi0, hii⟩ := Option.map_eq_some_iff.1 info3
      simp only [Prod.mk.injEq] at hii
      clear hO hR hm hr0 hr1 hb hsz hpl hpl2 hsp hx hox hlx hsx hp
      gi_wp2_with (first
        | (refine ⟨trivial, ?_⟩; gi_at_call 79; refine (CallsIn.inRound l' (callsIn_wide.2 (HPT.out _ HEW.out))).mono ?_; rintro e w2 ⟨rfl, hb⟩
           have HB := Aside0.mk hb
           have HO2 : Aside0 (Boxed w2 (w.heap.size + 2) 39 (.slice A5 cs.length c5)) := ⟨(hb.block _ HO5.out.lt).trans HO5.out⟩
           have hq0 := HO2.out.cell
           have hq1 := HO2.out.frozen
           have HR2 : Aside0 (Kd.R (Kd.int .i64) 3 w2 (w.heap.size + 6) (fun _ => True) (.slice A5 cs.length c5) (cs.map (fun (n : Nat) => (n : Int)))) := ⟨Kd.R_below HR5.out hb⟩
           clear hb
           dsimp only [pointR])
        | (gi_at_builtin
           have hown := Kd.own_of_R HR2.out
           rw [List.length_map] at hown
           have hown1 : (w2.alloc (.cells #[.int .i64 (c : Int)] 3)).ownsRow (w.heap.size + 6) 3 1 (.slice A5 cs.length c5) cs.length (encs (Value.int .i64) (cs.map (fun (n : Nat) => (n : Int)))) := own_move hown (fun k hk => Below.heap_alloc w2 _ k (own_lt hown k hk))
           have hnc : ∀ j u, ([.int .i64 (c : Int)] : List Value)[j]? = some u → (w2.alloc (.cells #[.int .i64 (c : Int)] 3)).cell? ((⟨w2.heap.size, 0, none⟩ : Addr).add j) = some u := fun j u hj => by
             rw [Addr.add_lit]; simp only [World.cell?]; rw [World.alloc_heap_new]; simpa using hj
           have HOWN := Aside0.mk hown1
           have hlc : cs.length ≤ 1000001 := by
             have h1 := congrArg List.length HM5.out
             have h2 := HPL.out
             simp only [List.length_map, List.length_append, List.length_cons, List.length_nil] at h1 h2
             omega
           clear hown hown1
           refine wpListIn_append_own _ rfl _ _ 39 rfl (w.heap.size + 6) 3 i0 _ 1 8 Tryz.underlying39 hi0 hii.1 hii.2.1 hii.2.2 rfl (by omega) _ cs.length (encs (Value.int .i64) (cs.map (fun (n : Nat) => (n : Int)))) rfl HOWN.out ⟨w2.heap.size, 0, none⟩ 1 1 [.int .i64 (c : Int)] rfl rfl hnc (by simp [Value.oneCell']) (by simp only [maxLen]; omega) (by omega) (by simp; have := HSS.out; have := HB.out.size; omega) ?_
           intro v9 W9 ho9 hg9 _
           have hb9 := (HO2.out.alloc (.cells #[.int .i64 (c : Int)] 3)).kept hg9 (fun e => by have := own_base HOWN.out _ e.symm; omega)
           have hc9 := hb9.cell
           have hf9 := hb9.frozen
           obtain ⟨A7, c7, rfl⟩ := own_some ho9
           have HO9 := Aside0.mk ho9
           have HG9 := Aside0.mk hg9
           clear ho9 hg9 hb9 hcO hfO hnc hii hi0 hq0 hq1 hlc))
      have hg : W.grownBy W9 (Value.slice A5 cs.length c5).ownBlock := World.grownBy.trans (grown_of_below HB.out _) (World.grownBy.trans (World.grownBy_alloc w2 _ _) HG9.out)
      obtain ⟨z1, z2, z3⟩ := sqI_step HPN.out HO5.out HR5.out HM5.out HX0.out HX1.out HBB.out HSS.out HPL.out hg (Kd.R_of_own (by have := HO9.out; rw [List.length_map, List.length_append]; simpa [encs] using this) (fun _ _ => trivial))
      exact ⟨by rw [HSZ.out]; exact z1, z2, z3⟩
  case done =>
    rintro D ys W hD hys ⟨v, cs, hO, hR, hm, hr0, hr1, hb, hsz, hpl⟩ hK
    subst hys
    obtain ⟨A5, c5, hv5⟩ := Kd.R_slice hR
    rw [List.length_map] at hv5
    subst hv5
    have hsq := sq_good HNE.out hm
    have hcO := hO.cell
    have hc0 := hr0.cell
    have hf0 := hr0.frozen
    have hc1 := hr1.cell
    have hf1 := hr1.frozen
    have HR5 := Aside0.mk hR
    have HX0 := Aside0.mk hr0
    have HX1 := Aside0.mk hr1
    have HBB := Aside0.mk hb
    have HK := Aside0.mk hK
    have HSQ := Aside0.mk hsq
    have HD := Aside0.mk hD
    clear hO hR hm hr0 hr1 hb hsz hpl hK hsq hD
    go_wp2
    have hsz := HSZ.out
    have hd := HD.out
    obtain ⟨m1, m2, m3, m4⟩ := mark_end2 (.slice A5 cs.length c5) (.int .i64 0) HBB.out HX0.out HX1.out (by omega) HK.out (by omega) (by omega) (by omega)
    refine ⟨by simp, .inl ⟨_, _, rfl, run_takeDeferred m1, ?_⟩⟩
    refine ⟨.tuple #[.slice A5 cs.length c5, .int .i64 0], by simp [results, Tryz.results80, go_sem, m2, m3], .slice A5 cs.length c5, by rw [HSQ.out], ?_, m4 _⟩
    rw [HSQ.out]
    exact Kd.R_lower (rowQ_own (B := w.heap.size + 6) () _ _ (some D) (rowI_set (rowI_set HR5.out (by omega)) (by omega)) (grownBy_putObj' _ D _) (fun r e => by cases e; exact ⟨by omega, _, m1, rfl⟩)) (by omega)
  case stop =>
    rintro D c pre W hD hSp ⟨rfl, ⟨pre0, x, cs, rfl, hm, hx⟩, hr0, hr1, hb, hsz⟩ hK
    have hsq := sq_bad HNE.out hSp hm hx
    have hc0 := hr0.cell
    have hc1 := hr1.cell
    have HX0 := Aside0.mk hr0
    have HX1 := Aside0.mk hr1
    have HBB := Aside0.mk hb
    have HK := Aside0.mk hK
    have HSQ := Aside0.mk hsq
    have HD := Aside0.mk hD
    clear hSp hm hx hr0 hr1 hb hsz hK hsq hD
    refine wpIn_wide.2 ?_
    go_wp2
    have hsz := HSZ.out
    have hd := HD.out
    refine ⟨by simp, .inl ⟨_, _, rfl, run_takeDeferred HK.out, ?_⟩⟩
    have hD0 : w.heap.size ≠ D := by omega
    have hD1 : w.heap.size + 1 ≠ D := by omega
    have m2 : ∀ o, (W.putObj D o).cell? ⟨w.heap.size, 0, none⟩ = some (.slice none 0 0) := fun o => (show Boxed (W.putObj D o) w.heap.size _ _ from (World.putObj_heap_other hD0).trans HX0.out).cell
    have m3 : ∀ o, (W.putObj D o).cell? ⟨w.heap.size + 1, 0, none⟩ = some (.int .i64 13) := fun o => (show Boxed (W.putObj D o) (w.heap.size + 1) _ _ from (World.putObj_heap_other hD1).trans HX1.out).cell
    refine ⟨.tuple #[.slice none 0 0, .int .i64 13], by simp [results, Tryz.results80, go_sem, m2, m3], .slice none 0 0, by rw [HSQ.out], ?_, HBB.out.grown (grownBy_putObj' _ D _) HBB.out.size (fun k e => by cases e; omega)⟩
    rw [HSQ.out]
    exact Kd.R_nil _ _ _ _ _
theorem field_Sequence.calls (L : List Int) (ho : Oct L) (hl : L.length ≤ 1000000) (w : World) (hE : EnvF w) :
    Calls Tryz.prog 80 #[.string (strOfNums L)] w fun e w' => ∃ v, e = .returned (.tuple #[v, .int .i64 (seqL L).2]) ∧ Kd.R (Kd.int .i64) 3 w' w.heap.size (fun _ => True) v (seqL L).1 ∧ Below w.heap.size w w' := by
  by_cases hne : L = []
  · subst hne
    have HB0 := Aside0.mk (((Below.refl _ w).alloc (Nat.le_refl _) (.cells #[.slice none 0 0] 39)).alloc (by simp) (.cells #[.int .i64 0] 27))
    have hb1 := Boxed.new (w.alloc (.cells #[.slice none 0 0] 39)) 27 (.int .i64 0)
    rw [World.size_alloc] at hb1
    have HX0 := Aside0.mk ((Boxed.new w 39 (.slice none 0 0)).alloc (.cells #[.int .i64 0] 27))
    have HX1 := Aside0.mk hb1
    have hz : (strOfNums ([] : List Int)).toList.isEmpty = true := by rw [ba_toList]; rfl
    have hz2 : ((strOfNums ([] : List Int)).toList == ([] : List UInt8)) = true := by rw [ba_toList]; rfl
    clear hb1 ho hl hE
    go_enter Tryz.func80, Tryz.ntmps80
    go_wp2
    have x0 : Boxed _ w.heap.size 39 (.slice none 0 0) := boxed_set_o (b := w.heap.size + 1) (u := .int .i64 0) (Boxed.set (.slice none 0 0) HX0.out) (by omega)
    have x1 := Boxed.set (.int .i64 0) (boxed_set_o (b := w.heap.size) (u := .slice none 0 0) HX1.out (by omega))
    have y0 := x0.cell
    have y1 := x1.cell
    refine bodyPost_ret (v := .tuple #[.slice none 0 0, .int .i64 0]) (by simp [results, Tryz.results80, go_sem, y0, y1]) rfl ?_
    exact ⟨_, rfl, Kd.R_nil _ _ _ _ _, HB0.out⟩
  · exact field_Sequence.main L ho hl hne w hE
end Go.Proofs.YtbpdcbibooiimaaGreatDoor.Q

-- from Hcln
/- confus.line: the walk. -/
namespace Go.Proofs.YtbpdcbibooiimaaGreatDoor.Q
open Go.RowKit Go.Shelf Go.Proofs.YtbpdcbibooiimaaGreatDoorW.PrintWords Go.Proofs.YtbpdcbibooiimaaGreatDoorW.PrintLast Go.Proofs.YtbpdcbibooiimaaGreatDoorW.PrintMore Go.Proofs.YtbpdcbibooiimaaGreatDoor.K
set_option linter.unusedVariables false
set_option linter.unusedSimpArgs false

theorem seqF_err : ∀ (X : List (List Int)) (acc : List Int), (seqF X acc).2 ≠ 0 → (seqF X acc).1 = []
  | [], acc, h => absurd rfl h
  | p :: r, acc, h => by
    unfold seqF at h ⊢
    cases hp : pointL p with
    | none => rfl
    | some c => rw [hp] at h; exact seqF_err r _ h
theorem seqL_err {L : List Int} (h : (seqL L).2 ≠ 0) : (seqL L).1 = [] := by
  unfold seqL at h ⊢
  by_cases c : L = []
  · rw [if_pos c]
  · rw [if_neg c] at h ⊢; exact seqF_err _ _ h
/-- What a line answers. -/
def clQ (o : Sum Int (Int × List Int)) (c : Int) (l : List Int) (e : Int) : Prop := match o with
  | .inl er => e = er
  | .inr p => e = 0 ∧ c = p.1 ∧ l = p.2
set_option maxHeartbeats 4000000 in
set_option maxRecDepth 100000 in
theorem confus_line.few (n : Nat) (A : Option Addr) (k : Nat) (w : World) (hn : n ≠ 3) :
    Calls Tryz.prog 55 #[.slice A n k] w fun e w' => e = .returned (.tuple #[.int .i64 0, .slice none 0 0, .int .i64 12]) ∧ Below w.heap.size w w' := by
  have e0 : ((n : Int) == 3) = false := beq_eq_false_iff_ne.mpr (by omega)
  have e1 : ((n : Int) != 3) = true := bne_iff_ne.mpr (by omega)
  have e2 : (n == 3) = false := beq_eq_false_iff_ne.mpr hn
  clear hn
  go_enter Tryz.func55, Tryz.ntmps55
  go_wp2
  go_ret3
  exact ⟨rfl, Below.refl _ _⟩
set_option maxHeartbeats 4000000 in
set_option maxRecDepth 100000 in
theorem confus_line.nop (ad : Addr) (k : Nat) (w : World) (s : ByteArray) (a0 : Int) (h0 : w.cell? ad = some (.string s))
    (hP : Aside0 (Calls Tryz.prog 79 #[.string s] w fun e w2 => e = .returned (.tuple #[.int .i64 a0, .int .i64 13]) ∧ Below w.heap.size w w2)) :
    Calls Tryz.prog 55 #[.slice (some ad) 3 k] w fun e w' => e = .returned (.tuple #[.int .i64 0, .slice none 0 0, .int .i64 13]) ∧ Below w.heap.size w w' := by
  go_enter Tryz.func55, Tryz.ntmps55
  go_wp2_with (go_at_call 79; (with_reducible refine hP.out.mono ?_); rintro e w1 ⟨rfl, hb⟩; have HB := Aside0.mk hb; clear hb)
  go_ret3
  exact ⟨rfl, HB.out⟩
set_option maxHeartbeats 4000000 in
set_option maxRecDepth 100000 in
theorem confus_line.seq (ad : Addr) (k : Nat) (w : World) (s s1 : ByteArray) (c er : Int) (l : List Int) (he : er ≠ 0 → l = []) (h0 : w.cell? ad = some (.string s)) (h1 : w.cell? (ad.add 1) = some (.string s1)) (hl : l.length ≤ 1000000)
    (hP : Aside0 (Calls Tryz.prog 79 #[.string s] w fun e w2 => e = .returned (.tuple #[.int .i64 c, .int .i64 0]) ∧ Below w.heap.size w w2))
    (hS : Aside0 (∀ w', Below w.heap.size w w' → Calls Tryz.prog 80 #[.string s1] w' fun e w2 => ∃ v, e = .returned (.tuple #[v, .int .i64 er]) ∧ Kd.R (Kd.int .i64) 3 w2 w'.heap.size (fun _ => True) v l ∧ Below w'.heap.size w' w2)) :
    Calls Tryz.prog 55 #[.slice (some ad) 3 k] w fun e w' => ∃ v, e = .returned (.tuple #[.int .i64 c, v, .int .i64 (if er = 0 then (if l = [] then 16 else if 18 < l.length then 36 else 0) else er)]) ∧ Kd.R (Kd.int .i64) 3 w' w.heap.size (fun _ => True) v l ∧ Below w.heap.size w w' := by
  have H1 := Aside0.mk h1
  clear h1
  by_cases c0 : er = 0
  · subst c0
    rw [if_pos rfl]
    by_cases c1 : l = []
    · subst c1
      rw [if_pos rfl]
      clear he hl
      go_enter Tryz.func55, Tryz.ntmps55
      go_wp2_with (first
        | (go_at_call 79; (with_reducible refine hP.out.mono ?_); rintro e w1 ⟨rfl, hb⟩; have HB := Aside0.mk hb; have h1 := (hb.cell (World.block_lt_of_cell? w _ H1.out)).trans H1.out; simp only [Nat.reduceEqDiff, Go.Addr.add, ↓reduceIte] at h1; clear hb)
        | (go_at_call 80; (with_reducible refine (hS.out _ HB.out).mono ?_); rintro e w2 ⟨v, rfl, hR, hb⟩; obtain ⟨A5, c5, rfl⟩ := Kd.R_slice hR; have HR := Aside0.mk hR; have HB2 := Aside0.mk (HB.out.trans (hb.mono HB.out.size)); have HSZ := Aside0.mk HB.out.size; clear hb hR))
      go_ret3
      exact ⟨_, rfl, Kd.R_lower HR.out HSZ.out, HB2.out⟩
    · rw [if_neg c1]
      have hpos : 0 < l.length := List.length_pos_iff.2 c1
      have e0 : ((l.length : Int) == 0) = false := beq_eq_false_iff_ne.mpr (by omega)
      have e1 : (l.length == 0) = false := beq_eq_false_iff_ne.mpr (by omega)
      have e2 : (l.length = 0) = False := eq_false (by omega)
      have e2b : decide (l.length = 0) = false := decide_eq_false (by omega)
      by_cases c2 : 18 < l.length
      · rw [if_pos c2]
        have e3 : ((18 : Int) < (l.length : Int)) = True := eq_true (by omega)
        have e4 : decide ((18 : Int) < (l.length : Int)) = true := decide_eq_true (by omega)
        have e5 : decide (18 < l.length) = true := decide_eq_true c2
        clear he hl c1 c2 hpos
        go_enter Tryz.func55, Tryz.ntmps55
        go_wp2_with (first
          | (go_at_call 79; (with_reducible refine hP.out.mono ?_); rintro e w1 ⟨rfl, hb⟩; have HB := Aside0.mk hb; have h1 := (hb.cell (World.block_lt_of_cell? w _ H1.out)).trans H1.out; simp only [Nat.reduceEqDiff, Go.Addr.add, ↓reduceIte] at h1; clear hb)
          | (go_at_call 80; (with_reducible refine (hS.out _ HB.out).mono ?_); rintro e w2 ⟨v, rfl, hR, hb⟩; obtain ⟨A5, c5, rfl⟩ := Kd.R_slice hR; have HR := Aside0.mk hR; have HB2 := Aside0.mk (HB.out.trans (hb.mono HB.out.size)); have HSZ := Aside0.mk HB.out.size; clear hb hR))
        go_ret3
        exact ⟨_, rfl, Kd.R_lower HR.out HSZ.out, HB2.out⟩
      · rw [if_neg c2]
        have e3 : ((18 : Int) < (l.length : Int)) = False := eq_false (by omega)
        have e4 : decide ((18 : Int) < (l.length : Int)) = false := decide_eq_false (by omega)
        have e5 : decide (18 < l.length) = false := decide_eq_false c2
        clear he hl c1 c2 hpos
        go_enter Tryz.func55, Tryz.ntmps55
        go_wp2_with (first
          | (go_at_call 79; (with_reducible refine hP.out.mono ?_); rintro e w1 ⟨rfl, hb⟩; have HB := Aside0.mk hb; have h1 := (hb.cell (World.block_lt_of_cell? w _ H1.out)).trans H1.out; simp only [Nat.reduceEqDiff, Go.Addr.add, ↓reduceIte] at h1; clear hb)
          | (go_at_call 80; (with_reducible refine (hS.out _ HB.out).mono ?_); rintro e w2 ⟨v, rfl, hR, hb⟩; obtain ⟨A5, c5, rfl⟩ := Kd.R_slice hR; have HR := Aside0.mk hR; have HB2 := Aside0.mk (HB.out.trans (hb.mono HB.out.size)); have HSZ := Aside0.mk HB.out.size; clear hb hR))
        go_ret3
        exact ⟨_, rfl, Kd.R_lower HR.out HSZ.out, HB2.out⟩
  · rw [if_neg c0]
    obtain rfl := he c0
    have e0 : (er == 0) = false := beq_eq_false_iff_ne.mpr c0
    have e1 : (er != 0) = true := bne_iff_ne.mpr c0
    clear he hl c0
    go_enter Tryz.func55, Tryz.ntmps55
    go_wp2_with (first
      | (go_at_call 79; (with_reducible refine hP.out.mono ?_); rintro e w1 ⟨rfl, hb⟩; have HB := Aside0.mk hb; have h1 := (hb.cell (World.block_lt_of_cell? w _ H1.out)).trans H1.out; simp only [Nat.reduceEqDiff, Go.Addr.add, ↓reduceIte] at h1; clear hb)
      | (go_at_call 80; (with_reducible refine (hS.out _ HB.out).mono ?_); rintro e w2 ⟨v, rfl, hR, hb⟩; obtain ⟨A5, c5, rfl⟩ := Kd.R_slice hR; have HR := Aside0.mk hR; have HB2 := Aside0.mk (HB.out.trans (hb.mono HB.out.size)); have HSZ := Aside0.mk HB.out.size; clear hb hR))
    go_ret3
    exact ⟨_, rfl, Kd.R_lower HR.out HSZ.out, HB2.out⟩
theorem seqF_len : ∀ (X : List (List Int)) (acc : List Int), (seqF X acc).1.length ≤ acc.length + X.length
  | [], acc => Nat.le_refl _
  | p :: r, acc => by
    unfold seqF
    cases hp : pointL p with
    | none => simp
    | some c =>
      have := seqF_len r (acc ++ [(c : Int)])
      simp only [List.length_append, List.length_cons, List.length_nil] at this ⊢
      omega
theorem seqL_len (L : List Int) : (seqL L).1.length ≤ L.length + 1 := by
  unfold seqL
  by_cases c : L = []
  · rw [if_pos c]; simp
  · rw [if_neg c]
    have h1 := seqF_len (spl 32 L) []
    have h2 := splP_count (fun x => decide (x = (32 : Int))) L
    unfold spl at h1 ⊢
    simp only [List.length_nil] at h1
    omega
theorem pointL_le {L : List Int} {v : Nat} (h : pointL L = some v) : v ≤ 1114111 := by
  unfold pointL at h
  split at h
  · cases h
  · split at h
    · cases h
    · split at h
      · cases h
      · split at h
        · obtain rfl := Option.some.inj h
          omega
        · cases h
theorem confus_line.calls (f : List (List Int)) (A : Option Addr) (k : Nat) (w : World) (hE : EnvF w) (ho : ∀ l ∈ f, Oct l) (hl : ∀ l ∈ f, l.length ≤ 100000) (hr : Kd.C Kd.string w A f.length (f.map strOfNums)) :
    Calls Tryz.prog 55 #[.slice A f.length k] w fun e w' => ∃ v c l er, e = .returned (.tuple #[.int .i64 c, v, .int .i64 er]) ∧ (clQ (cfS f) c l er ∧ 0 ≤ c ∧ c ≤ 1114111) ∧ Kd.R (Kd.int .i64) 3 w' w.heap.size (fun _ => True) v l ∧ Below w.heap.size w w' := by
  by_cases h3 : f.length = 3
  · obtain ⟨a, b, d, rfl⟩ : ∃ a b d, f = [a, b, d] := by
      match f, h3 with
      | [a, b, d], _ => exact ⟨a, b, d, rfl⟩
    obtain ⟨ad, rfl, hc⟩ := strs_cell hr (by simp)
    have h0 : w.cell? ad = some (.string (strOfNums a)) := by have := hc 0 (by simp); rw [Addr.add_zero'] at this; exact this
    have h1 : w.cell? (ad.add 1) = some (.string (strOfNums b)) := hc 1 (by simp)
    have hP := field_Point.calls a (ho a (by simp)) (by have := hl a (by simp); omega) w hE
    have hS : ∀ w', Below w.heap.size w w' → _ := fun w' hb => field_Sequence.calls b (ho b (by simp)) (by have := hl b (by simp); omega) w' (hE.below hb)
    cases hp : pointL a with
    | none =>
      rw [hp] at hP
      refine (confus_line.nop ad k w _ _ h0 ⟨hP⟩).mono fun e w' ⟨he, hb⟩ => ⟨_, 0, [], 13, he, ⟨?_, by omega, by omega⟩, Kd.R_nil _ _ _ _ _, hb⟩
      unfold cfS clQ; simp only [hp]
    | some c =>
      rw [hp] at hP
      refine (confus_line.seq ad k w _ _ _ (seqL b).2 (seqL b).1 seqL_err h0 h1 (by have := seqL_len b; have := hl b (by simp); omega) ⟨hP⟩ ⟨hS⟩).mono fun e w' ⟨v, he, hR, hb⟩ => ⟨v, (c : Int), _, _, he, ⟨?_, by omega, by have := pointL_le hp; omega⟩, hR, hb⟩
      unfold cfS clQ
      simp only [hp]
      by_cases c0 : (seqL b).2 = 0
      · rw [if_pos c0, if_pos c0]
        by_cases c1 : (seqL b).1 = []
        · rw [if_pos c1, if_pos c1]
        · rw [if_neg c1, if_neg c1]
          by_cases c2 : 18 < (seqL b).1.length
          · rw [if_pos c2, if_pos c2]
          · rw [if_neg c2, if_neg c2]; exact ⟨rfl, rfl, rfl⟩
      · rw [if_neg c0, if_neg c0]
  · refine (confus_line.few f.length A k w h3).mono fun e w' ⟨he, hb⟩ => ⟨_, 0, [], 12, he, ⟨?_, by omega, by omega⟩, Kd.R_nil _ _ _ _ _, hb⟩
    have : cfS f = .inl 12 := by
      match f, h3 with
      | [], _ => rfl
      | [a], _ => rfl
      | [a, b], _ => rfl
      | [a, b, d], h => exact absurd rfl h
      | a :: b :: d :: g :: r, _ => rfl
    rw [this]; rfl
end Go.Proofs.YtbpdcbibooiimaaGreatDoor.Q

-- from Hcpr
/- confus.Parse: the walk. -/
namespace Go.Proofs.YtbpdcbibooiimaaGreatDoor.Q
open Go.RowKit Go.Shelf Go.Maps Go.Proofs.YtbpdcbibooiimaaGreatDoorW.PrintWords Go.Proofs.YtbpdcbibooiimaaGreatDoorW.PrintLast Go.Proofs.YtbpdcbibooiimaaGreatDoorW.PrintMore Go.Proofs.YtbpdcbibooiimaaGreatDoor.K
set_option linter.unusedVariables false
set_option linter.unusedSimpArgs false
attribute [local go_sem] Oper.semAt_some

/-- What the first result is. -/
def cpQ (o : Option (List (Int × List Int))) (W : World) (q : Option Addr) : Prop := match o with
  | none => q = none
  | some l => ∃ g b n, q = some ⟨g, 0, none⟩ ∧ Boxed W g 105 (.map (some b)) ∧ MapP W b n 0 l ∧ Rising l
/-- The table so far. -/
def cpI (w : World) (B : Nat) (X : List (Int × List (List Int))) (pre : List LItem) (W : World) : Prop :=
  ∃ (acc : List (Int × List Int)) (n : Nat), MapP W (w.heap.size + 1 + 1 + 1) n (w.heap.size + 6) acc ∧ (Rising acc ∧ n ≤ pre.length ∧ cfGo (X.drop pre.length) acc = cfGo X []) ∧
    Boxed W (w.heap.size + 1 + 1 + 1 + 1) 105 (.map (some (w.heap.size + 1 + 1 + 1))) ∧ Boxed W (w.heap.size + 1 + 1 + 1 + 1 + 1) 44 (.pointer (some ⟨w.heap.size + 1 + 1 + 1 + 1, 0, none⟩)) ∧
    Res3 44 w.heap.size W (.pointer none) (.int .i64 0) (.int .i64 0) ∧ Below w.heap.size w W ∧ B ≤ W.heap.size
/-- Where a line is wrong. -/
def cpX (w : World) (B : Nat) (X : List (Int × List (List Int))) (c : Code) (pre : List LItem) (W : World) : Prop :=
  c = .ret ∧ ∃ e l : Int, cfGo X [] = (none, e, l) ∧ Res3 44 w.heap.size W (.pointer none) (.int .i64 e) (.int .i64 l) ∧ Below w.heap.size w W ∧ B ≤ W.heap.size
theorem cpI_own (w : World) (B B' : Nat) (hB : w.heap.size + 6 ≤ B') (X : List (Int × List (List Int))) : OwnFrom B' (cpI w B X) := fun s W W' row hs hg hr => by
  obtain ⟨acc, n, h1, h2, h3, h4, h5, h6, h7⟩ := hs
  have hk : SameC W W' := SameC.of_grown hg (fun r e => (hr r e).2)
  exact ⟨acc, n, h1.sameC hg (fun e => by have := (hr _ e.symm).1; omega) hk, h2, boxed_sameC h3 hk, boxed_sameC h4 hk, h5.sameC hk, ownFrom_below (β := Unit) (Nat.le_refl _) (by omega : w.heap.size ≤ B') () W W' row h6 hg hr, Nat.le_trans h7 hg.size⟩
theorem cpX_own (w : World) (B B' : Nat) (hB : w.heap.size ≤ B') (X : List (Int × List (List Int))) (c : Code) : OwnFrom B' (cpX w B X c) := fun s W W' row hs hg hr => by
  obtain ⟨h0, e, l, h1, h4, h6, h7⟩ := hs
  have hk : SameC W W' := SameC.of_grown hg (fun r e => (hr r e).2)
  exact ⟨h0, e, l, h1, h4.sameC hk, ownFrom_below (β := Unit) (Nat.le_refl _) hB () W W' row h6 hg hr, Nat.le_trans h7 hg.size⟩
theorem zeroS (w : World) : (zeroValue 39).run Tryz.prog w = .ok (.slice none 0 0) w := by kernel_rfl
theorem keyI {c : Int} (h0 : 0 ≤ c) (h1 : c ≤ 1114111) : keyOf Tryz.prog 3 (.int .i64 c) = some (.int .i64 c) := keyOf_int_mk Tryz.underlying3 (WalkArith.wf_i64 (by omega))
theorem cfGo_err1 {X : List (Int × List (List Int))} {x : Int × List (List Int)} {acc : List (Int × List Int)} {e : Int} (h : cfS x.2 = .inl e) : cfGo (x :: X) acc = (none, e, x.1) := by
  unfold cfGo; rw [h]
theorem cfGo_twice1 {X : List (Int × List (List Int))} {x : Int × List (List Int)} {acc : List (Int × List Int)} {p : Int × List Int} (h : cfS x.2 = .inr p) (ha : acc.any (fun q => decide (q.1 = p.1)) = true) : cfGo (x :: X) acc = (none, 15, x.1) := by
  unfold cfGo; rw [h]; simp only; rw [if_pos ha]
theorem cfGo_add1 {X : List (Int × List (List Int))} {x : Int × List (List Int)} {acc : List (Int × List Int)} {p : Int × List Int} (h : cfS x.2 = .inr p) (ha : acc.any (fun q => decide (q.1 = p.1)) = false) : cfGo (x :: X) acc = cfGo X (insP p acc) := by
  conv => lhs; unfold cfGo
  rw [h]; simp only; rw [if_neg (by rw [ha]; decide)]
set_option maxHeartbeats 8000000 in
set_option maxRecDepth 100000 in
theorem confus_Parse.main (A : Option Addr) (c : Nat) (L : List Int) (ho : Oct L) (hl : L.length ≤ 50000) (w : World) (hE : EnvF w) (hr : Kd.C (Kd.int .u8) w A L.length L) (hc : L.length ≤ c) :
    Calls Tryz.prog 24 #[.slice A L.length c] w fun e w' => Below w.heap.size w w' ∧ ∃ q, e = .returned (.tuple #[.pointer q, .int .i64 (cfGo (linesI 0 (spl 10 L)) []).2.1, .int .i64 (cfGo (linesI 0 (spl 10 L)) []).2.2]) ∧
      cpQ (cfGo (linesI 0 (spl 10 L)) []).1 w' q := by
  obtain ⟨X, hX⟩ : ∃ X, X = linesI 0 (spl 10 L) := ⟨_, rfl⟩
  rw [← hX]
  have hXn : X.length ≤ 50001 := by
    rw [hX]
    have h1 := linesI_len (spl 10 L) 0
    have h2 := splP_count (fun x => decide (x = (10 : Int))) L
    unfold spl at h1 ⊢; omega
  have hXo : ∀ p ∈ X, ∀ q ∈ p.2, Oct q ∧ q.length ≤ 50000 := by
    rw [hX]
    exact linesI_oct _ 0 (fun l hl2 => ⟨oct_spl ho hl2, by have := len_spl hl2; omega⟩)
  have hXf : ∀ p ∈ X, p.2.length ≤ 50001 := by
    rw [hX]
    exact linesI_fl _ 0 50000 (fun l hl2 => by have := len_spl hl2; omega)
  obtain ⟨w6, hw6⟩ : ∃ w6, w6 = (((((w.alloc (.cells #[.pointer none] 44)).alloc (.cells #[.int .i64 0] 27)).alloc (.cells #[.int .i64 0] 3)).alloc (.map #[] 0)).alloc (.cells #[.map (some (w.heap.size + 1 + 1 + 1))] 105)).alloc (.cells #[.pointer (some ⟨w.heap.size + 1 + 1 + 1 + 1, 0, none⟩)] 44) := ⟨_, rfl⟩
  have hsz6 : w6.heap.size = w.heap.size + 6 := by rw [hw6]; simp
  have hb6 : Below w.heap.size w w6 := by
    rw [hw6]
    exact ((((((Below.refl _ w).alloc (Nat.le_refl _) _).alloc (by simp only [World.size_alloc]; omega) _).alloc (by simp only [World.size_alloc]; omega) _).alloc (by simp only [World.size_alloc]; omega) _).alloc (by simp only [World.size_alloc]; omega) _).alloc (by simp only [World.size_alloc]; omega) _
  have hx0 : Boxed w6 w.heap.size 44 (.pointer none) := by rw [hw6]; exact (((((Boxed.new w _ _).alloc _).alloc _).alloc _).alloc _).alloc _
  have hx1 : Boxed w6 (w.heap.size + 1) 27 (.int .i64 0) := by
    have := Boxed.new (w.alloc (.cells #[.pointer none] 44)) 27 (.int .i64 0)
    simp only [World.size_alloc] at this
    rw [hw6]; exact (((this.alloc _).alloc _).alloc _).alloc _
  have hx2 : Boxed w6 (w.heap.size + 1 + 1) 3 (.int .i64 0) := by
    have := Boxed.new ((w.alloc (.cells #[.pointer none] 44)).alloc (.cells #[.int .i64 0] 27)) 3 (.int .i64 0)
    simp only [World.size_alloc] at this
    rw [hw6]; exact ((this.alloc _).alloc _).alloc _
  have hm3 : MapP w6 (w.heap.size + 1 + 1 + 1) 0 (w.heap.size + 6) [] := by
    have := MapP.made (((w.alloc (.cells #[.pointer none] 44)).alloc (.cells #[.int .i64 0] 27)).alloc (.cells #[.int .i64 0] 3)) (w.heap.size + 6)
    simp only [World.size_alloc] at this
    rw [hw6]
    exact (this.sameC (World.grownBy_alloc _ _ none) (by simp) (SameC.of_below ((Below.refl _ _).alloc (Nat.le_refl _) _))).sameC (World.grownBy_alloc _ _ none) (by simp) (SameC.of_below ((Below.refl _ _).alloc (Nat.le_refl _) _))
  have hx4 : Boxed w6 (w.heap.size + 1 + 1 + 1 + 1) 105 (.map (some (w.heap.size + 1 + 1 + 1))) := by
    have := Boxed.new ((((w.alloc (.cells #[.pointer none] 44)).alloc (.cells #[.int .i64 0] 27)).alloc (.cells #[.int .i64 0] 3)).alloc (.map #[] 0)) 105 (.map (some (w.heap.size + 1 + 1 + 1)))
    simp only [World.size_alloc] at this
    rw [hw6]; exact this.alloc _
  have hx5 : Boxed w6 (w.heap.size + 1 + 1 + 1 + 1 + 1) 44 (.pointer (some ⟨w.heap.size + 1 + 1 + 1 + 1, 0, none⟩)) := by
    have := Boxed.new (((((w.alloc (.cells #[.pointer none] 44)).alloc (.cells #[.int .i64 0] 27)).alloc (.cells #[.int .i64 0] 3)).alloc (.map #[] 0)).alloc (.cells #[.map (some (w.heap.size + 1 + 1 + 1))] 105)) 44 (.pointer (some ⟨w.heap.size + 1 + 1 + 1 + 1, 0, none⟩))
    simp only [World.size_alloc] at this
    rw [hw6]; exact this
  have HI6 := Aside0.mk (And.intro hm3 (And.intro hx4 (And.intro hx5 (Res3.mk hx0 hx1 hx2))))
  have HB6 := Aside0.mk hb6
  have HS6 := Aside0.mk hsz6
  have HW6 := Aside0.mk hw6
  have HX := Aside0.mk hX
  have HXN := Aside0.mk hXn
  have HXO := Aside0.mk hXo
  have HXF := Aside0.mk hXf
  have HO := Aside0.mk ho
  have HL := Aside0.mk hl
  have HE := Aside0.mk hE
  have HR := Aside0.mk hr
  have HC := Aside0.mk hc
  have hmm := @run_makeMap Tryz.prog
  clear hw6 ho hl hE hr hc hX hXn hXo hXf hsz6 hb6 hx0 hx1 hx2 hm3 hx4 hx5
  refine (callsIn_wide (n := 20)).1 ?_
  refine callsIn_of_wp_marks Tryz.func24 rfl trivial ?_ rfl
  simp only [Tryz.ntmps24, List.size_toArray, List.length_cons, List.length_nil, Nat.reduceAdd, Nat.reduceSub, Array.replicate_succ, Array.replicate_zero, List.push_toArray, List.append_toArray, List.nil_append, List.cons_append]
  refine wpIn_wide.2 ?_
  go_wp2_with (go_at_call 44
               rw [← HW6.out]
               refine (field_Lines.calls A c L HO.out (by have := HL.out; omega) w6 (HE.out.below HB6.out) (Kd.C_below HR.out HB6.out) HC.out).mono ?_
               rintro e w7 ⟨g, gb, rfl, hg0, hgb0, hg, hgb, hb7⟩
               have HG := Aside0.mk (And.intro hg0 hgb0)
               have HGL := Aside0.mk hg
               have HGB := Aside0.mk hgb
               have HB7 := Aside0.mk hb7
               clear hg0 hgb0 hg hgb hb7)
  have h2 := HS6.out
  have h3 := HB7.out.size
  have hb7w : Below w.heap.size w w7 := HB6.out.trans (HB7.out.mono HB6.out.size)
  have hst := field_Lines.stops L HO.out (by have := HL.out; omega) g gb w7 (fun k => False) (HE.out.below hb7w) (fun e => e) (fun e => e) (fun e => e) HGL.out HGB.out 19 (by omega)
  rw [← HX.out] at hst
  have hk67 : SameC w6 w7 := SameC.of_below HB7.out
  have hI0 : cpI w w7.heap.size X [] w7 := ⟨[], 0, MapP.below HI6.out.1 HB7.out, ⟨List.Pairwise.nil, Nat.le_refl _, rfl⟩, boxed_sameC HI6.out.2.1 hk67, boxed_sameC HI6.out.2.2.1 hk67, HI6.out.2.2.2.sameC hk67, hb7w, Nat.le_refl _⟩
  have HST := Aside0.mk hst
  have HI0 := Aside0.mk hI0
  have HSZ : Aside0 (w.heap.size + 6 ≤ w7.heap.size) := ⟨by omega⟩
  clear hst hI0 h2 h3 hb7w hk67 HGL HGB
  refine (wpIn_wide (n := 20)).1 ?_
  refine wpIn_range_as rfl (by omega) (gf := 69) (lb := #[.pointer (some ⟨gb, 0, none⟩)]) rfl trivial (enters_of Tryz.func69 (by kernel_rfl) rfl)
    HST.out KeepC.trans keepC_put (Below.refl _ _) (fun _ => rfl)
    (cpI w w7.heap.size X) (cpX w w7.heap.size X) (cpI_own w _ _ HSZ.out _) (fun c => cpX_own w _ _ (by have := HSZ.out; omega) _ c) HI0.out
    (fun pre x a1 W => (∃ vb, a1 = { tmps := #[Value.slice A L.length c, undef, Value.pointer (some ⟨w.heap.size, 0, none⟩), Value.pointer (some ⟨w.heap.size + 1, 0, none⟩), Value.pointer (some ⟨w.heap.size + 1 + 1, 0, none⟩), Value.pointer (some ⟨w.heap.size + 1 + 1 + 1 + 1 + 1, 0, none⟩), Value.pointer (some ⟨vb, 0, none⟩), undef, undef, undef, undef, undef, Value.map (some (w.heap.size + 1 + 1 + 1)), Value.agg #[Value.map (some (w.heap.size + 1 + 1 + 1))], Value.pointer (some ⟨w.heap.size + 1 + 1 + 1 + 1, 0, none⟩), Value.slice A L.length c, Value.func (Fn.func 69) #[] #[Value.pointer (some ⟨gb, 0, none⟩)], Value.agg #[Value.int IntKind.i64 x.1, Value.slice (some ⟨x.2.1, 0, none⟩) x.2.2.length x.2.2.length], undef, undef, undef, undef, undef, undef, undef, undef, undef, undef, undef, undef, undef, undef, undef, undef, undef, undef, undef, undef, undef, undef, undef, undef, undef, undef, undef, undef, undef, undef, undef, undef, undef], defers := [] } ∧ w7.heap.size ≤ vb ∧ W.heap[vb]? = some (.cells #[.int .i64 x.1, .slice (some ⟨x.2.1, 0, none⟩) x.2.2.length x.2.2.length] 81 (0, 0))) ∧ LItem.at_ x W ∧ cpI w w7.heap.size X pre W)
    (fun pre x a1 s W W' row hs hg hr => by
      obtain ⟨⟨vb, h1, h2, h3⟩, h4, h5⟩ := hs
      have hk : SameC W W' := SameC.of_grown hg (fun r e => (hr r e).2)
      exact ⟨⟨vb, h1, h2, hk _ _ h3 rfl⟩, hk _ _ h4 rfl, cpI_own w _ _ HSZ.out _ pre W W' row h5 hg hr⟩) ?assign ?body ?done ?stop
  case assign =>
    rintro l pre x W K hI hat hK
    have HI := Aside0.mk hI
    have HK := Aside0.mk hK
    have HAT := Aside0.mk hat
    clear hI hK hat
    simp only [LItem.enc]
    gi_wp2
    have hS : w7.heap.size ≤ W.heap.size := by obtain ⟨_, _, _, _, _, _, _, _, h⟩ := HI.out; exact h
    have hk : SameC W (W.alloc (.cells #[.int .i64 x.1, .slice (some ⟨x.2.1, 0, none⟩) x.2.2.length x.2.2.length] 81)) := SameC.of_below ((Below.refl _ W).alloc (Nat.le_refl _) _)
    refine HK.out _ _ ((KeepsOthers.alloc W _).from _) (KeepC.of_below ((Below.refl _ W).alloc (Nat.le_refl _) _)) ⟨⟨W.heap.size, rfl, hS, heap_alloc_new W _⟩, hk _ _ HAT.out rfl, cpI_own w _ _ HSZ.out _ pre W _ none HI.out (World.grownBy_alloc W _ none) (fun r e => by cases e)⟩
  case body =>
    rintro l' pre x a1 W ⟨⟨vb, rfl, hvl, hvb⟩, hat, acc, n, hMP, ⟨hOK, hnl, hgo⟩, hT4, hT5, hRes, hB, hSW⟩ hsp
    have hlen : pre.length < X.length := by have := hsp.length_le; simp at this; omega
    have hx : X[pre.length]? = some (LItem.pr x) := by
      obtain ⟨t, ht⟩ := hsp
      rw [← ht, List.map_append, List.append_assoc, List.getElem?_append_right (by simp)]; simp
    obtain ⟨x1, xg, xf⟩ := x
    have hx : X[pre.length]? = some (x1, xf) := hx
    have hdrop : X.drop pre.length = (x1, xf) :: X.drop (pre.length + 1) := by
      rw [List.drop_eq_getElem_cons hlen]
      rw [List.getElem?_eq_getElem hlen] at hx
      rw [Option.some.inj hx]
    have hmem : (x1, xf) ∈ X := List.mem_of_getElem? hx
    rw [hdrop] at hgo
    have hfo := HXO.out _ hmem
    have hfl := HXF.out _ hmem
    simp only at hfo hfl
    have hx0 : W.cell? ⟨vb, 0, none⟩ = some (.int .i64 x1) := by simp only [World.cell?]; rw [hvb]; rfl
    have hx1 : W.cell? ⟨vb, 1, none⟩ = some (.slice (some ⟨xg, 0, none⟩) xf.length xf.length) := by simp only [World.cell?]; rw [hvb]; rfl
    have hcl := confus_line.calls xf (some ⟨xg, 0, none⟩) xf.length W (HE.out.below hB) (fun q hq => (hfo q hq).1) (fun q hq => by have := (hfo q hq).2; omega) (strs_row hat (by omega))
    have HMP := Aside0.mk hMP
    have HOK := Aside0.mk hOK
    have HNL : Aside0 (n ≤ pre.length ∧ pre.length < X.length) := ⟨hnl, hlen⟩
    have HGO := Aside0.mk hgo
    have HRES := Aside0.mk hRes
    have HT4 := Aside0.mk hT4
    have HT5 := Aside0.mk hT5
    have HB := Aside0.mk hB
    have HSW := Aside0.mk hSW
    have HVL := Aside0.mk hvl
    cases hcf : cfS xf with
    | inl er =>
      have her := cfS_err hcf
      have hcl2 : Calls Tryz.prog 55 #[.slice (some ⟨xg, 0, none⟩) xf.length xf.length] W fun e w' => ∃ v c l, e = .returned (.tuple #[.int .i64 c, v, .int .i64 er]) ∧ (0 ≤ c ∧ c ≤ 1114111) ∧ Kd.R (Kd.int .i64) 3 w' W.heap.size (fun _ => True) v l ∧ Below W.heap.size W w' :=
        hcl.mono fun e w' ⟨v, c, l, e2, h1, ⟨h2, h3⟩, h4, h5⟩ => ⟨v, c, l, by rw [hcf] at h2; have : e2 = er := h2; rw [← this]; exact h1, h3, h4, h5⟩
      have HCL := Aside0.mk hcl2
      have f0 : (er == 0) = false := beq_eq_false_iff_ne.mpr her
      have f1 : (er != 0) = true := bne_iff_ne.mpr her
      have HCF := Aside0.mk hcf
      clear hvl hvb hat hMP hOK hnl hgo hT4 hT5 hRes hB hSW hsp hlen hx hdrop hmem hfo hfl hcl hcl2 hcf her HST HI0
      gi_wp2_with (first
        | (refine ⟨trivial, ?_⟩; gi_at_call 55; refine (CallsIn.inRound l' (callsIn_wide.2 HCL.out)).mono ?_; rintro e w1 ⟨v, c0, l0, rfl, hcb, hR, hb⟩
           obtain ⟨A5, c5, rfl⟩ := Kd.R_slice hR
           have HCB := Aside0.mk hcb
           have HRV := Aside0.mk hR
           have HB1 := Aside0.mk hb
           have hk1 := SameC.of_below hb
           have q5 := (boxed_sameC HT5.out hk1).cell
           have q4 := (boxed_sameC HT4.out hk1).cell
           have q9 := hk1.cell hx0
           have HVC := Aside0.mk q9
           have hr1 := HRES.out.sameC hk1
           have HR1 := Aside0.mk hr1
           obtain ⟨D, hown, hsz, hhas, hatk⟩ := MapP.below HMP.out hb
           have HOWN := Aside0.mk hown
           have HD := Aside0.mk (And.intro hsz (And.intro hhas hatk))
           clear hcb hR hb hk1 hr1 hown hsz hhas hatk)
        | (gi_at_lookup; refine wpListIn_lookup_own_ok _ rfl _ _ 103 rfl 3 39 lawI Tryz.underlying103 rdV (zeroS _) (.held (.slice none 0 0)) [] rfl (w.heap.size + 1 + 1 + 1) n D rfl HOWN.out _ _ rfl (keyI HCB.out.1 HCB.out.2) ?_; intro v9 ps9 hv9))
      clear hx0 hx1 q4 q5 q9
      have bx0 : Boxed (w1).drew w.heap.size 44 (.pointer none) := HR1.out.r0
      have bx1 : Boxed (((w1).setCell ⟨w.heap.size, 0, none⟩ (.pointer none))).drew (w.heap.size + 1) 27 (.int .i64 0) := boxed_setZ HR1.out.r1 (by omega)
      have bx2 : Boxed ((((w1).setCell ⟨w.heap.size, 0, none⟩ (.pointer none)).setCell ⟨w.heap.size + 1, 0, none⟩ (.int .i64 er))).drew (w.heap.size + 1 + 1) 3 (.int .i64 0) := boxed_setZ (boxed_setZ HR1.out.r2 (by omega)) (by omega)
      have g0 := bx0.cell
      have g1 := bx0.frozen
      have g2 := bx1.cell
      have g3 := bx1.frozen
      have g4 := bx2.cell
      have g5' := bx2.frozen
      clear bx0 bx1 bx2
      have hn0 : ∀ (V : World) (b : Nat) (u : Value) (p : Addr), p.block ≠ b → (V.setCell ⟨b, 0, none⟩ u).cell? p = V.cell? p := fun V b u p h => World.cell?_of_block (Below.heap_setCell V ⟨b, 0, none⟩ u p.block h)
      have hvbn : w.heap.size + 4 ≤ vb := by have := HVL.out; have := HSZ.out; omega
      have hS : (fun w' : World => w'.cell? ⟨vb, 0, none⟩ = some (.int .i64 x1)) (w1).drew := HVC.out
      have hS1 : (fun w' : World => w'.cell? ⟨vb, 0, none⟩ = some (.int .i64 x1)) (((w1).setCell ⟨w.heap.size, 0, none⟩ (.pointer none))).drew := (hn0 _ _ _ _ (by show vb ≠ _; omega)).trans hS
      have hS2 : (fun w' : World => w'.cell? ⟨vb, 0, none⟩ = some (.int .i64 x1)) ((((w1).setCell ⟨w.heap.size, 0, none⟩ (.pointer none)).setCell ⟨w.heap.size + 1, 0, none⟩ (.int .i64 er))).drew := (hn0 _ _ _ _ (by show vb ≠ _; omega)).trans hS1
      have hS3 : (fun w' : World => w'.cell? ⟨vb, 0, none⟩ = some (.int .i64 x1)) (((((w1).setCell ⟨w.heap.size, 0, none⟩ (.pointer none)).setCell ⟨w.heap.size + 1, 0, none⟩ (.int .i64 er)).setCell ⟨w.heap.size + 1 + 1, 0, none⟩ (.int .i64 x1))).drew := (hn0 _ _ _ _ (by show vb ≠ _; omega)).trans hS2
      clear hn0 hvbn
      refine wpIn_region_round_held (fun w' : World => w'.cell? ⟨vb, 0, none⟩ = some (.int .i64 x1)) (by kernel_rfl) (by kernel_rfl) ?_
      show wpAnyH _ _ _ _ _ _ _ _ (w1).drew
      refine wpAnyH_take (i := 0) (v := .int .i64 er) rfl (by kernel_rfl) (by kernel_rfl) (by kernel_rfl) (fun _ _ _ h => h) (.inl ⟨by kernel_rfl, fun w' hS => by have q_1 := hS; first | (go_simp; done) | (go_simp; simp [*]; done)⟩) hS ?_
      try simp only [List.getElem_toArray, List.getElem_cons_succ, List.getElem_cons_zero, Act.put, List.setIfInBounds_toArray, List.set_cons_zero, List.set_cons_succ]
      refine wpAnyH_take (i := 1) (v := .pointer (some ⟨vb, 0, none⟩)) rfl (by kernel_rfl) (by kernel_rfl) (by kernel_rfl) (fun _ _ _ h => h) (.inl ⟨by kernel_rfl, fun w' hS => by have q_1 := hS; first | (go_simp; done) | (go_simp; simp [*]; done)⟩) hS ?_
      try simp only [List.getElem_toArray, List.getElem_cons_succ, List.getElem_cons_zero, Act.put, List.setIfInBounds_toArray, List.set_cons_zero, List.set_cons_succ]
      refine wpAnyH_take (i := 2) (v := .int .i64 x1) rfl (by kernel_rfl) (by kernel_rfl) (by kernel_rfl) (fun _ _ _ h => h) (.inl ⟨by kernel_rfl, fun w' hS => by have q_1 := hS; first | (go_simp; done) | (go_simp; simp [*]; done)⟩) hS ?_
      try simp only [List.getElem_toArray, List.getElem_cons_succ, List.getElem_cons_zero, Act.put, List.setIfInBounds_toArray, List.set_cons_zero, List.set_cons_succ]
      refine wpAnyH_ready (rs := [3]) (by kernel_rfl) (by simp) (AllReadyH.cons rfl (fun K' hK => ?_) AllReadyH.nil)
      rw [if_pos (by kernel_rfl)]
      go_simp
      refine hK.out _ _ hS1 (fun _ => ?_)
      clear hK
      try simp only [List.getElem_toArray, List.getElem_cons_succ, List.getElem_cons_zero, Act.put, List.setIfInBounds_toArray, List.set_cons_zero, List.set_cons_succ]
      refine wpAnyH_ready (rs := [4]) (by kernel_rfl) (by simp) (AllReadyH.cons rfl (fun K' hK => ?_) AllReadyH.nil)
      rw [if_pos (by kernel_rfl)]
      go_simp
      refine hK.out _ _ hS2 (fun _ => ?_)
      clear hK
      try simp only [List.getElem_toArray, List.getElem_cons_succ, List.getElem_cons_zero, Act.put, List.setIfInBounds_toArray, List.set_cons_zero, List.set_cons_succ]
      refine wpAnyH_ready (rs := [5]) (by kernel_rfl) (by simp) (AllReadyH.cons rfl (fun K' hK => ?_) AllReadyH.nil)
      rw [if_pos (by kernel_rfl)]
      go_simp
      refine hK.out _ _ hS3 (fun _ => ?_)
      clear hK
      try simp only [List.getElem_toArray, List.getElem_cons_succ, List.getElem_cons_zero, Act.put, List.setIfInBounds_toArray, List.set_cons_zero, List.set_cons_succ]
      refine wpAnyH_done (by kernel_rfl) ?_ _
      refine NoPanic.normal ?_
      gi_wp2
      refine ⟨?_, rfl, er, x1, ?_, ?_, ?_, ?_⟩
      · exact (keepsFrom_below2 HB1.out).trans (((KeepsOthers.drew _).trans (((KeepsOthers.setCell _ _ _).trans (KeepsOthers.setCell _ _ _)).trans (KeepsOthers.setCell _ _ _))).from _)
      · rw [← HGO.out, cfGo_err1 (x := (x1, xf)) HCF.out]
      · have hz := HR1.out.set (.pointer none) (.int .i64 er) (.int .i64 x1)
        exact ⟨hz.r0, hz.r1, hz.r2⟩
      · exact set3_below (below_drew (HB.out.trans (HB1.out.mono HB.out.size))) (Nat.le_refl _) _ _ _
      · show w7.heap.size ≤ (World.setCell (World.setCell (World.setCell _ _ _) _ _) _ _).heap.size
        simp only [World.size_setCell]
        exact Nat.le_trans HSW.out HB1.out.size
    | inr p =>
      obtain ⟨c0, l0⟩ := p
      have hcl2 : Calls Tryz.prog 55 #[.slice (some ⟨xg, 0, none⟩) xf.length xf.length] W fun e w' => ∃ v, e = .returned (.tuple #[.int .i64 c0, v, .int .i64 0]) ∧ (0 ≤ c0 ∧ c0 ≤ 1114111) ∧ Kd.R (Kd.int .i64) 3 w' W.heap.size (fun _ => True) v l0 ∧ Below W.heap.size W w' :=
        hcl.mono fun e w' ⟨v, c, l, e2, h1, ⟨h2, h3⟩, h4, h5⟩ => by
          rw [hcf] at h2
          obtain ⟨g1, g2, g3⟩ : e2 = 0 ∧ c = c0 ∧ l = l0 := h2
          subst g1 g2 g3
          exact ⟨v, h1, h3, h4, h5⟩
      have HCL := Aside0.mk hcl2
      have HCF := Aside0.mk hcf
      cases hany : acc.any (fun q => decide (q.1 = c0)) with
      | true =>
        have HANY := Aside0.mk hany
        clear hvl hvb hat hMP hOK hnl hgo hT4 hT5 hRes hB hSW hsp hlen hx hdrop hmem hfo hfl hcl hcl2 hcf hany HST HI0
        gi_wp2_with (first
          | (refine ⟨trivial, ?_⟩; gi_at_call 55; refine (CallsIn.inRound l' (callsIn_wide.2 HCL.out)).mono ?_; rintro e w1 ⟨v, rfl, hcb, hR, hb⟩
             obtain ⟨A5, c5, rfl⟩ := Kd.R_slice hR
             have HCB := Aside0.mk hcb
             have HRV := Aside0.mk hR
             have HB1 := Aside0.mk hb
             have hk1 := SameC.of_below hb
             have q5 := (boxed_sameC HT5.out hk1).cell
             have q4 := (boxed_sameC HT4.out hk1).cell
             have q9 := hk1.cell hx0
             have HVC := Aside0.mk q9
             have hr1 := HRES.out.sameC hk1
             have HR1 := Aside0.mk hr1
             obtain ⟨D, hown, hsz, hhas, hatk⟩ := MapP.below HMP.out hb
             have HOWN := Aside0.mk hown
             have HHAS := Aside0.mk ((hhas c0).trans HANY.out)
             have HD := Aside0.mk (And.intro hsz (And.intro hhas hatk))
             clear hcb hR hb hk1 hr1 hown hsz hhas hatk)
          | (gi_at_lookup; refine wpListIn_lookup_own_ok _ rfl _ _ 103 rfl 3 39 lawI Tryz.underlying103 rdV (zeroS _) (.held (.slice none 0 0)) [] rfl (w.heap.size + 1 + 1 + 1) n D rfl HOWN.out _ _ rfl (keyI HCB.out.1 HCB.out.2) ?_; intro v9 ps9 hv9; rw [HHAS.out]; clear hv9))
        clear hx0 hx1 q4 q5 q9
        have bx0 : Boxed (w1).drew w.heap.size 44 (.pointer none) := HR1.out.r0
        have bx1 : Boxed (((w1).setCell ⟨w.heap.size, 0, none⟩ (.pointer none))).drew (w.heap.size + 1) 27 (.int .i64 0) := boxed_setZ HR1.out.r1 (by omega)
        have bx2 : Boxed ((((w1).setCell ⟨w.heap.size, 0, none⟩ (.pointer none)).setCell ⟨w.heap.size + 1, 0, none⟩ (.int .i64 15))).drew (w.heap.size + 1 + 1) 3 (.int .i64 0) := boxed_setZ (boxed_setZ HR1.out.r2 (by omega)) (by omega)
        have g0 := bx0.cell
        have g1 := bx0.frozen
        have g2 := bx1.cell
        have g3 := bx1.frozen
        have g4 := bx2.cell
        have g5' := bx2.frozen
        clear bx0 bx1 bx2
        have hn0 : ∀ (V : World) (b : Nat) (u : Value) (p : Addr), p.block ≠ b → (V.setCell ⟨b, 0, none⟩ u).cell? p = V.cell? p := fun V b u p h => World.cell?_of_block (Below.heap_setCell V ⟨b, 0, none⟩ u p.block h)
        have hvbn : w.heap.size + 4 ≤ vb := by have := HVL.out; have := HSZ.out; omega
        have hS : (fun w' : World => w'.cell? ⟨vb, 0, none⟩ = some (.int .i64 x1)) (w1).drew := HVC.out
        have hS1 : (fun w' : World => w'.cell? ⟨vb, 0, none⟩ = some (.int .i64 x1)) (((w1).setCell ⟨w.heap.size, 0, none⟩ (.pointer none))).drew := (hn0 _ _ _ _ (by show vb ≠ _; omega)).trans hS
        have hS2 : (fun w' : World => w'.cell? ⟨vb, 0, none⟩ = some (.int .i64 x1)) ((((w1).setCell ⟨w.heap.size, 0, none⟩ (.pointer none)).setCell ⟨w.heap.size + 1, 0, none⟩ (.int .i64 15))).drew := (hn0 _ _ _ _ (by show vb ≠ _; omega)).trans hS1
        have hS3 : (fun w' : World => w'.cell? ⟨vb, 0, none⟩ = some (.int .i64 x1)) (((((w1).setCell ⟨w.heap.size, 0, none⟩ (.pointer none)).setCell ⟨w.heap.size + 1, 0, none⟩ (.int .i64 15)).setCell ⟨w.heap.size + 1 + 1, 0, none⟩ (.int .i64 x1))).drew := (hn0 _ _ _ _ (by show vb ≠ _; omega)).trans hS2
        clear hn0 hvbn
        refine wpIn_region_round_held (fun w' : World => w'.cell? ⟨vb, 0, none⟩ = some (.int .i64 x1)) (by kernel_rfl) (by kernel_rfl) ?_
        show wpAnyH _ _ _ _ _ _ _ _ (w1).drew
        refine wpAnyH_take (i := 0) (v := .int .i64 15) rfl (by kernel_rfl) (by kernel_rfl) (by kernel_rfl) (fun _ _ _ h => h) (.inl ⟨by kernel_rfl, fun w' hS => by have q_1 := hS; first | (go_simp; done) | (go_simp; simp [*]; done)⟩) hS ?_
        try simp only [List.getElem_toArray, List.getElem_cons_succ, List.getElem_cons_zero, Act.put, List.setIfInBounds_toArray, List.set_cons_zero, List.set_cons_succ]
        refine wpAnyH_take (i := 1) (v := .pointer (some ⟨vb, 0, none⟩)) rfl (by kernel_rfl) (by kernel_rfl) (by kernel_rfl) (fun _ _ _ h => h) (.inl ⟨by kernel_rfl, fun w' hS => by have q_1 := hS; first | (go_simp; done) | (go_simp; simp [*]; done)⟩) hS ?_
        try simp only [List.getElem_toArray, List.getElem_cons_succ, List.getElem_cons_zero, Act.put, List.setIfInBounds_toArray, List.set_cons_zero, List.set_cons_succ]
        refine wpAnyH_take (i := 2) (v := .int .i64 x1) rfl (by kernel_rfl) (by kernel_rfl) (by kernel_rfl) (fun _ _ _ h => h) (.inl ⟨by kernel_rfl, fun w' hS => by have q_1 := hS; first | (go_simp; done) | (go_simp; simp [*]; done)⟩) hS ?_
        try simp only [List.getElem_toArray, List.getElem_cons_succ, List.getElem_cons_zero, Act.put, List.setIfInBounds_toArray, List.set_cons_zero, List.set_cons_succ]
        refine wpAnyH_ready (rs := [3]) (by kernel_rfl) (by simp) (AllReadyH.cons rfl (fun K' hK => ?_) AllReadyH.nil)
        rw [if_pos (by kernel_rfl)]
        go_simp
        refine hK.out _ _ hS1 (fun _ => ?_)
        clear hK
        try simp only [List.getElem_toArray, List.getElem_cons_succ, List.getElem_cons_zero, Act.put, List.setIfInBounds_toArray, List.set_cons_zero, List.set_cons_succ]
        refine wpAnyH_ready (rs := [4]) (by kernel_rfl) (by simp) (AllReadyH.cons rfl (fun K' hK => ?_) AllReadyH.nil)
        rw [if_pos (by kernel_rfl)]
        go_simp
        refine hK.out _ _ hS2 (fun _ => ?_)
        clear hK
        try simp only [List.getElem_toArray, List.getElem_cons_succ, List.getElem_cons_zero, Act.put, List.setIfInBounds_toArray, List.set_cons_zero, List.set_cons_succ]
        refine wpAnyH_ready (rs := [5]) (by kernel_rfl) (by simp) (AllReadyH.cons rfl (fun K' hK => ?_) AllReadyH.nil)
        rw [if_pos (by kernel_rfl)]
        go_simp
        refine hK.out _ _ hS3 (fun _ => ?_)
        clear hK
        try simp only [List.getElem_toArray, List.getElem_cons_succ, List.getElem_cons_zero, Act.put, List.setIfInBounds_toArray, List.set_cons_zero, List.set_cons_succ]
        refine wpAnyH_done (by kernel_rfl) ?_ _
        refine NoPanic.normal ?_
        gi_wp2
        refine ⟨?_, rfl, 15, x1, ?_, ?_, ?_, ?_⟩
        · exact (keepsFrom_below2 HB1.out).trans (((KeepsOthers.drew _).trans (((KeepsOthers.setCell _ _ _).trans (KeepsOthers.setCell _ _ _)).trans (KeepsOthers.setCell _ _ _))).from _)
        · rw [← HGO.out, cfGo_twice1 (x := (x1, xf)) HCF.out HANY.out]
        · have hz := HR1.out.set (.pointer none) (.int .i64 15) (.int .i64 x1)
          exact ⟨hz.r0, hz.r1, hz.r2⟩
        · exact set3_below (below_drew (HB.out.trans (HB1.out.mono HB.out.size))) (Nat.le_refl _) _ _ _
        · show w7.heap.size ≤ (World.setCell (World.setCell (World.setCell _ _ _) _ _) _ _).heap.size
          simp only [World.size_setCell]
          exact Nat.le_trans HSW.out HB1.out.size
      | false =>
        have HANY := Aside0.mk hany
        clear hvl hvb hat hMP hOK hnl hgo hT4 hT5 hRes hB hSW hsp hlen hx hdrop hmem hfo hfl hcl hcl2 hcf hany HST HI0
        gi_wp2_with (first
          | (refine ⟨trivial, ?_⟩; gi_at_call 55; refine (CallsIn.inRound l' (callsIn_wide.2 HCL.out)).mono ?_; rintro e w1 ⟨v, rfl, hcb, hR, hb⟩
             obtain ⟨A5, c5, rfl⟩ := Kd.R_slice hR
             have HCB := Aside0.mk hcb
             have HRV := Aside0.mk hR
             have HB1 := Aside0.mk hb
             have hk1 := SameC.of_below hb
             have q5 := (boxed_sameC HT5.out hk1).cell
             have q4 := (boxed_sameC HT4.out hk1).cell
             have q9 := hk1.cell hx0
             have HVC := Aside0.mk q9
             have hr1 := HRES.out.sameC hk1
             have HR1 := Aside0.mk hr1
             obtain ⟨D, hown, hsz, hhas, hatk⟩ := MapP.below HMP.out hb
             have HOWN := Aside0.mk hown
             have HHAS := Aside0.mk ((hhas c0).trans HANY.out)
             have HD := Aside0.mk (And.intro hsz (And.intro hhas hatk))
             clear hcb hR hb hk1 hr1 hown hsz hhas hatk)
          | (gi_at_lookup; refine wpListIn_lookup_own_ok _ rfl _ _ 103 rfl 3 39 lawI Tryz.underlying103 rdV (zeroS _) (.held (.slice none 0 0)) [] rfl (w.heap.size + 1 + 1 + 1) n D rfl HOWN.out _ _ rfl (keyI HCB.out.1 HCB.out.2) ?_; intro v9 ps9 hv9; rw [HHAS.out]; clear hv9)
          | (gi_at_mapUpdate; refine wpListIn_mapUpdate_own _ rfl _ _ _ 103 rfl 3 39 lawI Tryz.underlying103 rdV (w.heap.size + 1 + 1 + 1) n D rfl HOWN.out (by have := HNL.out; have := HXN.out; simp only [maxLen]; omega) _ _ _ rfl rfl (keyI HCB.out.1 HCB.out.2) (.held (.slice A5 l0.length c5)) [] rfl ?_; intro w5 hown5 hg5; have HOWN5 := Aside0.mk hown5; have HG5 := Aside0.mk hg5; clear hown5 hg5))
        obtain ⟨es, clk, hbm, _⟩ := HOWN.out
        have hk15 : SameC w1 w5 := SameC.of_grown HG5.out (fun r e => by cases e; exact ⟨_, hbm, rfl⟩)
        have hkW := fun k o (h : W.heap[k]? = some o) (hc : o.isCells = true) => hk15 k o ((SameC.of_below HB1.out) k o h hc) hc
        have hbw : Below w.heap.size w w5 := (HB.out.trans (HB1.out.mono HB.out.size)).grown HG5.out (HB.out.trans (HB1.out.mono HB.out.size)).size (fun k e => by cases e; omega)
        obtain ⟨hR1, hR2, hR3⟩ := Kd.R_reads' HRV.out
        have hbase : ∀ ad, A5 = some ad → w.heap.size + 6 ≤ ad.block := fun ad e => by
          subst e
          have hown := Kd.own_of_R HRV.out
          have := own_base hown ad.block (by simp [Value.ownBlock])
          have := HSW.out; have := HSZ.out; omega
        refine ⟨(keepsFrom_below2 HB1.out).trans ⟨HG5.out.size, fun k o hk ho _ => (HG5.out.block k (Array.getElem?_eq_some_iff.1 ho).1 (fun e => by injection e with e; have := HSZ.out; omega)).trans ho⟩, ⟨Nat.le_trans HB1.out.size HG5.out.size, fun k o hk hc _ => hkW k o hk hc⟩, insP (c0, l0) acc, n + 1, MapP.step HOWN.out HD.out.1 HD.out.2.1 HD.out.2.2 HANY.out HOWN5.out hk15 hR2 hR3 hbase, ⟨insP_rising HOK.out (fun q hq e => by have := List.any_eq_false.1 HANY.out q hq; simp at this; exact this e), by rw [List.length_append]; have := HNL.out; simp; omega, by rw [List.length_append, ← HGO.out, cfGo_add1 (x := (x1, xf)) HCF.out HANY.out]; rfl⟩, hkW _ _ HT4.out rfl, hkW _ _ HT5.out rfl, HRES.out.sameC hkW, hbw, Nat.le_trans HSW.out (Nat.le_trans HB1.out.size HG5.out.size)⟩
  case done =>
    rintro D ys W hD hys ⟨acc, n, hMP, ⟨hOK, hal, hgo⟩, hT4, hT5, hRes, hB, hSW⟩ hK
    have hy : ys.length = X.length := by rw [← hys, List.length_map]
    have hgo : cfGo X [] = (some acc, 0, 0) := by rw [← hgo, hy, List.drop_length]; rfl
    have hc5 := hT5.cell
    obtain ⟨⟨g0, g1⟩, g2, g3⟩ := hRes.facts
    have g4 := (g2 (.pointer (some ⟨w.heap.size + 1 + 1 + 1 + 1, 0, none⟩))).1
    have g5' := (g2 (.pointer (some ⟨w.heap.size + 1 + 1 + 1 + 1, 0, none⟩))).2
    have g6 := (g3 (.pointer (some ⟨w.heap.size + 1 + 1 + 1 + 1, 0, none⟩)) (.int .i64 0)).1
    have g8 := (g3 (.pointer (some ⟨w.heap.size + 1 + 1 + 1 + 1, 0, none⟩)) (.int .i64 0)).2
    have HGO := Aside0.mk hgo
    have HRES := Aside0.mk hRes
    have HMP := Aside0.mk hMP
    have HOK := Aside0.mk hOK
    have HT4 := Aside0.mk hT4
    have HB := Aside0.mk hB
    have HK := Aside0.mk hK
    have HD := Aside0.mk hD
    clear hMP hT4 hT5 hOK hal hgo hRes hB hSW hK hD hys hy g2 g3
    go_wp2
    have hd := HD.out
    have hsz := HSZ.out
    have hres := HRES.out.set (.pointer (some ⟨w.heap.size + 1 + 1 + 1 + 1, 0, none⟩)) (.int .i64 0) (.int .i64 0)
    have hDs : (set3 W w.heap.size (.pointer (some ⟨w.heap.size + 1 + 1 + 1 + 1, 0, none⟩)) (.int .i64 0) (.int .i64 0)).heap[D]? = some (.deferred (some [])) := (set3_heap W _ _ _ _ D (.inr (by omega))).trans HK.out
    have hbs := set3_below HB.out (Nat.le_refl _) (.pointer (some ⟨w.heap.size + 1 + 1 + 1 + 1, 0, none⟩)) (.int .i64 0) (.int .i64 0)
    have hmk := hres.mark hbs (Nat.le_refl _) hDs (by omega)
    refine ⟨by simp, .inl ⟨_, _, rfl, run_takeDeferred hDs, ?_⟩⟩
    rw [HGO.out]
    obtain ⟨m0, m1, m2, m3⟩ := hmk (.deferred none)
    unfold set3 at m0 m1 m2
    exact ⟨_, by simp [results, Tryz.results24, go_sem, m0, m1, m2], m3, some ⟨w.heap.size + 1 + 1 + 1 + 1, 0, none⟩, rfl, w.heap.size + 1 + 1 + 1 + 1, w.heap.size + 1 + 1 + 1, n, rfl, (World.putObj_heap_other (show w.heap.size + 1 + 1 + 1 + 1 ≠ D by omega)).trans (show (set3 W w.heap.size _ _ _).heap[w.heap.size + 1 + 1 + 1 + 1]? = _ from (set3_heap W w.heap.size _ _ _ (w.heap.size + 1 + 1 + 1 + 1) (.inr (by omega))).trans HT4.out), ((HMP.out.set3 _ _ _ (by omega) (by omega)).putD hDs (by omega)).base (Nat.zero_le _), HOK.out⟩
  case stop =>
    rintro D c pre W hD hSp ⟨rfl, e, n, hgo, hRes, hB, hSW⟩ hK
    have HGO := Aside0.mk hgo
    have HRES := Aside0.mk hRes
    have HB := Aside0.mk hB
    have HK := Aside0.mk hK
    have HD := Aside0.mk hD
    clear hgo hRes hB hSW hK hD hSp
    refine wpIn_wide.2 ?_
    go_wp2
    have hd := HD.out
    have hsz := HSZ.out
    have hmk := HRES.out.mark HB.out (Nat.le_refl _) HK.out (by omega)
    refine ⟨by simp, .inl ⟨_, _, rfl, run_takeDeferred HK.out, ?_⟩⟩
    rw [HGO.out]
    obtain ⟨m0, m1, m2, m3⟩ := hmk (.deferred none)
    exact ⟨_, by simp [results, Tryz.results24, go_sem, m0, m1, m2], m3, none, rfl, rfl⟩
end Go.Proofs.YtbpdcbibooiimaaGreatDoor.Q

-- from Hctb
/- confus: a table told by its pairs; what is looked up in it; its keys; its length. -/
namespace Go.Proofs.YtbpdcbibooiimaaGreatDoor.Q
open Go.RowKit Go.Shelf Go.Maps Go.Proofs.YtbpdcbibooiimaaGreatDoorW.PrintWords Go.Proofs.YtbpdcbibooiimaaGreatDoorW.PrintLast Go.Proofs.YtbpdcbibooiimaaGreatDoorW.PrintMore Go.Proofs.YtbpdcbibooiimaaGreatDoor.K
set_option linter.unusedVariables false
set_option linter.unusedSimpArgs false

/-- A source's prototype. -/
def getP (l : List (Int × List Int)) (c : Int) : Option (List Int) := (l.find? (fun p => decide (p.1 = c))).map (·.2)
theorem getP_none {l : List (Int × List Int)} {c : Int} (h : getP l c = none) : l.any (fun p => decide (p.1 = c)) = false := by
  unfold getP at h
  rw [Option.map_eq_none_iff, List.find?_eq_none] at h
  exact Bool.eq_false_iff.2 (fun e => by obtain ⟨p, hp, hd⟩ := List.any_eq_true.1 e; exact h p hp hd)
theorem getP_some {l : List (Int × List Int)} {c : Int} {r : List Int} (h : getP l c = some r) : (c, r) ∈ l := by
  unfold getP at h
  obtain ⟨p, hp, rfl⟩ := Option.map_eq_some_iff.1 h
  have h1 := List.find?_some hp
  have h2 := List.mem_of_find?_eq_some hp
  have : p.1 = c := of_decide_eq_true h1
  rw [← this]; exact h2
theorem getP_of_mem {l : List (Int × List Int)} (hr : Rising l) {p : Int × List Int} (hp : p ∈ l) : getP l p.1 = some p.2 := by
  cases h : getP l p.1 with
  | none =>
    have := getP_none h
    have h2 : l.any (fun q => decide (q.1 = p.1)) = true := List.any_eq_true.2 ⟨p, hp, decide_eq_true rfl⟩
    rw [this] at h2; cases h2
  | some r =>
    have h1 := getP_some h
    rcases List.getElem_of_mem hp with ⟨i, hi, ei⟩
    rcases List.getElem_of_mem h1 with ⟨j, hj, ej⟩
    rcases Nat.lt_trichotomy i j with h | h | h
    · have := List.pairwise_iff_getElem.1 hr i j hi hj h
      rw [ei, ej] at this; exact absurd this (Int.lt_irrefl _)
    · subst h
      rw [ei] at ej; rw [ej]
    · have := List.pairwise_iff_getElem.1 hr j i hj hi h
      rw [ei, ej] at this; exact absurd this (Int.lt_irrefl _)
/-- A map's look-up. -/
theorem MapP.look {W : World} {b n B : Nat} {l : List (Int × List Int)} (h : MapP W b n B l) {c : Int} (h0 : -9223372036854775808 ≤ c) (h1 : c ≤ 9223372036854775807) :
    ∃ A c', (Instr.lookup 103 (.map (some b)) (.int .i64 c) true).run Tryz.prog W = .ok (.tuple #[.slice A ((getP l c).getD []).length c', .bool (getP l c).isSome]) W ∧
      (Instr.lookup 103 (.map (some b)) (.int .i64 c) false).run Tryz.prog W = .ok (.slice A ((getP l c).getD []).length c') W ∧ ((getP l c).getD []).length ≤ c' ∧ Kd.C (Kd.int .i64) W A ((getP l c).getD []).length ((getP l c).getD []) := by
  obtain ⟨D, g1, g2, g3, g4⟩ := h
  have hkey : keyOf Tryz.prog 3 (.int .i64 c) = some (.int .i64 c) := keyOf_int_mk Tryz.underlying3 (WalkArith.wf_i64 (by omega))
  obtain ⟨v1, p1, r1, e1⟩ := g1.look_ok lawI Tryz.underlying103 (zeroS W) (zd := .held (.slice none 0 0)) (zp := []) rfl hkey
  obtain ⟨v2, p2, r2, e2⟩ := g1.lookup lawI Tryz.underlying103 (zeroS W) (zd := .held (.slice none 0 0)) (zp := []) rfl hkey
  unfold rdV at e1 e2
  rw [Option.some.injEq, Prod.mk.injEq] at e1 e2
  rw [g3] at r1
  cases hg : getP l c with
  | none =>
    have ha := getP_none hg
    have hz := atKey_of_not_has (D := D) (k := .int .i64 c) (by rw [g3]; exact ha) (.held (.slice none 0 0))
    rw [hz] at e1 e2
    have e1 := e1.1
    have e2 := e2.1
    injection e1 with e1
    injection e2 with e2
    subst e1; subst e2
    refine ⟨none, 0, ?_, ?_, Nat.le_refl _, Kd.C_nil _ _⟩
    · rw [r1, ha]; rfl
    · exact r2
  | some r =>
    have hm := getP_some hg
    obtain ⟨A, c', q1, q2, q3, q4⟩ := g4 (c, r) hm
    have ha : l.any (fun p => decide (p.1 = c)) = true := List.any_eq_true.2 ⟨_, hm, decide_eq_true rfl⟩
    simp only at q1 q2 q3
    rw [q1] at e1 e2
    have e1 := e1.1
    have e2 := e2.1
    injection e1 with e1
    injection e2 with e2
    subst e1; subst e2
    refine ⟨A, c', ?_, ?_, q2, q3⟩
    · rw [r1, ha]; rfl
    · exact r2
theorem MapP.size_le {W : World} {b n B : Nat} {l : List (Int × List Int)} (h : MapP W b n B l) : l.length ≤ n := by
  obtain ⟨D, g1, g2, _⟩ := h
  rw [← g2]; exact g1.size_le
/-- Its keys, in whatever order, sorted. -/
theorem keys_sorted {W : World} {b n : Nat} {l : List (Int × List Int)} {D : DataW Value} (g1 : W.ownsMap Tryz.prog 3 rdV b n D) (g3 : ∀ c : Int, Maps.has D (.int .i64 c) = l.any (fun p => decide (p.1 = c))) (hr : Rising l) {ss : List Int} (hs : ss.Perm (intKeys D)) :
    ss.mergeSort (fun x y => decide (x ≤ y)) = l.map (·.1) ∧ ∀ p ∈ l, (Lit.int .i64 p.1).wf = true := by
  have hnd : (l.map (·.1)).Nodup := by
    unfold Rising at hr
    refine List.pairwise_map.2 (hr.imp (fun {a b} h e => ?_))
    rw [e] at h; exact Int.lt_irrefl _ h
  have hp : (l.map (·.1)).Perm (intKeys D) := CollectedI.perm (left := fun _ => false) ⟨hnd, fun x => by
    rw [g3, List.mem_map, List.any_eq_true]
    constructor
    · rintro ⟨p, hp, rfl⟩; exact ⟨⟨p, hp, decide_eq_true rfl⟩, rfl⟩
    · rintro ⟨⟨p, hp, hd⟩, _⟩; exact ⟨p, hp, of_decide_eq_true hd⟩⟩ g1 lawI Tryz.underlying3 (fun _ => rfl)
  refine ⟨?_, fun p hp2 => intKeys_wf g1 Tryz.underlying3 p.1 (hp.mem_iff.1 (List.mem_map_of_mem hp2))⟩
  have h1 := mergeSort_of_perm_i (hs.trans hp.symm)
  have h2 : (l.map (·.1)).mergeSort leI = l.map (·.1) := List.mergeSort_of_pairwise (by
    unfold Rising at hr
    exact List.pairwise_map.2 (hr.imp (fun {a b} h => decide_eq_true (Int.le_of_lt h))))
  exact h1.trans h2
/-- A table at a pointer: of these pairs; none at nil. -/
def CTab (W : World) (q : Option Addr) (l : List (Int × List Int)) : Prop := (q = none ∧ l = []) ∨ ∃ g b n, q = some ⟨g, 0, none⟩ ∧ Boxed W g 105 (.map (some b)) ∧ MapP W b n 0 l ∧ Rising l
theorem CTab.nil (W : World) : CTab W none [] := .inl ⟨rfl, rfl⟩
/-- What lies ahead of a place stays. -/
def SameBel (m : Nat) (A B : World) : Prop := A.heap.size ≤ B.heap.size ∧ ∀ k, k < m → B.heap[k]? = A.heap[k]?
theorem SameBel.refl (m : Nat) (A : World) : SameBel m A A := ⟨Nat.le_refl _, fun _ _ => rfl⟩
theorem SameBel.trans {m : Nat} {A B C : World} (h : SameBel m A B) (k : SameBel m B C) : SameBel m A C := ⟨Nat.le_trans h.1 k.1, fun j hj => (k.2 j hj).trans (h.2 j hj)⟩
theorem SameBel.of_below {m : Nat} {A B : World} (h : Below m A B) : SameBel m A B := ⟨h.size, h.block⟩
theorem SameBel.put {m : Nat} (W : World) (l : Nat) (o : Obj) (hl : m ≤ l) : SameBel m W (W.putObj l o) := ⟨(grownBy_putObj' W l o).size, fun k hk => World.putObj_heap_other (by omega)⟩
theorem MapP.same {W W' : World} {b n B : Nat} {l : List (Int × List Int)} (h : MapP W b n B l) (hb : SameBel W.heap.size W W') : MapP W' b n B l := by
  obtain ⟨D, ⟨es, clock, e1, e2⟩, h2, h3, h4⟩ := h
  exact ⟨D, ⟨es, clock, (hb.2 b (Array.getElem?_eq_some_iff.1 e1).1).trans e1, e2⟩, h2, h3, fun p hp => by
    obtain ⟨A, c', q1, q2, q3, q4⟩ := h4 p hp
    exact ⟨A, c', q1, q2, CI_cells q3 (fun k o hk _ => (hb.2 k (Array.getElem?_eq_some_iff.1 hk).1).trans hk), q4⟩⟩
theorem CTab.same {W W' : World} {q : Option Addr} {l : List (Int × List Int)} (h : CTab W q l) (hb : SameBel W.heap.size W W') : CTab W' q l := by
  rcases h with h | ⟨g, b, n, h1, h2, h3, h4⟩
  · exact .inl h
  · exact .inr ⟨g, b, n, h1, (hb.2 g (Array.getElem?_eq_some_iff.1 h2).1).trans h2, h3.same hb, h4⟩
theorem CTab.below {W W' : World} {q : Option Addr} {l : List (Int × List Int)} (h : CTab W q l) (hb : Below W.heap.size W W') : CTab W' q l := h.same (SameBel.of_below hb)
theorem CTab.rising {W : World} {q : Option Addr} {l : List (Int × List Int)} (h : CTab W q l) : Rising l := by
  rcases h with ⟨_, rfl⟩ | ⟨g, b, n, h1, h2, h3, h4⟩
  · exact List.Pairwise.nil
  · exact h4
set_option maxHeartbeats 2000000 in
set_option maxRecDepth 100000 in
theorem confus_Len.calls (q : Option Addr) (l : List (Int × List Int)) (w : World) (h : CTab w q l) :
    Calls Tryz.prog 29 #[.pointer q] w fun e w' => e = .returned (.int .i64 l.length) ∧ w' = w := by
  rcases h with ⟨rfl, rfl⟩ | ⟨g, b, n, rfl, h2, ⟨D, g1, g2, g3, g4⟩, h4⟩
  · go_enter Tryz.func29, Tryz.ntmps29
    go_wp2
    go_ret
    exact ⟨rfl, rfl⟩
  · have hc : w.cell? ⟨g, 0, none⟩ = some (.map (some b)) := h2.cell
    have HM := Aside0.mk g1
    have HS := Aside0.mk g2
    clear h2 g1 g2 g3 g4 h4
    go_enter Tryz.func29, Tryz.ntmps29
    go_wp2_with (at_len; refine wpList_len_own _ rfl _ 103 rfl 3 39 Tryz.underlying103 _ b n D rfl HM.out ?_)
    go_ret
    exact ⟨by rw [HS.out]; rfl, rfl⟩
end Go.Proofs.YtbpdcbibooiimaaGreatDoor.Q

-- from Hcsk
/- slices.Sorted(maps.Keys(m)) at this program: the shelf's contracts, laid. -/
namespace Go.Proofs
open Go.RowKit Go.Maps Go.Sort Go.Shelf

def Tryz.keysA_ren : Go.Shelf.Ren := ⟨fun | 7 => 84 | 10 => 106 | n => n, fun | 23 => 103 | 26 => 3 | 3 => 39 | 28 => 101 | 0 => 0 | 27 => 100 | 33 => 143 | 4 => 4 | n => n, fun | n => n⟩
theorem Tryz.keysA : Go.Proofs.SlLaysZI.n7 Tryz.prog Tryz.keysA_ren := {
  mixed := by kernel_rfl
  f7 := ⟨Tryz.f84.name, by decide, Tryz.func84.trans (congrArg some (by kernel_rfl))⟩
  f10 := ⟨Tryz.f106.name, by decide, Tryz.func106.trans (congrArg some (by kernel_rfl))⟩
  t0 := Tryz.underlying0
  a0 := Tryz.isAgg0
  z0 := Tryz.sizeOf0
  v0 := Tryz.zeroValue0
  t4 := Tryz.underlying4
  a4 := Tryz.isAgg4
  z4 := Tryz.sizeOf4
  v4 := Tryz.zeroValue4
  t23 := Tryz.underlying103
  a23 := Tryz.isAgg103
  z23 := Tryz.sizeOf103
  v23 := Tryz.zeroValue103
  t26 := Tryz.underlying3
  a26 := Tryz.isAgg3
  z26 := Tryz.sizeOf3
  v26 := Tryz.zeroValue3
  t27 := Tryz.underlying100
  a27 := Tryz.isAgg100
  z27 := Tryz.sizeOf100
  v27 := Tryz.zeroValue100
  t28 := Tryz.underlying101
  a28 := Tryz.isAgg101
  z28 := Tryz.sizeOf101
  v28 := Tryz.zeroValue101
  t33 := Tryz.underlying143
  a33 := Tryz.isAgg143
  z33 := Tryz.sizeOf143
  v33 := Tryz.zeroValue143 }
def Tryz.sortedA_ren : Go.Shelf.Ren := ⟨fun | 6 => 83 | 8 => 104 | 9 => 105 | 11 => 131 | 13 => 133 | 12 => 132 | 23 => 165 | 24 => 166 | 14 => 156 | 15 => 157 | 16 => 158 | 17 => 159 | 18 => 160 | 19 => 161 | 20 => 162 | 21 => 163 | 22 => 164 | 25 => 188 | 26 => 189 | 27 => 190 | 28 => 191 | 29 => 192 | 30 => 193 | 31 => 209 | n => n, fun | 26 => 3 | 28 => 101 | 24 => 39 | 0 => 0 | 3 => 3 | 37 => 167 | 48 => 218 | 50 => 220 | 4 => 4 | 40 => 211 | 39 => 210 | 45 => 155 | 5 => 5 | 9 => 9 | 51 => 235 | 55 => 239 | 57 => 263 | 58 => 264 | 33 => 143 | n => n, fun | n => n⟩
theorem Tryz.sortedA : Go.Proofs.SlLaysZI.n6 Tryz.prog Tryz.sortedA_ren := {
  mixed := by kernel_rfl
  f6 := ⟨Tryz.f83.name, by decide, Tryz.func83.trans (congrArg some (by kernel_rfl))⟩
  f8 := ⟨Tryz.f104.name, by decide, Tryz.func104.trans (congrArg some (by kernel_rfl))⟩
  f11 := ⟨Tryz.f131.name, by decide, Tryz.func131.trans (congrArg some (by kernel_rfl))⟩
  t0 := Tryz.underlying0
  a0 := Tryz.isAgg0
  z0 := Tryz.sizeOf0
  v0 := Tryz.zeroValue0
  t24 := Tryz.underlying39
  a24 := Tryz.isAgg39
  z24 := Tryz.sizeOf39
  v24 := Tryz.zeroValue39
  t26 := Tryz.underlying3
  a26 := Tryz.isAgg3
  z26 := Tryz.sizeOf3
  v26 := Tryz.zeroValue3
  t28 := Tryz.underlying101
  a28 := Tryz.isAgg101
  z28 := Tryz.sizeOf101
  v28 := Tryz.zeroValue101
  i26 := by kernel_rfl }
def Tryz.sortA_ren : Go.Shelf.Ren := ⟨fun | 5 => 105 | 8 => 133 | 7 => 132 | 19 => 165 | 20 => 166 | 10 => 156 | 11 => 157 | 12 => 158 | 13 => 159 | 14 => 160 | 15 => 161 | 16 => 162 | 17 => 163 | 18 => 164 | 30 => 188 | 31 => 189 | 32 => 190 | 33 => 191 | 34 => 192 | 35 => 193 | 40 => 209 | n => n, fun | 23 => 39 | 25 => 3 | 3 => 3 | 32 => 167 | 22 => 39 | 0 => 0 | 44 => 218 | 46 => 220 | 4 => 4 | 36 => 211 | 35 => 210 | 41 => 155 | 5 => 5 | 9 => 9 | 53 => 235 | 57 => 239 | 63 => 263 | 64 => 264 | n => n, fun | n => n⟩
theorem Tryz.sortA : Go.Proofs.SlLaysM.n5 Tryz.prog Tryz.sortA_ren := {
  mixed := by kernel_rfl
  f5 := ⟨Tryz.f105.name, by decide, Tryz.func105.trans (congrArg some (by kernel_rfl))⟩
  f7 := ⟨Tryz.f132.name, by decide, Tryz.func132.trans (congrArg some (by kernel_rfl))⟩
  f8 := Tryz.func133.trans (congrArg some (by kernel_rfl))
  f10 := ⟨Tryz.f156.name, by decide, Tryz.func156.trans (congrArg some (by kernel_rfl))⟩
  f11 := ⟨Tryz.f157.name, by decide, Tryz.func157.trans (congrArg some (by kernel_rfl))⟩
  f12 := ⟨Tryz.f158.name, by decide, Tryz.func158.trans (congrArg some (by kernel_rfl))⟩
  f13 := ⟨Tryz.f159.name, by decide, Tryz.func159.trans (congrArg some (by kernel_rfl))⟩
  f14 := ⟨Tryz.f160.name, by decide, Tryz.func160.trans (congrArg some (by kernel_rfl))⟩
  f15 := ⟨Tryz.f161.name, by decide, Tryz.func161.trans (congrArg some (by kernel_rfl))⟩
  f16 := ⟨Tryz.f162.name, by decide, Tryz.func162.trans (congrArg some (by kernel_rfl))⟩
  f17 := ⟨Tryz.f163.name, by decide, Tryz.func163.trans (congrArg some (by kernel_rfl))⟩
  f18 := ⟨Tryz.f164.name, by decide, Tryz.func164.trans (congrArg some (by kernel_rfl))⟩
  f19 := Tryz.func165.trans (congrArg some (by kernel_rfl))
  f20 := Tryz.func166.trans (congrArg some (by kernel_rfl))
  f30 := ⟨Tryz.f188.name, by decide, Tryz.func188.trans (congrArg some (by kernel_rfl))⟩
  f31 := Tryz.func189.trans (congrArg some (by kernel_rfl))
  f32 := Tryz.func190.trans (congrArg some (by kernel_rfl))
  f33 := ⟨Tryz.f191.name, by decide, Tryz.func191.trans (congrArg some (by kernel_rfl))⟩
  f34 := ⟨Tryz.f192.name, by decide, Tryz.func192.trans (congrArg some (by kernel_rfl))⟩
  f35 := ⟨Tryz.f193.name, by decide, Tryz.func193.trans (congrArg some (by kernel_rfl))⟩
  f40 := ⟨Tryz.f209.name, by decide, Tryz.func209.trans (congrArg some (by kernel_rfl))⟩
  t0 := Tryz.underlying0
  a0 := Tryz.isAgg0
  z0 := Tryz.sizeOf0
  v0 := Tryz.zeroValue0
  t3 := Tryz.underlying3
  a3 := Tryz.isAgg3
  z3 := Tryz.sizeOf3
  v3 := Tryz.zeroValue3
  t4 := Tryz.underlying4
  a4 := Tryz.isAgg4
  z4 := Tryz.sizeOf4
  v4 := Tryz.zeroValue4
  t5 := Tryz.underlying5
  a5 := Tryz.isAgg5
  z5 := Tryz.sizeOf5
  v5 := Tryz.zeroValue5
  t9 := Tryz.underlying9
  a9 := Tryz.isAgg9
  z9 := Tryz.sizeOf9
  v9 := Tryz.zeroValue9
  t22 := Tryz.underlying39
  a22 := Tryz.isAgg39
  z22 := Tryz.sizeOf39
  v22 := Tryz.zeroValue39
  t23 := Tryz.underlying39
  a23 := Tryz.isAgg39
  z23 := Tryz.sizeOf39
  v23 := Tryz.zeroValue39
  t25 := Tryz.underlying3
  a25 := Tryz.isAgg3
  z25 := Tryz.sizeOf3
  v25 := Tryz.zeroValue3
  t32 := Tryz.underlying167
  a32 := Tryz.isAgg167
  z32 := Tryz.sizeOf167
  v32 := Tryz.zeroValue167
  t35 := Tryz.underlying210
  a35 := Tryz.isAgg210
  z35 := Tryz.sizeOf210
  v35 := Tryz.zeroValue210
  t36 := Tryz.underlying211
  a36 := Tryz.isAgg211
  z36 := Tryz.sizeOf211
  v36 := Tryz.zeroValue211
  t41 := Tryz.underlying155
  a41 := Tryz.isAgg155
  z41 := Tryz.sizeOf155
  v41 := Tryz.zeroValue155
  t44 := Tryz.underlying218
  a44 := Tryz.isAgg218
  z44 := Tryz.sizeOf218
  v44 := Tryz.zeroValue218
  t46 := Tryz.underlying220
  a46 := Tryz.isAgg220
  z46 := Tryz.sizeOf220
  v46 := Tryz.zeroValue220
  t53 := Tryz.underlying235
  a53 := Tryz.isAgg235
  z53 := Tryz.sizeOf235
  v53 := Tryz.zeroValue235
  t57 := Tryz.underlying239
  a57 := Tryz.isAgg239
  z57 := Tryz.sizeOf239
  v57 := Tryz.zeroValue239
  t63 := Tryz.underlying263
  a63 := Tryz.isAgg263
  z63 := Tryz.sizeOf263
  v63 := Tryz.zeroValue263
  t64 := Tryz.underlying264
  a64 := Tryz.isAgg264
  z64 := Tryz.sizeOf264
  v64 := Tryz.zeroValue264 }
end Go.Proofs
namespace Go.Proofs.YtbpdcbibooiimaaGreatDoor.Q
open Go.RowKit Go.Maps Go.Sort Go.Shelf Go.Proofs.YtbpdcbibooiimaaGreatDoorW.PrintWords Go.Proofs.YtbpdcbibooiimaaGreatDoorW.PrintLast Go.Proofs.YtbpdcbibooiimaaGreatDoorW.PrintMore Go.Proofs.YtbpdcbibooiimaaGreatDoor.K
theorem sortsA (m : Nat) : AnyZI.SortsIn Tryz.prog Tryz.sortedA_ren Fence.wide m :=
  ⟨fun blk off cap ss W hH hblk hsz => callsIn_wide.2 (AnyM.slices_Sort_int Tryz.sortA blk off cap ss W hH hblk hsz),
   fun p cap W => callsIn_wide.2 (AnyM.slices_Sort_int_none Tryz.sortA p cap W)⟩
theorem mapsKeys.calls (mb : Option Nat) (W : World) : Calls Tryz.prog 84 #[.map mb] W fun e w' => e = .returned (.func (.func 106) #[] #[.pointer (some ⟨W.heap.size, 0, none⟩)]) ∧ w' = W.alloc (.cells #[.map mb] 103) :=
  callsIn_wide.1 (AnyZI.keys_in Tryz.keysA Fence.wide 5 trivial rfl mb W)
set_option maxHeartbeats 1000000 in
/-- The keys of a map of these pairs, sorted. -/
theorem mapsSorted.calls {w : World} {b n B : Nat} {l : List (Int × List Int)} (h : MapP w b n B l) (hr : Rising l) (hl : l.length ≤ 1000000) (w1 : World) (hw1 : w1 = w.alloc (.cells #[.map (some b)] 103)) :
    Calls Tryz.prog 83 #[.func (.func 106) #[] #[.pointer (some ⟨w.heap.size, 0, none⟩)]] w1 fun e w' => ∃ v : Value, e = .returned v ∧
      w'.ownsRow w1.heap.size 3 1 v l.length (l.map (fun p => .int .i64 p.1)) ∧ (∀ p ∈ l, (Lit.int .i64 p.1).wf = true) ∧ Below w1.heap.size w1 w' := by
  subst hw1
  obtain ⟨D, hown, hsz, g3, g4⟩ := h
  have hbl := hown.lt
  have hseq : SeqGives Fence.wide 2 Tryz.prog 106 #[.pointer (some ⟨w.heap.size, 0, none⟩)] encZ (fun ss => ss.Perm (intKeys D)) (Maps.size D) (w.alloc (.cells #[.map (some b)] 103)) :=
    AnyZI.keys_gives (ρ := Tryz.keysA_ren) { Tryz.keysA with } Fence.wide _ trivial rfl (by omega) w.heap.size b n D _ (by simp) (by simp) (by
      obtain ⟨es, clock, hb, Ft, hs, hD⟩ := hown
      exact ⟨es, clock, (Below.heap_alloc _ _ b hbl).trans hb, Ft, hs, hD⟩)
  have cS := AnyZI.sorted_in Tryz.sortedA Fence.wide 5 trivial trivial trivial trivial rfl (by omega) (sortsA _) (enters_of Tryz.func105 (by kernel_rfl) rfl) 106 #[.pointer (some ⟨w.heap.size, 0, none⟩)] trivial (enters_of Tryz.func106 (by kernel_rfl) rfl) _ _ (by rw [hsz]; unfold maxLen; omega) (by rw [hsz]; omega) _ hseq
  change CallsIn _ _ Tryz.prog 83 _ _ _ at cS
  refine (callsIn_wide.1 cS).mono ?_
  rintro e w' ⟨v, ss, rfl, hS, hrow, hnil, hb⟩
  obtain ⟨k1, k2⟩ := keys_sorted hown g3 hr hS
  have hlen : ss.length = l.length := by
    have := congrArg List.length k1
    simpa using this
  refine ⟨v, rfl, ?_, k2, hb⟩
  rw [k1, hlen] at hrow
  have e : (l.map (fun p : Int × List Int => p.1)).map encZ = l.map (fun p => .int .i64 p.1) := by rw [List.map_map]; rfl
  rw [e] at hrow
  exact hrow
end Go.Proofs.YtbpdcbibooiimaaGreatDoor.Q

-- from Hcli
namespace Go.Proofs.YtbpdcbibooiimaaGreatDoor.Q
open Go.RowKit Go.Proofs.YtbpdcbibooiimaaGreatDoorW.PrintWords Go.Proofs.YtbpdcbibooiimaaGreatDoorW.PrintLast Go.Proofs.YtbpdcbibooiimaaGreatDoorW.PrintMore
set_option linter.unusedVariables false
set_option linter.unusedSimpArgs false

theorem Hcli_info : (Tryz.prog.info? 3).map (fun i => (i.zero, i.size, i.bytes)) = some (some (.int .i64 0), 1, 8) := by kernel_rfl
def slices_Clone_int_int.f (l0 : List Int) : Option (List Int) := if l0.length < 17592186044416 then some l0 else none
set_option maxHeartbeats 1000000 in
set_option maxRecDepth 100000 in
theorem slices_Clone_int_int.calls (A0 : Option Addr) (c0 : Nat) (l0 : List Int) (r : List Int) (w : World) (hr0 : Kd.C (Kd.int .i64) w A0 l0.length l0) (hc0 : l0.length ≤ c0) (h : slices_Clone_int_int.f l0 = some r) :
    Calls Tryz.prog 59 #[.slice A0 l0.length c0] w fun e w' => ∃ v0_ : Value, e = .returned (v0_) ∧ Kd.R (Kd.int .i64) 3 w' w.heap.size (fun _ => True) v0_ r ∧ Below w.heap.size w w' := by
  unfold slices_Clone_int_int.f at h
  by_cases hl : l0.length < 17592186044416
  · rw [if_pos hl] at h
    obtain rfl := Option.some.inj h
    have HR := Aside0.mk hr0
    have HL := Aside0.mk hl
    have heq := fun (W : World) => run_eql_slice_nil (P := Tryz.prog) W 39 3 A0 l0.length c0 Tryz.underlying39
    clear h hr0 hl
    cases A0 with
    | none =>
      have hz : l0 = [] := by
        rcases Nat.eq_zero_or_pos l0.length with e | e
        · exact List.eq_nil_of_length_eq_zero e
        · obtain ⟨ad, h, _⟩ := HR.out.2.2 e
          cases h
      have HZ := Aside0.mk hz
      clear hz
      go_enter Tryz.func59, Tryz.ntmps59
      go_wp2
      go_ret
      exact ⟨_, rfl, by rw [HZ.out]; exact Kd.R_nil _ _ _ _ _, Below.refl _ _⟩
    | some ad =>
      go_enter Tryz.func59, Tryz.ntmps59
      go_wp2_with (first
        | ((with_reducible refine gate_dst (N := 5) rfl ?_)
           refine Kd.R_lit (Kd.int .i64) (w0 := w) w.heap.size 3 ?hg (N := 5) ?hd (xs := ([] : List Int)) (inner := []) (ok := fun _ => True) (okp := fun _ => True) ?hr (Reps.none _ _) (fun _ hk => hk) trivial (Below.refl _ _) (Nat.le_refl _) (by simp) ?_
           (case hd => rfl)
           (case hg => rfl)
           (case hr => first | (go_simp; done) | (go_simp; rfl))
           intro v1 w1 hR1 hB1 _ _
           have HR1 := Aside0.mk hR1
           have HB1 := Aside0.mk hB1
           clear hR1 hB1)
        | ((with_reducible refine gate_builtin (b := .append) (xs := #[.tmp 5, .tmp 6]) rfl ?_)
           at_builtin
           refine Kd.R_append_rows (Kd.int .i64) (w0 := w) w.heap.size rfl (.tmp 5) (.tmp 6) 39 3 (.int .i64 0) 8 rfl Tryz.underlying39 Hcli_info rfl (by decide) (by omega) _ [] l0 _ _ _ (fun _ => True) (fun _ => False) rfl rfl HR1.out (Kd.C_below HR.out HB1.out) (fun _ _ h => h) (fun _ h => h.elim) (fun _ _ => trivial) HB1.out HB1.out.size (by have := HL.out; simp only [List.length_nil]; omega) ?_
           intro v2 w2 hR2 hB2 _ _
           rw [List.nil_append] at hR2
           have HR2 := Aside0.mk hR2
           have HB2 := Aside0.mk hB2
           clear hR2 hB2 HR1 HB1))
      go_ret
      exact ⟨_, rfl, HR2.out, HB2.out⟩
  · rw [if_neg hl] at h
    cases h

end Go.Proofs.YtbpdcbibooiimaaGreatDoor.Q
