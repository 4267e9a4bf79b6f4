/- Part 4 of 4 of the proof of ConfusTurned: lines in another order tell the same table. For every input; no condition. -/
import Derived.Test.YtbpdcbibooiimaaGreatDoorCConfusTurned2
import Derived.Test.YtbpdcbibooiimaaGreatDoorCConfusTurned1
import Derived.Test.YtbpdcbibooiimaaGreatDoorCConfusTurned3
import Derived.Lib.SlBytesConst
import Derived.Lib.ConvBytes
import Derived.Deep.LoopGhost
import Derived.Test.YtbpdcbibooiimaaGreatDoorRows
import Derived.Test.YtbpdcbibooiimaaGreatDoorCards
import Derived.Test.YtbpdcbibooiimaaGreatDoorTie
import Derived.LaidMore
import Derived.Lay
import Derived.SevenTiedAt
import Derived.Stop.Joined
import Derived.WalkKit
import Derived.ProofKit
import Derived.OpenShut
import Derived.ShutString
import Derived.ChangeOld
import Derived.ChangeMaps5
import Derived.Below
import Derived.SizedLaws
import Derived.Test.YtbpdcbibooiimaaGreatDoorWSized

-- from Pcrf
/- Layer 6: the reference's Parse is the pairs of all lines. -/
namespace Go.Proofs.YtbpdcbibooiimaaGreatDoor.K
set_option linter.unusedVariables false
set_option linter.unusedSimpArgs false
open Go.RowKit Go.Proofs.YtbpdcbibooiimaaGreatDoor.Q Go.Proofs.YtbpdcbibooiimaaGreatDoorW.PrintWords Go.Proofs.YtbpdcbibooiimaaGreatDoorW.PrintLast Go.Proofs.YtbpdcbibooiimaaGreatDoorW.PrintMore

def cP (p : Int × List Int) : S56 := ⟨p.1, p.2⟩
theorem rdPair (L : List (Int × List Int)) (i : Nat) (h : i < L.length) : rd_T56 (L.map cP) (i : Int) = cP L[i] := by
  unfold rd_T56
  rw [Int.toNat_natCast, List.getD_eq_getElem?_getD, List.getElem?_map, List.getElem?_eq_getElem h]; rfl
theorem rdLine (X : List (Int × List (List Int))) (i : Nat) (h : i < X.length) : rd_T90 (X.map toS) (i : Int) = toS X[i] := by
  unfold rd_T90
  rw [Int.toNat_natCast, List.getD_eq_getElem?_getD, List.getElem?_map, List.getElem?_eq_getElem h]; rfl
/-- A source's place; -1: it is none. -/
def fdx : List (Int × List Int) → Int → Nat → Int
  | [], _, _ => -1
  | q :: r, c, i => if q.1 = c then (i : Int) else fdx r c (i + 1)
theorem fdx_ev {acc : List (Int × List Int)} (hl : acc.length ≤ 1000000) (c : Int) : ∀ (d i : Nat), acc.length - i = d → i ≤ acc.length → Ev (fun k => paronymref06_Find.l0 k (acc.map cP) c (i : Int)) (fdx (acc.drop i) c i) := by
  intro d
  induction d with
  | zero =>
    intro i h1 h2
    rw [List.drop_eq_nil_iff.2 (by omega)]
    exact Ev.step (fun k => rfl) (Ev.neg (by rw [List.length_map]; omega) (Ev.ret rfl))
  | succ d ih =>
    intro i h1 h2
    have hi : i < acc.length := by omega
    rw [List.drop_eq_getElem_cons hi]
    refine Ev.step (fun k => rfl) (Ev.pos (by rw [List.length_map]; omega) (Ev.pos (by omega) ?_))
    rw [rdPair acc i hi]
    unfold fdx
    by_cases h : acc[i].1 = c
    · rw [if_pos h]
      exact Ev.pos h (Ev.ret rfl)
    · rw [if_neg h]
      refine Ev.neg h ?_
      rw [w64 (by omega) (by omega)]
      exact ih (i + 1) (by omega) (by omega)
theorem fdx_any : ∀ (acc : List (Int × List Int)) (c : Int) (i : Nat), 0 ≤ fdx acc c i ↔ acc.any (fun q => decide (q.1 = c)) = true
  | [], c, i => by simp [fdx]
  | q :: r, c, i => by
    unfold fdx
    by_cases h : q.1 = c
    · rw [if_pos h]; simp [h]
    · rw [if_neg h, fdx_any r c (i + 1)]; simp [h]
theorem insP_take {c : Int} {l : List Int} : ∀ (acc : List (Int × List Int)) (j : Nat), j ≤ acc.length → (∀ (i : Nat) (h : i < acc.length), i < j → ¬ c < acc[i].1) → (∀ (i : Nat) (h : i < acc.length), j ≤ i → c < acc[i].1) → insP (c, l) acc = acc.take j ++ [(c, l)] ++ acc.drop j
  | [], j, h0, _, _ => by
    have : j = 0 := by simpa using h0
    subst this; rfl
  | q :: r, 0, h0, h1, h2 => by
    unfold insP
    rw [if_pos (show (c, l).1 < q.1 from h2 0 (by simp) (Nat.le_refl _))]; rfl
  | q :: r, j + 1, h0, h1, h2 => by
    unfold insP
    rw [if_neg (show ¬ (c, l).1 < q.1 from h1 0 (by simp) (by omega)), insP_take r j (by simpa using h0) (fun i h hi => by have := h1 (i + 1) (by simpa using h) (by omega); simpa using this) (fun i h hi => by have := h2 (i + 1) (by simpa using h) (by omega); simpa using this)]
    rfl
/-- What Parse hands over. -/
def crfR (t : Option (List (Int × List Int)) × Int × Int) : List S56 × Int × Int := ((t.1.getD []).map cP, t.2.1, t.2.2)
theorem crf_ins {X : List S90} {acc : List (Int × List Int)} {c : Int} {l : List Int} {i : Nat} (ha : acc.length ≤ 1000000) (hi : i ≤ 1000000) (hr : Rising acc) {r : List S56 × Int × Int}
    (hk : Ev (fun k => paronymref06_Parse.l0 k X ((insP (c, l) acc).map cP) ((i + 1 : Nat) : Int)) r) : ∀ (j : Nat), j ≤ acc.length → (∀ (i : Nat) (h : i < acc.length), j ≤ i → c < acc[i].1) →
      Ev (fun k => paronymref06_Parse.l1 k X (acc.map cP) (i : Int) c l (j : Int)) r := by
  have fin : ∀ (j : Nat), j ≤ acc.length → (∀ (i : Nat) (h : i < acc.length), i < j → ¬ c < acc[i].1) → (∀ (i : Nat) (h : i < acc.length), j ≤ i → c < acc[i].1) →
      ((([] : List S56) ++ (acc.map cP).take ((j : Int)).toNat) ++ [(⟨c, l⟩ : S56)]) ++ (acc.map cP).drop ((j : Int)).toNat = (insP (c, l) acc).map cP := by
    intro j hj h1 h2
    rw [insP_take acc j hj h1 h2, Int.toNat_natCast, List.map_append, List.map_append, List.map_take, List.map_drop]; rfl
  intro j
  induction j with
  | zero =>
    intro hj h2
    have hf := fin 0 hj (fun i h hi => absurd hi (Nat.not_lt_zero _)) h2
    refine Ev.step (fun k => rfl) (Ev.neg (by omega) (Ev.pos (by omega) (Ev.pos (by rw [List.length_map]; omega) ?_)))
    refine Ev.bindS rfl (Ev.pos ?_ ?_)
    rotate_left
    refine Ev.bindS rfl (Ev.pos ?_ ?_)
    rotate_left
    refine Ev.bindS rfl (Ev.bindS rfl (Ev.pos ?_ ?_))
    rotate_left
    · rw [hf, w64 (by omega) (by omega)]; exact hk
    · simp only [List.length_nil, List.length_take, List.length_map]; omega
    · simp only [List.length_append, List.length_nil, List.length_take, List.length_map]; omega
    · simp only [List.length_append, List.length_nil, List.length_take, List.length_map, List.length_drop, List.length_cons]; omega
  | succ j ih =>
    intro hj h2
    have e1 : wrap64 (((j + 1 : Nat) : Int) - 1) = (j : Int) := by rw [w64 (by omega) (by omega)]; omega
    refine Ev.step (fun k => rfl) (Ev.pos (by omega) ?_)
    rw [e1, rdPair acc j (by omega)]
    refine Ev.pos (by omega) (Ev.pos (by rw [List.length_map]; omega) ?_)
    by_cases h : acc[j].1 > c
    · refine Ev.pos h ?_
      refine ih (by omega) (fun i hi hij => ?_)
      rcases Nat.lt_or_ge j i with h3 | h3
      · exact h2 i hi (by omega)
      · have : i = j := by omega
        subst this; exact h
    · have hf := fin (j + 1) hj (fun i hi hij => by
        rcases Nat.lt_or_ge i j with h3 | h3
        · have := List.pairwise_iff_getElem.1 hr i j hi (by omega) h3; omega
        · have : i = j := by omega
          subst this; omega) h2
      refine Ev.neg h (Ev.pos (by omega) (Ev.pos (by rw [List.length_map]; omega) ?_))
      refine Ev.bindS rfl (Ev.pos ?_ ?_)
      rotate_left
      refine Ev.bindS rfl (Ev.pos ?_ ?_)
      rotate_left
      refine Ev.bindS rfl (Ev.bindS rfl (Ev.pos ?_ ?_))
      rotate_left
      · rw [hf, w64 (by omega) (by omega)]; exact hk
      · simp only [List.length_nil, List.length_take, List.length_map]; omega
      · simp only [List.length_append, List.length_nil, List.length_take, List.length_map]; omega
      · simp only [List.length_append, List.length_nil, List.length_take, List.length_map, List.length_drop, List.length_cons]; omega
theorem crf_loop {X : List (Int × List (List Int))} (hX : X.length ≤ 100001) (ho : ∀ p ∈ X, ∀ q ∈ p.2, Oct q ∧ q.length ≤ 1000000) (hf : ∀ p ∈ X, p.2.length ≤ 1000000) : ∀ (d i : Nat) (acc : List (Int × List Int)), X.length - i = d → i ≤ X.length → acc.length ≤ i → Rising acc →
    Ev (fun k => paronymref06_Parse.l0 k (X.map toS) (acc.map cP) (i : Int)) (crfR (cfGo (X.drop i) acc)) := by
  intro d
  induction d with
  | zero =>
    intro i acc h1 h2 h3 h4
    rw [List.drop_eq_nil_iff.2 (by omega)]
    exact Ev.step (fun k => rfl) (Ev.neg (by rw [List.length_map]; omega) (Ev.ret rfl))
  | succ d ih =>
    intro i acc h1 h2 h3 h4
    have hi : i < X.length := by omega
    rw [List.drop_eq_getElem_cons hi]
    refine Ev.step (fun k => rfl) (Ev.pos (by rw [List.length_map]; omega) (Ev.pos (by omega) ?_))
    rw [rdLine X i hi]
    have hox := ho _ (List.getElem_mem hi)
    have hfx := hf _ (List.getElem_mem hi)
    generalize X[i] = x at hox hfx ⊢
    obtain ⟨n, f⟩ := x
    simp only at hox hfx
    have hsl : (toS (n, f)).f1 = f.map strOfNums := rfl
    have hsn : (toS (n, f)).f0 = n := rfl
    rw [hsl, hsn, List.length_map]
    by_cases h5 : f.length = 3
    · obtain ⟨a, b, e, rfl⟩ : ∃ a b e, f = [a, b, e] := by
        match f, h5 with
        | [a, b, e], _ => exact ⟨a, b, e, rfl⟩
      refine Ev.pos (by simp) (Ev.pos (by simp) ?_)
      have r0 : rdOf ByteArray.empty (List.map strOfNums [a, b, e]) 0 = strOfNums a := rfl
      have r1 : rdOf ByteArray.empty (List.map strOfNums [a, b, e]) 1 = strOfNums b := rfl
      rw [r0, r1]
      have oa := hox a (by simp)
      have ob := hox b (by simp)
      refine Ev.bind (refPoint_ev oa.1 oa.2) ?_
      unfold cfGo cfS
      simp only
      cases hp : pointL a with
      | none => exact Ev.pos (by decide) (Ev.ret rfl)
      | some c =>
        refine Ev.neg (by show ¬ (c : Int) < 0; omega) (Ev.pos (by simp) (Ev.bind (refSeq_ev ob.1 ob.2) ?_))
        simp only [orNone]
        by_cases c0 : (seqL b).2 = 0
        · rw [if_pos c0]
          refine Ev.pos c0 ?_
          by_cases c1 : (seqL b).1 = []
          · rw [if_pos c1]
            exact Ev.pos (by rw [c1]; rfl) (Ev.ret rfl)
          · rw [if_neg c1]
            have hpos : 0 < (seqL b).1.length := List.length_pos_iff.2 c1
            refine Ev.neg (by omega) ?_
            by_cases c2 : 18 < (seqL b).1.length
            · rw [if_pos c2]
              exact Ev.pos (by omega) (Ev.ret rfl)
            · rw [if_neg c2]
              refine Ev.neg (by omega) ?_
              refine Ev.bind (show Ev (fun k => paronymref06_Find.f k (acc.map cP) (c : Int)) _ from fdx_ev (by omega) (c : Int) _ 0 rfl (Nat.zero_le _)) ?_
              rw [List.drop_zero]
              simp only
              by_cases c3 : acc.any (fun q => decide (q.1 = (c : Int))) = true
              · rw [if_pos c3]
                have := (fdx_any acc (c : Int) 0).2 c3
                exact Ev.pos (by omega) (Ev.ret rfl)
              · rw [if_neg c3]
                have hn : ¬ 0 ≤ fdx acc (c : Int) 0 := fun h => c3 ((fdx_any acc (c : Int) 0).1 h)
                refine Ev.neg (by omega) ?_
                have hne : ∀ q ∈ acc, q.1 ≠ (c : Int) := fun q hq e => c3 (List.any_eq_true.2 ⟨q, hq, decide_eq_true e⟩)
                have hk := ih (i + 1) (insP ((c : Int), (seqL b).1) acc) (by omega) (by omega) (by have := (insP_perm ((c : Int), (seqL b).1) acc).length_eq; rw [this, List.length_cons]; omega) (insP_rising h4 hne)
                have := crf_ins (X := X.map toS) (acc := acc) (c := (c : Int)) (l := (seqL b).1) (i := i) (by omega) (by omega) h4 hk acc.length (Nat.le_refl _) (fun i h hi => absurd h (by omega))
                rw [List.length_map]
                exact this
        · rw [if_neg c0]
          exact Ev.neg c0 (Ev.ret rfl)
    · have : cfS f = .inl 12 := by
        match f, h5 with
        | [], _ => rfl
        | [a], _ => rfl
        | [a, b], _ => rfl
        | [a, b, d], h => exact absurd rfl h
        | a :: b :: d :: g :: r, _ => rfl
      unfold cfGo
      simp only [this]
      exact Ev.neg (by omega) (Ev.ret rfl)
theorem refParse6_ev {b : List Int} (ho : Oct b) (hl : b.length ≤ 50000) : Ev (fun k => paronymref06_Parse.f k (strOfNums b)) (crfR (cfGo (linesI 0 (spl 10 b)) [])) := by
  have hc := splP_count (fun x => decide (x = (10 : Int))) b
  have hn := linesI_len (spl 10 b) 0
  refine Ev.bind (lines_ev ho (by omega)) ?_
  rw [linesS_is]
  have := crf_loop (X := linesI 0 (spl 10 b)) (by unfold spl at hn ⊢; omega) (fun p hp q hq => by
    have := linesI_oct (spl 10 b) 0 (n := 50000) (fun l hl2 => ⟨oct_spl ho hl2, by have := len_spl hl2; omega⟩) p hp q hq
    exact ⟨this.1, by have := this.2; omega⟩) (fun p hp => by
    have := linesI_fl _ 0 50000 (fun l hl2 => by have := len_spl hl2; omega) p hp
    omega) _ 0 [] rfl (Nat.zero_le _) (Nat.le_refl _) List.Pairwise.nil
  rw [List.drop_zero] at this
  exact this
end Go.Proofs.YtbpdcbibooiimaaGreatDoor.K

-- from Qf53
-- Made by hp.py, a program of this session, with the kit's printer. Not trusted: Lean checks it.
namespace Go.Proofs.YtbpdcbibooiimaaGreatDoor.Q
open Go.RowKit Go.Proofs.YtbpdcbibooiimaaGreatDoorW.PrintWords Go.Proofs.YtbpdcbibooiimaaGreatDoorW.PrintLast Go.Proofs.YtbpdcbibooiimaaGreatDoorW.PrintMore
attribute [local go_sem] max2_int min2_int max_two min_two max_three min_three max_four min_four   -- for this text's walks alone
set_option linter.unusedVariables false
set_option linter.unusedSimpArgs false

/-! ### paronymref01_Compare: function 53 -/
mutual
def paronymref01_Compare.l0 : Nat → List Int → List Int → Int → Option (Int)
  | 0, _, _, _ => none
  | k + 1, x0, x1, x5 => if x5 < (x0.length : Int) then (paronymref01_Compare.j1 k x0 x1 x5 (decide (x5 < (x1.length : Int)))) else (paronymref01_Compare.j1 k x0 x1 x5 false)
def paronymref01_Compare.j1 : Nat → List Int → List Int → Int → Bool → Option (Int)
  | 0, _, _, _, _ => none
  | k + 1, x0, x1, x5, x15 => if x15 = true then (if 0 ≤ x5 then (if x5 < (x0.length : Int) then (if x5 < (x1.length : Int) then (if (rd x0 x5) < (rd x1 x5) then (some (-1)) else (if (rd x0 x5) > (rd x1 x5) then (some 1) else (paronymref01_Compare.l0 k x0 x1 (wrap64 (x5 + 1))))) else (none)) else (none)) else (none)) else (if (x0.length : Int) < (x1.length : Int) then (some (-1)) else (if (x0.length : Int) > (x1.length : Int) then (some 1) else (some 0)))
end
def paronymref01_Compare.f (k : Nat) (l0 : List Int) (l1 : List Int) : Option (Int) := paronymref01_Compare.l0 k l0 l1 0
theorem paronymref01_Compare.mono_l : ∀ k, (∀ y0 y1 y2, LeO (paronymref01_Compare.l0 k y0 y1 y2) (paronymref01_Compare.l0 (k + 1) y0 y1 y2)) ∧ (∀ y0 y1 y2 y3, LeO (paronymref01_Compare.j1 k y0 y1 y2 y3) (paronymref01_Compare.j1 (k + 1) y0 y1 y2 y3))
  | 0 => ⟨fun _ _ _ r h => by simp [paronymref01_Compare.l0] at h, fun _ _ _ _ r h => by simp [paronymref01_Compare.j1] at h⟩
  | k + 1 => by
    obtain ⟨ih0, ih1⟩ := paronymref01_Compare.mono_l k
    refine ⟨?_, ?_⟩
    · intro y0 y1 y2
      unfold paronymref01_Compare.l0
      repeat' first
      | (with_reducible exact ih0 _ _ _)
      | (with_reducible exact ih1 _ _ _ _)
      | (with_reducible exact LeO.refl _)
      | (with_reducible exact LeO.none _)
      | (with_reducible refine LeO.ite ?_ ?_)
      | (with_reducible refine LeO.bind ?_ (fun _ => ?_))
      | exact ih0 _ _ _
      | exact ih1 _ _ _ _
      | exact LeO.none _
      | refine LeO.ite ?_ ?_
      | refine LeO.bind ?_ (fun _ => ?_)
    · intro y0 y1 y2 y3
      unfold paronymref01_Compare.j1
      repeat' first
      | (with_reducible exact ih0 _ _ _)
      | (with_reducible exact ih1 _ _ _ _)
      | (with_reducible exact LeO.refl _)
      | (with_reducible exact LeO.none _)
      | (with_reducible refine LeO.ite ?_ ?_)
      | (with_reducible refine LeO.bind ?_ (fun _ => ?_))
      | exact ih0 _ _ _
      | exact ih1 _ _ _ _
      | exact LeO.none _
      | refine LeO.ite ?_ ?_
      | refine LeO.bind ?_ (fun _ => ?_)
theorem paronymref01_Compare.mono : ∀ a0 a1 k, LeO (paronymref01_Compare.f k a0 a1) (paronymref01_Compare.f (k + 1) a0 a1) := by
  intro a0 a1 k
  obtain ⟨ih0, ih1⟩ := paronymref01_Compare.mono_l k
  unfold paronymref01_Compare.f
  repeat' first
      | (with_reducible exact ih0 _ _ _)
      | (with_reducible exact ih1 _ _ _ _)
      | (with_reducible exact LeO.refl _)
      | (with_reducible exact LeO.none _)
      | (with_reducible refine LeO.ite ?_ ?_)
      | (with_reducible refine LeO.bind ?_ (fun _ => ?_))
      | exact ih0 _ _ _
      | exact ih1 _ _ _ _
      | exact LeO.none _
      | refine LeO.ite ?_ ?_
      | refine LeO.bind ?_ (fun _ => ?_)
set_option maxHeartbeats 8000000 in
set_option maxRecDepth 100000 in
theorem paronymref01_Compare.calls (k : Nat) (A0 : Option Addr) (c0 : Nat) (l0 : List Int) (A1 : Option Addr) (c1 : Nat) (l1 : List Int) (r : Int) (w : World) (hr0 : Kd.C (Kd.int .i64) w A0 l0.length l0) (hc0 : l0.length ≤ c0) (hr1 : Kd.C (Kd.int .i64) w A1 l1.length l1) (hc1 : l1.length ≤ c1) (h : paronymref01_Compare.f k l0 l1 = some r) :
    Calls Tryz.prog 53 #[.slice A0 l0.length c0, .slice A1 l1.length c1] w fun e w' => e = .returned (.int .i64 r) ∧ Drawn0 w w' := by
  have HR0 := Aside0.mk hr0
  have HC0 := Aside0.mk hc0
  clear hr0 hc0
  have HR1 := Aside0.mk hr1
  have HC1 := Aside0.mk hc1
  clear hr1 hc1
  have H : (paronymref01_Compare.l0 k l0 l1 0) = some r := h
  clear h
  have H' := Aside0.mk H
  clear H
  go_enter Tryz.func53, Tryz.ntmps53
  go_wp2
  repeat (go_quiet (fail); try go_wp2)
  go_loopg [5] k (fun kq v5 w' => ∃ (x5_1 : Int), v5 = .int .i64 x5_1 ∧ Aside0 (paronymref01_Compare.l0 kq l0 l1 x5_1 = some r) ∧ Aside0 (kq ≤ k) ∧ Drawn0 w w')
  case atStart => exact ⟨(0), (by first | rfl | (simp; done) | (simp [*]; done)), H', ⟨Nat.le_refl _⟩, by repeat (first | exact Drawn0.refl _ | apply Drawn0.step)⟩
  case round =>
    clear H'
    try clear c1
    try clear p2
    obtain ⟨x5_1, rfl, HA, HK1, ⟨m1, rfl⟩⟩ := hrel
    cases gk with
    | zero => exact absurd HA.out (by simp [paronymref01_Compare.l0])
    | succ k1 =>
      have H := HA.out
      clear HA
      simp only [paronymref01_Compare.l0] at H
      have HC3 := Aside0.mk H
      clear H
      go_upto_region 2 with (fail)
      repeat (go_quiet (fail); go_upto_region 2 with (fail))
      go_cut [15] (fun v15 wc => ∃ (kq : Nat) (x15_2 : Bool), v15 = .bool x15_2 ∧ Aside0 (paronymref01_Compare.j1 kq l0 l1 x5_1 x15_2 = some r) ∧ Aside0 (kq ≤ k1) ∧ Drawn0 w wc)
      case first =>
        have H := HC3.out
        clear HC3
        by_cases c4 : x5_1 < (l0.length : Int)
        · rw [if_pos c4] at H
          have c4b0 : decide (x5_1 < (l0.length : Int)) = true := decide_eq_true c4
          clear c4
          (first | rw [c4b0] | (simp only [i64_w, i32_w]; rw [c4b0]) | rw [c4b1] | (simp only [i64_w, i32_w]; rw [c4b1]) | skip)
          have H' := Aside0.mk H
          clear H
          go_wp2
          repeat (go_quiet (fail); try go_wp2)
          go_meet
          case rel => exact ⟨_, (decide (x5_1 < (l1.length : Int))), (by first | rfl | (simp; done) | (simp [*]; done)), H', ⟨by have := HK1.out; first | omega | exact Nat.le_refl _⟩, by repeat (first | exact Drawn0.refl _ | apply Drawn0.step)⟩
        · rw [if_neg c4] at H
          have c4b0 : decide (x5_1 < (l0.length : Int)) = false := decide_eq_false c4
          clear c4
          (first | rw [c4b0] | (simp only [i64_w, i32_w]; rw [c4b0]) | rw [c4b1] | (simp only [i64_w, i32_w]; rw [c4b1]) | skip)
          have H' := Aside0.mk H
          clear H
          go_wp2
          repeat (go_quiet (fail); try go_wp2)
          go_meet
          case rel => exact ⟨_, (false), (by first | rfl | (simp; done) | (simp [*]; done)), H', ⟨by have := HK1.out; first | omega | exact Nat.le_refl _⟩, by repeat (first | exact Drawn0.refl _ | apply Drawn0.step)⟩
      case rest =>
        clear HC3
        try clear c1
        try clear p2
        try clear c4
        try clear c4b0
        try clear c4b1
        try clear p2
        obtain ⟨kq, x15_2, rfl, HA, HJ2, ⟨mc2, rfl⟩⟩ := hcut
        cases kq with
        | zero => exact absurd HA.out (by simp [paronymref01_Compare.j1])
        | succ kj2 =>
          have H := HA.out
          clear HA
          simp only [paronymref01_Compare.j1] at H
          by_cases c5 : x15_2 = true
          · subst c5
            have H1 : (if 0 ≤ x5_1 then (if x5_1 < (l0.length : Int) then (if x5_1 < (l1.length : Int) then (if (rd l0 x5_1) < (rd l1 x5_1) then (some (-1)) else (if (rd l0 x5_1) > (rd l1 x5_1) then (some 1) else (paronymref01_Compare.l0 kj2 l0 l1 (wrap64 (x5_1 + 1))))) else (none)) else (none)) else (none)) = some r := by rw [if_pos rfl] at H; exact H
            clear H
            have H := H1
            clear H1
            by_cases c6 : 0 ≤ x5_1
            · rw [if_pos c6] at H
              have c6b0 : decide (0 ≤ x5_1) = true := decide_eq_true c6
              clear c6
              by_cases c7 : x5_1 < (l0.length : Int)
              · rw [if_pos c7] at H
                have c7b0 : decide (x5_1 < (l0.length : Int)) = true := decide_eq_true c7
                clear c7
                by_cases c8 : x5_1 < (l1.length : Int)
                · rw [if_pos c8] at H
                  have c8b0 : decide (x5_1 < (l1.length : Int)) = true := decide_eq_true c8
                  clear c8
                  by_cases c9 : (rd l0 x5_1) < (rd l1 x5_1)
                  · rw [if_pos c9] at H
                    have c9b0 : decide ((rd l0 x5_1) < (rd l1 x5_1)) = true := decide_eq_true c9
                    clear c9
                    obtain rfl := Option.some.inj H
                    have p101 : 0 ≤ (x5_1 : Int) := of_decide_eq_true (by first | (with_reducible assumption) | assumption)
                    have q101 : x5_1 < (l0.length : Int) := of_decide_eq_true (by first | (with_reducible assumption) | assumption)
                    obtain ⟨ad101, e101, hx101_0⟩ := Kd.at_int HR0.out x5_1 p101 q101
                    cases e101
                    replace p101 := eq_true p101
                    replace q101 := eq_true q101
                    have p102 : 0 ≤ (x5_1 : Int) := of_decide_eq_true (by first | (with_reducible assumption) | assumption)
                    have q102 : x5_1 < (l1.length : Int) := of_decide_eq_true (by first | (with_reducible assumption) | assumption)
                    obtain ⟨ad102, e102, hx102_0⟩ := Kd.at_int HR1.out x5_1 p102 q102
                    cases e102
                    replace p102 := eq_true p102
                    replace q102 := eq_true q102
                    go_wp2
                    repeat (go_quiet (fail); try go_wp2)
                    go_ret
                    exact ⟨by first | rfl | (simp; done) | (simp [*]; done), by repeat (first | exact Drawn0.refl _ | apply Drawn0.step)⟩
                  · rw [if_neg c9] at H
                    have c9b0 : decide ((rd l0 x5_1) < (rd l1 x5_1)) = false := decide_eq_false c9
                    clear c9
                    by_cases c10 : (rd l0 x5_1) > (rd l1 x5_1)
                    · rw [if_pos c10] at H
                      have c10b0 : decide ((rd l1 x5_1) < (rd l0 x5_1)) = true := decide_eq_true c10
                      clear c10
                      obtain rfl := Option.some.inj H
                      have p101 : 0 ≤ (x5_1 : Int) := of_decide_eq_true (by first | (with_reducible assumption) | assumption)
                      have q101 : x5_1 < (l0.length : Int) := of_decide_eq_true (by first | (with_reducible assumption) | assumption)
                      obtain ⟨ad101, e101, hx101_0⟩ := Kd.at_int HR0.out x5_1 p101 q101
                      cases e101
                      replace p101 := eq_true p101
                      replace q101 := eq_true q101
                      have p102 : 0 ≤ (x5_1 : Int) := of_decide_eq_true (by first | (with_reducible assumption) | assumption)
                      have q102 : x5_1 < (l1.length : Int) := of_decide_eq_true (by first | (with_reducible assumption) | assumption)
                      obtain ⟨ad102, e102, hx102_0⟩ := Kd.at_int HR1.out x5_1 p102 q102
                      cases e102
                      replace p102 := eq_true p102
                      replace q102 := eq_true q102
                      have p103 : 0 ≤ (x5_1 : Int) := of_decide_eq_true (by first | (with_reducible assumption) | assumption)
                      have q103 : x5_1 < (l0.length : Int) := of_decide_eq_true (by first | (with_reducible assumption) | assumption)
                      obtain ⟨ad103, e103, hx103_0⟩ := Kd.at_int HR0.out x5_1 p103 q103
                      obtain rfl : ad101 = ad103 := (by injection e103)
                      replace p103 := eq_true p103
                      replace q103 := eq_true q103
                      have p104 : 0 ≤ (x5_1 : Int) := of_decide_eq_true (by first | (with_reducible assumption) | assumption)
                      have q104 : x5_1 < (l1.length : Int) := of_decide_eq_true (by first | (with_reducible assumption) | assumption)
                      obtain ⟨ad104, e104, hx104_0⟩ := Kd.at_int HR1.out x5_1 p104 q104
                      obtain rfl : ad102 = ad104 := (by injection e104)
                      replace p104 := eq_true p104
                      replace q104 := eq_true q104
                      go_wp2
                      repeat (go_quiet (fail); try go_wp2)
                      go_ret
                      exact ⟨by first | rfl | (simp; done) | (simp [*]; done), by repeat (first | exact Drawn0.refl _ | apply Drawn0.step)⟩
                    · rw [if_neg c10] at H
                      have c10b0 : decide ((rd l1 x5_1) < (rd l0 x5_1)) = false := decide_eq_false c10
                      clear c10
                      have H' := Aside0.mk H
                      clear H
                      have p101 : 0 ≤ (x5_1 : Int) := of_decide_eq_true (by first | (with_reducible assumption) | assumption)
                      have q101 : x5_1 < (l0.length : Int) := of_decide_eq_true (by first | (with_reducible assumption) | assumption)
                      obtain ⟨ad101, e101, hx101_0⟩ := Kd.at_int HR0.out x5_1 p101 q101
                      cases e101
                      replace p101 := eq_true p101
                      replace q101 := eq_true q101
                      have p102 : 0 ≤ (x5_1 : Int) := of_decide_eq_true (by first | (with_reducible assumption) | assumption)
                      have q102 : x5_1 < (l1.length : Int) := of_decide_eq_true (by first | (with_reducible assumption) | assumption)
                      obtain ⟨ad102, e102, hx102_0⟩ := Kd.at_int HR1.out x5_1 p102 q102
                      cases e102
                      replace p102 := eq_true p102
                      replace q102 := eq_true q102
                      have p103 : 0 ≤ (x5_1 : Int) := of_decide_eq_true (by first | (with_reducible assumption) | assumption)
                      have q103 : x5_1 < (l0.length : Int) := of_decide_eq_true (by first | (with_reducible assumption) | assumption)
                      obtain ⟨ad103, e103, hx103_0⟩ := Kd.at_int HR0.out x5_1 p103 q103
                      obtain rfl : ad101 = ad103 := (by injection e103)
                      replace p103 := eq_true p103
                      replace q103 := eq_true q103
                      have p104 : 0 ≤ (x5_1 : Int) := of_decide_eq_true (by first | (with_reducible assumption) | assumption)
                      have q104 : x5_1 < (l1.length : Int) := of_decide_eq_true (by first | (with_reducible assumption) | assumption)
                      obtain ⟨ad104, e104, hx104_0⟩ := Kd.at_int HR1.out x5_1 p104 q104
                      obtain rfl : ad102 = ad104 := (by injection e104)
                      replace p104 := eq_true p104
                      replace q104 := eq_true q104
                      go_wp2
                      repeat (go_quiet (fail); try go_wp2)
                      go_roundg kj2
                      case measure => have := HK1.out; have := HJ2.out; omega
                      case rel => exact ⟨(wrap64 (x5_1 + 1)), (by first | rfl | (simp; done) | (simp [*]; done)), H', ⟨by have := HK1.out; have := HJ2.out; omega⟩, by repeat (first | exact Drawn0.refl _ | apply Drawn0.step)⟩
                · rw [if_neg c8] at H
                  exact absurd H (by simp)
              · rw [if_neg c7] at H
                exact absurd H (by simp)
            · rw [if_neg c6] at H
              exact absurd H (by simp)
          · replace c5 := Bool.eq_false_iff.mpr c5
            subst c5
            have H1 : (if (l0.length : Int) < (l1.length : Int) then (some (-1)) else (if (l0.length : Int) > (l1.length : Int) then (some 1) else (some 0))) = some r := by rw [if_neg (show ¬ (false = true) by decide)] at H; exact H
            clear H
            have H := H1
            clear H1
            by_cases c11 : (l0.length : Int) < (l1.length : Int)
            · rw [if_pos c11] at H
              have c11b0 : decide ((l0.length : Int) < (l1.length : Int)) = true := decide_eq_true c11
              have c11b1 : decide (l0.length < l1.length) = true := decide_eq_true (Int.ofNat_lt.mp c11)
              clear c11
              obtain rfl := Option.some.inj H
              go_wp2
              repeat (go_quiet (fail); try go_wp2)
              go_ret
              exact ⟨by first | rfl | (simp; done) | (simp [*]; done), by repeat (first | exact Drawn0.refl _ | apply Drawn0.step)⟩
            · rw [if_neg c11] at H
              have c11b0 : decide ((l0.length : Int) < (l1.length : Int)) = false := decide_eq_false c11
              have c11b1 : decide (l0.length < l1.length) = false := decide_eq_false (fun h => c11 (Int.ofNat_lt.mpr h))
              clear c11
              by_cases c12 : (l0.length : Int) > (l1.length : Int)
              · rw [if_pos c12] at H
                have c12b0 : decide ((l1.length : Int) < (l0.length : Int)) = true := decide_eq_true c12
                have c12b1 : decide (l1.length < l0.length) = true := decide_eq_true (Int.ofNat_lt.mp c12)
                clear c12
                obtain rfl := Option.some.inj H
                go_wp2
                repeat (go_quiet (fail); try go_wp2)
                go_ret
                exact ⟨by first | rfl | (simp; done) | (simp [*]; done), by repeat (first | exact Drawn0.refl _ | apply Drawn0.step)⟩
              · rw [if_neg c12] at H
                have c12b0 : decide ((l1.length : Int) < (l0.length : Int)) = false := decide_eq_false c12
                have c12b1 : decide (l1.length < l0.length) = false := decide_eq_false (fun h => c12 (Int.ofNat_lt.mpr h))
                clear c12
                obtain rfl := Option.some.inj H
                go_wp2
                repeat (go_quiet (fail); try go_wp2)
                go_ret
                exact ⟨by first | rfl | (simp; done) | (simp [*]; done), by repeat (first | exact Drawn0.refl _ | apply Drawn0.step)⟩

end Go.Proofs.YtbpdcbibooiimaaGreatDoor.Q

-- from Qf20
-- Made by hp.py, a program of this session, with the kit's printer. Not trusted: Lean checks it.
namespace Go.Proofs.YtbpdcbibooiimaaGreatDoor.Q
open Go.RowKit Go.Proofs.YtbpdcbibooiimaaGreatDoorW.PrintWords Go.Proofs.YtbpdcbibooiimaaGreatDoorW.PrintLast Go.Proofs.YtbpdcbibooiimaaGreatDoorW.PrintMore
attribute [local go_sem] max2_int min2_int max_two min_two max_three min_three max_four min_four   -- for this text's walks alone
set_option linter.unusedVariables false
set_option linter.unusedSimpArgs false

/-! ### paronymref01_Same: function 20 -/
def paronymref01_Same.f (k : Nat) (l0 : List Int) (l1 : List Int) : Option (Bool) := (paronymref01_Compare.f k l0 l1).bind fun t101 => (some (t101 == 0))
theorem paronymref01_Same.mono : ∀ a0 a1 k, LeO (paronymref01_Same.f k a0 a1) (paronymref01_Same.f (k + 1) a0 a1) := by
  intro a0 a1 k
  unfold paronymref01_Same.f
  repeat' first
      | (with_reducible exact paronymref01_Compare.mono _ _ _)
      | (with_reducible exact LeO.refl _)
      | (with_reducible exact LeO.none _)
      | (with_reducible refine LeO.ite ?_ ?_)
      | (with_reducible refine LeO.bind ?_ (fun _ => ?_))
      | exact paronymref01_Compare.mono _ _ _
      | exact LeO.none _
      | refine LeO.ite ?_ ?_
      | refine LeO.bind ?_ (fun _ => ?_)
set_option maxHeartbeats 8000000 in
set_option maxRecDepth 100000 in
theorem paronymref01_Same.calls (k : Nat) (A0 : Option Addr) (c0 : Nat) (l0 : List Int) (A1 : Option Addr) (c1 : Nat) (l1 : List Int) (r : Bool) (w : World) (hr0 : Kd.C (Kd.int .i64) w A0 l0.length l0) (hc0 : l0.length ≤ c0) (hr1 : Kd.C (Kd.int .i64) w A1 l1.length l1) (hc1 : l1.length ≤ c1) (h : paronymref01_Same.f k l0 l1 = some r) :
    Calls Tryz.prog 20 #[.slice A0 l0.length c0, .slice A1 l1.length c1] w fun e w' => e = .returned (.bool r) ∧ Drawn0 w w' := by
  have HR0 := Aside0.mk hr0
  have HC0 := Aside0.mk hc0
  clear hr0 hc0
  have HR1 := Aside0.mk hr1
  have HC1 := Aside0.mk hc1
  clear hr1 hc1
  have H : ((paronymref01_Compare.f k l0 l1).bind fun t101 => (some (t101 == 0))) = some r := h
  clear h
  replace H := Option.bind_eq_some_iff.mp H
  obtain ⟨t101, A30, H⟩ := H
  replace H : (some (t101 == 0)) = some r := H
  have A3 := Aside0.mk A30
  clear A30
  obtain rfl := Option.some.inj H
  go_enter Tryz.func20, Tryz.ntmps20
  go_wp2_with (first | ((with_reducible refine gate_callee (f := 53) rfl ?_); refine goesL_ (some 7) rfl rfl Tryz.func53 (by kernel_rfl) rfl #[.slice A0 l0.length c0, .slice A1 l1.length c1] rfl (by (try simp only [List.map_toArray, List.map_cons, List.map_nil]); first | done | rfl | (simp only [List.length_drop, List.length_take]; rfl)) ?_; (with_reducible refine (paronymref01_Compare.calls k _ _ l0 _ _ l1 t101 _ ?side1 ?side2 ?side3 ?side4 A3.out).mono ?_); (case side1 => repeat (first | exact HR0.out | (with_reducible refine Kd.C_alloc ?_ _) | (with_reducible refine Kd.C_drewN ?_ _) | (with_reducible refine Kd.C_drew ?_))); (case side2 => exact HC0.out); (case side3 => repeat (first | exact HR1.out | (with_reducible refine Kd.C_alloc ?_ _) | (with_reducible refine Kd.C_drewN ?_ _) | (with_reducible refine Kd.C_drew ?_))); (case side4 => exact HC1.out); rintro e w' ⟨rfl, ⟨nd, rfl⟩⟩; refine ⟨_, rfl, ?_⟩))
  go_ret
  exact ⟨by first | rfl | (simp; done) | (simp [*]; done), by repeat (first | exact Drawn0.refl _ | apply Drawn0.step)⟩

end Go.Proofs.YtbpdcbibooiimaaGreatDoor.Q

-- from Pcmp
/- Texts compared: the reference's Compare and Same on lists. -/
namespace Go.Proofs.YtbpdcbibooiimaaGreatDoor.K
set_option linter.unusedVariables false
set_option linter.unusedSimpArgs false
open Go.RowKit Go.Proofs.YtbpdcbibooiimaaGreatDoorW.PrintWords Go.Proofs.YtbpdcbibooiimaaGreatDoorW.PrintMore Go.Proofs.YtbpdcbibooiimaaGreatDoor.Q

def cmpL : List Int → List Int → Int
  | [], [] => 0
  | [], _ :: _ => -1
  | _ :: _, [] => 1
  | x :: l, y :: m => if x < y then -1 else if x > y then 1 else cmpL l m
theorem cmpL_zero : ∀ (l m : List Int), cmpL l m = 0 ↔ l = m
  | [], [] => by simp [cmpL]
  | [], _ :: _ => by simp [cmpL]
  | _ :: _, [] => by simp [cmpL]
  | x :: l, y :: m => by
    unfold cmpL
    by_cases a : x < y
    · rw [if_pos a]; simp; omega
    · rw [if_neg a]
      by_cases b : x > y
      · rw [if_pos b]; simp; omega
      · rw [if_neg b, cmpL_zero l m]
        have : x = y := by omega
        simp [this]
theorem refCompare_ev (l m : List Int) (hl : l.length ≤ 1099511627776) (hm : m.length ≤ 1099511627776) : Ev (fun k => paronymref01_Compare.f k l m) (cmpL l m) := by
  have key : ∀ (d i : Nat), l.length - i = d → i ≤ l.length → i ≤ m.length → Ev (fun k => paronymref01_Compare.l0 k l m i) (cmpL (l.drop i) (m.drop i)) := by
    have hend : ∀ i : Nat, i ≤ l.length → i ≤ m.length → (i = l.length ∨ i = m.length) → ∀ b : Bool, b = false → Ev (fun k => paronymref01_Compare.j1 k l m i b) (cmpL (l.drop i) (m.drop i)) := by
      intro i h1 h2 h3 b hb
      refine Ev.step (fun k => rfl) (Ev.neg (by simp [hb]) ?_)
      by_cases a : l.length < m.length
      · have e : i = l.length := by omega
        subst e
        rw [List.drop_length, drop_cons m l.length a]
        exact Ev.pos (by omega) (Ev.ret (by simp [cmpL]))
      · by_cases b : m.length < l.length
        · have e : i = m.length := by omega
          subst e
          rw [List.drop_length, drop_cons l m.length b]
          exact Ev.neg (by omega) (Ev.pos (by omega) (Ev.ret (by simp [cmpL])))
        · have e : i = l.length := by omega
          have e2 : i = m.length := by omega
          rw [List.drop_of_length_le (by omega), List.drop_of_length_le (by omega)]
          exact Ev.neg (by omega) (Ev.neg (by omega) (Ev.ret (by simp [cmpL])))
    intro d
    induction d with
    | zero =>
      intro i h1 h2 h3
      exact Ev.step (fun k => rfl) (Ev.neg (by omega) (hend i h2 h3 (.inl (by omega)) false rfl))
    | succ d ih =>
      intro i h1 h2 h3
      have hi : i < l.length := by omega
      refine Ev.step (fun k => rfl) (Ev.pos (by omega) ?_)
      by_cases a : i < m.length
      · have e : decide ((i : Int) < (m.length : Int)) = true := by simpa using a
        refine Ev.step (fun k => rfl) (Ev.pos e (Ev.pos (by omega) (Ev.pos (by omega) (Ev.pos (by omega) ?_))))
        rw [drop_cons l i hi, drop_cons m i a]
        unfold cmpL
        by_cases b : rd l i < rd m i
        · exact Ev.pos b (Ev.ret (if_pos b).symm)
        · refine Ev.neg b ?_
          rw [show (if rd l i < rd m i then (-1 : Int) else if rd l i > rd m i then 1 else cmpL (l.drop (i + 1)) (m.drop (i + 1))) = (if rd l i > rd m i then 1 else cmpL (l.drop (i + 1)) (m.drop (i + 1))) from if_neg b]
          by_cases c : rd l i > rd m i
          · exact Ev.pos c (Ev.ret (if_pos c).symm)
          · rw [show (if rd l i > rd m i then (1 : Int) else cmpL (l.drop (i + 1)) (m.drop (i + 1))) = cmpL (l.drop (i + 1)) (m.drop (i + 1)) from if_neg c]
            refine Ev.neg c ?_
            rw [w64 (by omega) (by omega)]
            exact ih (i + 1) (by omega) (by omega) (by omega)
      · have e : decide ((i : Int) < (m.length : Int)) = false := by simpa using a
        exact hend i h2 h3 (.inr (by omega)) _ e
  have := key l.length 0 (by omega) (by omega) (by omega)
  unfold paronymref01_Compare.f
  simpa using this
theorem refSame_ev (l m : List Int) (hl : l.length ≤ 1099511627776) (hm : m.length ≤ 1099511627776) : Ev (fun k => paronymref01_Same.f k l m) (decide (l = m)) := by
  unfold paronymref01_Same.f
  refine Ev.bind (refCompare_ev l m hl hm) (Ev.ret ?_)
  rw [Bool.eq_iff_iff]
  simp [cmpL_zero]

end Go.Proofs.YtbpdcbibooiimaaGreatDoor.K

-- from Hsam
/- A row of whole numbers is the same as itself (the reference's Same). -/
namespace Go.Proofs.YtbpdcbibooiimaaGreatDoor.Q
open Go.RowKit Go.Proofs.YtbpdcbibooiimaaGreatDoorW.PrintWords Go.Proofs.YtbpdcbibooiimaaGreatDoorW.PrintLast Go.Proofs.YtbpdcbibooiimaaGreatDoorW.PrintMore Go.Proofs.YtbpdcbibooiimaaGreatDoor.K
set_option linter.unusedVariables false
set_option linter.unusedSimpArgs false
theorem same1_calls (A A' : Option Addr) (c c' : Nat) (l : List Int) (w : World) (hr : Kd.C (Kd.int .i64) w A l.length l) (hc : l.length ≤ c) (hr' : Kd.C (Kd.int .i64) w A' l.length l) (hc' : l.length ≤ c') (hl : l.length ≤ 1000000) :
    Calls Tryz.prog 20 #[.slice A l.length c, .slice A' l.length c'] w fun e w' => e = .returned (.bool true) ∧ Drawn0 w w' := by
  obtain ⟨k, hk⟩ := (refSame_ev l l (by omega) (by omega)).rounds
  rw [decide_eq_true rfl] at hk
  exact paronymref01_Same.calls k A c l A' c' l true w hr hc hr' hc' hk
end Go.Proofs.YtbpdcbibooiimaaGreatDoor.Q

-- from Hbut
/- All blocks but one are as they were. -/
namespace Go.Proofs.YtbpdcbibooiimaaGreatDoor.Q
open Go.RowKit Go.Proofs.YtbpdcbibooiimaaGreatDoorW.PrintWords Go.Proofs.YtbpdcbibooiimaaGreatDoorW.PrintLast Go.Proofs.YtbpdcbibooiimaaGreatDoorW.PrintMore Go.Proofs.YtbpdcbibooiimaaGreatDoor.K
set_option linter.unusedVariables false
set_option linter.unusedSimpArgs false

def But (R : Nat) (A B : World) : Prop := A.heap.size ≤ B.heap.size ∧ ∀ k, k < A.heap.size → k ≠ R → B.heap[k]? = A.heap[k]?
theorem But.refl (R : Nat) (A : World) : But R A A := ⟨Nat.le_refl _, fun _ _ _ => rfl⟩
theorem But.drew (R : Nat) (A : World) : But R A A.drew := ⟨Nat.le_refl _, fun _ _ _ => rfl⟩
theorem But.below {R : Nat} {A B C : World} (h : But R A B) (k : Below B.heap.size B C) : But R A C := ⟨Nat.le_trans h.1 k.size, fun j hj hn => (k.block j (by have := h.1; omega)).trans (h.2 j hj hn)⟩
theorem But.set {R : Nat} {A B : World} (h : But R A B) {v : Value} : But R A (B.setCell ⟨R, 0, none⟩ v) := ⟨by simp; exact h.1, fun j hj hn => (Below.heap_setCell B ⟨R, 0, none⟩ v j hn).trans (h.2 j hj hn)⟩
theorem But.cell {R : Nat} {A B : World} (h : But R A B) {p : Addr} {v : Value} (hp : p.block ≠ R) (hc : A.cell? p = some v) : B.cell? p = some v := by
  have hl := World.block_lt_of_cell? A _ hc
  unfold World.cell? at hc ⊢
  rw [h.2 _ hl hp]; exact hc
theorem keepsOthers_drewN (W : World) (n : Nat) : KeepsOthers W (W.drewN n) := ⟨Nat.le_refl _, fun _ _ h _ => h⟩
end Go.Proofs.YtbpdcbibooiimaaGreatDoor.Q

-- from Hcis
/- Layer 6's law: Is (a table has just these pairs). -/
namespace Go.Proofs.YtbpdcbibooiimaaGreatDoor.Q
open Go.RowKit Go.Shelf Go.Maps Go.Proofs.YtbpdcbibooiimaaGreatDoorW.PrintWords Go.Proofs.YtbpdcbibooiimaaGreatDoorW.PrintLast Go.Proofs.YtbpdcbibooiimaaGreatDoorW.PrintMore Go.Proofs.YtbpdcbibooiimaaGreatDoor.K
set_option linter.unusedVariables false
set_option linter.unusedSimpArgs false
attribute [local go_sem] Oper.semAt_some
theorem min2_mn6 (k k' : IntKind) (x y : Int) : Builtin.min2 (.int k x) (.int k' y) = pure (.int k (mn x y)) := min2_int k k' x y
attribute [local go_sem] min2_mn6 max_two min_two

/-- How far the comparison is. -/
def is6I (w : World) (B : Nat) (A : Option Addr) (c m : Nat) (most : Int) (pre : List (Int × (Value × List Int))) (W : World) : Prop := Boxed W (w.heap.size + 1 + 1 + 1) 3 (.int .i64 pre.length) ∧ Boxed W (w.heap.size + 1 + 1) 4 (.bool false) ∧ Boxed W (w.heap.size + 1) 3 (.int .i64 most) ∧ Boxed W w.heap.size 47 (.slice A m c) ∧ (Below w.heap.size w W ∧ B ≤ W.heap.size) ∧ (pre.length : Int) ≤ most
theorem is6I_own (w : World) (B B' : Nat) (hB : w.heap.size ≤ B') (A : Option Addr) (c m : Nat) (most : Int) : OwnFrom B' (is6I w B A c m most) := fun s W W' row hs hg hr => by
  obtain ⟨h1, h2, h3, h4, ⟨h5, h6⟩, h7⟩ := hs
  have hk : SameC W W' := SameC.of_grown hg (fun r e => (hr r e).2)
  exact ⟨boxed_sameC h1 hk, boxed_sameC h2 hk, boxed_sameC h3 hk, boxed_sameC h4 hk, ⟨ownFrom_below (β := Unit) (Nat.le_refl _) hB () W W' row h5 hg hr, Nat.le_trans h6 hg.size⟩, h7⟩
/-- Where it breaks off. -/
def is6X (w : World) (B : Nat) (A : Option Addr) (c m : Nat) (most : Int) (cd : Code) (xs : List (Int × (Value × List Int))) (W : World) : Prop := cd = .exit 0 ∧ ∃ pre x, xs = pre ++ [x] ∧ (pre.length : Int) = most ∧ is6I w B A c m most pre W
theorem is6X_own (w : World) (B B' : Nat) (hB : w.heap.size ≤ B') (A : Option Addr) (c m : Nat) (most : Int) (cd : Code) : OwnFrom B' (is6X w B A c m most cd) := fun s W W' row hs hg hr => by
  obtain ⟨h1, pre, x, h2, h3, h4⟩ := hs
  exact ⟨h1, pre, x, h2, h3, is6I_own w B B' hB A c m most pre W W' row h4 hg hr⟩
theorem confus_Len.callsS (q : Option Addr) (l : List (Int × List Int)) (w w' : World) (h : CTab w q l) (hb : SameBel w.heap.size w w') :
    Calls Tryz.prog 29 #[.pointer q] w' fun e w2 => e = .returned (.int .i64 l.length) ∧ Below w'.heap.size w' w2 :=
  (confus_Len.calls q l w' (h.same hb)).mono fun e w2 h => ⟨h.1, by rw [h.2]; exact Below.refl _ _⟩
theorem But.sameBel {R : Nat} {w W W' : World} (hb : Below w.heap.size w W) (h : But R W W') (hR : w.heap.size ≤ R) : SameBel w.heap.size w W' := ⟨Nat.le_trans hb.size h.1, fun k hk => (h.2 k (by have := hb.size; omega) (by omega)).trans (hb.block k hk)⟩
theorem confus_Len.callsB (q : Option Addr) (l : List (Int × List Int)) (w w' : World) (h : CTab w q l) (hb : Below w.heap.size w w') :
    Calls Tryz.prog 29 #[.pointer q] w' fun e w2 => e = .returned (.int .i64 l.length) ∧ Below w'.heap.size w' w2 :=
  (confus_Len.calls q l w' (h.below hb)).mono fun e w2 h => ⟨h.1, by rw [h.2]; exact Below.refl _ _⟩
theorem keepM_set {m : Nat} {T : Nat → Prop} {A : World} {p : Addr} {v : Value} (hT : T p.block) (hm : m ≤ p.block) : KeepM m T A (A.setCell p v) :=
  ⟨KeepC.of_set hT, by simp, fun k hk => Below.heap_setCell A p v k (by omega)⟩
set_option maxHeartbeats 4000000 in
set_option maxRecDepth 100000 in
theorem paronymlaw06_Is.main (q : Option Addr) (l : List (Int × List Int)) (A1 : Option Addr) (c1 : Nat) (M : List S56) (hM : M = l.map cP) (most : Int) (h0 : 0 ≤ most) (w : World) (hT : CTab w q l) (hl : l.length ≤ 100000) (hll : ∀ p ∈ l, p.2.length ≤ 100000) (hr : Kd.C k56 w A1 M.length M) :
    Calls Tryz.prog 26 #[.pointer q, .slice A1 M.length c1, .int .i64 most] w fun e w' => e = .returned (.bool true) ∧ Below w.heap.size w w' := by
  have hML : M.length = l.length := by rw [hM, List.length_map]
  rw [hML] at hr ⊢
  obtain ⟨w4, hw4⟩ : ∃ w4, w4 = (((w.alloc (.cells #[.slice A1 l.length c1] 47)).alloc (.cells #[.int .i64 most] 3)).alloc (.cells #[.bool false] 4)).alloc (.cells #[.int .i64 0] 3) := ⟨_, rfl⟩
  have hsz4 : w4.heap.size = w.heap.size + 4 := by rw [hw4]; simp
  have hb4 : Below w.heap.size w w4 := by
    rw [hw4]
    exact ((((Below.refl _ w).alloc (Nat.le_refl _) _).alloc (by simp only [World.size_alloc]; omega) _).alloc (by simp only [World.size_alloc]; omega) _).alloc (by simp only [World.size_alloc]; omega) _
  have hx0 : Boxed w4 w.heap.size 47 (.slice A1 l.length c1) := by rw [hw4]; exact (((Boxed.new w _ _).alloc _).alloc _).alloc _
  have hx1 : Boxed w4 (w.heap.size + 1) 3 (.int .i64 most) := by
    have := Boxed.new (w.alloc (.cells #[.slice A1 l.length c1] 47)) 3 (.int .i64 most)
    simp only [World.size_alloc] at this
    rw [hw4]; exact (this.alloc _).alloc _
  have hx2 : Boxed w4 (w.heap.size + 1 + 1) 4 (.bool false) := by
    have := Boxed.new ((w.alloc (.cells #[.slice A1 l.length c1] 47)).alloc (.cells #[.int .i64 most] 3)) 4 (.bool false)
    simp only [World.size_alloc] at this
    rw [hw4]; exact this.alloc _
  have hx3 : Boxed w4 (w.heap.size + 1 + 1 + 1) 3 (.int .i64 0) := by
    have := Boxed.new (((w.alloc (.cells #[.slice A1 l.length c1] 47)).alloc (.cells #[.int .i64 most] 3)).alloc (.cells #[.bool false] 4)) 3 (.int .i64 0)
    simp only [World.size_alloc] at this
    rw [hw4]; exact this
  have hcall := confus_All.calls q w4
  rw [hw4] at hcall
  have HCALL := Aside0.mk hcall
  have HW4 := Aside0.mk hw4
  have HX4 := Aside0.mk (And.intro hx0 (And.intro hx1 (And.intro hx2 hx3)))
  have HS4 := Aside0.mk hsz4
  have HB4 := Aside0.mk hb4
  have HM := Aside0.mk hM
  have HL := Aside0.mk hl
  have HLL := Aside0.mk hll
  have HR := Aside0.mk hr
  have HT := Aside0.mk hT
  have HMO := Aside0.mk h0
  clear hcall hw4 hx0 hx1 hx2 hx3 hsz4 hb4 hM hl hll hr hT hML h0
  refine (callsIn_wide (n := 20)).1 ?_
  refine callsIn_of_wp_marks Tryz.func26 rfl trivial ?_ rfl
  simp only [Tryz.ntmps26, List.size_toArray, List.length_cons, List.length_nil, Nat.reduceAdd, Nat.reduceSub, Array.replicate_succ, Array.replicate_zero, List.push_toArray, List.append_toArray, List.nil_append, List.cons_append]
  refine wpIn_wide.2 ?_
  go_wp2_with (go_at_call 58; refine HCALL.out.mono ?_; rw [← HW4.out]; rintro e w5 ⟨rfl, hw5⟩
               have hbx : Boxed w5 w4.heap.size 44 (.pointer q) := by rw [hw5]; exact Boxed.new w4 _ _
               have hb5 : Below w4.heap.size w4 w5 := by rw [hw5]; exact (Below.refl _ _).alloc (Nat.le_refl _) _
               have hz5 : w5.heap.size = w.heap.size + 5 := by have := HS4.out; rw [hw5, World.size_alloc]; omega
               have HBX := Aside0.mk hbx
               have HB5 := Aside0.mk (HB4.out.trans (hb5.mono HB4.out.size))
               have HK5 := Aside0.mk (SameC.of_below hb5)
               have HZ5 := Aside0.mk hz5
               clear hbx hb5 hz5 hw5)
  have hT0 : SameBel w.heap.size w w5 := SameBel.of_below HB5.out
  have hst := confus_All.stops q l HL.out HLL.out w HT.out w4.heap.size (fun k => k = w.heap.size + 1 + 1 + 1) w5 hT0 (fun k h => by have := HZ5.out; omega) (fun h => by have := HS4.out; omega) HBX.out 19 (by omega)
  have hI0 : is6I w w5.heap.size A1 c1 l.length most [] w5 := ⟨boxed_sameC HX4.out.2.2.2 HK5.out, boxed_sameC HX4.out.2.2.1 HK5.out, boxed_sameC HX4.out.2.1 HK5.out, boxed_sameC HX4.out.1 HK5.out, ⟨HB5.out, Nat.le_refl _⟩, HMO.out⟩
  have HST := Aside0.mk hst
  have HI0 := Aside0.mk hI0
  clear hst hI0 hT0 HBX HX4 HCALL HW4 HK5
  refine (wpIn_wide (n := 20)).1 ?_
  refine wpIn_range_as rfl (by omega) (gf := 82) (lb := #[Value.pointer (some ⟨w4.heap.size, 0, none⟩)]) rfl trivial (enters_of Tryz.func82 (by kernel_rfl) rfl)
    HST.out KeepM.trans (keepM_put (by have := HZ5.out; omega)) (Below.refl _ _) (fun _ => rfl)
    (is6I w w5.heap.size A1 c1 l.length most) (is6X w w5.heap.size A1 c1 l.length most) (is6I_own w _ _ (by have := HZ5.out; omega) _ _ _ _) (fun cd => is6X_own w _ _ (by have := HZ5.out; omega) _ _ _ _ cd) HI0.out
    (fun pre x a1 W => a1 = { tmps := #[Value.pointer q, Value.slice A1 l.length c1, Value.int IntKind.i64 most, undef, Value.pointer (some ⟨w.heap.size, 0, none⟩), Value.pointer (some ⟨w.heap.size + 1, 0, none⟩), Value.pointer (some ⟨w.heap.size + 1 + 1, 0, none⟩), Value.pointer (some ⟨w.heap.size + 1 + 1 + 1, 0, none⟩), Value.int IntKind.i64 x.1, x.2.1, Value.pointer q, Value.func (Fn.func 82) #[] #[Value.pointer (some ⟨w4.heap.size, 0, none⟩)], Value.int IntKind.i64 x.1, x.2.1, undef, undef, undef, undef, undef, undef, undef, undef, undef, undef, undef, undef, undef, undef, undef, undef, undef, undef, undef, undef, undef, undef, undef, undef, undef, undef, undef, undef, undef, undef, undef, undef, undef, undef, undef, undef, undef, undef, undef, undef, undef], defers := [] } ∧ Kd.R (Kd.int .i64) 3 W 0 (fun k => ¬ k = w.heap.size + 1 + 1 + 1) x.2.1 x.2.2 ∧ is6I w w5.heap.size A1 c1 l.length most pre W)
    (fun pre x a1 s W W' row hs hg hr => by
      obtain ⟨h1, h2, h3⟩ := hs
      have hk : SameC W W' := SameC.of_grown hg (fun r e => (hr r e).2)
      exact ⟨h1, (show KeepC (fun k => k = w.heap.size + 1 + 1 + 1) W W' from ⟨hg.size, fun k o hk2 hc _ => hk k o hk2 hc⟩).rowI h2, is6I_own w _ _ (by have := HZ5.out; omega) _ _ _ _ pre W W' row h3 hg hr⟩) ?assign ?body ?done ?stop
  case assign =>
    rintro l' pre x W K hI hR hK
    have HI := Aside0.mk hI
    have HRX := Aside0.mk hR
    have HK := Aside0.mk hK
    clear hI hR hK
    gi_wp2
    exact HK.out _ _ (KeepsFrom.refl _ _) (KeepM.refl _ _ _) ⟨rfl, HRX.out, HI.out⟩
  case body =>
    rintro l' pre x a1 W ⟨rfl, hRx, hN, hF, hMo, hS0, ⟨hB, hSz⟩, hle⟩ hsp
    have hcN := hN.cell
    have hfN := hN.frozen
    have hcM := hMo.cell
    have hcS := hS0.cell
    have HN := Aside0.mk hN
    have HF := Aside0.mk hF
    have HMB := Aside0.mk hMo
    have HS0 := Aside0.mk hS0
    have HB := Aside0.mk (And.intro hB hSz)
    have HLE := Aside0.mk hle
    by_cases cM : (pre.length : Int) < most
    · have hlen : pre.length < l.length := by
        have := hsp.length_le; simp at this; omega
      have hx : l[pre.length]? = some (x.1, x.2.2) := by
        obtain ⟨t, ht⟩ := hsp
        rw [← ht, List.map_append, List.append_assoc, List.getElem?_append_right (by simp)]; simp
      have hMl : M.length = l.length := by rw [HM.out, List.length_map]
      have hrW : Kd.C k56 W A1 l.length M := Kd.C_below HR.out hB
      obtain ⟨ad, A7, c7, rfl, hs0, hs1, hs2, hs3⟩ := at_T56 hrW (pre.length : Int) (by omega) (by omega)
      have hrd : rd_T56 M (pre.length : Int) = cP (x.1, x.2.2) := by
        rw [HM.out, rdPair l pre.length hlen]
        congr 1
        rw [List.getElem?_eq_getElem hlen] at hx
        exact Option.some.inj hx
      rw [hrd] at hs0 hs1 hs2 hs3
      rw [Int.toNat_natCast] at hs0 hs1
      have hr0 : W.cell? (ad.add (pre.length * 2)) = some (.int .i64 x.1) := hs0
      have hr1 : W.cell? ⟨(ad.add (pre.length * 2)).block, (ad.add (pre.length * 2)).off + 1, none⟩ = some (.slice A7 x.2.2.length c7) := hs1
      have hr2 : x.2.2.length ≤ c7 := hs2
      have hr3 : Kd.C (Kd.int .i64) W A7 x.2.2.length x.2.2 := hs3
      obtain ⟨A5, c5, hx5⟩ := Kd.R_slice hRx
      rw [hx5] at hRx ⊢
      obtain ⟨hq1, hq2, hq3⟩ := Kd.R_reads' hRx
      have hxl : x.2.2.length ≤ 1000000 := by
        have := HLL.out (x.1, x.2.2) (List.mem_of_getElem? hx)
        simp only at this; omega
      have hSAM : Calls Tryz.prog 20 #[.slice A5 x.2.2.length c5, .slice A7 x.2.2.length c7] W fun e w' => e = .returned (.bool true) ∧ Drawn0 W w' := same1_calls A5 A7 c5 c7 x.2.2 W hq3 hq2 hr3 hr2 hxl
      have HWR : Aside0 (wrap64 ((pre.length : Int) + 1) = ((pre.length + 1 : Nat) : Int)) := ⟨by rw [w64 (by omega) (by have := HL.out; omega)]; omega⟩
      have e4 : decide (most ≤ (pre.length : Int)) = false := decide_eq_false (by omega)
      have e4b := eq_false (show ¬ most ≤ (pre.length : Int) by omega)
      have e6 : decide ((l.length : Int) ≤ (pre.length : Int)) = false := decide_eq_false (by omega)
      have e7 : (0 ≤ (pre.length : Int)) = True := eq_true (by omega)
      have e8 : decide (l.length ≤ pre.length) = false := decide_eq_false (by omega)
      have e9 : ((pre.length : Int) < (l.length : Int)) = True := eq_true (by omega)
      have e10 : (pre.length < l.length) = True := eq_true hlen
      have hne : (x.1 != x.1) = false := by simp
      have HSAM := Aside0.mk hSAM
      have HCM := Aside0.mk cM
      clear hs0 hs1 hs2 hs3 hRx hN hF hMo hS0 hB hSz hle hsp hx hMl hrW hrd hlen hq1 hq2 hq3 hr2 hr3 hSAM hxl hx5 cM
      gi_wp2_with (first
        | (refine ⟨trivial, ?_⟩; gi_at_call 20; refine (CallsIn.inRound l' (callsIn_wide.2 HSAM.out)).mono ?_; rintro e w5' ⟨rfl, ⟨nd5, rfl⟩⟩)
        | (refine ⟨(trivial : Fence.wide.fn _), ?_⟩))
      refine ⟨((keepsOthers_drewN W nd5).trans (KeepsOthers.setCell _ _ _)).from _, (KeepM.of_below (pw_below_drewN (Below.refl _ W) nd5) HB.out.1.size).trans (keepM_set rfl (by show w.heap.size ≤ w.heap.size + 1 + 1 + 1; omega)), ?_, ?_, ?_, ?_, ⟨?_, ?_⟩, ?_⟩
      · rw [HWR.out, List.length_append]
        exact Boxed.set _ (show Boxed (W.drewN nd5) _ _ _ from HN.out)
      · exact boxed_setZ (show Boxed (W.drewN nd5) _ _ _ from HF.out) (by omega)
      · exact boxed_setZ (show Boxed (W.drewN nd5) _ _ _ from HMB.out) (by omega)
      · exact boxed_setZ (show Boxed (W.drewN nd5) _ _ _ from HS0.out) (by omega)
      · exact (HB.out.1.trans ((pw_below_drewN (Below.refl _ W) nd5).mono HB.out.1.size)).setCell (p := ⟨w.heap.size + 1 + 1 + 1, 0, none⟩) (by show w.heap.size ≤ w.heap.size + 1 + 1 + 1; omega) _
      · show _ ≤ (World.setCell _ _ _).heap.size
        simp only [World.size_setCell]
        exact HB.out.2
      · have := HCM.out
        rw [List.length_append, List.length_singleton]; omega
    · have he : (pre.length : Int) = most := by omega
      have e4 : decide (most ≤ (pre.length : Int)) = true := decide_eq_true (by omega)
      have e4b := eq_true (show most ≤ (pre.length : Int) by omega)
      have HE := Aside0.mk he
      have HRX := Aside0.mk hRx
      have HSP := Aside0.mk hsp
      clear hRx hN hF hMo hS0 hB hSz hle hsp cM he
      gi_wp2
      exact ⟨KeepsFrom.refl _ _, rfl, pre, x, rfl, HE.out, HN.out, HF.out, HMB.out, HS0.out, HB.out, HLE.out⟩
  case done =>
    rintro D ys W hD hys ⟨hN, hF, hMo, hS0, ⟨hB, hSz⟩, hle⟩ hK
    have hyl : ys.length = l.length := by rw [← hys, List.length_map]
    rw [hyl] at hN hle
    have hmin : mn most (l.length : Int) = (l.length : Int) := by unfold mn; split <;> omega
    obtain ⟨n, hn⟩ : ∃ n : Nat, n = l.length := ⟨_, rfl⟩
    have hmin2 : mn most (l.length : Int) = (n : Int) := by rw [hn]; exact hmin
    rw [← hn] at hN
    have hcN := hN.cell
    have hcM := hMo.cell
    have hcS := hS0.cell
    have e6 : ((n : Int) == (n : Int)) = true := beq_self_eq_true _
    have e7 : ((l.length : Int) == (l.length : Int)) = true := beq_self_eq_true _
    have HF := Aside0.mk hF
    have HB := Aside0.mk (And.intro hB hSz)
    have HK := Aside0.mk hK
    have HD := Aside0.mk hD
    clear hN hF hMo hS0 hB hSz hK hD hys hyl hle hmin hn
    go_wp2
    have hS : But (w.heap.size + 1 + 1) W W.drew := But.drew _ _
    refine wp_region_noPanic ?_
    refine wp_region_held (S := fun w' => But (w.heap.size + 1 + 1) W w') (by kernel_rfl) ?_
    show wpAnyH _ _ _ _ _ _ _ _ W.drew
    refine wpAnyH_take (i := 0) (v := .int .i64 (n : Int)) rfl (by kernel_rfl) (by kernel_rfl) (by kernel_rfl) (fun _ _ _ h => h) (.inl ⟨by kernel_rfl, fun w' hS => by have q_ := But.cell hS (by simp only [ne_eq]; omega) hcN; first | (go_simp; done) | (go_simp; simp [*]; done)⟩) hS ?_
    try simp only [List.getElem_toArray, List.getElem_cons_succ, List.getElem_cons_zero, Act.put, List.setIfInBounds_toArray, List.set_cons_zero, List.set_cons_succ]
    refine wpAnyH_take (i := 1) (v := .int .i64 most) rfl (by kernel_rfl) (by kernel_rfl) (by kernel_rfl) (fun _ _ _ h => h) (.inl ⟨by kernel_rfl, fun w' hS => by have q_ := But.cell hS (by simp only [ne_eq]; omega) hcM; first | (go_simp; done) | (go_simp; simp [*]; done)⟩) hS ?_
    try simp only [List.getElem_toArray, List.getElem_cons_succ, List.getElem_cons_zero, Act.put, List.setIfInBounds_toArray, List.set_cons_zero, List.set_cons_succ]
    refine wpAnyH_take (i := 2) (v := .slice A1 l.length c1) rfl (by kernel_rfl) (by kernel_rfl) (by kernel_rfl) (fun _ _ _ h => h) (.inl ⟨by kernel_rfl, fun w' hS => by have q_ := But.cell hS (by simp only [ne_eq]; omega) hcS; first | (go_simp; done) | (go_simp; simp [*]; done)⟩) hS ?_
    try simp only [List.getElem_toArray, List.getElem_cons_succ, List.getElem_cons_zero, Act.put, List.setIfInBounds_toArray, List.set_cons_zero, List.set_cons_succ]
    refine wpAnyH_take (i := 3) (v := .int .i64 (l.length : Int)) rfl (by kernel_rfl) (by kernel_rfl) (by kernel_rfl) (fun _ _ _ h => h) (.inl ⟨by kernel_rfl, fun w' hS => by first | (go_simp; done) | (go_simp; simp [*]; done)⟩) hS ?_
    try simp only [List.getElem_toArray, List.getElem_cons_succ, List.getElem_cons_zero, Act.put, List.setIfInBounds_toArray, List.set_cons_zero, List.set_cons_succ]
    refine wpAnyH_take (i := 4) (v := .int .i64 (n : Int)) rfl (by kernel_rfl) (by kernel_rfl) (by kernel_rfl) (fun _ _ _ h => h) (.inl ⟨by kernel_rfl, fun w' hS => by first | (go_simp; done) | (go_simp; simp [*]; done)⟩) hS ?_
    try simp only [List.getElem_toArray, List.getElem_cons_succ, List.getElem_cons_zero, Act.put, List.setIfInBounds_toArray, List.set_cons_zero, List.set_cons_succ]
    refine wpAnyH_take (i := 5) (v := .bool true) rfl (by kernel_rfl) (by kernel_rfl) (by kernel_rfl) (fun _ _ _ h => h) (.inl ⟨by kernel_rfl, fun w' hS => by first | (go_simp; done) | (go_simp; simp [*]; done)⟩) hS ?_
    try simp only [List.getElem_toArray, List.getElem_cons_succ, List.getElem_cons_zero, Act.put, List.setIfInBounds_toArray, List.set_cons_zero, List.set_cons_succ]
    refine wpAnyH_take (i := 6) (v := .bool true) rfl (by kernel_rfl) (by kernel_rfl) (by kernel_rfl) (fun _ _ _ h => h) (.inl ⟨by kernel_rfl, fun w' hS => by first | (go_simp; done) | (go_simp; simp [*]; done)⟩) hS ?_
    try simp only [List.getElem_toArray, List.getElem_cons_succ, List.getElem_cons_zero, Act.put, List.setIfInBounds_toArray, List.set_cons_zero, List.set_cons_succ]
    refine wpAnyH_take (i := 7) (v := .pointer q) rfl (by kernel_rfl) (by kernel_rfl) (by kernel_rfl) (fun _ _ _ h => h) (.inl ⟨by kernel_rfl, fun w' hS => by first | (go_simp; done) | (go_simp; simp [*]; done)⟩) hS ?_
    try simp only [List.getElem_toArray, List.getElem_cons_succ, List.getElem_cons_zero, Act.put, List.setIfInBounds_toArray, List.set_cons_zero, List.set_cons_succ]
    refine wpAnyH_take (i := 9) (v := .slice A1 l.length c1) rfl (by kernel_rfl) (by kernel_rfl) (by kernel_rfl) (fun _ _ _ h => h) (.inl ⟨by kernel_rfl, fun w' hS => by have q_ := But.cell hS (by simp only [ne_eq]; omega) hcS; first | (go_simp; done) | (go_simp; simp [*]; done)⟩) hS ?_
    try simp only [List.getElem_toArray, List.getElem_cons_succ, List.getElem_cons_zero, Act.put, List.setIfInBounds_toArray, List.set_cons_zero, List.set_cons_succ]
    refine wpAnyH_take (i := 10) (v := .int .i64 (l.length : Int)) rfl (by kernel_rfl) (by kernel_rfl) (by kernel_rfl) (fun _ _ _ h => h) (.inl ⟨by kernel_rfl, fun w' hS => by first | (go_simp; done) | (go_simp; simp [*]; done)⟩) hS ?_
    try simp only [List.getElem_toArray, List.getElem_cons_succ, List.getElem_cons_zero, Act.put, List.setIfInBounds_toArray, List.set_cons_zero, List.set_cons_succ]
    refine wpAnyH_ready (rs := [8]) (by kernel_rfl) (by simp) (AllReadyH.cons rfl (fun K' hK => ?_) AllReadyH.nil)
    rw [if_pos (by kernel_rfl)]
    go_simp
    go_at_call 29
    (with_reducible refine (confus_Len.callsS q l w _ HT.out (But.sameBel HB.out.1 hS (by omega))).mono ?_)
    rintro e w6 ⟨rfl, hb⟩
    have hb6 : Boxed w6 (w.heap.size + 1 + 1) 4 (.bool false) := (hb.block _ (Array.getElem?_eq_some_iff.1 HF.out).1).trans HF.out
    have hD6 : w6.heap[D]? = some (.deferred (some [])) := (hb.block _ (Array.getElem?_eq_some_iff.1 HK.out).1).trans HK.out
    have hB6 : Below w.heap.size w w6 := (below_drew HB.out.1).trans (hb.mono HB.out.1.size)
    have HB6 := Aside0.mk (And.intro hb6 (And.intro hD6 hB6))
    have hcR := hb6.cell
    have hfR := hb6.frozen
    clear hb6 hD6 hB6
    have hS' := hS.below hb
    refine hK.out _ _ hS' (fun _ => ?_)
    clear hK hS hb
    have hS := hS'
    clear hS'
    try simp only [List.getElem_toArray, List.getElem_cons_succ, List.getElem_cons_zero, Act.put, List.setIfInBounds_toArray, List.set_cons_zero, List.set_cons_succ]
    refine wpAnyH_take (i := 11) (v := .bool true) rfl (by kernel_rfl) (by kernel_rfl) (by kernel_rfl) (fun _ _ _ h => h) (.inl ⟨by kernel_rfl, fun w' hS => by first | (go_simp; done) | (go_simp; simp [*]; done)⟩) hS ?_
    try simp only [List.getElem_toArray, List.getElem_cons_succ, List.getElem_cons_zero, Act.put, List.setIfInBounds_toArray, List.set_cons_zero, List.set_cons_succ]
    refine wpAnyH_take (i := 12) (v := .bool true) rfl (by kernel_rfl) (by kernel_rfl) (by kernel_rfl) (fun _ _ _ h => h) (.inl ⟨by kernel_rfl, fun w' hS => by first | (go_simp; done) | (go_simp; simp [*]; done)⟩) hS ?_
    try simp only [List.getElem_toArray, List.getElem_cons_succ, List.getElem_cons_zero, Act.put, List.setIfInBounds_toArray, List.set_cons_zero, List.set_cons_succ]
    have hS2 := hS.set (v := .bool true)
    refine wpAnyH_ready (rs := [13]) (by kernel_rfl) (by simp) (AllReadyH.cons rfl (fun K' hK => ?_) AllReadyH.nil)
    rw [if_pos (by kernel_rfl)]
    go_simp
    refine hK.out _ _ hS2 (fun _ => ?_)
    clear hK
    try simp only [List.getElem_toArray, List.getElem_cons_succ, List.getElem_cons_zero, Act.put, List.setIfInBounds_toArray, List.set_cons_zero, List.set_cons_succ]
    refine wpAnyH_done (by kernel_rfl) ?_ _
    refine NoPanic.normal ?_
    go_wp2
    have hd := HD.out
    have hz := HZ5.out
    obtain ⟨m1, m2, m3⟩ := mark_endZ (.bool true) HB6.out.2.2 HB6.out.1 HB6.out.2.1 (by omega) (by omega)
    refine ⟨by simp, .inl ⟨_, _, rfl, run_takeDeferred m1, ?_⟩⟩
    exact ⟨_, by simp [results, Tryz.results26, go_sem, m2], rfl, m3 _⟩
  case stop =>
    rintro D c xs W hD hSp ⟨rfl, pre, x, rfl, he, hN, hF, hMo, hS0, ⟨hB, hSz⟩, hle⟩ hK
    refine wpIn_wide.2 ?_
    have hlen := hSp.length_le
    simp only [List.length_map, List.length_append, List.length_singleton] at hlen
    obtain ⟨n, hn⟩ : ∃ n : Nat, n = pre.length := ⟨_, rfl⟩
    rw [← hn] at hN he hlen
    have hmin2 : mn most (l.length : Int) = (n : Int) := by unfold mn; split <;> omega
    have hcN := hN.cell
    have hcM := hMo.cell
    have hcS := hS0.cell
    have e6 : ((n : Int) == (n : Int)) = true := beq_self_eq_true _
    have e7 : ((l.length : Int) == (l.length : Int)) = true := beq_self_eq_true _
    have HF := Aside0.mk hF
    have HB := Aside0.mk (And.intro hB hSz)
    have HK := Aside0.mk hK
    have HD := Aside0.mk hD
    clear hN hF hMo hS0 hB hSz hK hD hSp hle he hn hlen
    go_wp2
    have hS : But (w.heap.size + 1 + 1) W W.drew := But.drew _ _
    refine wp_region_noPanic ?_
    refine wp_region_held (S := fun w' => But (w.heap.size + 1 + 1) W w') (by kernel_rfl) ?_
    show wpAnyH _ _ _ _ _ _ _ _ W.drew
    refine wpAnyH_take (i := 0) (v := .int .i64 (n : Int)) rfl (by kernel_rfl) (by kernel_rfl) (by kernel_rfl) (fun _ _ _ h => h) (.inl ⟨by kernel_rfl, fun w' hS => by have q_ := But.cell hS (by simp only [ne_eq]; omega) hcN; first | (go_simp; done) | (go_simp; simp [*]; done)⟩) hS ?_
    try simp only [List.getElem_toArray, List.getElem_cons_succ, List.getElem_cons_zero, Act.put, List.setIfInBounds_toArray, List.set_cons_zero, List.set_cons_succ]
    refine wpAnyH_take (i := 1) (v := .int .i64 most) rfl (by kernel_rfl) (by kernel_rfl) (by kernel_rfl) (fun _ _ _ h => h) (.inl ⟨by kernel_rfl, fun w' hS => by have q_ := But.cell hS (by simp only [ne_eq]; omega) hcM; first | (go_simp; done) | (go_simp; simp [*]; done)⟩) hS ?_
    try simp only [List.getElem_toArray, List.getElem_cons_succ, List.getElem_cons_zero, Act.put, List.setIfInBounds_toArray, List.set_cons_zero, List.set_cons_succ]
    refine wpAnyH_take (i := 2) (v := .slice A1 l.length c1) rfl (by kernel_rfl) (by kernel_rfl) (by kernel_rfl) (fun _ _ _ h => h) (.inl ⟨by kernel_rfl, fun w' hS => by have q_ := But.cell hS (by simp only [ne_eq]; omega) hcS; first | (go_simp; done) | (go_simp; simp [*]; done)⟩) hS ?_
    try simp only [List.getElem_toArray, List.getElem_cons_succ, List.getElem_cons_zero, Act.put, List.setIfInBounds_toArray, List.set_cons_zero, List.set_cons_succ]
    refine wpAnyH_take (i := 3) (v := .int .i64 (l.length : Int)) rfl (by kernel_rfl) (by kernel_rfl) (by kernel_rfl) (fun _ _ _ h => h) (.inl ⟨by kernel_rfl, fun w' hS => by first | (go_simp; done) | (go_simp; simp [*]; done)⟩) hS ?_
    try simp only [List.getElem_toArray, List.getElem_cons_succ, List.getElem_cons_zero, Act.put, List.setIfInBounds_toArray, List.set_cons_zero, List.set_cons_succ]
    refine wpAnyH_take (i := 4) (v := .int .i64 (n : Int)) rfl (by kernel_rfl) (by kernel_rfl) (by kernel_rfl) (fun _ _ _ h => h) (.inl ⟨by kernel_rfl, fun w' hS => by first | (go_simp; done) | (go_simp; simp [*]; done)⟩) hS ?_
    try simp only [List.getElem_toArray, List.getElem_cons_succ, List.getElem_cons_zero, Act.put, List.setIfInBounds_toArray, List.set_cons_zero, List.set_cons_succ]
    refine wpAnyH_take (i := 5) (v := .bool true) rfl (by kernel_rfl) (by kernel_rfl) (by kernel_rfl) (fun _ _ _ h => h) (.inl ⟨by kernel_rfl, fun w' hS => by first | (go_simp; done) | (go_simp; simp [*]; done)⟩) hS ?_
    try simp only [List.getElem_toArray, List.getElem_cons_succ, List.getElem_cons_zero, Act.put, List.setIfInBounds_toArray, List.set_cons_zero, List.set_cons_succ]
    refine wpAnyH_take (i := 6) (v := .bool true) rfl (by kernel_rfl) (by kernel_rfl) (by kernel_rfl) (fun _ _ _ h => h) (.inl ⟨by kernel_rfl, fun w' hS => by first | (go_simp; done) | (go_simp; simp [*]; done)⟩) hS ?_
    try simp only [List.getElem_toArray, List.getElem_cons_succ, List.getElem_cons_zero, Act.put, List.setIfInBounds_toArray, List.set_cons_zero, List.set_cons_succ]
    refine wpAnyH_take (i := 7) (v := .pointer q) rfl (by kernel_rfl) (by kernel_rfl) (by kernel_rfl) (fun _ _ _ h => h) (.inl ⟨by kernel_rfl, fun w' hS => by first | (go_simp; done) | (go_simp; simp [*]; done)⟩) hS ?_
    try simp only [List.getElem_toArray, List.getElem_cons_succ, List.getElem_cons_zero, Act.put, List.setIfInBounds_toArray, List.set_cons_zero, List.set_cons_succ]
    refine wpAnyH_take (i := 9) (v := .slice A1 l.length c1) rfl (by kernel_rfl) (by kernel_rfl) (by kernel_rfl) (fun _ _ _ h => h) (.inl ⟨by kernel_rfl, fun w' hS => by have q_ := But.cell hS (by simp only [ne_eq]; omega) hcS; first | (go_simp; done) | (go_simp; simp [*]; done)⟩) hS ?_
    try simp only [List.getElem_toArray, List.getElem_cons_succ, List.getElem_cons_zero, Act.put, List.setIfInBounds_toArray, List.set_cons_zero, List.set_cons_succ]
    refine wpAnyH_take (i := 10) (v := .int .i64 (l.length : Int)) rfl (by kernel_rfl) (by kernel_rfl) (by kernel_rfl) (fun _ _ _ h => h) (.inl ⟨by kernel_rfl, fun w' hS => by first | (go_simp; done) | (go_simp; simp [*]; done)⟩) hS ?_
    try simp only [List.getElem_toArray, List.getElem_cons_succ, List.getElem_cons_zero, Act.put, List.setIfInBounds_toArray, List.set_cons_zero, List.set_cons_succ]
    refine wpAnyH_ready (rs := [8]) (by kernel_rfl) (by simp) (AllReadyH.cons rfl (fun K' hK => ?_) AllReadyH.nil)
    rw [if_pos (by kernel_rfl)]
    go_simp
    go_at_call 29
    (with_reducible refine (confus_Len.callsS q l w _ HT.out (But.sameBel HB.out.1 hS (by omega))).mono ?_)
    rintro e w6 ⟨rfl, hb⟩
    have hb6 : Boxed w6 (w.heap.size + 1 + 1) 4 (.bool false) := (hb.block _ (Array.getElem?_eq_some_iff.1 HF.out).1).trans HF.out
    have hD6 : w6.heap[D]? = some (.deferred (some [])) := (hb.block _ (Array.getElem?_eq_some_iff.1 HK.out).1).trans HK.out
    have hB6 : Below w.heap.size w w6 := (below_drew HB.out.1).trans (hb.mono HB.out.1.size)
    have HB6 := Aside0.mk (And.intro hb6 (And.intro hD6 hB6))
    have hcR := hb6.cell
    have hfR := hb6.frozen
    clear hb6 hD6 hB6
    have hS' := hS.below hb
    refine hK.out _ _ hS' (fun _ => ?_)
    clear hK hS hb
    have hS := hS'
    clear hS'
    try simp only [List.getElem_toArray, List.getElem_cons_succ, List.getElem_cons_zero, Act.put, List.setIfInBounds_toArray, List.set_cons_zero, List.set_cons_succ]
    refine wpAnyH_take (i := 11) (v := .bool true) rfl (by kernel_rfl) (by kernel_rfl) (by kernel_rfl) (fun _ _ _ h => h) (.inl ⟨by kernel_rfl, fun w' hS => by first | (go_simp; done) | (go_simp; simp [*]; done)⟩) hS ?_
    try simp only [List.getElem_toArray, List.getElem_cons_succ, List.getElem_cons_zero, Act.put, List.setIfInBounds_toArray, List.set_cons_zero, List.set_cons_succ]
    refine wpAnyH_take (i := 12) (v := .bool true) rfl (by kernel_rfl) (by kernel_rfl) (by kernel_rfl) (fun _ _ _ h => h) (.inl ⟨by kernel_rfl, fun w' hS => by first | (go_simp; done) | (go_simp; simp [*]; done)⟩) hS ?_
    try simp only [List.getElem_toArray, List.getElem_cons_succ, List.getElem_cons_zero, Act.put, List.setIfInBounds_toArray, List.set_cons_zero, List.set_cons_succ]
    have hS2 := hS.set (v := .bool true)
    refine wpAnyH_ready (rs := [13]) (by kernel_rfl) (by simp) (AllReadyH.cons rfl (fun K' hK => ?_) AllReadyH.nil)
    rw [if_pos (by kernel_rfl)]
    go_simp
    refine hK.out _ _ hS2 (fun _ => ?_)
    clear hK
    try simp only [List.getElem_toArray, List.getElem_cons_succ, List.getElem_cons_zero, Act.put, List.setIfInBounds_toArray, List.set_cons_zero, List.set_cons_succ]
    refine wpAnyH_done (by kernel_rfl) ?_ _
    refine NoPanic.normal ?_
    go_wp2
    have hd := HD.out
    have hz := HZ5.out
    obtain ⟨m1, m2, m3⟩ := mark_endZ (.bool true) HB6.out.2.2 HB6.out.1 HB6.out.2.1 (by omega) (by omega)
    refine ⟨by simp, .inl ⟨_, _, rfl, run_takeDeferred m1, ?_⟩⟩
    exact ⟨_, by simp [results, Tryz.results26, go_sem, m2], rfl, m3 _⟩
end Go.Proofs.YtbpdcbibooiimaaGreatDoor.Q

-- from Hlit
namespace Go.Proofs.YtbpdcbibooiimaaGreatDoor.Q
open Go.RowKit Go.Proofs.YtbpdcbibooiimaaGreatDoorW.PrintWords Go.Proofs.YtbpdcbibooiimaaGreatDoorW.PrintLast Go.Proofs.YtbpdcbibooiimaaGreatDoorW.PrintMore
set_option linter.unusedVariables false

/-- A literal of octets, '[]byte("..")'. -/
def bytesLit.f (l : List Int) : Option (List Int) := some l

theorem bytesLit.cells {W : World} {e : Nat} {xs : List Int} {C : Array Value} {p : Nat × Nat} {g : Nat} (hC : C = (xs.map (Value.int .u8)).toArray) (hl : xs.length ≤ 9223372036854775807) (h : W.heap[g]? = some (.cells C e p)) :
    Kd.C (Kd.int .u8) W (some ⟨g, 0, none⟩) xs.length xs := by
  refine Kd.C_of_reads (d := (0 : Int)) ⟨rfl, hl, fun _ => ⟨_, rfl, fun j hj => ?_⟩⟩
  rw [add_plain, cell_of_row W g j C e p h, hC]
  simp [List.getD_eq_getElem?_getD, List.getElem?_eq_getElem hj]

theorem bytesLit.step {P : Program} {W : World} {ops : Array Oper} {rest : List Oper} {o : Oper} {a : Act} {Q : Exit → Act → World → Prop} {C : Array Value} {n c : Nat} (t e : TypeId) (s : Operand) (xs r : List Int) (h : bytesLit.f xs = some r)
    (hgd : o.guard = none) (hop : o.op = .convert t t s) (hs : a.eval s = .slice (some ⟨W.heap.size, 0, none⟩) n c) (ht : P.underlying t = some (.slice e)) (he : P.underlying e = some (.int .u8))
    (hC : C = (xs.map (Value.int .u8)).toArray) (hn : n = xs.length) (hc : n ≤ c) (hl : xs.length ≤ 9223372036854775807)
    (hk : ∀ v w1, Kd.V (Kd.int .u8) e w1 W.heap.size (fun k => W.heap.size ≤ k) v r → Below W.heap.size W w1 → wpList P ops Q rest (a.put o.dst v) w1) :
    wpList P ops Q (o :: rest) a (W.alloc (.cells C e)) := by
  obtain rfl := Option.some.inj h
  have hr := Lib.run_convert_bytes_const (P := P) W t e C n c ht he
  refine wpList_plain hgd fun K hK => ?_
  unfold Oper.wp execOp
  simp only [hop, hs]
  have hr2 : (do let v ← convert t t (.slice (some ⟨W.heap.size, 0, none⟩) n c); pure (Next.value v) : Sem Next).run P (W.alloc (.cells C e)) = .ok (.value (.slice (some ⟨W.heap.size, 0, none⟩) n c)) (W.alloc (.cells C e (C.size, C.size + 1))) := by
    rw [Sem.run_bind, hr]; rfl
  first | rw [hr2] | (simp only [Sem.run_bind, hr, Sem.run_pure, Result.andThen_ok]) 
  refine hK _ _ (hk _ _ ?_ ((Below.refl _ W).alloc (Nat.le_refl _) _))
  subst hn
  refine Kd.V_mk hc (fun W' hW => ?_)
  refine bytesLit.cells hC hl (e := e) (p := (C.size, C.size + 1)) ?_
  rw [hW W.heap.size (Nat.le_refl _) (by simp)]
  exact heap_alloc_new W _

end Go.Proofs.YtbpdcbibooiimaaGreatDoor.Q

-- from Hcl0
/- Layer 6: the contracts told at once, whether or not a line is wrong; Proto. -/
namespace Go.Proofs.YtbpdcbibooiimaaGreatDoor.Q
open Go.RowKit Go.Shelf Go.Maps Go.Proofs.YtbpdcbibooiimaaGreatDoorW.PrintWords Go.Proofs.YtbpdcbibooiimaaGreatDoorW.PrintLast Go.Proofs.YtbpdcbibooiimaaGreatDoorW.PrintMore Go.Proofs.YtbpdcbibooiimaaGreatDoor.K
set_option linter.unusedVariables false
set_option linter.unusedSimpArgs false

theorem cfGo_cases : ∀ (X : List (Int × List (List Int))) (acc : List (Int × List Int)), (∃ l, cfGo X acc = (some l, 0, 0)) ∨ ∃ e n : Int, e ≠ 0 ∧ cfGo X acc = (none, e, n)
  | [], acc => .inl ⟨acc, rfl⟩
  | x :: X, acc => by
    cases h : cfS x.2 with
    | inl e => exact .inr ⟨e, x.1, cfS_err h, cfGo_err1 h⟩
    | inr p =>
      cases ha : acc.any (fun q => decide (q.1 = p.1)) with
      | true => exact .inr ⟨15, x.1, by decide, cfGo_twice1 h ha⟩
      | false => rw [cfGo_add1 h ha]; exact cfGo_cases X _
theorem cfS_len {x : List (List Int)} {p : Int × List Int} (h : cfS x = .inr p) : p.2.length ≤ 18 := by
  unfold cfS at h
  split at h
  · split at h
    · cases h
    · split at h
      · split at h
        · cases h
        · split at h
          · cases h
          · injection h with h
            subst h
            simp only; omega
      · cases h
  · cases h
theorem cfGo_count : ∀ (X : List (Int × List (List Int))) (acc l : List (Int × List Int)), (∀ p ∈ acc, p.2.length ≤ 18) → cfGo X acc = (some l, 0, 0) → l.length ≤ acc.length + X.length ∧ ∀ p ∈ l, p.2.length ≤ 18
  | [], acc, l, ha, h => by
    unfold cfGo at h
    rw [Prod.mk.injEq, Option.some.injEq] at h
    obtain rfl := h.1
    exact ⟨by simp, ha⟩
  | x :: X, acc, l, ha, h => by
    cases hx : cfS x.2 with
    | inl e => rw [cfGo_err1 hx] at h; cases h
    | inr p =>
      cases hb : acc.any (fun q => decide (q.1 = p.1)) with
      | true => rw [cfGo_twice1 hx hb] at h; cases h
      | false =>
        rw [cfGo_add1 hx hb] at h
        have hp := insP_perm p acc
        have := cfGo_count X (insP p acc) l (fun q hq => by
          rcases List.mem_cons.1 (hp.mem_iff.1 hq) with rfl | hq
          · exact cfS_len hx
          · exact ha q hq) h
        have h2 := hp.length_eq
        exact ⟨by have := this.1; simp only [List.length_cons] at h2 ⊢; omega, this.2⟩
/-- What Parse of a file is. -/
def cfA (L : List Int) : Option (List (Int × List Int)) × Int × Int := cfGo (linesI 0 (spl 10 L)) []
theorem cfA_cases (L : List Int) : (∃ l, cfA L = (some l, 0, 0)) ∨ ∃ e n : Int, e ≠ 0 ∧ cfA L = (none, e, n) := cfGo_cases _ _
theorem cfA_len {L : List Int} (hl : L.length ≤ 2000) {l : List (Int × List Int)} (h : cfA L = (some l, 0, 0)) : l.length ≤ 100000 ∧ ∀ p ∈ l, p.2.length ≤ 100000 := by
  obtain ⟨h1, h2⟩ := cfGo_count _ [] l (fun p hp => by cases hp) h
  have h3 := linesI_len (spl 10 L) 0
  have h4 := splP_count (fun x => decide (x = (10 : Int))) L
  unfold spl at h1 h3
  simp only [List.length_nil] at h1
  exact ⟨by omega, fun p hp => by have := h2 p hp; omega⟩
section
variable {L : List Int}
theorem c6_ok (A : Option Addr) (c : Nat) (ho : Oct L) (hl : L.length ≤ 50000) (w : World) (hE : EnvF w) (hr : Kd.C (Kd.int .u8) w A L.length L) (hc : L.length ≤ c) {l : List (Int × List Int)} (h : cfA L = (some l, 0, 0)) :
    Calls Tryz.prog 24 #[.slice A L.length c] w fun e w' => ∃ g, e = .returned (.tuple #[.pointer (some ⟨g, 0, none⟩), .int .i64 0, .int .i64 0]) ∧ CTab w' (some ⟨g, 0, none⟩) l ∧ Below w.heap.size w w' :=
  (confus_Parse.main A c L ho hl w hE hr hc).mono fun e w' ⟨hb, q, he, hq⟩ => by
    unfold cfA at h
    rw [h] at he hq
    obtain ⟨g, b, n, rfl, h2, h3, h4⟩ := hq
    exact ⟨g, he, .inr ⟨g, b, n, rfl, h2, h3, h4⟩, hb⟩
theorem c6_err (A : Option Addr) (c : Nat) (ho : Oct L) (hl : L.length ≤ 50000) (w : World) (hE : EnvF w) (hr : Kd.C (Kd.int .u8) w A L.length L) (hc : L.length ≤ c) {e n : Int} (h : cfA L = (none, e, n)) :
    Calls Tryz.prog 24 #[.slice A L.length c] w fun ee w' => ee = .returned (.tuple #[.pointer none, .int .i64 e, .int .i64 n]) ∧ Below w.heap.size w w' :=
  (confus_Parse.main A c L ho hl w hE hr hc).mono fun ee w' ⟨hb, q, he, hq⟩ => by
    unfold cfA at h
    rw [h] at he hq
    have hq : q = none := hq
    subst hq
    exact ⟨he, hb⟩
theorem c6_ref (ho : Oct L) (hl : L.length ≤ 50000) (w : World) {M : List S56} {e n : Int} (hM : crfR (cfA L) = (M, e, n)) :
    Calls Tryz.prog 25 #[.string (strOfNums L)] w fun ee w' => ∃ A' c', ee = .returned (.tuple #[.slice A' M.length c', .int .i64 e, .int .i64 n]) ∧ M.length ≤ c' ∧ Kd.C k56 w' A' M.length M ∧ Below w.heap.size w w' := by
  obtain ⟨k, hk⟩ := (refParse6_ev ho hl).rounds
  unfold cfA at hM
  rw [hM] at hk
  refine (paronymref06_Parse.calls k (strOfNums L) M e n w hk).mono ?_
  rintro ee w' ⟨v, rfl, hN, hb⟩
  obtain ⟨A', c', rfl, h1, h2⟩ := Kd.N_reads hN
  exact ⟨A', c', rfl, h1, h2, hb⟩
end
set_option maxHeartbeats 2000000 in
set_option maxRecDepth 100000 in
theorem confus_Proto.nil (c : Int) (w : World) :
    Calls Tryz.prog 27 #[.pointer none, .int .i64 c] w fun e w' => e = .returned (.tuple #[.slice none 0 0, .bool false]) ∧ Below w.heap.size w w' := by
  go_enter Tryz.func27, Tryz.ntmps27
  go_wp2
  go_ret2
  exact ⟨rfl, Below.refl _ _⟩
set_option maxHeartbeats 2000000 in
set_option maxRecDepth 100000 in
theorem confus_Proto.calls (q : Option Addr) (l : List (Int × List Int)) (hll : ∀ p ∈ l, p.2.length ≤ 100000) (c : Int) (h0 : -9223372036854775808 ≤ c) (h1 : c ≤ 9223372036854775807) (w : World) (h : CTab w q l) :
    Calls Tryz.prog 27 #[.pointer q, .int .i64 c] w fun e w' => ∃ A c', e = .returned (.tuple #[.slice A ((getP l c).getD []).length c', .bool (getP l c).isSome]) ∧ (((getP l c).getD []).length ≤ c' ∧ Kd.C (Kd.int .i64) w' A ((getP l c).getD []).length ((getP l c).getD [])) ∧ Below w.heap.size w w' := by
  rcases h with ⟨rfl, rfl⟩ | ⟨g, b, n, rfl, h2, h3, h4⟩
  · exact (confus_Proto.nil c w).mono fun e w' ⟨he, hb⟩ => ⟨none, 0, he, ⟨Nat.le_refl _, Kd.C_nil _ _⟩, hb⟩
  · have hlen : ((getP l c).getD []).length ≤ 100000 := by
      cases hg : getP l c with
      | none => simp
      | some r => exact hll _ (getP_some hg)
    obtain ⟨A5, c5, g1, g2, g3, g4⟩ := h3.look h0 h1
    have hcg : w.cell? ⟨g, 0, none⟩ = some (.map (some b)) := h2.cell
    obtain ⟨R, hR⟩ : ∃ R, R = (getP l c).getD [] := ⟨_, rfl⟩
    obtain ⟨ok, hok⟩ : ∃ ok, ok = (getP l c).isSome := ⟨_, rfl⟩
    rw [← hR] at g1 g2 g3 g4 hlen ⊢
    rw [← hok] at g1 ⊢
    have hclone : slices_Clone_int_int.f R = some R := if_pos (by omega)
    have HCL := Aside0.mk hclone
    have HG := Aside0.mk (And.intro g3 g4)
    clear h0 h1 h2 h3 h4 g2 g3 g4 hlen hclone hR hok
    go_enter Tryz.func27, Tryz.ntmps27
    go_wp2_with (go_at_call 59; refine (slices_Clone_int_int.calls A5 c5 R R _ HG.out.2 HG.out.1 HCL.out).mono ?_; rintro e w4 ⟨v2, rfl, hv2, hb4⟩
                 obtain ⟨A6, c6, rfl⟩ := Kd.R_slice hv2
                 have HV := Aside0.mk hv2
                 have HB := Aside0.mk hb4
                 clear hv2 hb4)
    go_ret2
    obtain ⟨-, r1, r2⟩ := Kd.R_reads' HV.out
    exact ⟨A6, c6, rfl, ⟨r1, r2⟩, HB.out⟩
theorem is6_nil (A1 : Option Addr) (c1 : Nat) (m : Int) (h0 : 0 ≤ m) (w : World) (hr : Kd.C k56 w A1 0 []) :
    Calls Tryz.prog 26 #[.pointer none, .slice A1 0 c1, .int .i64 m] w fun e w' => e = .returned (.bool true) ∧ Below w.heap.size w w' :=
  paronymlaw06_Is.main none [] A1 c1 [] rfl m h0 w (CTab.nil _) (by simp) (fun p hp => by cases hp) hr
/-! ## the document's example -/
def aw6L : List Int := [48, 52, 51, 48, 32, 59, 32, 48, 48, 54, 49, 32, 59, 32, 77, 65, 32, 35, 32, 115, 109, 97, 108, 108, 32, 97, 10]
def aw6P : List Int := [48, 52, 51, 48]
def aw6Q : List Int := [48, 48, 54, 49]
theorem aw6L_oct : Oct aw6L := fun x hx => by simp only [aw6L, List.mem_cons, List.not_mem_nil, or_false] at hx; omega
theorem hexT1072 : hexT 1072 = [48, 52, 51, 48] := by
  unfold hexT
  rw [hexL_step (by omega), hexL_step (by omega), hexL_one (by omega)]
  decide
theorem hexT97b : hexT 97 = [48, 48, 54, 49] := by
  unfold hexT
  rw [hexL_step (by omega), hexL_one (by omega)]
  decide
theorem aw6_p1 : pointL aw6P = some 1072 := by
  rw [pointL_is, if_neg (by decide), show valF 0 aw6P = some 1072 from by decide]
  unfold endP
  simp only
  rw [if_neg (by decide), if_pos (by rw [hexT1072]; decide)]
theorem aw6_p2 : pointL aw6Q = some 97 := by
  rw [pointL_is, if_neg (by decide), show valF 0 aw6Q = some 97 from by decide]
  unfold endP
  simp only
  rw [if_neg (by decide), if_pos (by rw [hexT97b]; decide)]
theorem aw6_seq : seqL aw6Q = ([97], 0) := by
  unfold seqL
  rw [if_neg (by decide), show spl 32 aw6Q = [aw6Q] from by decide]
  unfold seqF
  rw [aw6_p2]
  rfl
theorem aw6_lines : linesI 0 (spl 10 aw6L) = [(1, [aw6P, aw6Q, [77, 65]])] := by decide +kernel
theorem aw6_S : cfS [aw6P, aw6Q, [77, 65]] = .inr (1072, [97]) := by
  unfold cfS
  simp only [aw6_p1, aw6_seq]
  rw [if_pos trivial, if_neg (by simp), if_neg (by simp)]
  rfl
theorem aw6_go : cfA aw6L = (some [(1072, [97])], 0, 0) := by
  unfold cfA
  rw [aw6_lines, cfGo_add1 (x := (1, [aw6P, aw6Q, [77, 65]])) aw6_S (by rfl)]
  rfl
theorem ints_one {W : World} {g : Nat} {l : List Int} (h : W.heap[g]? = some (.cells (l.map (Value.int .i64)).toArray 3 (0, 0))) (hl : l.length ≤ 1000000) : Kd.C (Kd.int .i64) W (some ⟨g, 0, none⟩) l.length l := by
  refine Kd.C_of_reads (d := (0 : Int)) ⟨rfl, by omega, fun _ => ⟨_, rfl, fun j hj => ?_⟩⟩
  rw [Addr.add_lit]
  simp only [World.cell?]
  rw [h]
  simp [hj, List.getD_eq_getElem?_getD]
set_option maxHeartbeats 4000000 in
set_option maxRecDepth 100000 in
theorem paronymlaw06_awake.calls0 (w : World) (hE : EnvF w) : Calls Tryz.prog 23 #[] w fun e w' => e = .returned (.bool true) ∧ Below w.heap.size w w' := by
  have HE := Aside0.mk hE
  clear hE
  go_enter Tryz.func23, Tryz.ntmps23
  go_wp2_with (first
    | ((with_reducible refine gate_dst (N := 8) rfl ?_); (try (refine gate_guard (by rfl) ?_; dsimp only)); refine bytesLit.step 22 5 _ aw6L aw6L rfl rfl rfl (by rfl) Tryz.underlying22 Tryz.underlying5 rfl rfl (by decide) (by decide) ?_; intro v1 w2 hv1 hb2; have HV1 := Aside0.mk hv1; have HB2 := Aside0.mk hb2; clear hv1 hb2)
    | (go_at_call 24
       obtain ⟨A1, c1, rfl⟩ := Kd.V_slice HV1.out
       obtain ⟨-, hc1, hC1⟩ := Kd.V_reads' HV1.out
       refine (c6_ok (L := aw6L) A1 c1 aw6L_oct (by decide) _ (HE.out.below HB2.out) hC1 hc1 aw6_go).mono ?_
       rintro e w4 ⟨g, rfl, hT, hb⟩
       have HT := Aside0.mk hT
       have HB4 := Aside0.mk (HB2.out.trans (hb.mono HB2.out.size))
       clear hc1 hC1 hT hb)
    | (go_at_call 27
       refine (confus_Proto.calls _ [(1072, [97])] (fun p hp => by rw [List.mem_singleton.1 hp]; simp) 1072 (by omega) (by omega) _ HT.out).mono ?_
       rintro e w5 ⟨A5, c5, rfl, hC5, hb⟩
       have HC5 : Aside0 (1 ≤ c5 ∧ Kd.C (Kd.int .i64) w5 A5 1 [97]) := ⟨hC5⟩
       have HT5 := Aside0.mk (HT.out.below hb)
       have HB5 := Aside0.mk (HB4.out.trans (hb.mono HB4.out.size))
       have hp1 : ((getP [((1072 : Int), [(97 : Int)])] 1072).getD []).length = 1 := rfl
       have hp2 : (getP [((1072 : Int), [(97 : Int)])] 1072).isSome = true := rfl
       clear hC5 hb)
    | (go_at_call 20
       have hb6 : Below w5.heap.size w5 (w5.alloc (.cells #[.int .i64 97] 3)) := (Below.refl _ _).alloc (Nat.le_refl _) _
       refine (same1_calls A5 (some ⟨w5.heap.size, 0, none⟩) c5 1 [97] (w5.alloc (.cells #[.int .i64 97] 3)) (Kd.C_below HC5.out.2 hb6) HC5.out.1 (ints_one (l := [97]) (heap_alloc_new w5 _) (by simp)) (Nat.le_refl _) (by simp)).mono ?_
       rintro e w6 ⟨rfl, ⟨nd6, rfl⟩⟩
       have HT6 := Aside0.mk ((HT5.out.below hb6).below (pw_below_drewN (Below.refl _ _) nd6))
       have HB6 := Aside0.mk ((HB5.out.trans (hb6.mono HB5.out.size)).trans ((pw_below_drewN (Below.refl _ _) nd6).mono (by have := HB5.out.size; simp; omega)))
       clear hb6)
    | (go_at_call 29; refine (confus_Len.calls _ _ _ HT6.out).mono ?_; rintro e w7 ⟨rfl, rfl⟩))
  go_ret
  exact ⟨rfl, HB6.out⟩
end Go.Proofs.YtbpdcbibooiimaaGreatDoor.Q

-- from Hbof
namespace Go.Proofs.YtbpdcbibooiimaaGreatDoor.Q
open Go.RowKit Go.Proofs.YtbpdcbibooiimaaGreatDoorW.PrintWords Go.Proofs.YtbpdcbibooiimaaGreatDoorW.PrintLast Go.Proofs.YtbpdcbibooiimaaGreatDoorW.PrintMore
set_option linter.unusedVariables false

/-- The octets of a string. -/
def octs (s : ByteArray) : List Int := s.data.toList.map fun b => (b.toNat : Int)
theorem octs_length (s : ByteArray) : (octs s).length = s.size := by simp [octs]
/-- '[]byte(s)' of a string that is no literal. -/
def bytesOf.f (s : ByteArray) : Option (List Int) := if s.size ≤ 4294967296 then some (octs s) else none

theorem bytesOf.step {P : Program} {W : World} {ops : Array Oper} {rest : List Oper} {o : Oper} {a : Act} {Q : Exit → Act → World → Prop} {u : TypeDesc} (t0 t e : TypeId) (s : Operand) (x : ByteArray) (r : List Int) (h : bytesOf.f x = some r)
    (hgd : o.guard = none) (hop : o.op = .convert t0 t s) (hs : a.eval s = .string x) (h0 : P.underlying t0 = some u) (ht : P.underlying t = some (.slice e)) (he : P.underlying e = some (.int .u8))
    (hk : ∀ v w1, Kd.V (Kd.int .u8) e w1 W.heap.size (fun k => W.heap.size ≤ k) v r → Below W.heap.size W w1 → wpList P ops Q rest (a.put o.dst v) w1) :
    wpList P ops Q (o :: rest) a W := by
  unfold bytesOf.f at h
  split at h
  case isFalse => cases h
  case isTrue hsz =>
  obtain rfl := Option.some.inj h
  have hr := Lib.run_convert_string_bytes (P := P) W t0 t e x h0 ht he
  have hB : Below W.heap.size W (Lib.bytesWorld W e x) := by
    have h1 : Below W.heap.size W (W.drew.alloc (.cells (Lib.bytesCells W e x) e)) := (Below.refl _ W).drew.alloc (Nat.le_refl _) _
    exact ⟨h1.os, h1.tape, h1.output, by rw [Lib.bytesWorld_size]; omega, fun k hk => Lib.bytesWorld_at_old W e x k hk⟩
  have hv : Kd.V (Kd.int .u8) e (Lib.bytesWorld W e x) W.heap.size (fun k => W.heap.size ≤ k) (.slice (some ⟨W.heap.size, 0, none⟩) (octs x).length (grownCap W x.size 0 e)) (octs x) := by
    have hcap := grownCap_ge W x.size 0 e
    refine Kd.V_mk (by rw [octs_length]; exact hcap) (fun W' hW => ?_)
    refine Kd.C_of_reads (d := (0 : Int)) ⟨rfl, by rw [octs_length]; omega, fun _ => ⟨_, rfl, fun j hj => ?_⟩⟩
    rw [octs_length] at hj
    have hnew := Lib.bytesWorld_at_new W e x
    have hW' := (hW W.heap.size (Nat.le_refl _) (by rw [Lib.bytesWorld_size]; omega)).trans hnew
    rw [add_plain, cell_of_row W' _ j _ e _ hW', Lib.bytesCells]
    have hj2 : j < x.data.size := hj
    rw [Array.getElem?_append_left (by simpa using hj2)]
    simp [octs, List.getD_eq_getElem?_getD, Array.getElem?_eq_getElem hj2]
  refine wpList_plain hgd fun K hK => ?_
  unfold Oper.wp execOp
  simp only [hop, hs]
  have hr2 : (do let v ← convert t0 t (.string x); pure (Next.value v) : Sem Next).run P W = .ok (.value (.slice (some ⟨W.heap.size, 0, none⟩) x.size (grownCap W x.size 0 e))) (Lib.bytesWorld W e x) := by
    rw [Sem.run_bind, hr]; rfl
  first | rw [hr2] | (simp only [Sem.run_bind, hr, Sem.run_pure, Result.andThen_ok])
  refine hK _ _ (hk _ _ ?_ hB)
  rw [octs_length] at hv
  exact hv

end Go.Proofs.YtbpdcbibooiimaaGreatDoor.Q

-- from Pfree
/- Parted texts are free of the parting octet. -/
namespace Go.Proofs.YtbpdcbibooiimaaGreatDoor.K
set_option linter.unusedVariables false
set_option linter.unusedSimpArgs false
open Go.RowKit Go.Proofs.YtbpdcbibooiimaaGreatDoorW.PrintWords Go.Proofs.YtbpdcbibooiimaaGreatDoorW.PrintMore Go.Proofs.YtbpdcbibooiimaaGreatDoor.Q

theorem splP_free {α : Type} (p : α → Bool) : ∀ (l q : List α), q ∈ splP p l → ∀ x ∈ q, p x = false
  | [], q, h, x, hx => by
    simp only [splP, List.mem_singleton] at h
    subst h
    cases hx
  | y :: l, q, h, x, hx => by
    rw [splP_cons] at h
    by_cases hy : p y = true
    · rw [if_pos hy] at h
      rcases List.mem_cons.1 h with rfl | h
      · cases hx
      · exact splP_free p l q h x hx
    · rw [if_neg hy] at h
      have ih := splP_free p l
      cases hs : splP p l with
      | nil => exact absurd hs (splP_ne p l)
      | cons a r =>
        rw [hs] at h ih
        rcases List.mem_cons.1 h with rfl | h
        · rcases List.mem_cons.1 hx with rfl | hx
          · simpa using hy
          · exact ih a (List.mem_cons_self ..) x hx
        · exact ih q (List.mem_cons_of_mem _ h) x hx
theorem spl_free {c : Int} {l q : List Int} (h : q ∈ spl c l) : ∀ x ∈ q, x ≠ c := fun x hx e => by
  have := splP_free _ l q h x hx
  simp [e] at this
end Go.Proofs.YtbpdcbibooiimaaGreatDoor.K

-- from Qf19
-- Made by hp.py, a program of this session, with the kit's printer. Not trusted: Lean checks it.
namespace Go.Proofs.YtbpdcbibooiimaaGreatDoor.Q
open Go.RowKit Go.Proofs.YtbpdcbibooiimaaGreatDoorW.PrintWords Go.Proofs.YtbpdcbibooiimaaGreatDoorW.PrintLast Go.Proofs.YtbpdcbibooiimaaGreatDoorW.PrintMore
attribute [local go_sem] max2_int min2_int max_two min_two max_three min_three max_four min_four   -- for this text's walks alone
set_option linter.unusedVariables false
set_option linter.unusedSimpArgs false

/-! ### paronymref01_Rest: function 19 -/
def paronymref01_Rest.f (a0 : Int) (a1 : Int) : Option (Int) := if a1 = 0 then (none) else (some (Int.tmod (wrap64 ((Int.tmod a0 a1) + a1)) a1))
set_option maxHeartbeats 8000000 in
set_option maxRecDepth 100000 in
theorem paronymref01_Rest.calls (a0 : Int) (a1 : Int) (r : Int) (w : World) (h : paronymref01_Rest.f a0 a1 = some r) :
    Calls Tryz.prog 19 #[.int .i64 a0, .int .i64 a1] w fun e w' => e = .returned (.int .i64 r) ∧ Drawn0 w w' := by
  have H : (if a1 = 0 then (none) else (some (Int.tmod (wrap64 ((Int.tmod a0 a1) + a1)) a1))) = some r := h
  clear h
  by_cases c3 : a1 = 0
  · rw [if_pos c3] at H
    exact absurd H (by simp)
  · rw [if_neg c3] at H
    have c3b0 : (a1 == 0) = false := beq_eq_false_iff_ne.mpr c3
    have c3b1 : (a1 != 0) = true := bne_iff_ne.mpr c3
    obtain rfl := Option.some.inj H
    go_enter Tryz.func19, Tryz.ntmps19
    go_wp2
    go_ret
    exact ⟨by first | rfl | (simp; done) | (simp [*]; done), by repeat (first | exact Drawn0.refl _ | apply Drawn0.step)⟩

end Go.Proofs.YtbpdcbibooiimaaGreatDoor.Q

-- from Pturn
/- Lines, each with an end of line, in another order. -/
namespace Go.Proofs.YtbpdcbibooiimaaGreatDoor.K
set_option linter.unusedVariables false
set_option linter.unusedSimpArgs false
open Go.RowKit Go.Proofs.YtbpdcbibooiimaaGreatDoorW.PrintWords Go.Proofs.YtbpdcbibooiimaaGreatDoorW.PrintMore Go.Proofs.YtbpdcbibooiimaaGreatDoor.Q

/-- Each line with an end of line. -/
def nlS (X : List (List Int)) : List Int := X.flatMap (fun x => x ++ [10])
theorem nlS_spl : ∀ (X : List (List Int)), (∀ l ∈ X, ∀ x ∈ l, x ≠ 10) → spl 10 (nlS X) = X ++ [[]]
  | [], _ => rfl
  | x :: X, h => by
    have hx := h x List.mem_cons_self
    have ih := nlS_spl X (fun l hl => h l (List.mem_cons_of_mem _ hl))
    have e : nlS (x :: X) = x ++ 10 :: nlS X := by
      unfold nlS
      rw [List.flatMap_cons]
      simp
    unfold spl at ih ⊢
    rw [splP_hit e (fun y hy => decide_eq_false (hx y hy)) (decide_eq_true rfl), ih]
    rfl
theorem nlS_oct {X : List (List Int)} (h : ∀ l ∈ X, Oct l) : Oct (nlS X) := fun y hy => by
  obtain ⟨x, hx, hy⟩ := List.mem_flatMap.1 hy
  rcases List.mem_append.1 hy with hy | hy
  · exact h x hx y hy
  · rw [List.mem_singleton.1 hy]; decide
theorem nlS_len : ∀ (X : List (List Int)), (nlS X).length = (X.map List.length).sum + X.length
  | [] => rfl
  | x :: X => by
    have e : nlS (x :: X) = x ++ [10] ++ nlS X := by unfold nlS; rw [List.flatMap_cons]
    rw [e, List.length_append, List.length_append, nlS_len X, List.map_cons, List.sum_cons, List.length_cons]
    simp; omega
theorem nlS_snoc (X : List (List Int)) (x : List Int) : nlS (X ++ [x]) = nlS X ++ (x ++ [10]) := by unfold nlS; rw [List.flatMap_append]; simp
/-- A list from a place on. -/
def rotL {α : Type} (l : List α) (r : Nat) : List α := l.drop r ++ l.take r
theorem rotL_perm {α : Type} (l : List α) (r : Nat) : (rotL l r).Perm l := by
  unfold rotL
  exact List.perm_append_comm.trans (by rw [List.take_append_drop])
theorem rotL_len {α : Type} (l : List α) (r : Nat) : (rotL l r).length = l.length := (rotL_perm l r).length_eq
theorem rotL_at {α : Type} {l : List α} {r i : Nat} (hr : r < l.length) (hi : i < l.length) : ∃ j : Nat, ((i : Int) + (r : Int)) % (l.length : Int) = (j : Int) ∧ j < l.length ∧ (rotL l r)[i]? = l[j]? := by
  refine ⟨if i < l.length - r then r + i else i - (l.length - r), ?_, by split <;> omega, ?_⟩
  · split
    · rw [Int.emod_eq_of_lt (by omega) (by omega)]; omega
    · have : ((i : Int) + (r : Int)) = ((i : Int) + r - l.length) + l.length := by omega
      rw [this, Int.add_emod_right, Int.emod_eq_of_lt (by omega) (by omega)]; omega
  · unfold rotL
    split
    · rw [List.getElem?_append_left (by rw [List.length_drop]; omega), List.getElem?_drop]
    · rw [List.getElem?_append_right (by rw [List.length_drop]; omega), List.length_drop, List.getElem?_take_of_lt (by omega)]
theorem rotL_take {α : Type} {l : List α} {r i j : Nat} (hi : i < (rotL l r).length) (h : (rotL l r)[i]? = l[j]?) (hj : j < l.length) : (rotL l r).take (i + 1) = (rotL l r).take i ++ [l[j]] := by
  rw [List.take_add_one, h, List.getElem?_eq_getElem hj]; rfl
theorem rest_is (a n : Int) (h0 : 0 < n) (h1 : n ≤ 1000000) : ∃ r : Nat, paronymref01_Rest.f a n = some (r : Int) ∧ (r : Int) < n := by
  have h2 := Int.tmod_lt_of_pos a h0
  have h3 := Int.lt_tmod_of_pos a h0
  unfold paronymref01_Rest.f
  rw [if_neg (by omega), w64 (by omega) (by omega), Int.tmod_eq_emod_of_nonneg (by omega)]
  obtain ⟨r, hr⟩ := Int.eq_ofNat_of_zero_le (Int.emod_nonneg (a.tmod n + n) (by omega : n ≠ 0))
  exact ⟨r, congrArg some hr, by have := Int.emod_lt_of_pos (a.tmod n + n) h0; rw [hr] at this; exact this⟩
/-- The fields of lines, without their numbers. -/
theorem linesI_fields : ∀ (X : List (List Int)) (i : Nat), (linesI i X).map (·.2) = X.filterMap (fun l => fieldsL (stripCR l))
  | [], _ => rfl
  | x :: X, i => by
    rw [linesI_cons, List.filterMap_cons]
    cases fieldsL (stripCR x) with
    | none => exact linesI_fields X (i + 1)
    | some f => simp only [List.map_cons]; rw [linesI_fields X (i + 1)]
/-- Lines turned, and an empty one behind: their fields, in another order. -/
theorem turned_fields {X Y : List (List Int)} (hp : Y.Perm X) (i j : Nat) : ((linesI i (Y ++ [[]])).map (·.2)).Perm ((linesI j X).map (·.2)) := by
  rw [linesI_fields, linesI_fields, List.filterMap_append]
  have e : ([[]] : List (List Int)).filterMap (fun l => fieldsL (stripCR l)) = [] := by decide
  rw [e, List.append_nil]
  exact hp.filterMap _
end Go.Proofs.YtbpdcbibooiimaaGreatDoor.K

-- from Hnls
/- Texts of octets as octets; lines one behind the other. -/
namespace Go.Proofs.YtbpdcbibooiimaaGreatDoor.Q
open Go.RowKit Go.Shelf Go.Proofs.YtbpdcbibooiimaaGreatDoorW.PrintWords Go.Proofs.YtbpdcbibooiimaaGreatDoorW.PrintLast Go.Proofs.YtbpdcbibooiimaaGreatDoorW.PrintMore Go.Proofs.YtbpdcbibooiimaaGreatDoor.K
set_option linter.unusedVariables false
set_option linter.unusedSimpArgs false

/-- The octets of a text of octets. -/
theorem octs_str {l : List Int} (h : Oct l) : octs (strOfNums l) = l := by
  have := bytesOf_str h
  unfold Go.Proofs.YtbpdcbibooiimaaGreatDoorW.PrintWords.bytesOf at this
  unfold octs
  exact this
theorem bytesOf_f_str {l : List Int} (h : Oct l) (hl : l.length ≤ 1000000) : bytesOf.f (strOfNums l) = some l := by
  unfold bytesOf.f
  rw [if_pos (by rw [size_str]; omega), octs_str h]
theorem nlS_take_len {Y : List (List Int)} {n : Nat} (h : (Y.map List.length).sum + Y.length ≤ n) (i : Nat) : (nlS (Y.take i)).length ≤ n := by
  rw [nlS_len]
  have h2 : ((Y.take i).map List.length).sum ≤ (Y.map List.length).sum := by
    rw [List.map_take]
    conv => rhs; rw [← List.take_append_drop i (Y.map List.length), List.sum_append]
    omega
  have h5 : (Y.take i).length ≤ Y.length := by rw [List.length_take]; omega
  omega
end Go.Proofs.YtbpdcbibooiimaaGreatDoor.Q

-- from Hw63
/- ConfusTurned: the walk. -/
namespace Go.Proofs.YtbpdcbibooiimaaGreatDoor.Q
open Go.RowKit Go.Shelf Go.Maps Go.Proofs.YtbpdcbibooiimaaGreatDoorW.PrintWords Go.Proofs.YtbpdcbibooiimaaGreatDoorW.PrintLast Go.Proofs.YtbpdcbibooiimaaGreatDoorW.PrintMore Go.Proofs.YtbpdcbibooiimaaGreatDoor.K
set_option linter.unusedVariables false
set_option linter.unusedSimpArgs false

theorem cfA_turn {L : List Int} {r : Nat} (h : (cfA L).2.1 = 0) : cfA (nlS (rotL (spl 10 L) r)) = cfA L := by
  unfold cfA at h ⊢
  refine cfGo_perm ?_ h
  have hf : ∀ l ∈ rotL (spl 10 L) r, ∀ x ∈ l, x ≠ 10 := fun l hl => spl_free ((rotL_perm _ r).mem_iff.1 hl)
  rw [nlS_spl _ hf]
  exact turned_fields (rotL_perm _ r) 0 0
theorem c6_both {L : List Int} (A : Option Addr) (c : Nat) (ho : Oct L) (hl : L.length ≤ 50000) (w : World) (hE : EnvF w) (hr : Kd.C (Kd.int .u8) w A L.length L) (hc : L.length ≤ c) :
    Calls Tryz.prog 24 #[.slice A L.length c] w fun e w' => ∃ q, e = .returned (.tuple #[.pointer q, .int .i64 (cfA L).2.1, .int .i64 (cfA L).2.2]) ∧ CTab w' q ((cfA L).1.getD []) ∧ ((cfA L).2.1 ≠ 0 → q = none) ∧ Below w.heap.size w w' := by
  rcases cfA_cases L with ⟨l, hl2⟩ | ⟨e, n, h0, hl2⟩
  · rw [hl2]
    exact (c6_ok A c ho hl w hE hr hc hl2).mono fun e w' ⟨g, he, hT, hb⟩ => ⟨_, he, hT, fun h => absurd rfl h, hb⟩
  · rw [hl2]
    exact (c6_err A c ho hl w hE hr hc hl2).mono fun e w' ⟨he, hb⟩ => ⟨_, he, CTab.nil _, fun _ => rfl, hb⟩
set_option maxHeartbeats 4000000 in
set_option maxRecDepth 100000 in
theorem paronymlaw06_ConfusTurned.long (A : Option Addr) (c : Nat) (L : List Int) (turn : Int) (w : World) (hE : EnvF w) (h : 800 < L.length) :
    Calls Tryz.prog 9 #[.slice A L.length c, .int .i64 turn] w fun e w' => e = .returned (.bool true) ∧ Below w.heap.size w w' := by
  have HE := Aside0.mk hE
  clear hE
  have HB := Aside0.mk (Below.refl w.heap.size w)
  have e0 : ((800 : Int) < (L.length : Int)) = True := eq_true (by omega)
  have e1 : decide ((800 : Int) < (L.length : Int)) = true := decide_eq_true (by omega)
  clear h
  go_enter Tryz.func9, Tryz.ntmps9
  go_wp2_with (go_at_call 23; (with_reducible refine (paronymlaw06_awake.calls0 _ (HE.out.below HB.out)).mono ?_); rintro e w1 ⟨rfl, hb⟩; have HB := Aside0.mk (HB.out.trans (hb.mono HB.out.size)); clear hb)
  go_ret
  exact ⟨rfl, HB.out⟩
set_option maxHeartbeats 4000000 in
set_option maxRecDepth 100000 in
theorem paronymlaw06_ConfusTurned.main (A : Option Addr) (c : Nat) (L : List Int) (ho : Oct L) (turn : Int) (w : World) (hE : EnvF w) (hl : L.length ≤ 800) (hr : Kd.C (Kd.int .u8) w A L.length L) (hc : L.length ≤ c) (tl : List (Int × List Int)) (h : (cfA L).1.getD [] = tl) (htl : tl.length ≤ 100000 ∧ ∀ p ∈ tl, p.2.length ≤ 100000) :
    Calls Tryz.prog 9 #[.slice A L.length c, .int .i64 turn] w fun e w' => e = .returned (.bool true) ∧ Below w.heap.size w w' := by
  obtain ⟨k2, hk2⟩ := (cut_ev ho (by omega) 10).rounds
  obtain ⟨Y, hY⟩ : ∃ Y, Y = spl 10 L := ⟨_, rfl⟩
  have hYn : Y.length ≤ 801 := by
    rw [hY]
    have h2 := splP_count (fun x => decide (x = (10 : Int))) L
    unfold spl; omega
  have hYp : 0 < Y.length := by rw [hY]; exact List.length_pos_iff.2 (spl_ne 10 L)
  obtain ⟨r, hr1, hr2⟩ := rest_is turn (Y.length : Int) (by omega) (by omega)
  have hrl : r < Y.length := by omega
  obtain ⟨Z, hZ⟩ : ∃ Z, Z = rotL Y r := ⟨_, rfl⟩
  have hZn : Z.length = Y.length := by rw [hZ]; exact rotL_len Y r
  have hZo : ∀ l ∈ Z, Oct l := fun l h => by rw [hZ] at h; have := (rotL_perm Y r).mem_iff.1 h; rw [hY] at this; exact oct_spl ho this
  have hZs : (Z.map List.length).sum + Z.length ≤ 2000 := by
    have h3 := splP_sum (fun x => decide (x = (10 : Int))) L
    have h4 : (Z.map List.length).sum = (Y.map List.length).sum := by rw [hZ]; exact ((rotL_perm Y r).map List.length).sum_nat
    have h5 : (Y.map List.length).sum + Y.length ≤ 801 := by rw [hY]; unfold spl; omega
    omega
  have hat := fun i (hi : i < Y.length) => rotL_at (l := Y) hrl hi
  rw [← hZ] at hat
  have htn : (cfA L).2.1 = 0 → cfA (nlS Z) = cfA L := fun h0 => by rw [hZ, hY]; exact cfA_turn h0
  rw [← hY] at hk2
  obtain ⟨M, hMl⟩ : ∃ M, M = tl.map cP := ⟨_, rfl⟩
  have hM : crfR (cfA L) = (M, (cfA L).2.1, (cfA L).2.2) := by unfold crfR; rw [h, hMl]
  have HTL := Aside0.mk htl
  have HM := Aside0.mk hM
  have HML := Aside0.mk hMl
  have HYN := Aside0.mk hYn
  have HYP := Aside0.mk hYp
  have HRR := Aside0.mk hr1
  have HRL := Aside0.mk hrl
  have HZN := Aside0.mk hZn
  have HZO := Aside0.mk hZo
  have HZS := Aside0.mk hZs
  have HAT := Aside0.mk hat
  have HTN := Aside0.mk htn
  have HK2 := Aside0.mk hk2
  have HE := Aside0.mk hE
  have HR := Aside0.mk hr
  have HC := Aside0.mk hc
  have HO := Aside0.mk ho
  have HH := Aside0.mk h
  have HL : Aside0 (L.length ≤ 50000) := ⟨by omega⟩
  have HL2 : Aside0 (L.length ≤ 100000) := ⟨by omega⟩
  have HB := Aside0.mk (Below.refl w.heap.size w)
  have e0 : ((800 : Int) < (L.length : Int)) = False := eq_false (by omega)
  have e1 : decide ((800 : Int) < (L.length : Int)) = false := decide_eq_false (by omega)
  clear hE hl hr hc ho h hk2 hYn hYp hr1 hr2 hrl hZn hZo hZs hat htn hM hMl htl hY hZ
  go_enter Tryz.func9, Tryz.ntmps9
  go_wp2_with (first
    | (go_at_call 23; (with_reducible refine (paronymlaw06_awake.calls0 _ (HE.out.below HB.out)).mono ?_); rintro e w1 ⟨rfl, hb⟩; have HB := Aside0.mk (HB.out.trans (hb.mono HB.out.size)); clear hb)
    | (go_at_call 24; (with_reducible refine (c6_both A c HO.out HL.out _ (HE.out.below HB.out) (Kd.C_below HR.out HB.out) HC.out).mono ?_); rintro e w3 ⟨q, rfl, hT, hq, hb⟩; have HQ := Aside0.mk hq; have HB := Aside0.mk (HB.out.trans (hb.mono HB.out.size)); clear hb hT hq
       have hcx := Kd.C_string (P := Tryz.prog) (c := c) Tryz.underlying22 Tryz.underlying5 Tryz.underlying9 (Kd.C_below HR.out HB.out))
    | (go_at_call 18; refine (paronymref02_Cut.calls k2 _ _ _ _ HK2.out).mono ?_; rintro e w4 ⟨v2, rfl, hs, hb⟩
       obtain ⟨Ay, cy, e, hcy, hCy⟩ := Kd.R_reads hs
       rw [List.length_map] at e hcy hCy
       subst e
       have HYC := Aside0.mk hCy
       have HB := Aside0.mk (HB.out.trans (hb.mono HB.out.size))
       clear hs hb hcy hCy hcx)
    | (go_at_call 19; (with_reducible refine (paronymref01_Rest.calls turn _ _ _ HRR.out).mono ?_); rintro e w5 ⟨rfl, hd⟩; have HYC := Aside0.mk (Kd.C_below HYC.out hd.below); have HB := Aside0.mk (HB.out.trans (hd.below.mono HB.out.size)); clear hd))
  go_loopg [9, 11] (Y.length + 1) (fun kq s10 s11 wr => ∃ i : Nat, s11 = .int .i64 (i : Int) ∧ s10 = .string (strOfNums (nlS (Z.take i))) ∧ Aside0 (i + kq = Y.length + 1 ∧ i ≤ Y.length) ∧ Aside0 (Below w5.heap.size w5 wr))
  case atStart => exact ⟨0, rfl, by simp [nlS]; rfl, ⟨by omega, by omega⟩, ⟨Below.refl _ _⟩⟩
  case round =>
    obtain ⟨i, rfl, rfl, HI, HBI⟩ := hrel
    cases gk with
    | zero => exact absurd HI.out (by omega)
    | succ kq =>
      by_cases c1 : (i : Int) < (Y.length : Int)
      · have hi : i < Y.length := by omega
        have hyn := HYN.out
        have hrl := HRL.out
        have p0 : (0 : Int) ≤ (i : Int) + (r : Int) := by omega
        have p1 : (i : Int) + (r : Int) ≤ 2000 := by omega
        have m1 : wrap64 ((i : Int) + (r : Int)) = (i : Int) + (r : Int) := w64 (n := (i : Int) + (r : Int)) (by omega) (by omega)
        have m4 : ((Y.length : Int) == 0) = false := beq_eq_false_iff_ne.mpr (by omega)
        have m5 : ((Y.length : Int) = 0) = False := eq_false (by omega)
        have m6 : (Y.length = 0) = False := eq_false (by omega)
        have mA : (i : Int) ≤ 801 := by omega
        have mB : ((Y.length : Int) = -1) = False := eq_false (by omega)
        have mC : Y ≠ [] := fun e => by rw [e] at hi; simp at hi
        have MW : Aside0 (wrap64 ((i : Int) + 1) = ((i + 1 : Nat) : Int) ∧ ((i : Int) + 1) = ((i + 1 : Nat) : Int)) := ⟨by rw [w64 (n := (i : Int) + 1) (by omega) (by omega)]; omega, by omega⟩
        have m0 : wrap64 ((i : Int) + 1) = (i : Int) + 1 := w64 (n := (i : Int) + 1) (by omega) (by omega)
        have MEAS : Aside0 (i + kq + 1 = Y.length + 1 ∧ i + 1 ≤ Y.length) := ⟨by have := HI.out; omega, by omega⟩
        clear hyn hrl
        obtain ⟨j, hj1, hj2, hj3⟩ := HAT.out i hi
        have hj800 : (j : Int) ≤ 801 := by have := HYN.out; omega
        have m3 : wrap64 (j : Int) = (j : Int) := w64 (n := (j : Int)) (by have := Int.natCast_nonneg j; clear hj1; omega) (by clear hj1; omega)
        have hzi : i < Z.length := by rw [HZN.out]; exact hi
        have htk : Z.take (i + 1) = Z.take i ++ [Y[j]] := by
          rw [List.take_add_one, hj3, List.getElem?_eq_getElem hj2]; rfl
        have hol : Oct Y[j] := HZO.out _ (by
          have : Z[i]? = some Y[j] := by rw [hj3, List.getElem?_eq_getElem hj2]
          exact List.mem_of_getElem? this)
        obtain ⟨ad, hAd, hx0⟩ := Kd.at_string (Kd.C_below HYC.out HBI.out) (j : Int) (by omega) (by omega)
        rw [rdOf_map2 Y j hj2, Int.toNat_natCast] at hx0
        cases hAd
        have hlen := nlS_take_len HZS.out (i + 1)
        rw [htk, nlS_snoc, List.length_append, List.length_append, List.length_singleton] at hlen
        obtain ⟨l, hlx⟩ : ∃ l, l = Y[j] := ⟨_, rfl⟩
        rw [← hlx] at hx0 htk hol hlen
        obtain ⟨P, hP⟩ : ∃ P, P = nlS (Z.take i) := ⟨_, rfl⟩
        have hnx : nlS (Z.take (i + 1)) = P ++ l ++ [10] := by rw [htk, nlS_snoc, ← hP, List.append_assoc]
        rw [← hP] at hlen ⊢
        obtain ⟨sP, hsP⟩ : ∃ s, s = strOfNums P := ⟨_, rfl⟩
        obtain ⟨sl, hsl⟩ : ∃ s, s = strOfNums l := ⟨_, rfl⟩
        have hszP : sP.size = P.length := by rw [hsP]; exact size_str P
        have hszl : sl.size = l.length := by rw [hsl]; exact size_str l
        have hkey : sP ++ sl ++ (⟨#[10]⟩ : ByteArray) = strOfNums (nlS (Z.take (i + 1))) := by
          rw [hnx, hsP, hsl, show (⟨#[10]⟩ : ByteArray) = strOfNums [10] from rfl, str_append, str_append]
        rw [← hsP]
        rw [← hsl] at hx0
        have HKEY := Aside0.mk hkey
        have HII := Aside0.mk hi
        have n1 : (9223372036854775807 < P.length + l.length) = False := eq_false (by omega)
        have n2 : (9223372036854775807 < P.length + l.length + 1) = False := eq_false (by omega)
        have m7 : (0 ≤ (j : Int)) = True := eq_true (Int.natCast_nonneg j)
        have m8 : ((j : Int) < (Y.length : Int)) = True := eq_true (Int.ofNat_lt.mpr hj2)
        have m9 : (j < Y.length) = True := eq_true hj2
        have e2 := eq_true c1
        have e3 : decide ((i : Int) < (Y.length : Int)) = true := decide_eq_true c1
        have m2 : ((i : Int) + (r : Int)).tmod (Y.length : Int) = (j : Int) := (Int.tmod_eq_emod_of_nonneg p0).trans hj1
        clear c1 hi hj1 hj2 hj3 hzi htk hol hlen hlx hP hnx hsP hsl hkey hj800
        go_wp2
        go_roundg kq
        case measure => exact Nat.lt_succ_self _
        case rel => exact ⟨i + 1, by first | rfl | (rw [MW.out.1]) | (rw [← MW.out.2]), by rw [← HKEY.out], ⟨by have := MEAS.out.1; clear m1 m2 p0 p1; omega, HII.out⟩, HBI⟩
      · have hi : i = Y.length := by have := HI.out; omega
        subst hi
        have e2 := eq_false c1
        have e3 : decide ((Y.length : Int) < (Y.length : Int)) = false := decide_eq_false c1
        rw [show Z.take Y.length = Z by rw [← HZN.out, List.take_length]]
        obtain ⟨V, hV⟩ : ∃ V, V = nlS Z := ⟨_, rfl⟩
        have hVl : V.length ≤ 2000 := by have := nlS_take_len HZS.out Z.length; rw [List.take_length] at this; rw [hV]; exact this
        have hVo : Oct V := by rw [hV]; exact nlS_oct HZO.out
        have hVt : (cfA L).2.1 = 0 → cfA V = cfA L := by rw [hV]; exact HTN.out
        have hbf := bytesOf_f_str hVo (by omega)
        rw [← hV]
        obtain ⟨sV, hsV⟩ : ∃ s, s = strOfNums V := ⟨_, rfl⟩
        rw [← hsV] at hbf ⊢
        have HVL : Aside0 (V.length ≤ 50000) := ⟨by omega⟩
        have HVO := Aside0.mk hVo
        have HVT := Aside0.mk hVt
        have HBF := Aside0.mk hbf
        have HB := Aside0.mk (HB.out.trans (HBI.out.mono HB.out.size))
        clear hV hVl hVo hVt hbf hsV c1
        by_cases hE0 : (cfA L).2.1 = 0
        · have hVt := HVT.out hE0
          have hVe : (cfA V).2.1 = 0 := by rw [hVt]; exact hE0
          obtain ⟨eL, heL⟩ : ∃ e, e = (cfA L).2.1 := ⟨_, rfl⟩
          have HVT2 : Aside0 ((cfA V).1.getD [] = tl) := ⟨by rw [hVt]; exact HH.out⟩
          have HE0 := Aside0.mk hE0
          have HVE := Aside0.mk hVe
          rw [hE0]
          clear hE0 hVt hVe heL
          go_wp2_with (first
            | ((with_reducible refine gate_dst (N := 59) rfl ?_); (try (refine gate_guard (by rfl) ?_; dsimp only)); refine bytesOf.step 9 22 5 _ sV V HBF.out rfl rfl rfl Tryz.underlying9 Tryz.underlying22 Tryz.underlying5 ?_; intro v6 w6 hv6 hb6; have HV6 := Aside0.mk hv6; have HB6 := Aside0.mk (HB.out.trans (hb6.mono HB.out.size)); clear hv6 hb6)
            | (go_at_call 24
               obtain ⟨A1, c1, rfl⟩ := Kd.V_slice HV6.out
               obtain ⟨-, hc1, hC1⟩ := Kd.V_reads' HV6.out
               (with_reducible refine (c6_both A1 c1 HVO.out HVL.out _ (HE.out.below HB6.out) hC1 hc1).mono ?_)
               rintro e w7 ⟨q2, rfl, hT, hq, hb⟩
               rw [HVT2.out] at hT
               rw [HVE.out]
               have HT := Aside0.mk hT
               have HB7 := Aside0.mk (HB6.out.trans (hb.mono HB6.out.size))
               clear hb hT hq hc1 hC1
               have hcx := Kd.C_string (P := Tryz.prog) (c := c) Tryz.underlying22 Tryz.underlying5 Tryz.underlying9 (Kd.C_below HR.out HB7.out))
            | (go_at_call 25; (with_reducible refine (c6_ref HO.out HL.out _ HM.out).mono ?_); rintro e w8 ⟨A4, c4, rfl, hc4, hC4, hb⟩; have HC4 := Aside0.mk hC4; have HT8 := Aside0.mk (HT.out.below hb); have HB8 := Aside0.mk (HB7.out.trans (hb.mono HB7.out.size)); clear hb hC4 hc4 hcx)
            | (go_at_call 26; (with_reducible refine (paronymlaw06_Is.main _ tl A4 c4 M HML.out 100000 (by decide) _ HT8.out HTL.out.1 HTL.out.2 HC4.out).mono ?_); rintro e w9 ⟨rfl, hb⟩; have HB9 := Aside0.mk (HB8.out.trans (hb.mono HB8.out.size)); clear hb))
          go_ret
          exact ⟨rfl, HB9.out⟩
        · obtain rfl := HQ.out hE0
          have g2 : ((cfA L).2.1 == 0) = false := beq_eq_false_iff_ne.mpr hE0
          have g3 : ((cfA L).2.1 != 0) = true := bne_iff_ne.mpr hE0
          clear hE0
          go_wp2_with (first
            | ((with_reducible refine gate_dst (N := 59) rfl ?_); (try (refine gate_guard (by rfl) ?_; dsimp only)); refine bytesOf.step 9 22 5 _ sV V HBF.out rfl rfl rfl Tryz.underlying9 Tryz.underlying22 Tryz.underlying5 ?_; intro v6 w6 hv6 hb6; have HV6 := Aside0.mk hv6; have HB6 := Aside0.mk (HB.out.trans (hb6.mono HB.out.size)); clear hv6 hb6)
            | (go_at_call 24
               obtain ⟨A1, c1, rfl⟩ := Kd.V_slice HV6.out
               obtain ⟨-, hc1, hC1⟩ := Kd.V_reads' HV6.out
               (with_reducible refine (c6_both A1 c1 HVO.out HVL.out _ (HE.out.below HB6.out) hC1 hc1).mono ?_)
               rintro e w7 ⟨q2, rfl, hT, hq, hb⟩
               have HB7 := Aside0.mk (HB6.out.trans (hb.mono HB6.out.size))
               clear hb hT hq hc1 hC1))
          go_ret
          exact ⟨rfl, HB7.out⟩
theorem paronymlaw06_ConfusTurned.walk (a0 : Option Addr) (cap0 : Nat) (l0 : List Int) (a1 : Int) (w : World) (hE : EnvF w) (hC0 : Kd.C (Kd.int .u8) w a0 l0.length l0) (hcap0 : l0.length ≤ cap0) (ho : Oct l0) (w1 : (Lit.int .i64 a1).wf = true) :
    Calls Tryz.prog 9 #[.slice a0 l0.length cap0, .int .i64 a1] w fun e w' => e = .returned (.bool true) ∧ Below w.heap.size w w' := by
  by_cases h : 800 < l0.length
  · exact paronymlaw06_ConfusTurned.long a0 cap0 l0 a1 w hE h
  · refine paronymlaw06_ConfusTurned.main a0 cap0 l0 ho a1 w hE (by omega) hC0 hcap0 _ rfl ?_
    rcases cfA_cases l0 with ⟨l, h2⟩ | ⟨e, n, h0, h2⟩
    · rw [h2]; exact cfA_len (by omega) h2
    · rw [h2]; exact ⟨by simp, fun p hp => by cases hp⟩
end Go.Proofs.YtbpdcbibooiimaaGreatDoor.Q

-- from LawConfusTurned
-- Made by envrow.py, a program of this session, after the kit's rows: the world's shape handed on. Not trusted: Lean checks it.
namespace Go.Proofs.YtbpdcbibooiimaaGreatDoor.confusTurned
open Go.ChangeShapes Go.WideShapes Go.ChangeAt Go.RowKit
open Go.ChangeMaps (open_string shut_string)
set_option linter.unusedVariables false
theorem own : ownKnob Tryz.prog.godebug = none := by kernel_rfl
theorem laidOut : laidOutB Tryz.prog = true := by kernel_rfl
set_option maxRecDepth 100000 in
theorem lifted (os : Os) (started : os.Started) (H : Type) (enc : TypeId × Value → H) :
    ReturnsInHanded {} Tryz.checked os 9 .any (fun w args => (Rows.confusTurnedSpec.pre enc Tryz.prog Tryz.f9 Rows.confusTurnedRow.domain false w args ∧ laidMetH Tryz.prog Rows.confusTurnedRow.laid w) ∧ sizedMet enc Tryz.prog Tryz.f9 (OpenSpec.ofChange Rows.confusTurnedSpec) false w args) (Rows.confusTurnedSpec.post enc Tryz.prog Tryz.f9 false true false false) := by
  refine Q.returns_shaped_and (C := Tryz.checked) (X := fun w => laidMetH Tryz.prog Rows.confusTurnedRow.laid w) (fun _ _ hh h => h.of_heap hh) own started (by kernel_rfl) Tryz.func9
    (ChangeSpec.witness_shaped (enc := enc) (C := Tryz.checked) (os := os) (X := fun w _ => laidMetH Tryz.prog Rows.confusTurnedRow.laid w) false (World.laidAll Tryz.prog os Rows.confusTurnedRow.laid) #[.slice none 0 0, .int .i64 0] 8 (World.laidAll_os _ _ _)
      (World.shaped_of_ZipB (by kernel_rfl) (by kernel_rfl)) (by kernel_rfl) (by kernel_rfl) (by kernel_rfl)
      (by rw [MakeChecks.laidMetH_plain _ _ _ (by kernel_rfl)]; exact laidMet_laidAll _ (by kernel_rfl) (by kernel_rfl))) ?_
  intro W base args ds gs before hsh hL hval0 hW hsz0
  have hsz : (DataW.weightsEach Tryz.prog (Tryz.f9.params.toList ++ Rows.confusTurnedSpec.plain.varTypes Tryz.prog) (ds ++ gs)).all (· ≤ reachBytes) = true := hsz0
  have hval : ∀ (j : Nat) t v, Tryz.f9.params[j]? = some t → args[j]? = some v → Value.okWide Tryz.prog W .any base t v := hval0
  have hW' := hW
  obtain ⟨p, q, hA0, hV, rfl, hfz, hnd⟩ := hW
  have hA : DataW.TrodAll enc Tryz.prog W 0 (fun _ => true) true Tryz.f9.params.toList args.toList ds p := hA0
  rw [Tryz.params9] at hA hval hsz
  obtain ⟨v0, vs0, d0, ds0, p0, q0, hargs, rfl, rfl, h0, r0⟩ := trodAll_cons hA
  obtain ⟨v1, vs1, d1, ds1, p1, q1, rfl, rfl, rfl, h1, r1⟩ := trodAll_cons r0
  obtain ⟨rfl, rfl, rfl⟩ := trodAll_nil r1
  obtain rfl : args = #[v0, v1] := by cases args; simp_all
  obtain ⟨rfl, rfl⟩ := trodVars_none hV
  obtain ⟨a0, len0, cap0, rfl⟩ := okWide_slice Tryz.underlying22 (hval 0 22 v0 rfl rfl)
  have k0 := h0
  have lt0 : ∀ x ∈ p0, x.block < W.heap.size := by obtain ⟨m, hm⟩ := k0; exact DataW.trod_lt m _ _ _ hm
  obtain ⟨l0, hn0, hcap0, hC0, hwf0⟩ : ∃ l : List Int, l.length = len0 ∧ len0 ≤ cap0 ∧ Go.Proofs.YtbpdcbibooiimaaGreatDoorW.PrintWords.Kd.C (Go.Proofs.YtbpdcbibooiimaaGreatDoorW.PrintWords.Kd.int .u8) W a0 len0 l ∧ ∀ z ∈ l, (Lit.int .u8 z).wf = true := by
    obtain ⟨fuel, hf⟩ := h0
    have hf' : DataW.trod enc Tryz.prog W 0 (fun _ => true) true fuel 22 [.slice a0 len0 cap0] = some (d0, p0) := hf
    obtain ⟨A, c, l, e, q1, q2, q3⟩ := Q.ints_of_trod1 Tryz.underlying22 Tryz.underlying5 (by kernel_rfl) hf'
    simp only [List.cons.injEq, Value.slice.injEq, and_true] at e
    obtain ⟨rfl, rfl, rfl⟩ := e
    exact ⟨l, rfl, q1, q2, q3⟩
  subst hn0
  obtain ⟨a1, rfl, rfl, rfl, w1⟩ := open_int Tryz.underlying3 (hval 1 3 v1 rfl rfl) h1
  clear hA0 hval0 hsz0 hsz
  refine (Q.paronymlaw06_ConfusTurned.walk a0 cap0 l0 a1 W (Q.env_of_laid (List.mem_filter.2 ⟨List.mem_cons_of_mem _ (List.mem_cons_self ..), by kernel_rfl⟩) hsh hL) hC0 hcap0 (K.oct_of_wf hwf0) w1).mono fun e W' ⟨he, bel⟩ => ?_
  subst he
  exact ⟨_, rfl, _, _, _, [], _, [], hW', trodAll_mk1 (shut_bool Tryz.underlying4 _), (trodAll_cons_mk (Below.trod laidOut (by kernel_rfl) (of_decide_eq_true (by kernel_rfl)) k0 bel lt0) (trodAll_cons_mk (shut_int Tryz.underlying3 w1) trodAll_mk0)), rfl, bel.frame _, fun h => by cases h⟩
theorem over : Rows.confusTurnedRow.holds Tryz.pinned (OpenSpec.ofChange Rows.confusTurnedSpec) :=
  OpenClaim.holds_of_wide 9 Tryz.f9 rfl rfl rfl rfl rfl rfl rfl ⟨rfl, rfl, rfl, rfl, rfl⟩ rfl rfl rfl rfl rfl (by kernel_rfl) Tryz.func9 (by kernel_rfl)
    (of_decide_eq_true (by kernel_rfl)) (by unfold Func.isWrapper; first | (rw [if_pos (by decide +kernel)]; kernel_rfl) | (rw [if_neg (by decide +kernel)]; exact ⟨rfl, rfl⟩))
    (fun os started H enc _ => lifted os started H enc)
theorem card : Rows.ConfusTurnedCardSaid :=
  Claim7.holds_tied_plain_at .later [] [.data, .data, .data, .data, .pinned, .pinned] true (true, "ea15d2eb81024d9e71850c30cd30141e77aebce7e40ec8c40f847e40fd417039") true over (fun _ h => by cases h) (by kernel_rfl) (fun _ h => by cases h) confusTurned_row_tie rfl ⟨rfl, rfl⟩ (by kernel_rfl) rfl
    (fun f fn hf hfn => by
      obtain rfl : f = 9 := Option.some.inj ((show Tryz.prog.funcNamed "paronym/paronymlaw06.ConfusTurned" = some 9 by kernel_rfl).symm.trans hf) |>.symm
      obtain rfl : fn = Tryz.f9 := (Option.some.inj (Tryz.func9.symm.trans hfn)).symm
      exact ⟨by kernel_rfl, fun j t ht => by
        rw [Tryz.params9] at ht
        have hm : t ∈ ([22, 3] : List Nat) := by have := Array.mem_of_getElem? ht; simp at this ⊢; omega
        have hall : (([22, 3] : List Nat).all fun u => !Tryz.prog.wantsStandIn u) = true := by kernel_rfl
        exact (show Tryz.prog.wantsStandIn t = false by simpa using List.all_eq_true.1 hall t hm)⟩)
    (by kernel_rfl)
#print axioms card
end Go.Proofs.YtbpdcbibooiimaaGreatDoor.confusTurned
namespace Go.Proofs.YtbpdcbibooiimaaGreatDoor
/-- The row, under a short name, for the claim. -/
theorem confusTurned_holds : Rows.ConfusTurnedCardSaid := confusTurned.card
end Go.Proofs.YtbpdcbibooiimaaGreatDoor
