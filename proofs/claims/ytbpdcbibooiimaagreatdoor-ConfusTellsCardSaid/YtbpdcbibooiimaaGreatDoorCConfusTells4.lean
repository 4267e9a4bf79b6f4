/- Part 4 of 4 of the proof of ConfusTells: each code point's prototype is as the document says. For every input; no condition. -/
import Derived.Test.YtbpdcbibooiimaaGreatDoorCConfusTells2
import Derived.Test.YtbpdcbibooiimaaGreatDoorCConfusTells1
import Derived.Test.YtbpdcbibooiimaaGreatDoorCConfusTells3
import Derived.Lib.SlBytesConst
import Derived.Test.YtbpdcbibooiimaaGreatDoorRows
import Derived.Test.YtbpdcbibooiimaaGreatDoorCards
import Derived.Test.YtbpdcbibooiimaaGreatDoorTie
import Derived.LaidMore
import Derived.Lay
import Derived.SevenTiedAt
import Derived.Stop.Joined
import Derived.WalkKit
import Derived.ProofKit
import Derived.OpenShut
import Derived.ShutString
import Derived.ChangeOld
import Derived.ChangeMaps5
import Derived.Below
import Derived.SizedLaws
import Derived.Test.YtbpdcbibooiimaaGreatDoorWSized

-- from Pcrf
/- Layer 6: the reference's Parse is the pairs of all lines. -/
namespace Go.Proofs.YtbpdcbibooiimaaGreatDoor.K
set_option linter.unusedVariables false
set_option linter.unusedSimpArgs false
open Go.RowKit Go.Proofs.YtbpdcbibooiimaaGreatDoor.Q Go.Proofs.YtbpdcbibooiimaaGreatDoorW.PrintWords Go.Proofs.YtbpdcbibooiimaaGreatDoorW.PrintLast Go.Proofs.YtbpdcbibooiimaaGreatDoorW.PrintMore

def cP (p : Int × List Int) : S56 := ⟨p.1, p.2⟩
theorem rdPair (L : List (Int × List Int)) (i : Nat) (h : i < L.length) : rd_T56 (L.map cP) (i : Int) = cP L[i] := by
  unfold rd_T56
  rw [Int.toNat_natCast, List.getD_eq_getElem?_getD, List.getElem?_map, List.getElem?_eq_getElem h]; rfl
theorem rdLine (X : List (Int × List (List Int))) (i : Nat) (h : i < X.length) : rd_T90 (X.map toS) (i : Int) = toS X[i] := by
  unfold rd_T90
  rw [Int.toNat_natCast, List.getD_eq_getElem?_getD, List.getElem?_map, List.getElem?_eq_getElem h]; rfl
/-- A source's place; -1: it is none. -/
def fdx : List (Int × List Int) → Int → Nat → Int
  | [], _, _ => -1
  | q :: r, c, i => if q.1 = c then (i : Int) else fdx r c (i + 1)
theorem fdx_ev {acc : List (Int × List Int)} (hl : acc.length ≤ 1000000) (c : Int) : ∀ (d i : Nat), acc.length - i = d → i ≤ acc.length → Ev (fun k => paronymref06_Find.l0 k (acc.map cP) c (i : Int)) (fdx (acc.drop i) c i) := by
  intro d
  induction d with
  | zero =>
    intro i h1 h2
    rw [List.drop_eq_nil_iff.2 (by omega)]
    exact Ev.step (fun k => rfl) (Ev.neg (by rw [List.length_map]; omega) (Ev.ret rfl))
  | succ d ih =>
    intro i h1 h2
    have hi : i < acc.length := by omega
    rw [List.drop_eq_getElem_cons hi]
    refine Ev.step (fun k => rfl) (Ev.pos (by rw [List.length_map]; omega) (Ev.pos (by omega) ?_))
    rw [rdPair acc i hi]
    unfold fdx
    by_cases h : acc[i].1 = c
    · rw [if_pos h]
      exact Ev.pos h (Ev.ret rfl)
    · rw [if_neg h]
      refine Ev.neg h ?_
      rw [w64 (by omega) (by omega)]
      exact ih (i + 1) (by omega) (by omega)
theorem fdx_any : ∀ (acc : List (Int × List Int)) (c : Int) (i : Nat), 0 ≤ fdx acc c i ↔ acc.any (fun q => decide (q.1 = c)) = true
  | [], c, i => by simp [fdx]
  | q :: r, c, i => by
    unfold fdx
    by_cases h : q.1 = c
    · rw [if_pos h]; simp [h]
    · rw [if_neg h, fdx_any r c (i + 1)]; simp [h]
theorem insP_take {c : Int} {l : List Int} : ∀ (acc : List (Int × List Int)) (j : Nat), j ≤ acc.length → (∀ (i : Nat) (h : i < acc.length), i < j → ¬ c < acc[i].1) → (∀ (i : Nat) (h : i < acc.length), j ≤ i → c < acc[i].1) → insP (c, l) acc = acc.take j ++ [(c, l)] ++ acc.drop j
  | [], j, h0, _, _ => by
    have : j = 0 := by simpa using h0
    subst this; rfl
  | q :: r, 0, h0, h1, h2 => by
    unfold insP
    rw [if_pos (show (c, l).1 < q.1 from h2 0 (by simp) (Nat.le_refl _))]; rfl
  | q :: r, j + 1, h0, h1, h2 => by
    unfold insP
    rw [if_neg (show ¬ (c, l).1 < q.1 from h1 0 (by simp) (by omega)), insP_take r j (by simpa using h0) (fun i h hi => by have := h1 (i + 1) (by simpa using h) (by omega); simpa using this) (fun i h hi => by have := h2 (i + 1) (by simpa using h) (by omega); simpa using this)]
    rfl
/-- What Parse hands over. -/
def crfR (t : Option (List (Int × List Int)) × Int × Int) : List S56 × Int × Int := ((t.1.getD []).map cP, t.2.1, t.2.2)
theorem crf_ins {X : List S90} {acc : List (Int × List Int)} {c : Int} {l : List Int} {i : Nat} (ha : acc.length ≤ 1000000) (hi : i ≤ 1000000) (hr : Rising acc) {r : List S56 × Int × Int}
    (hk : Ev (fun k => paronymref06_Parse.l0 k X ((insP (c, l) acc).map cP) ((i + 1 : Nat) : Int)) r) : ∀ (j : Nat), j ≤ acc.length → (∀ (i : Nat) (h : i < acc.length), j ≤ i → c < acc[i].1) →
      Ev (fun k => paronymref06_Parse.l1 k X (acc.map cP) (i : Int) c l (j : Int)) r := by
  have fin : ∀ (j : Nat), j ≤ acc.length → (∀ (i : Nat) (h : i < acc.length), i < j → ¬ c < acc[i].1) → (∀ (i : Nat) (h : i < acc.length), j ≤ i → c < acc[i].1) →
      ((([] : List S56) ++ (acc.map cP).take ((j : Int)).toNat) ++ [(⟨c, l⟩ : S56)]) ++ (acc.map cP).drop ((j : Int)).toNat = (insP (c, l) acc).map cP := by
    intro j hj h1 h2
    rw [insP_take acc j hj h1 h2, Int.toNat_natCast, List.map_append, List.map_append, List.map_take, List.map_drop]; rfl
  intro j
  induction j with
  | zero =>
    intro hj h2
    have hf := fin 0 hj (fun i h hi => absurd hi (Nat.not_lt_zero _)) h2
    refine Ev.step (fun k => rfl) (Ev.neg (by omega) (Ev.pos (by omega) (Ev.pos (by rw [List.length_map]; omega) ?_)))
    refine Ev.bindS rfl (Ev.pos ?_ ?_)
    rotate_left
    refine Ev.bindS rfl (Ev.pos ?_ ?_)
    rotate_left
    refine Ev.bindS rfl (Ev.bindS rfl (Ev.pos ?_ ?_))
    rotate_left
    · rw [hf, w64 (by omega) (by omega)]; exact hk
    · simp only [List.length_nil, List.length_take, List.length_map]; omega
    · simp only [List.length_append, List.length_nil, List.length_take, List.length_map]; omega
    · simp only [List.length_append, List.length_nil, List.length_take, List.length_map, List.length_drop, List.length_cons]; omega
  | succ j ih =>
    intro hj h2
    have e1 : wrap64 (((j + 1 : Nat) : Int) - 1) = (j : Int) := by rw [w64 (by omega) (by omega)]; omega
    refine Ev.step (fun k => rfl) (Ev.pos (by omega) ?_)
    rw [e1, rdPair acc j (by omega)]
    refine Ev.pos (by omega) (Ev.pos (by rw [List.length_map]; omega) ?_)
    by_cases h : acc[j].1 > c
    · refine Ev.pos h ?_
      refine ih (by omega) (fun i hi hij => ?_)
      rcases Nat.lt_or_ge j i with h3 | h3
      · exact h2 i hi (by omega)
      · have : i = j := by omega
        subst this; exact h
    · have hf := fin (j + 1) hj (fun i hi hij => by
        rcases Nat.lt_or_ge i j with h3 | h3
        · have := List.pairwise_iff_getElem.1 hr i j hi (by omega) h3; omega
        · have : i = j := by omega
          subst this; omega) h2
      refine Ev.neg h (Ev.pos (by omega) (Ev.pos (by rw [List.length_map]; omega) ?_))
      refine Ev.bindS rfl (Ev.pos ?_ ?_)
      rotate_left
      refine Ev.bindS rfl (Ev.pos ?_ ?_)
      rotate_left
      refine Ev.bindS rfl (Ev.bindS rfl (Ev.pos ?_ ?_))
      rotate_left
      · rw [hf, w64 (by omega) (by omega)]; exact hk
      · simp only [List.length_nil, List.length_take, List.length_map]; omega
      · simp only [List.length_append, List.length_nil, List.length_take, List.length_map]; omega
      · simp only [List.length_append, List.length_nil, List.length_take, List.length_map, List.length_drop, List.length_cons]; omega
theorem crf_loop {X : List (Int × List (List Int))} (hX : X.length ≤ 100001) (ho : ∀ p ∈ X, ∀ q ∈ p.2, Oct q ∧ q.length ≤ 1000000) (hf : ∀ p ∈ X, p.2.length ≤ 1000000) : ∀ (d i : Nat) (acc : List (Int × List Int)), X.length - i = d → i ≤ X.length → acc.length ≤ i → Rising acc →
    Ev (fun k => paronymref06_Parse.l0 k (X.map toS) (acc.map cP) (i : Int)) (crfR (cfGo (X.drop i) acc)) := by
  intro d
  induction d with
  | zero =>
    intro i acc h1 h2 h3 h4
    rw [List.drop_eq_nil_iff.2 (by omega)]
    exact Ev.step (fun k => rfl) (Ev.neg (by rw [List.length_map]; omega) (Ev.ret rfl))
  | succ d ih =>
    intro i acc h1 h2 h3 h4
    have hi : i < X.length := by omega
    rw [List.drop_eq_getElem_cons hi]
    refine Ev.step (fun k => rfl) (Ev.pos (by rw [List.length_map]; omega) (Ev.pos (by omega) ?_))
    rw [rdLine X i hi]
    have hox := ho _ (List.getElem_mem hi)
    have hfx := hf _ (List.getElem_mem hi)
    generalize X[i] = x at hox hfx ⊢
    obtain ⟨n, f⟩ := x
    simp only at hox hfx
    have hsl : (toS (n, f)).f1 = f.map strOfNums := rfl
    have hsn : (toS (n, f)).f0 = n := rfl
    rw [hsl, hsn, List.length_map]
    by_cases h5 : f.length = 3
    · obtain ⟨a, b, e, rfl⟩ : ∃ a b e, f = [a, b, e] := by
        match f, h5 with
        | [a, b, e], _ => exact ⟨a, b, e, rfl⟩
      refine Ev.pos (by simp) (Ev.pos (by simp) ?_)
      have r0 : rdOf ByteArray.empty (List.map strOfNums [a, b, e]) 0 = strOfNums a := rfl
      have r1 : rdOf ByteArray.empty (List.map strOfNums [a, b, e]) 1 = strOfNums b := rfl
      rw [r0, r1]
      have oa := hox a (by simp)
      have ob := hox b (by simp)
      refine Ev.bind (refPoint_ev oa.1 oa.2) ?_
      unfold cfGo cfS
      simp only
      cases hp : pointL a with
      | none => exact Ev.pos (by decide) (Ev.ret rfl)
      | some c =>
        refine Ev.neg (by show ¬ (c : Int) < 0; omega) (Ev.pos (by simp) (Ev.bind (refSeq_ev ob.1 ob.2) ?_))
        simp only [orNone]
        by_cases c0 : (seqL b).2 = 0
        · rw [if_pos c0]
          refine Ev.pos c0 ?_
          by_cases c1 : (seqL b).1 = []
          · rw [if_pos c1]
            exact Ev.pos (by rw [c1]; rfl) (Ev.ret rfl)
          · rw [if_neg c1]
            have hpos : 0 < (seqL b).1.length := List.length_pos_iff.2 c1
            refine Ev.neg (by omega) ?_
            by_cases c2 : 18 < (seqL b).1.length
            · rw [if_pos c2]
              exact Ev.pos (by omega) (Ev.ret rfl)
            · rw [if_neg c2]
              refine Ev.neg (by omega) ?_
              refine Ev.bind (show Ev (fun k => paronymref06_Find.f k (acc.map cP) (c : Int)) _ from fdx_ev (by omega) (c : Int) _ 0 rfl (Nat.zero_le _)) ?_
              rw [List.drop_zero]
              simp only
              by_cases c3 : acc.any (fun q => decide (q.1 = (c : Int))) = true
              · rw [if_pos c3]
                have := (fdx_any acc (c : Int) 0).2 c3
                exact Ev.pos (by omega) (Ev.ret rfl)
              · rw [if_neg c3]
                have hn : ¬ 0 ≤ fdx acc (c : Int) 0 := fun h => c3 ((fdx_any acc (c : Int) 0).1 h)
                refine Ev.neg (by omega) ?_
                have hne : ∀ q ∈ acc, q.1 ≠ (c : Int) := fun q hq e => c3 (List.any_eq_true.2 ⟨q, hq, decide_eq_true e⟩)
                have hk := ih (i + 1) (insP ((c : Int), (seqL b).1) acc) (by omega) (by omega) (by have := (insP_perm ((c : Int), (seqL b).1) acc).length_eq; rw [this, List.length_cons]; omega) (insP_rising h4 hne)
                have := crf_ins (X := X.map toS) (acc := acc) (c := (c : Int)) (l := (seqL b).1) (i := i) (by omega) (by omega) h4 hk acc.length (Nat.le_refl _) (fun i h hi => absurd h (by omega))
                rw [List.length_map]
                exact this
        · rw [if_neg c0]
          exact Ev.neg c0 (Ev.ret rfl)
    · have : cfS f = .inl 12 := by
        match f, h5 with
        | [], _ => rfl
        | [a], _ => rfl
        | [a, b], _ => rfl
        | [a, b, d], h => exact absurd rfl h
        | a :: b :: d :: g :: r, _ => rfl
      unfold cfGo
      simp only [this]
      exact Ev.neg (by omega) (Ev.ret rfl)
theorem refParse6_ev {b : List Int} (ho : Oct b) (hl : b.length ≤ 50000) : Ev (fun k => paronymref06_Parse.f k (strOfNums b)) (crfR (cfGo (linesI 0 (spl 10 b)) [])) := by
  have hc := splP_count (fun x => decide (x = (10 : Int))) b
  have hn := linesI_len (spl 10 b) 0
  refine Ev.bind (lines_ev ho (by omega)) ?_
  rw [linesS_is]
  have := crf_loop (X := linesI 0 (spl 10 b)) (by unfold spl at hn ⊢; omega) (fun p hp q hq => by
    have := linesI_oct (spl 10 b) 0 (n := 50000) (fun l hl2 => ⟨oct_spl ho hl2, by have := len_spl hl2; omega⟩) p hp q hq
    exact ⟨this.1, by have := this.2; omega⟩) (fun p hp => by
    have := linesI_fl _ 0 50000 (fun l hl2 => by have := len_spl hl2; omega) p hp
    omega) _ 0 [] rfl (Nat.zero_le _) (Nat.le_refl _) List.Pairwise.nil
  rw [List.drop_zero] at this
  exact this
end Go.Proofs.YtbpdcbibooiimaaGreatDoor.K

-- from Qf53
-- Made by hp.py, a program of this session, with the kit's printer. Not trusted: Lean checks it.
namespace Go.Proofs.YtbpdcbibooiimaaGreatDoor.Q
open Go.RowKit Go.Proofs.YtbpdcbibooiimaaGreatDoorW.PrintWords Go.Proofs.YtbpdcbibooiimaaGreatDoorW.PrintLast Go.Proofs.YtbpdcbibooiimaaGreatDoorW.PrintMore
attribute [local go_sem] max2_int min2_int max_two min_two max_three min_three max_four min_four   -- for this text's walks alone
set_option linter.unusedVariables false
set_option linter.unusedSimpArgs false

/-! ### paronymref01_Compare: function 53 -/
mutual
def paronymref01_Compare.l0 : Nat → List Int → List Int → Int → Option (Int)
  | 0, _, _, _ => none
  | k + 1, x0, x1, x5 => if x5 < (x0.length : Int) then (paronymref01_Compare.j1 k x0 x1 x5 (decide (x5 < (x1.length : Int)))) else (paronymref01_Compare.j1 k x0 x1 x5 false)
def paronymref01_Compare.j1 : Nat → List Int → List Int → Int → Bool → Option (Int)
  | 0, _, _, _, _ => none
  | k + 1, x0, x1, x5, x15 => if x15 = true then (if 0 ≤ x5 then (if x5 < (x0.length : Int) then (if x5 < (x1.length : Int) then (if (rd x0 x5) < (rd x1 x5) then (some (-1)) else (if (rd x0 x5) > (rd x1 x5) then (some 1) else (paronymref01_Compare.l0 k x0 x1 (wrap64 (x5 + 1))))) else (none)) else (none)) else (none)) else (if (x0.length : Int) < (x1.length : Int) then (some (-1)) else (if (x0.length : Int) > (x1.length : Int) then (some 1) else (some 0)))
end
def paronymref01_Compare.f (k : Nat) (l0 : List Int) (l1 : List Int) : Option (Int) := paronymref01_Compare.l0 k l0 l1 0
theorem paronymref01_Compare.mono_l : ∀ k, (∀ y0 y1 y2, LeO (paronymref01_Compare.l0 k y0 y1 y2) (paronymref01_Compare.l0 (k + 1) y0 y1 y2)) ∧ (∀ y0 y1 y2 y3, LeO (paronymref01_Compare.j1 k y0 y1 y2 y3) (paronymref01_Compare.j1 (k + 1) y0 y1 y2 y3))
  | 0 => ⟨fun _ _ _ r h => by simp [paronymref01_Compare.l0] at h, fun _ _ _ _ r h => by simp [paronymref01_Compare.j1] at h⟩
  | k + 1 => by
    obtain ⟨ih0, ih1⟩ := paronymref01_Compare.mono_l k
    refine ⟨?_, ?_⟩
    · intro y0 y1 y2
      unfold paronymref01_Compare.l0
      repeat' first
      | (with_reducible exact ih0 _ _ _)
      | (with_reducible exact ih1 _ _ _ _)
      | (with_reducible exact LeO.refl _)
      | (with_reducible exact LeO.none _)
      | (with_reducible refine LeO.ite ?_ ?_)
      | (with_reducible refine LeO.bind ?_ (fun _ => ?_))
      | exact ih0 _ _ _
      | exact ih1 _ _ _ _
      | exact LeO.none _
      | refine LeO.ite ?_ ?_
      | refine LeO.bind ?_ (fun _ => ?_)
    · intro y0 y1 y2 y3
      unfold paronymref01_Compare.j1
      repeat' first
      | (with_reducible exact ih0 _ _ _)
      | (with_reducible exact ih1 _ _ _ _)
      | (with_reducible exact LeO.refl _)
      | (with_reducible exact LeO.none _)
      | (with_reducible refine LeO.ite ?_ ?_)
      | (with_reducible refine LeO.bind ?_ (fun _ => ?_))
      | exact ih0 _ _ _
      | exact ih1 _ _ _ _
      | exact LeO.none _
      | refine LeO.ite ?_ ?_
      | refine LeO.bind ?_ (fun _ => ?_)
theorem paronymref01_Compare.mono : ∀ a0 a1 k, LeO (paronymref01_Compare.f k a0 a1) (paronymref01_Compare.f (k + 1) a0 a1) := by
  intro a0 a1 k
  obtain ⟨ih0, ih1⟩ := paronymref01_Compare.mono_l k
  unfold paronymref01_Compare.f
  repeat' first
      | (with_reducible exact ih0 _ _ _)
      | (with_reducible exact ih1 _ _ _ _)
      | (with_reducible exact LeO.refl _)
      | (with_reducible exact LeO.none _)
      | (with_reducible refine LeO.ite ?_ ?_)
      | (with_reducible refine LeO.bind ?_ (fun _ => ?_))
      | exact ih0 _ _ _
      | exact ih1 _ _ _ _
      | exact LeO.none _
      | refine LeO.ite ?_ ?_
      | refine LeO.bind ?_ (fun _ => ?_)
set_option maxHeartbeats 8000000 in
set_option maxRecDepth 100000 in
theorem paronymref01_Compare.calls (k : Nat) (A0 : Option Addr) (c0 : Nat) (l0 : List Int) (A1 : Option Addr) (c1 : Nat) (l1 : List Int) (r : Int) (w : World) (hr0 : Kd.C (Kd.int .i64) w A0 l0.length l0) (hc0 : l0.length ≤ c0) (hr1 : Kd.C (Kd.int .i64) w A1 l1.length l1) (hc1 : l1.length ≤ c1) (h : paronymref01_Compare.f k l0 l1 = some r) :
    Calls Tryz.prog 53 #[.slice A0 l0.length c0, .slice A1 l1.length c1] w fun e w' => e = .returned (.int .i64 r) ∧ Drawn0 w w' := by
  have HR0 := Aside0.mk hr0
  have HC0 := Aside0.mk hc0
  clear hr0 hc0
  have HR1 := Aside0.mk hr1
  have HC1 := Aside0.mk hc1
  clear hr1 hc1
  have H : (paronymref01_Compare.l0 k l0 l1 0) = some r := h
  clear h
  have H' := Aside0.mk H
  clear H
  go_enter Tryz.func53, Tryz.ntmps53
  go_wp2
  repeat (go_quiet (fail); try go_wp2)
  go_loopg [5] k (fun kq v5 w' => ∃ (x5_1 : Int), v5 = .int .i64 x5_1 ∧ Aside0 (paronymref01_Compare.l0 kq l0 l1 x5_1 = some r) ∧ Aside0 (kq ≤ k) ∧ Drawn0 w w')
  case atStart => exact ⟨(0), (by first | rfl | (simp; done) | (simp [*]; done)), H', ⟨Nat.le_refl _⟩, by repeat (first | exact Drawn0.refl _ | apply Drawn0.step)⟩
  case round =>
    clear H'
    try clear c1
    try clear p2
    obtain ⟨x5_1, rfl, HA, HK1, ⟨m1, rfl⟩⟩ := hrel
    cases gk with
    | zero => exact absurd HA.out (by simp [paronymref01_Compare.l0])
    | succ k1 =>
      have H := HA.out
      clear HA
      simp only [paronymref01_Compare.l0] at H
      have HC3 := Aside0.mk H
      clear H
      go_upto_region 2 with (fail)
      repeat (go_quiet (fail); go_upto_region 2 with (fail))
      go_cut [15] (fun v15 wc => ∃ (kq : Nat) (x15_2 : Bool), v15 = .bool x15_2 ∧ Aside0 (paronymref01_Compare.j1 kq l0 l1 x5_1 x15_2 = some r) ∧ Aside0 (kq ≤ k1) ∧ Drawn0 w wc)
      case first =>
        have H := HC3.out
        clear HC3
        by_cases c4 : x5_1 < (l0.length : Int)
        · rw [if_pos c4] at H
          have c4b0 : decide (x5_1 < (l0.length : Int)) = true := decide_eq_true c4
          clear c4
          (first | rw [c4b0] | (simp only [i64_w, i32_w]; rw [c4b0]) | rw [c4b1] | (simp only [i64_w, i32_w]; rw [c4b1]) | skip)
          have H' := Aside0.mk H
          clear H
          go_wp2
          repeat (go_quiet (fail); try go_wp2)
          go_meet
          case rel => exact ⟨_, (decide (x5_1 < (l1.length : Int))), (by first | rfl | (simp; done) | (simp [*]; done)), H', ⟨by have := HK1.out; first | omega | exact Nat.le_refl _⟩, by repeat (first | exact Drawn0.refl _ | apply Drawn0.step)⟩
        · rw [if_neg c4] at H
          have c4b0 : decide (x5_1 < (l0.length : Int)) = false := decide_eq_false c4
          clear c4
          (first | rw [c4b0] | (simp only [i64_w, i32_w]; rw [c4b0]) | rw [c4b1] | (simp only [i64_w, i32_w]; rw [c4b1]) | skip)
          have H' := Aside0.mk H
          clear H
          go_wp2
          repeat (go_quiet (fail); try go_wp2)
          go_meet
          case rel => exact ⟨_, (false), (by first | rfl | (simp; done) | (simp [*]; done)), H', ⟨by have := HK1.out; first | omega | exact Nat.le_refl _⟩, by repeat (first | exact Drawn0.refl _ | apply Drawn0.step)⟩
      case rest =>
        clear HC3
        try clear c1
        try clear p2
        try clear c4
        try clear c4b0
        try clear c4b1
        try clear p2
        obtain ⟨kq, x15_2, rfl, HA, HJ2, ⟨mc2, rfl⟩⟩ := hcut
        cases kq with
        | zero => exact absurd HA.out (by simp [paronymref01_Compare.j1])
        | succ kj2 =>
          have H := HA.out
          clear HA
          simp only [paronymref01_Compare.j1] at H
          by_cases c5 : x15_2 = true
          · subst c5
            have H1 : (if 0 ≤ x5_1 then (if x5_1 < (l0.length : Int) then (if x5_1 < (l1.length : Int) then (if (rd l0 x5_1) < (rd l1 x5_1) then (some (-1)) else (if (rd l0 x5_1) > (rd l1 x5_1) then (some 1) else (paronymref01_Compare.l0 kj2 l0 l1 (wrap64 (x5_1 + 1))))) else (none)) else (none)) else (none)) = some r := by rw [if_pos rfl] at H; exact H
            clear H
            have H := H1
            clear H1
            by_cases c6 : 0 ≤ x5_1
            · rw [if_pos c6] at H
              have c6b0 : decide (0 ≤ x5_1) = true := decide_eq_true c6
              clear c6
              by_cases c7 : x5_1 < (l0.length : Int)
              · rw [if_pos c7] at H
                have c7b0 : decide (x5_1 < (l0.length : Int)) = true := decide_eq_true c7
                clear c7
                by_cases c8 : x5_1 < (l1.length : Int)
                · rw [if_pos c8] at H
                  have c8b0 : decide (x5_1 < (l1.length : Int)) = true := decide_eq_true c8
                  clear c8
                  by_cases c9 : (rd l0 x5_1) < (rd l1 x5_1)
                  · rw [if_pos c9] at H
                    have c9b0 : decide ((rd l0 x5_1) < (rd l1 x5_1)) = true := decide_eq_true c9
                    clear c9
                    obtain rfl := Option.some.inj H
                    have p101 : 0 ≤ (x5_1 : Int) := of_decide_eq_true (by first | (with_reducible assumption) | assumption)
                    have q101 : x5_1 < (l0.length : Int) := of_decide_eq_true (by first | (with_reducible assumption) | assumption)
                    obtain ⟨ad101, e101, hx101_0⟩ := Kd.at_int HR0.out x5_1 p101 q101
                    cases e101
                    replace p101 := eq_true p101
                    replace q101 := eq_true q101
                    have p102 : 0 ≤ (x5_1 : Int) := of_decide_eq_true (by first | (with_reducible assumption) | assumption)
                    have q102 : x5_1 < (l1.length : Int) := of_decide_eq_true (by first | (with_reducible assumption) | assumption)
                    obtain ⟨ad102, e102, hx102_0⟩ := Kd.at_int HR1.out x5_1 p102 q102
                    cases e102
                    replace p102 := eq_true p102
                    replace q102 := eq_true q102
                    go_wp2
                    repeat (go_quiet (fail); try go_wp2)
                    go_ret
                    exact ⟨by first | rfl | (simp; done) | (simp [*]; done), by repeat (first | exact Drawn0.refl _ | apply Drawn0.step)⟩
                  · rw [if_neg c9] at H
                    have c9b0 : decide ((rd l0 x5_1) < (rd l1 x5_1)) = false := decide_eq_false c9
                    clear c9
                    by_cases c10 : (rd l0 x5_1) > (rd l1 x5_1)
                    · rw [if_pos c10] at H
                      have c10b0 : decide ((rd l1 x5_1) < (rd l0 x5_1)) = true := decide_eq_true c10
                      clear c10
                      obtain rfl := Option.some.inj H
                      have p101 : 0 ≤ (x5_1 : Int) := of_decide_eq_true (by first | (with_reducible assumption) | assumption)
                      have q101 : x5_1 < (l0.length : Int) := of_decide_eq_true (by first | (with_reducible assumption) | assumption)
                      obtain ⟨ad101, e101, hx101_0⟩ := Kd.at_int HR0.out x5_1 p101 q101
                      cases e101
                      replace p101 := eq_true p101
                      replace q101 := eq_true q101
                      have p102 : 0 ≤ (x5_1 : Int) := of_decide_eq_true (by first | (with_reducible assumption) | assumption)
                      have q102 : x5_1 < (l1.length : Int) := of_decide_eq_true (by first | (with_reducible assumption) | assumption)
                      obtain ⟨ad102, e102, hx102_0⟩ := Kd.at_int HR1.out x5_1 p102 q102
                      cases e102
                      replace p102 := eq_true p102
                      replace q102 := eq_true q102
                      have p103 : 0 ≤ (x5_1 : Int) := of_decide_eq_true (by first | (with_reducible assumption) | assumption)
                      have q103 : x5_1 < (l0.length : Int) := of_decide_eq_true (by first | (with_reducible assumption) | assumption)
                      obtain ⟨ad103, e103, hx103_0⟩ := Kd.at_int HR0.out x5_1 p103 q103
                      obtain rfl : ad101 = ad103 := (by injection e103)
                      replace p103 := eq_true p103
                      replace q103 := eq_true q103
                      have p104 : 0 ≤ (x5_1 : Int) := of_decide_eq_true (by first | (with_reducible assumption) | assumption)
                      have q104 : x5_1 < (l1.length : Int) := of_decide_eq_true (by first | (with_reducible assumption) | assumption)
                      obtain ⟨ad104, e104, hx104_0⟩ := Kd.at_int HR1.out x5_1 p104 q104
                      obtain rfl : ad102 = ad104 := (by injection e104)
                      replace p104 := eq_true p104
                      replace q104 := eq_true q104
                      go_wp2
                      repeat (go_quiet (fail); try go_wp2)
                      go_ret
                      exact ⟨by first | rfl | (simp; done) | (simp [*]; done), by repeat (first | exact Drawn0.refl _ | apply Drawn0.step)⟩
                    · rw [if_neg c10] at H
                      have c10b0 : decide ((rd l1 x5_1) < (rd l0 x5_1)) = false := decide_eq_false c10
                      clear c10
                      have H' := Aside0.mk H
                      clear H
                      have p101 : 0 ≤ (x5_1 : Int) := of_decide_eq_true (by first | (with_reducible assumption) | assumption)
                      have q101 : x5_1 < (l0.length : Int) := of_decide_eq_true (by first | (with_reducible assumption) | assumption)
                      obtain ⟨ad101, e101, hx101_0⟩ := Kd.at_int HR0.out x5_1 p101 q101
                      cases e101
                      replace p101 := eq_true p101
                      replace q101 := eq_true q101
                      have p102 : 0 ≤ (x5_1 : Int) := of_decide_eq_true (by first | (with_reducible assumption) | assumption)
                      have q102 : x5_1 < (l1.length : Int) := of_decide_eq_true (by first | (with_reducible assumption) | assumption)
                      obtain ⟨ad102, e102, hx102_0⟩ := Kd.at_int HR1.out x5_1 p102 q102
                      cases e102
                      replace p102 := eq_true p102
                      replace q102 := eq_true q102
                      have p103 : 0 ≤ (x5_1 : Int) := of_decide_eq_true (by first | (with_reducible assumption) | assumption)
                      have q103 : x5_1 < (l0.length : Int) := of_decide_eq_true (by first | (with_reducible assumption) | assumption)
                      obtain ⟨ad103, e103, hx103_0⟩ := Kd.at_int HR0.out x5_1 p103 q103
                      obtain rfl : ad101 = ad103 := (by injection e103)
                      replace p103 := eq_true p103
                      replace q103 := eq_true q103
                      have p104 : 0 ≤ (x5_1 : Int) := of_decide_eq_true (by first | (with_reducible assumption) | assumption)
                      have q104 : x5_1 < (l1.length : Int) := of_decide_eq_true (by first | (with_reducible assumption) | assumption)
                      obtain ⟨ad104, e104, hx104_0⟩ := Kd.at_int HR1.out x5_1 p104 q104
                      obtain rfl : ad102 = ad104 := (by injection e104)
                      replace p104 := eq_true p104
                      replace q104 := eq_true q104
                      go_wp2
                      repeat (go_quiet (fail); try go_wp2)
                      go_roundg kj2
                      case measure => have := HK1.out; have := HJ2.out; omega
                      case rel => exact ⟨(wrap64 (x5_1 + 1)), (by first | rfl | (simp; done) | (simp [*]; done)), H', ⟨by have := HK1.out; have := HJ2.out; omega⟩, by repeat (first | exact Drawn0.refl _ | apply Drawn0.step)⟩
                · rw [if_neg c8] at H
                  exact absurd H (by simp)
              · rw [if_neg c7] at H
                exact absurd H (by simp)
            · rw [if_neg c6] at H
              exact absurd H (by simp)
          · replace c5 := Bool.eq_false_iff.mpr c5
            subst c5
            have H1 : (if (l0.length : Int) < (l1.length : Int) then (some (-1)) else (if (l0.length : Int) > (l1.length : Int) then (some 1) else (some 0))) = some r := by rw [if_neg (show ¬ (false = true) by decide)] at H; exact H
            clear H
            have H := H1
            clear H1
            by_cases c11 : (l0.length : Int) < (l1.length : Int)
            · rw [if_pos c11] at H
              have c11b0 : decide ((l0.length : Int) < (l1.length : Int)) = true := decide_eq_true c11
              have c11b1 : decide (l0.length < l1.length) = true := decide_eq_true (Int.ofNat_lt.mp c11)
              clear c11
              obtain rfl := Option.some.inj H
              go_wp2
              repeat (go_quiet (fail); try go_wp2)
              go_ret
              exact ⟨by first | rfl | (simp; done) | (simp [*]; done), by repeat (first | exact Drawn0.refl _ | apply Drawn0.step)⟩
            · rw [if_neg c11] at H
              have c11b0 : decide ((l0.length : Int) < (l1.length : Int)) = false := decide_eq_false c11
              have c11b1 : decide (l0.length < l1.length) = false := decide_eq_false (fun h => c11 (Int.ofNat_lt.mpr h))
              clear c11
              by_cases c12 : (l0.length : Int) > (l1.length : Int)
              · rw [if_pos c12] at H
                have c12b0 : decide ((l1.length : Int) < (l0.length : Int)) = true := decide_eq_true c12
                have c12b1 : decide (l1.length < l0.length) = true := decide_eq_true (Int.ofNat_lt.mp c12)
                clear c12
                obtain rfl := Option.some.inj H
                go_wp2
                repeat (go_quiet (fail); try go_wp2)
                go_ret
                exact ⟨by first | rfl | (simp; done) | (simp [*]; done), by repeat (first | exact Drawn0.refl _ | apply Drawn0.step)⟩
              · rw [if_neg c12] at H
                have c12b0 : decide ((l1.length : Int) < (l0.length : Int)) = false := decide_eq_false c12
                have c12b1 : decide (l1.length < l0.length) = false := decide_eq_false (fun h => c12 (Int.ofNat_lt.mpr h))
                clear c12
                obtain rfl := Option.some.inj H
                go_wp2
                repeat (go_quiet (fail); try go_wp2)
                go_ret
                exact ⟨by first | rfl | (simp; done) | (simp [*]; done), by repeat (first | exact Drawn0.refl _ | apply Drawn0.step)⟩

end Go.Proofs.YtbpdcbibooiimaaGreatDoor.Q

-- from Qf20
-- Made by hp.py, a program of this session, with the kit's printer. Not trusted: Lean checks it.
namespace Go.Proofs.YtbpdcbibooiimaaGreatDoor.Q
open Go.RowKit Go.Proofs.YtbpdcbibooiimaaGreatDoorW.PrintWords Go.Proofs.YtbpdcbibooiimaaGreatDoorW.PrintLast Go.Proofs.YtbpdcbibooiimaaGreatDoorW.PrintMore
attribute [local go_sem] max2_int min2_int max_two min_two max_three min_three max_four min_four   -- for this text's walks alone
set_option linter.unusedVariables false
set_option linter.unusedSimpArgs false

/-! ### paronymref01_Same: function 20 -/
def paronymref01_Same.f (k : Nat) (l0 : List Int) (l1 : List Int) : Option (Bool) := (paronymref01_Compare.f k l0 l1).bind fun t101 => (some (t101 == 0))
theorem paronymref01_Same.mono : ∀ a0 a1 k, LeO (paronymref01_Same.f k a0 a1) (paronymref01_Same.f (k + 1) a0 a1) := by
  intro a0 a1 k
  unfold paronymref01_Same.f
  repeat' first
      | (with_reducible exact paronymref01_Compare.mono _ _ _)
      | (with_reducible exact LeO.refl _)
      | (with_reducible exact LeO.none _)
      | (with_reducible refine LeO.ite ?_ ?_)
      | (with_reducible refine LeO.bind ?_ (fun _ => ?_))
      | exact paronymref01_Compare.mono _ _ _
      | exact LeO.none _
      | refine LeO.ite ?_ ?_
      | refine LeO.bind ?_ (fun _ => ?_)
set_option maxHeartbeats 8000000 in
set_option maxRecDepth 100000 in
theorem paronymref01_Same.calls (k : Nat) (A0 : Option Addr) (c0 : Nat) (l0 : List Int) (A1 : Option Addr) (c1 : Nat) (l1 : List Int) (r : Bool) (w : World) (hr0 : Kd.C (Kd.int .i64) w A0 l0.length l0) (hc0 : l0.length ≤ c0) (hr1 : Kd.C (Kd.int .i64) w A1 l1.length l1) (hc1 : l1.length ≤ c1) (h : paronymref01_Same.f k l0 l1 = some r) :
    Calls Tryz.prog 20 #[.slice A0 l0.length c0, .slice A1 l1.length c1] w fun e w' => e = .returned (.bool r) ∧ Drawn0 w w' := by
  have HR0 := Aside0.mk hr0
  have HC0 := Aside0.mk hc0
  clear hr0 hc0
  have HR1 := Aside0.mk hr1
  have HC1 := Aside0.mk hc1
  clear hr1 hc1
  have H : ((paronymref01_Compare.f k l0 l1).bind fun t101 => (some (t101 == 0))) = some r := h
  clear h
  replace H := Option.bind_eq_some_iff.mp H
  obtain ⟨t101, A30, H⟩ := H
  replace H : (some (t101 == 0)) = some r := H
  have A3 := Aside0.mk A30
  clear A30
  obtain rfl := Option.some.inj H
  go_enter Tryz.func20, Tryz.ntmps20
  go_wp2_with (first | ((with_reducible refine gate_callee (f := 53) rfl ?_); refine goesL_ (some 7) rfl rfl Tryz.func53 (by kernel_rfl) rfl #[.slice A0 l0.length c0, .slice A1 l1.length c1] rfl (by (try simp only [List.map_toArray, List.map_cons, List.map_nil]); first | done | rfl | (simp only [List.length_drop, List.length_take]; rfl)) ?_; (with_reducible refine (paronymref01_Compare.calls k _ _ l0 _ _ l1 t101 _ ?side1 ?side2 ?side3 ?side4 A3.out).mono ?_); (case side1 => repeat (first | exact HR0.out | (with_reducible refine Kd.C_alloc ?_ _) | (with_reducible refine Kd.C_drewN ?_ _) | (with_reducible refine Kd.C_drew ?_))); (case side2 => exact HC0.out); (case side3 => repeat (first | exact HR1.out | (with_reducible refine Kd.C_alloc ?_ _) | (with_reducible refine Kd.C_drewN ?_ _) | (with_reducible refine Kd.C_drew ?_))); (case side4 => exact HC1.out); rintro e w' ⟨rfl, ⟨nd, rfl⟩⟩; refine ⟨_, rfl, ?_⟩))
  go_ret
  exact ⟨by first | rfl | (simp; done) | (simp [*]; done), by repeat (first | exact Drawn0.refl _ | apply Drawn0.step)⟩

end Go.Proofs.YtbpdcbibooiimaaGreatDoor.Q

-- from Pcmp
/- Texts compared: the reference's Compare and Same on lists. -/
namespace Go.Proofs.YtbpdcbibooiimaaGreatDoor.K
set_option linter.unusedVariables false
set_option linter.unusedSimpArgs false
open Go.RowKit Go.Proofs.YtbpdcbibooiimaaGreatDoorW.PrintWords Go.Proofs.YtbpdcbibooiimaaGreatDoorW.PrintMore Go.Proofs.YtbpdcbibooiimaaGreatDoor.Q

def cmpL : List Int → List Int → Int
  | [], [] => 0
  | [], _ :: _ => -1
  | _ :: _, [] => 1
  | x :: l, y :: m => if x < y then -1 else if x > y then 1 else cmpL l m
theorem cmpL_zero : ∀ (l m : List Int), cmpL l m = 0 ↔ l = m
  | [], [] => by simp [cmpL]
  | [], _ :: _ => by simp [cmpL]
  | _ :: _, [] => by simp [cmpL]
  | x :: l, y :: m => by
    unfold cmpL
    by_cases a : x < y
    · rw [if_pos a]; simp; omega
    · rw [if_neg a]
      by_cases b : x > y
      · rw [if_pos b]; simp; omega
      · rw [if_neg b, cmpL_zero l m]
        have : x = y := by omega
        simp [this]
theorem refCompare_ev (l m : List Int) (hl : l.length ≤ 1099511627776) (hm : m.length ≤ 1099511627776) : Ev (fun k => paronymref01_Compare.f k l m) (cmpL l m) := by
  have key : ∀ (d i : Nat), l.length - i = d → i ≤ l.length → i ≤ m.length → Ev (fun k => paronymref01_Compare.l0 k l m i) (cmpL (l.drop i) (m.drop i)) := by
    have hend : ∀ i : Nat, i ≤ l.length → i ≤ m.length → (i = l.length ∨ i = m.length) → ∀ b : Bool, b = false → Ev (fun k => paronymref01_Compare.j1 k l m i b) (cmpL (l.drop i) (m.drop i)) := by
      intro i h1 h2 h3 b hb
      refine Ev.step (fun k => rfl) (Ev.neg (by simp [hb]) ?_)
      by_cases a : l.length < m.length
      · have e : i = l.length := by omega
        subst e
        rw [List.drop_length, drop_cons m l.length a]
        exact Ev.pos (by omega) (Ev.ret (by simp [cmpL]))
      · by_cases b : m.length < l.length
        · have e : i = m.length := by omega
          subst e
          rw [List.drop_length, drop_cons l m.length b]
          exact Ev.neg (by omega) (Ev.pos (by omega) (Ev.ret (by simp [cmpL])))
        · have e : i = l.length := by omega
          have e2 : i = m.length := by omega
          rw [List.drop_of_length_le (by omega), List.drop_of_length_le (by omega)]
          exact Ev.neg (by omega) (Ev.neg (by omega) (Ev.ret (by simp [cmpL])))
    intro d
    induction d with
    | zero =>
      intro i h1 h2 h3
      exact Ev.step (fun k => rfl) (Ev.neg (by omega) (hend i h2 h3 (.inl (by omega)) false rfl))
    | succ d ih =>
      intro i h1 h2 h3
      have hi : i < l.length := by omega
      refine Ev.step (fun k => rfl) (Ev.pos (by omega) ?_)
      by_cases a : i < m.length
      · have e : decide ((i : Int) < (m.length : Int)) = true := by simpa using a
        refine Ev.step (fun k => rfl) (Ev.pos e (Ev.pos (by omega) (Ev.pos (by omega) (Ev.pos (by omega) ?_))))
        rw [drop_cons l i hi, drop_cons m i a]
        unfold cmpL
        by_cases b : rd l i < rd m i
        · exact Ev.pos b (Ev.ret (if_pos b).symm)
        · refine Ev.neg b ?_
          rw [show (if rd l i < rd m i then (-1 : Int) else if rd l i > rd m i then 1 else cmpL (l.drop (i + 1)) (m.drop (i + 1))) = (if rd l i > rd m i then 1 else cmpL (l.drop (i + 1)) (m.drop (i + 1))) from if_neg b]
          by_cases c : rd l i > rd m i
          · exact Ev.pos c (Ev.ret (if_pos c).symm)
          · rw [show (if rd l i > rd m i then (1 : Int) else cmpL (l.drop (i + 1)) (m.drop (i + 1))) = cmpL (l.drop (i + 1)) (m.drop (i + 1)) from if_neg c]
            refine Ev.neg c ?_
            rw [w64 (by omega) (by omega)]
            exact ih (i + 1) (by omega) (by omega) (by omega)
      · have e : decide ((i : Int) < (m.length : Int)) = false := by simpa using a
        exact hend i h2 h3 (.inr (by omega)) _ e
  have := key l.length 0 (by omega) (by omega) (by omega)
  unfold paronymref01_Compare.f
  simpa using this
theorem refSame_ev (l m : List Int) (hl : l.length ≤ 1099511627776) (hm : m.length ≤ 1099511627776) : Ev (fun k => paronymref01_Same.f k l m) (decide (l = m)) := by
  unfold paronymref01_Same.f
  refine Ev.bind (refCompare_ev l m hl hm) (Ev.ret ?_)
  rw [Bool.eq_iff_iff]
  simp [cmpL_zero]

end Go.Proofs.YtbpdcbibooiimaaGreatDoor.K

-- from Hsam
/- A row of whole numbers is the same as itself (the reference's Same). -/
namespace Go.Proofs.YtbpdcbibooiimaaGreatDoor.Q
open Go.RowKit Go.Proofs.YtbpdcbibooiimaaGreatDoorW.PrintWords Go.Proofs.YtbpdcbibooiimaaGreatDoorW.PrintLast Go.Proofs.YtbpdcbibooiimaaGreatDoorW.PrintMore Go.Proofs.YtbpdcbibooiimaaGreatDoor.K
set_option linter.unusedVariables false
set_option linter.unusedSimpArgs false
theorem same1_calls (A A' : Option Addr) (c c' : Nat) (l : List Int) (w : World) (hr : Kd.C (Kd.int .i64) w A l.length l) (hc : l.length ≤ c) (hr' : Kd.C (Kd.int .i64) w A' l.length l) (hc' : l.length ≤ c') (hl : l.length ≤ 1000000) :
    Calls Tryz.prog 20 #[.slice A l.length c, .slice A' l.length c'] w fun e w' => e = .returned (.bool true) ∧ Drawn0 w w' := by
  obtain ⟨k, hk⟩ := (refSame_ev l l (by omega) (by omega)).rounds
  rw [decide_eq_true rfl] at hk
  exact paronymref01_Same.calls k A c l A' c' l true w hr hc hr' hc' hk
end Go.Proofs.YtbpdcbibooiimaaGreatDoor.Q

-- from Hbut
/- All blocks but one are as they were. -/
namespace Go.Proofs.YtbpdcbibooiimaaGreatDoor.Q
open Go.RowKit Go.Proofs.YtbpdcbibooiimaaGreatDoorW.PrintWords Go.Proofs.YtbpdcbibooiimaaGreatDoorW.PrintLast Go.Proofs.YtbpdcbibooiimaaGreatDoorW.PrintMore Go.Proofs.YtbpdcbibooiimaaGreatDoor.K
set_option linter.unusedVariables false
set_option linter.unusedSimpArgs false

def But (R : Nat) (A B : World) : Prop := A.heap.size ≤ B.heap.size ∧ ∀ k, k < A.heap.size → k ≠ R → B.heap[k]? = A.heap[k]?
theorem But.refl (R : Nat) (A : World) : But R A A := ⟨Nat.le_refl _, fun _ _ _ => rfl⟩
theorem But.drew (R : Nat) (A : World) : But R A A.drew := ⟨Nat.le_refl _, fun _ _ _ => rfl⟩
theorem But.below {R : Nat} {A B C : World} (h : But R A B) (k : Below B.heap.size B C) : But R A C := ⟨Nat.le_trans h.1 k.size, fun j hj hn => (k.block j (by have := h.1; omega)).trans (h.2 j hj hn)⟩
theorem But.set {R : Nat} {A B : World} (h : But R A B) {v : Value} : But R A (B.setCell ⟨R, 0, none⟩ v) := ⟨by simp; exact h.1, fun j hj hn => (Below.heap_setCell B ⟨R, 0, none⟩ v j hn).trans (h.2 j hj hn)⟩
theorem But.cell {R : Nat} {A B : World} (h : But R A B) {p : Addr} {v : Value} (hp : p.block ≠ R) (hc : A.cell? p = some v) : B.cell? p = some v := by
  have hl := World.block_lt_of_cell? A _ hc
  unfold World.cell? at hc ⊢
  rw [h.2 _ hl hp]; exact hc
theorem keepsOthers_drewN (W : World) (n : Nat) : KeepsOthers W (W.drewN n) := ⟨Nat.le_refl _, fun _ _ h _ => h⟩
end Go.Proofs.YtbpdcbibooiimaaGreatDoor.Q

-- from Hcis
/- Layer 6's law: Is (a table has just these pairs). -/
namespace Go.Proofs.YtbpdcbibooiimaaGreatDoor.Q
open Go.RowKit Go.Shelf Go.Maps Go.Proofs.YtbpdcbibooiimaaGreatDoorW.PrintWords Go.Proofs.YtbpdcbibooiimaaGreatDoorW.PrintLast Go.Proofs.YtbpdcbibooiimaaGreatDoorW.PrintMore Go.Proofs.YtbpdcbibooiimaaGreatDoor.K
set_option linter.unusedVariables false
set_option linter.unusedSimpArgs false
attribute [local go_sem] Oper.semAt_some
theorem min2_mn6 (k k' : IntKind) (x y : Int) : Builtin.min2 (.int k x) (.int k' y) = pure (.int k (mn x y)) := min2_int k k' x y
attribute [local go_sem] min2_mn6 max_two min_two

/-- How far the comparison is. -/
def is6I (w : World) (B : Nat) (A : Option Addr) (c m : Nat) (most : Int) (pre : List (Int × (Value × List Int))) (W : World) : Prop := Boxed W (w.heap.size + 1 + 1 + 1) 3 (.int .i64 pre.length) ∧ Boxed W (w.heap.size + 1 + 1) 4 (.bool false) ∧ Boxed W (w.heap.size + 1) 3 (.int .i64 most) ∧ Boxed W w.heap.size 47 (.slice A m c) ∧ (Below w.heap.size w W ∧ B ≤ W.heap.size) ∧ (pre.length : Int) ≤ most
theorem is6I_own (w : World) (B B' : Nat) (hB : w.heap.size ≤ B') (A : Option Addr) (c m : Nat) (most : Int) : OwnFrom B' (is6I w B A c m most) := fun s W W' row hs hg hr => by
  obtain ⟨h1, h2, h3, h4, ⟨h5, h6⟩, h7⟩ := hs
  have hk : SameC W W' := SameC.of_grown hg (fun r e => (hr r e).2)
  exact ⟨boxed_sameC h1 hk, boxed_sameC h2 hk, boxed_sameC h3 hk, boxed_sameC h4 hk, ⟨ownFrom_below (β := Unit) (Nat.le_refl _) hB () W W' row h5 hg hr, Nat.le_trans h6 hg.size⟩, h7⟩
/-- Where it breaks off. -/
def is6X (w : World) (B : Nat) (A : Option Addr) (c m : Nat) (most : Int) (cd : Code) (xs : List (Int × (Value × List Int))) (W : World) : Prop := cd = .exit 0 ∧ ∃ pre x, xs = pre ++ [x] ∧ (pre.length : Int) = most ∧ is6I w B A c m most pre W
theorem is6X_own (w : World) (B B' : Nat) (hB : w.heap.size ≤ B') (A : Option Addr) (c m : Nat) (most : Int) (cd : Code) : OwnFrom B' (is6X w B A c m most cd) := fun s W W' row hs hg hr => by
  obtain ⟨h1, pre, x, h2, h3, h4⟩ := hs
  exact ⟨h1, pre, x, h2, h3, is6I_own w B B' hB A c m most pre W W' row h4 hg hr⟩
theorem confus_Len.callsS (q : Option Addr) (l : List (Int × List Int)) (w w' : World) (h : CTab w q l) (hb : SameBel w.heap.size w w') :
    Calls Tryz.prog 29 #[.pointer q] w' fun e w2 => e = .returned (.int .i64 l.length) ∧ Below w'.heap.size w' w2 :=
  (confus_Len.calls q l w' (h.same hb)).mono fun e w2 h => ⟨h.1, by rw [h.2]; exact Below.refl _ _⟩
theorem But.sameBel {R : Nat} {w W W' : World} (hb : Below w.heap.size w W) (h : But R W W') (hR : w.heap.size ≤ R) : SameBel w.heap.size w W' := ⟨Nat.le_trans hb.size h.1, fun k hk => (h.2 k (by have := hb.size; omega) (by omega)).trans (hb.block k hk)⟩
theorem confus_Len.callsB (q : Option Addr) (l : List (Int × List Int)) (w w' : World) (h : CTab w q l) (hb : Below w.heap.size w w') :
    Calls Tryz.prog 29 #[.pointer q] w' fun e w2 => e = .returned (.int .i64 l.length) ∧ Below w'.heap.size w' w2 :=
  (confus_Len.calls q l w' (h.below hb)).mono fun e w2 h => ⟨h.1, by rw [h.2]; exact Below.refl _ _⟩
theorem keepM_set {m : Nat} {T : Nat → Prop} {A : World} {p : Addr} {v : Value} (hT : T p.block) (hm : m ≤ p.block) : KeepM m T A (A.setCell p v) :=
  ⟨KeepC.of_set hT, by simp, fun k hk => Below.heap_setCell A p v k (by omega)⟩
set_option maxHeartbeats 4000000 in
set_option maxRecDepth 100000 in
theorem paronymlaw06_Is.main (q : Option Addr) (l : List (Int × List Int)) (A1 : Option Addr) (c1 : Nat) (M : List S56) (hM : M = l.map cP) (most : Int) (h0 : 0 ≤ most) (w : World) (hT : CTab w q l) (hl : l.length ≤ 100000) (hll : ∀ p ∈ l, p.2.length ≤ 100000) (hr : Kd.C k56 w A1 M.length M) :
    Calls Tryz.prog 26 #[.pointer q, .slice A1 M.length c1, .int .i64 most] w fun e w' => e = .returned (.bool true) ∧ Below w.heap.size w w' := by
  have hML : M.length = l.length := by rw [hM, List.length_map]
  rw [hML] at hr ⊢
  obtain ⟨w4, hw4⟩ : ∃ w4, w4 = (((w.alloc (.cells #[.slice A1 l.length c1] 47)).alloc (.cells #[.int .i64 most] 3)).alloc (.cells #[.bool false] 4)).alloc (.cells #[.int .i64 0] 3) := ⟨_, rfl⟩
  have hsz4 : w4.heap.size = w.heap.size + 4 := by rw [hw4]; simp
  have hb4 : Below w.heap.size w w4 := by
    rw [hw4]
    exact ((((Below.refl _ w).alloc (Nat.le_refl _) _).alloc (by simp only [World.size_alloc]; omega) _).alloc (by simp only [World.size_alloc]; omega) _).alloc (by simp only [World.size_alloc]; omega) _
  have hx0 : Boxed w4 w.heap.size 47 (.slice A1 l.length c1) := by rw [hw4]; exact (((Boxed.new w _ _).alloc _).alloc _).alloc _
  have hx1 : Boxed w4 (w.heap.size + 1) 3 (.int .i64 most) := by
    have := Boxed.new (w.alloc (.cells #[.slice A1 l.length c1] 47)) 3 (.int .i64 most)
    simp only [World.size_alloc] at this
    rw [hw4]; exact (this.alloc _).alloc _
  have hx2 : Boxed w4 (w.heap.size + 1 + 1) 4 (.bool false) := by
    have := Boxed.new ((w.alloc (.cells #[.slice A1 l.length c1] 47)).alloc (.cells #[.int .i64 most] 3)) 4 (.bool false)
    simp only [World.size_alloc] at this
    rw [hw4]; exact this.alloc _
  have hx3 : Boxed w4 (w.heap.size + 1 + 1 + 1) 3 (.int .i64 0) := by
    have := Boxed.new (((w.alloc (.cells #[.slice A1 l.length c1] 47)).alloc (.cells #[.int .i64 most] 3)).alloc (.cells #[.bool false] 4)) 3 (.int .i64 0)
    simp only [World.size_alloc] at this
    rw [hw4]; exact this
  have hcall := confus_All.calls q w4
  rw [hw4] at hcall
  have HCALL := Aside0.mk hcall
  have HW4 := Aside0.mk hw4
  have HX4 := Aside0.mk (And.intro hx0 (And.intro hx1 (And.intro hx2 hx3)))
  have HS4 := Aside0.mk hsz4
  have HB4 := Aside0.mk hb4
  have HM := Aside0.mk hM
  have HL := Aside0.mk hl
  have HLL := Aside0.mk hll
  have HR := Aside0.mk hr
  have HT := Aside0.mk hT
  have HMO := Aside0.mk h0
  clear hcall hw4 hx0 hx1 hx2 hx3 hsz4 hb4 hM hl hll hr hT hML h0
  refine (callsIn_wide (n := 20)).1 ?_
  refine callsIn_of_wp_marks Tryz.func26 rfl trivial ?_ rfl
  simp only [Tryz.ntmps26, List.size_toArray, List.length_cons, List.length_nil, Nat.reduceAdd, Nat.reduceSub, Array.replicate_succ, Array.replicate_zero, List.push_toArray, List.append_toArray, List.nil_append, List.cons_append]
  refine wpIn_wide.2 ?_
  go_wp2_with (go_at_call 58; refine HCALL.out.mono ?_; rw [← HW4.out]; rintro e w5 ⟨rfl, hw5⟩
               have hbx : Boxed w5 w4.heap.size 44 (.pointer q) := by rw [hw5]; exact Boxed.new w4 _ _
               have hb5 : Below w4.heap.size w4 w5 := by rw [hw5]; exact (Below.refl _ _).alloc (Nat.le_refl _) _
               have hz5 : w5.heap.size = w.heap.size + 5 := by have := HS4.out; rw [hw5, World.size_alloc]; omega
               have HBX := Aside0.mk hbx
               have HB5 := Aside0.mk (HB4.out.trans (hb5.mono HB4.out.size))
               have HK5 := Aside0.mk (SameC.of_below hb5)
               have HZ5 := Aside0.mk hz5
               clear hbx hb5 hz5 hw5)
  have hT0 : SameBel w.heap.size w w5 := SameBel.of_below HB5.out
  have hst := confus_All.stops q l HL.out HLL.out w HT.out w4.heap.size (fun k => k = w.heap.size + 1 + 1 + 1) w5 hT0 (fun k h => by have := HZ5.out; omega) (fun h => by have := HS4.out; omega) HBX.out 19 (by omega)
  have hI0 : is6I w w5.heap.size A1 c1 l.length most [] w5 := ⟨boxed_sameC HX4.out.2.2.2 HK5.out, boxed_sameC HX4.out.2.2.1 HK5.out, boxed_sameC HX4.out.2.1 HK5.out, boxed_sameC HX4.out.1 HK5.out, ⟨HB5.out, Nat.le_refl _⟩, HMO.out⟩
  have HST := Aside0.mk hst
  have HI0 := Aside0.mk hI0
  clear hst hI0 hT0 HBX HX4 HCALL HW4 HK5
  refine (wpIn_wide (n := 20)).1 ?_
  refine wpIn_range_as rfl (by omega) (gf := 82) (lb := #[Value.pointer (some ⟨w4.heap.size, 0, none⟩)]) rfl trivial (enters_of Tryz.func82 (by kernel_rfl) rfl)
    HST.out KeepM.trans (keepM_put (by have := HZ5.out; omega)) (Below.refl _ _) (fun _ => rfl)
    (is6I w w5.heap.size A1 c1 l.length most) (is6X w w5.heap.size A1 c1 l.length most) (is6I_own w _ _ (by have := HZ5.out; omega) _ _ _ _) (fun cd => is6X_own w _ _ (by have := HZ5.out; omega) _ _ _ _ cd) HI0.out
    (fun pre x a1 W => a1 = { tmps := #[Value.pointer q, Value.slice A1 l.length c1, Value.int IntKind.i64 most, undef, Value.pointer (some ⟨w.heap.size, 0, none⟩), Value.pointer (some ⟨w.heap.size + 1, 0, none⟩), Value.pointer (some ⟨w.heap.size + 1 + 1, 0, none⟩), Value.pointer (some ⟨w.heap.size + 1 + 1 + 1, 0, none⟩), Value.int IntKind.i64 x.1, x.2.1, Value.pointer q, Value.func (Fn.func 82) #[] #[Value.pointer (some ⟨w4.heap.size, 0, none⟩)], Value.int IntKind.i64 x.1, x.2.1, undef, undef, undef, undef, undef, undef, undef, undef, undef, undef, undef, undef, undef, undef, undef, undef, undef, undef, undef, undef, undef, undef, undef, undef, undef, undef, undef, undef, undef, undef, undef, undef, undef, undef, undef, undef, undef, undef, undef, undef, undef], defers := [] } ∧ Kd.R (Kd.int .i64) 3 W 0 (fun k => ¬ k = w.heap.size + 1 + 1 + 1) x.2.1 x.2.2 ∧ is6I w w5.heap.size A1 c1 l.length most pre W)
    (fun pre x a1 s W W' row hs hg hr => by
      obtain ⟨h1, h2, h3⟩ := hs
      have hk : SameC W W' := SameC.of_grown hg (fun r e => (hr r e).2)
      exact ⟨h1, (show KeepC (fun k => k = w.heap.size + 1 + 1 + 1) W W' from ⟨hg.size, fun k o hk2 hc _ => hk k o hk2 hc⟩).rowI h2, is6I_own w _ _ (by have := HZ5.out; omega) _ _ _ _ pre W W' row h3 hg hr⟩) ?assign ?body ?done ?stop
  case assign =>
    rintro l' pre x W K hI hR hK
    have HI := Aside0.mk hI
    have HRX := Aside0.mk hR
    have HK := Aside0.mk hK
    clear hI hR hK
    gi_wp2
    exact HK.out _ _ (KeepsFrom.refl _ _) (KeepM.refl _ _ _) ⟨rfl, HRX.out, HI.out⟩
  case body =>
    rintro l' pre x a1 W ⟨rfl, hRx, hN, hF, hMo, hS0, ⟨hB, hSz⟩, hle⟩ hsp
    have hcN := hN.cell
    have hfN := hN.frozen
    have hcM := hMo.cell
    have hcS := hS0.cell
    have HN := Aside0.mk hN
    have HF := Aside0.mk hF
    have HMB := Aside0.mk hMo
    have HS0 := Aside0.mk hS0
    have HB := Aside0.mk (And.intro hB hSz)
    have HLE := Aside0.mk hle
    by_cases cM : (pre.length : Int) < most
    · have hlen : pre.length < l.length := by
        have := hsp.length_le; simp at this; omega
      have hx : l[pre.length]? = some (x.1, x.2.2) := by
        obtain ⟨t, ht⟩ := hsp
        rw [← ht, List.map_append, List.append_assoc, List.getElem?_append_right (by simp)]; simp
      have hMl : M.length = l.length := by rw [HM.out, List.length_map]
      have hrW : Kd.C k56 W A1 l.length M := Kd.C_below HR.out hB
      obtain ⟨ad, A7, c7, rfl, hs0, hs1, hs2, hs3⟩ := at_T56 hrW (pre.length : Int) (by omega) (by omega)
      have hrd : rd_T56 M (pre.length : Int) = cP (x.1, x.2.2) := by
        rw [HM.out, rdPair l pre.length hlen]
        congr 1
        rw [List.getElem?_eq_getElem hlen] at hx
        exact Option.some.inj hx
      rw [hrd] at hs0 hs1 hs2 hs3
      rw [Int.toNat_natCast] at hs0 hs1
      have hr0 : W.cell? (ad.add (pre.length * 2)) = some (.int .i64 x.1) := hs0
      have hr1 : W.cell? ⟨(ad.add (pre.length * 2)).block, (ad.add (pre.length * 2)).off + 1, none⟩ = some (.slice A7 x.2.2.length c7) := hs1
      have hr2 : x.2.2.length ≤ c7 := hs2
      have hr3 : Kd.C (Kd.int .i64) W A7 x.2.2.length x.2.2 := hs3
      obtain ⟨A5, c5, hx5⟩ := Kd.R_slice hRx
      rw [hx5] at hRx ⊢
      obtain ⟨hq1, hq2, hq3⟩ := Kd.R_reads' hRx
      have hxl : x.2.2.length ≤ 1000000 := by
        have := HLL.out (x.1, x.2.2) (List.mem_of_getElem? hx)
        simp only at this; omega
      have hSAM : Calls Tryz.prog 20 #[.slice A5 x.2.2.length c5, .slice A7 x.2.2.length c7] W fun e w' => e = .returned (.bool true) ∧ Drawn0 W w' := same1_calls A5 A7 c5 c7 x.2.2 W hq3 hq2 hr3 hr2 hxl
      have HWR : Aside0 (wrap64 ((pre.length : Int) + 1) = ((pre.length + 1 : Nat) : Int)) := ⟨by rw [w64 (by omega) (by have := HL.out; omega)]; omega⟩
      have e4 : decide (most ≤ (pre.length : Int)) = false := decide_eq_false (by omega)
      have e4b := eq_false (show ¬ most ≤ (pre.length : Int) by omega)
      have e6 : decide ((l.length : Int) ≤ (pre.length : Int)) = false := decide_eq_false (by omega)
      have e7 : (0 ≤ (pre.length : Int)) = True := eq_true (by omega)
      have e8 : decide (l.length ≤ pre.length) = false := decide_eq_false (by omega)
      have e9 : ((pre.length : Int) < (l.length : Int)) = True := eq_true (by omega)
      have e10 : (pre.length < l.length) = True := eq_true hlen
      have hne : (x.1 != x.1) = false := by simp
      have HSAM := Aside0.mk hSAM
      have HCM := Aside0.mk cM
      clear hs0 hs1 hs2 hs3 hRx hN hF hMo hS0 hB hSz hle hsp hx hMl hrW hrd hlen hq1 hq2 hq3 hr2 hr3 hSAM hxl hx5 cM
      gi_wp2_with (first
        | (refine ⟨trivial, ?_⟩; gi_at_call 20; refine (CallsIn.inRound l' (callsIn_wide.2 HSAM.out)).mono ?_; rintro e w5' ⟨rfl, ⟨nd5, rfl⟩⟩)
        | (refine ⟨(trivial : Fence.wide.fn _), ?_⟩))
      refine ⟨((keepsOthers_drewN W nd5).trans (KeepsOthers.setCell _ _ _)).from _, (KeepM.of_below (pw_below_drewN (Below.refl _ W) nd5) HB.out.1.size).trans (keepM_set rfl (by show w.heap.size ≤ w.heap.size + 1 + 1 + 1; omega)), ?_, ?_, ?_, ?_, ⟨?_, ?_⟩, ?_⟩
      · rw [HWR.out, List.length_append]
        exact Boxed.set _ (show Boxed (W.drewN nd5) _ _ _ from HN.out)
      · exact boxed_setZ (show Boxed (W.drewN nd5) _ _ _ from HF.out) (by omega)
      · exact boxed_setZ (show Boxed (W.drewN nd5) _ _ _ from HMB.out) (by omega)
      · exact boxed_setZ (show Boxed (W.drewN nd5) _ _ _ from HS0.out) (by omega)
      · exact (HB.out.1.trans ((pw_below_drewN (Below.refl _ W) nd5).mono HB.out.1.size)).setCell (p := ⟨w.heap.size + 1 + 1 + 1, 0, none⟩) (by show w.heap.size ≤ w.heap.size + 1 + 1 + 1; omega) _
      · show _ ≤ (World.setCell _ _ _).heap.size
        simp only [World.size_setCell]
        exact HB.out.2
      · have := HCM.out
        rw [List.length_append, List.length_singleton]; omega
    · have he : (pre.length : Int) = most := by omega
      have e4 : decide (most ≤ (pre.length : Int)) = true := decide_eq_true (by omega)
      have e4b := eq_true (show most ≤ (pre.length : Int) by omega)
      have HE := Aside0.mk he
      have HRX := Aside0.mk hRx
      have HSP := Aside0.mk hsp
      clear hRx hN hF hMo hS0 hB hSz hle hsp cM he
      gi_wp2
      exact ⟨KeepsFrom.refl _ _, rfl, pre, x, rfl, HE.out, HN.out, HF.out, HMB.out, HS0.out, HB.out, HLE.out⟩
  case done =>
    rintro D ys W hD hys ⟨hN, hF, hMo, hS0, ⟨hB, hSz⟩, hle⟩ hK
    have hyl : ys.length = l.length := by rw [← hys, List.length_map]
    rw [hyl] at hN hle
    have hmin : mn most (l.length : Int) = (l.length : Int) := by unfold mn; split <;> omega
    obtain ⟨n, hn⟩ : ∃ n : Nat, n = l.length := ⟨_, rfl⟩
    have hmin2 : mn most (l.length : Int) = (n : Int) := by rw [hn]; exact hmin
    rw [← hn] at hN
    have hcN := hN.cell
    have hcM := hMo.cell
    have hcS := hS0.cell
    have e6 : ((n : Int) == (n : Int)) = true := beq_self_eq_true _
    have e7 : ((l.length : Int) == (l.length : Int)) = true := beq_self_eq_true _
    have HF := Aside0.mk hF
    have HB := Aside0.mk (And.intro hB hSz)
    have HK := Aside0.mk hK
    have HD := Aside0.mk hD
    clear hN hF hMo hS0 hB hSz hK hD hys hyl hle hmin hn
    go_wp2
    have hS : But (w.heap.size + 1 + 1) W W.drew := But.drew _ _
    refine wp_region_noPanic ?_
    refine wp_region_held (S := fun w' => But (w.heap.size + 1 + 1) W w') (by kernel_rfl) ?_
    show wpAnyH _ _ _ _ _ _ _ _ W.drew
    refine wpAnyH_take (i := 0) (v := .int .i64 (n : Int)) rfl (by kernel_rfl) (by kernel_rfl) (by kernel_rfl) (fun _ _ _ h => h) (.inl ⟨by kernel_rfl, fun w' hS => by have q_ := But.cell hS (by simp only [ne_eq]; omega) hcN; first | (go_simp; done) | (go_simp; simp [*]; done)⟩) hS ?_
    try simp only [List.getElem_toArray, List.getElem_cons_succ, List.getElem_cons_zero, Act.put, List.setIfInBounds_toArray, List.set_cons_zero, List.set_cons_succ]
    refine wpAnyH_take (i := 1) (v := .int .i64 most) rfl (by kernel_rfl) (by kernel_rfl) (by kernel_rfl) (fun _ _ _ h => h) (.inl ⟨by kernel_rfl, fun w' hS => by have q_ := But.cell hS (by simp only [ne_eq]; omega) hcM; first | (go_simp; done) | (go_simp; simp [*]; done)⟩) hS ?_
    try simp only [List.getElem_toArray, List.getElem_cons_succ, List.getElem_cons_zero, Act.put, List.setIfInBounds_toArray, List.set_cons_zero, List.set_cons_succ]
    refine wpAnyH_take (i := 2) (v := .slice A1 l.length c1) rfl (by kernel_rfl) (by kernel_rfl) (by kernel_rfl) (fun _ _ _ h => h) (.inl ⟨by kernel_rfl, fun w' hS => by have q_ := But.cell hS (by simp only [ne_eq]; omega) hcS; first | (go_simp; done) | (go_simp; simp [*]; done)⟩) hS ?_
    try simp only [List.getElem_toArray, List.getElem_cons_succ, List.getElem_cons_zero, Act.put, List.setIfInBounds_toArray, List.set_cons_zero, List.set_cons_succ]
    refine wpAnyH_take (i := 3) (v := .int .i64 (l.length : Int)) rfl (by kernel_rfl) (by kernel_rfl) (by kernel_rfl) (fun _ _ _ h => h) (.inl ⟨by kernel_rfl, fun w' hS => by first | (go_simp; done) | (go_simp; simp [*]; done)⟩) hS ?_
    try simp only [List.getElem_toArray, List.getElem_cons_succ, List.getElem_cons_zero, Act.put, List.setIfInBounds_toArray, List.set_cons_zero, List.set_cons_succ]
    refine wpAnyH_take (i := 4) (v := .int .i64 (n : Int)) rfl (by kernel_rfl) (by kernel_rfl) (by kernel_rfl) (fun _ _ _ h => h) (.inl ⟨by kernel_rfl, fun w' hS => by first | (go_simp; done) | (go_simp; simp [*]; done)⟩) hS ?_
    try simp only [List.getElem_toArray, List.getElem_cons_succ, List.getElem_cons_zero, Act.put, List.setIfInBounds_toArray, List.set_cons_zero, List.set_cons_succ]
    refine wpAnyH_take (i := 5) (v := .bool true) rfl (by kernel_rfl) (by kernel_rfl) (by kernel_rfl) (fun _ _ _ h => h) (.inl ⟨by kernel_rfl, fun w' hS => by first | (go_simp; done) | (go_simp; simp [*]; done)⟩) hS ?_
    try simp only [List.getElem_toArray, List.getElem_cons_succ, List.getElem_cons_zero, Act.put, List.setIfInBounds_toArray, List.set_cons_zero, List.set_cons_succ]
    refine wpAnyH_take (i := 6) (v := .bool true) rfl (by kernel_rfl) (by kernel_rfl) (by kernel_rfl) (fun _ _ _ h => h) (.inl ⟨by kernel_rfl, fun w' hS => by first | (go_simp; done) | (go_simp; simp [*]; done)⟩) hS ?_
    try simp only [List.getElem_toArray, List.getElem_cons_succ, List.getElem_cons_zero, Act.put, List.setIfInBounds_toArray, List.set_cons_zero, List.set_cons_succ]
    refine wpAnyH_take (i := 7) (v := .pointer q) rfl (by kernel_rfl) (by kernel_rfl) (by kernel_rfl) (fun _ _ _ h => h) (.inl ⟨by kernel_rfl, fun w' hS => by first | (go_simp; done) | (go_simp; simp [*]; done)⟩) hS ?_
    try simp only [List.getElem_toArray, List.getElem_cons_succ, List.getElem_cons_zero, Act.put, List.setIfInBounds_toArray, List.set_cons_zero, List.set_cons_succ]
    refine wpAnyH_take (i := 9) (v := .slice A1 l.length c1) rfl (by kernel_rfl) (by kernel_rfl) (by kernel_rfl) (fun _ _ _ h => h) (.inl ⟨by kernel_rfl, fun w' hS => by have q_ := But.cell hS (by simp only [ne_eq]; omega) hcS; first | (go_simp; done) | (go_simp; simp [*]; done)⟩) hS ?_
    try simp only [List.getElem_toArray, List.getElem_cons_succ, List.getElem_cons_zero, Act.put, List.setIfInBounds_toArray, List.set_cons_zero, List.set_cons_succ]
    refine wpAnyH_take (i := 10) (v := .int .i64 (l.length : Int)) rfl (by kernel_rfl) (by kernel_rfl) (by kernel_rfl) (fun _ _ _ h => h) (.inl ⟨by kernel_rfl, fun w' hS => by first | (go_simp; done) | (go_simp; simp [*]; done)⟩) hS ?_
    try simp only [List.getElem_toArray, List.getElem_cons_succ, List.getElem_cons_zero, Act.put, List.setIfInBounds_toArray, List.set_cons_zero, List.set_cons_succ]
    refine wpAnyH_ready (rs := [8]) (by kernel_rfl) (by simp) (AllReadyH.cons rfl (fun K' hK => ?_) AllReadyH.nil)
    rw [if_pos (by kernel_rfl)]
    go_simp
    go_at_call 29
    (with_reducible refine (confus_Len.callsS q l w _ HT.out (But.sameBel HB.out.1 hS (by omega))).mono ?_)
    rintro e w6 ⟨rfl, hb⟩
    have hb6 : Boxed w6 (w.heap.size + 1 + 1) 4 (.bool false) := (hb.block _ (Array.getElem?_eq_some_iff.1 HF.out).1).trans HF.out
    have hD6 : w6.heap[D]? = some (.deferred (some [])) := (hb.block _ (Array.getElem?_eq_some_iff.1 HK.out).1).trans HK.out
    have hB6 : Below w.heap.size w w6 := (below_drew HB.out.1).trans (hb.mono HB.out.1.size)
    have HB6 := Aside0.mk (And.intro hb6 (And.intro hD6 hB6))
    have hcR := hb6.cell
    have hfR := hb6.frozen
    clear hb6 hD6 hB6
    have hS' := hS.below hb
    refine hK.out _ _ hS' (fun _ => ?_)
    clear hK hS hb
    have hS := hS'
    clear hS'
    try simp only [List.getElem_toArray, List.getElem_cons_succ, List.getElem_cons_zero, Act.put, List.setIfInBounds_toArray, List.set_cons_zero, List.set_cons_succ]
    refine wpAnyH_take (i := 11) (v := .bool true) rfl (by kernel_rfl) (by kernel_rfl) (by kernel_rfl) (fun _ _ _ h => h) (.inl ⟨by kernel_rfl, fun w' hS => by first | (go_simp; done) | (go_simp; simp [*]; done)⟩) hS ?_
    try simp only [List.getElem_toArray, List.getElem_cons_succ, List.getElem_cons_zero, Act.put, List.setIfInBounds_toArray, List.set_cons_zero, List.set_cons_succ]
    refine wpAnyH_take (i := 12) (v := .bool true) rfl (by kernel_rfl) (by kernel_rfl) (by kernel_rfl) (fun _ _ _ h => h) (.inl ⟨by kernel_rfl, fun w' hS => by first | (go_simp; done) | (go_simp; simp [*]; done)⟩) hS ?_
    try simp only [List.getElem_toArray, List.getElem_cons_succ, List.getElem_cons_zero, Act.put, List.setIfInBounds_toArray, List.set_cons_zero, List.set_cons_succ]
    have hS2 := hS.set (v := .bool true)
    refine wpAnyH_ready (rs := [13]) (by kernel_rfl) (by simp) (AllReadyH.cons rfl (fun K' hK => ?_) AllReadyH.nil)
    rw [if_pos (by kernel_rfl)]
    go_simp
    refine hK.out _ _ hS2 (fun _ => ?_)
    clear hK
    try simp only [List.getElem_toArray, List.getElem_cons_succ, List.getElem_cons_zero, Act.put, List.setIfInBounds_toArray, List.set_cons_zero, List.set_cons_succ]
    refine wpAnyH_done (by kernel_rfl) ?_ _
    refine NoPanic.normal ?_
    go_wp2
    have hd := HD.out
    have hz := HZ5.out
    obtain ⟨m1, m2, m3⟩ := mark_endZ (.bool true) HB6.out.2.2 HB6.out.1 HB6.out.2.1 (by omega) (by omega)
    refine ⟨by simp, .inl ⟨_, _, rfl, run_takeDeferred m1, ?_⟩⟩
    exact ⟨_, by simp [results, Tryz.results26, go_sem, m2], rfl, m3 _⟩
  case stop =>
    rintro D c xs W hD hSp ⟨rfl, pre, x, rfl, he, hN, hF, hMo, hS0, ⟨hB, hSz⟩, hle⟩ hK
    refine wpIn_wide.2 ?_
    have hlen := hSp.length_le
    simp only [List.length_map, List.length_append, List.length_singleton] at hlen
    obtain ⟨n, hn⟩ : ∃ n : Nat, n = pre.length := ⟨_, rfl⟩
    rw [← hn] at hN he hlen
    have hmin2 : mn most (l.length : Int) = (n : Int) := by unfold mn; split <;> omega
    have hcN := hN.cell
    have hcM := hMo.cell
    have hcS := hS0.cell
    have e6 : ((n : Int) == (n : Int)) = true := beq_self_eq_true _
    have e7 : ((l.length : Int) == (l.length : Int)) = true := beq_self_eq_true _
    have HF := Aside0.mk hF
    have HB := Aside0.mk (And.intro hB hSz)
    have HK := Aside0.mk hK
    have HD := Aside0.mk hD
    clear hN hF hMo hS0 hB hSz hK hD hSp hle he hn hlen
    go_wp2
    have hS : But (w.heap.size + 1 + 1) W W.drew := But.drew _ _
    refine wp_region_noPanic ?_
    refine wp_region_held (S := fun w' => But (w.heap.size + 1 + 1) W w') (by kernel_rfl) ?_
    show wpAnyH _ _ _ _ _ _ _ _ W.drew
    refine wpAnyH_take (i := 0) (v := .int .i64 (n : Int)) rfl (by kernel_rfl) (by kernel_rfl) (by kernel_rfl) (fun _ _ _ h => h) (.inl ⟨by kernel_rfl, fun w' hS => by have q_ := But.cell hS (by simp only [ne_eq]; omega) hcN; first | (go_simp; done) | (go_simp; simp [*]; done)⟩) hS ?_
    try simp only [List.getElem_toArray, List.getElem_cons_succ, List.getElem_cons_zero, Act.put, List.setIfInBounds_toArray, List.set_cons_zero, List.set_cons_succ]
    refine wpAnyH_take (i := 1) (v := .int .i64 most) rfl (by kernel_rfl) (by kernel_rfl) (by kernel_rfl) (fun _ _ _ h => h) (.inl ⟨by kernel_rfl, fun w' hS => by have q_ := But.cell hS (by simp only [ne_eq]; omega) hcM; first | (go_simp; done) | (go_simp; simp [*]; done)⟩) hS ?_
    try simp only [List.getElem_toArray, List.getElem_cons_succ, List.getElem_cons_zero, Act.put, List.setIfInBounds_toArray, List.set_cons_zero, List.set_cons_succ]
    refine wpAnyH_take (i := 2) (v := .slice A1 l.length c1) rfl (by kernel_rfl) (by kernel_rfl) (by kernel_rfl) (fun _ _ _ h => h) (.inl ⟨by kernel_rfl, fun w' hS => by have q_ := But.cell hS (by simp only [ne_eq]; omega) hcS; first | (go_simp; done) | (go_simp; simp [*]; done)⟩) hS ?_
    try simp only [List.getElem_toArray, List.getElem_cons_succ, List.getElem_cons_zero, Act.put, List.setIfInBounds_toArray, List.set_cons_zero, List.set_cons_succ]
    refine wpAnyH_take (i := 3) (v := .int .i64 (l.length : Int)) rfl (by kernel_rfl) (by kernel_rfl) (by kernel_rfl) (fun _ _ _ h => h) (.inl ⟨by kernel_rfl, fun w' hS => by first | (go_simp; done) | (go_simp; simp [*]; done)⟩) hS ?_
    try simp only [List.getElem_toArray, List.getElem_cons_succ, List.getElem_cons_zero, Act.put, List.setIfInBounds_toArray, List.set_cons_zero, List.set_cons_succ]
    refine wpAnyH_take (i := 4) (v := .int .i64 (n : Int)) rfl (by kernel_rfl) (by kernel_rfl) (by kernel_rfl) (fun _ _ _ h => h) (.inl ⟨by kernel_rfl, fun w' hS => by first | (go_simp; done) | (go_simp; simp [*]; done)⟩) hS ?_
    try simp only [List.getElem_toArray, List.getElem_cons_succ, List.getElem_cons_zero, Act.put, List.setIfInBounds_toArray, List.set_cons_zero, List.set_cons_succ]
    refine wpAnyH_take (i := 5) (v := .bool true) rfl (by kernel_rfl) (by kernel_rfl) (by kernel_rfl) (fun _ _ _ h => h) (.inl ⟨by kernel_rfl, fun w' hS => by first | (go_simp; done) | (go_simp; simp [*]; done)⟩) hS ?_
    try simp only [List.getElem_toArray, List.getElem_cons_succ, List.getElem_cons_zero, Act.put, List.setIfInBounds_toArray, List.set_cons_zero, List.set_cons_succ]
    refine wpAnyH_take (i := 6) (v := .bool true) rfl (by kernel_rfl) (by kernel_rfl) (by kernel_rfl) (fun _ _ _ h => h) (.inl ⟨by kernel_rfl, fun w' hS => by first | (go_simp; done) | (go_simp; simp [*]; done)⟩) hS ?_
    try simp only [List.getElem_toArray, List.getElem_cons_succ, List.getElem_cons_zero, Act.put, List.setIfInBounds_toArray, List.set_cons_zero, List.set_cons_succ]
    refine wpAnyH_take (i := 7) (v := .pointer q) rfl (by kernel_rfl) (by kernel_rfl) (by kernel_rfl) (fun _ _ _ h => h) (.inl ⟨by kernel_rfl, fun w' hS => by first | (go_simp; done) | (go_simp; simp [*]; done)⟩) hS ?_
    try simp only [List.getElem_toArray, List.getElem_cons_succ, List.getElem_cons_zero, Act.put, List.setIfInBounds_toArray, List.set_cons_zero, List.set_cons_succ]
    refine wpAnyH_take (i := 9) (v := .slice A1 l.length c1) rfl (by kernel_rfl) (by kernel_rfl) (by kernel_rfl) (fun _ _ _ h => h) (.inl ⟨by kernel_rfl, fun w' hS => by have q_ := But.cell hS (by simp only [ne_eq]; omega) hcS; first | (go_simp; done) | (go_simp; simp [*]; done)⟩) hS ?_
    try simp only [List.getElem_toArray, List.getElem_cons_succ, List.getElem_cons_zero, Act.put, List.setIfInBounds_toArray, List.set_cons_zero, List.set_cons_succ]
    refine wpAnyH_take (i := 10) (v := .int .i64 (l.length : Int)) rfl (by kernel_rfl) (by kernel_rfl) (by kernel_rfl) (fun _ _ _ h => h) (.inl ⟨by kernel_rfl, fun w' hS => by first | (go_simp; done) | (go_simp; simp [*]; done)⟩) hS ?_
    try simp only [List.getElem_toArray, List.getElem_cons_succ, List.getElem_cons_zero, Act.put, List.setIfInBounds_toArray, List.set_cons_zero, List.set_cons_succ]
    refine wpAnyH_ready (rs := [8]) (by kernel_rfl) (by simp) (AllReadyH.cons rfl (fun K' hK => ?_) AllReadyH.nil)
    rw [if_pos (by kernel_rfl)]
    go_simp
    go_at_call 29
    (with_reducible refine (confus_Len.callsS q l w _ HT.out (But.sameBel HB.out.1 hS (by omega))).mono ?_)
    rintro e w6 ⟨rfl, hb⟩
    have hb6 : Boxed w6 (w.heap.size + 1 + 1) 4 (.bool false) := (hb.block _ (Array.getElem?_eq_some_iff.1 HF.out).1).trans HF.out
    have hD6 : w6.heap[D]? = some (.deferred (some [])) := (hb.block _ (Array.getElem?_eq_some_iff.1 HK.out).1).trans HK.out
    have hB6 : Below w.heap.size w w6 := (below_drew HB.out.1).trans (hb.mono HB.out.1.size)
    have HB6 := Aside0.mk (And.intro hb6 (And.intro hD6 hB6))
    have hcR := hb6.cell
    have hfR := hb6.frozen
    clear hb6 hD6 hB6
    have hS' := hS.below hb
    refine hK.out _ _ hS' (fun _ => ?_)
    clear hK hS hb
    have hS := hS'
    clear hS'
    try simp only [List.getElem_toArray, List.getElem_cons_succ, List.getElem_cons_zero, Act.put, List.setIfInBounds_toArray, List.set_cons_zero, List.set_cons_succ]
    refine wpAnyH_take (i := 11) (v := .bool true) rfl (by kernel_rfl) (by kernel_rfl) (by kernel_rfl) (fun _ _ _ h => h) (.inl ⟨by kernel_rfl, fun w' hS => by first | (go_simp; done) | (go_simp; simp [*]; done)⟩) hS ?_
    try simp only [List.getElem_toArray, List.getElem_cons_succ, List.getElem_cons_zero, Act.put, List.setIfInBounds_toArray, List.set_cons_zero, List.set_cons_succ]
    refine wpAnyH_take (i := 12) (v := .bool true) rfl (by kernel_rfl) (by kernel_rfl) (by kernel_rfl) (fun _ _ _ h => h) (.inl ⟨by kernel_rfl, fun w' hS => by first | (go_simp; done) | (go_simp; simp [*]; done)⟩) hS ?_
    try simp only [List.getElem_toArray, List.getElem_cons_succ, List.getElem_cons_zero, Act.put, List.setIfInBounds_toArray, List.set_cons_zero, List.set_cons_succ]
    have hS2 := hS.set (v := .bool true)
    refine wpAnyH_ready (rs := [13]) (by kernel_rfl) (by simp) (AllReadyH.cons rfl (fun K' hK => ?_) AllReadyH.nil)
    rw [if_pos (by kernel_rfl)]
    go_simp
    refine hK.out _ _ hS2 (fun _ => ?_)
    clear hK
    try simp only [List.getElem_toArray, List.getElem_cons_succ, List.getElem_cons_zero, Act.put, List.setIfInBounds_toArray, List.set_cons_zero, List.set_cons_succ]
    refine wpAnyH_done (by kernel_rfl) ?_ _
    refine NoPanic.normal ?_
    go_wp2
    have hd := HD.out
    have hz := HZ5.out
    obtain ⟨m1, m2, m3⟩ := mark_endZ (.bool true) HB6.out.2.2 HB6.out.1 HB6.out.2.1 (by omega) (by omega)
    refine ⟨by simp, .inl ⟨_, _, rfl, run_takeDeferred m1, ?_⟩⟩
    exact ⟨_, by simp [results, Tryz.results26, go_sem, m2], rfl, m3 _⟩
end Go.Proofs.YtbpdcbibooiimaaGreatDoor.Q

-- from Hlit
namespace Go.Proofs.YtbpdcbibooiimaaGreatDoor.Q
open Go.RowKit Go.Proofs.YtbpdcbibooiimaaGreatDoorW.PrintWords Go.Proofs.YtbpdcbibooiimaaGreatDoorW.PrintLast Go.Proofs.YtbpdcbibooiimaaGreatDoorW.PrintMore
set_option linter.unusedVariables false

/-- A literal of octets, '[]byte("..")'. -/
def bytesLit.f (l : List Int) : Option (List Int) := some l

theorem bytesLit.cells {W : World} {e : Nat} {xs : List Int} {C : Array Value} {p : Nat × Nat} {g : Nat} (hC : C = (xs.map (Value.int .u8)).toArray) (hl : xs.length ≤ 9223372036854775807) (h : W.heap[g]? = some (.cells C e p)) :
    Kd.C (Kd.int .u8) W (some ⟨g, 0, none⟩) xs.length xs := by
  refine Kd.C_of_reads (d := (0 : Int)) ⟨rfl, hl, fun _ => ⟨_, rfl, fun j hj => ?_⟩⟩
  rw [add_plain, cell_of_row W g j C e p h, hC]
  simp [List.getD_eq_getElem?_getD, List.getElem?_eq_getElem hj]

theorem bytesLit.step {P : Program} {W : World} {ops : Array Oper} {rest : List Oper} {o : Oper} {a : Act} {Q : Exit → Act → World → Prop} {C : Array Value} {n c : Nat} (t e : TypeId) (s : Operand) (xs r : List Int) (h : bytesLit.f xs = some r)
    (hgd : o.guard = none) (hop : o.op = .convert t t s) (hs : a.eval s = .slice (some ⟨W.heap.size, 0, none⟩) n c) (ht : P.underlying t = some (.slice e)) (he : P.underlying e = some (.int .u8))
    (hC : C = (xs.map (Value.int .u8)).toArray) (hn : n = xs.length) (hc : n ≤ c) (hl : xs.length ≤ 9223372036854775807)
    (hk : ∀ v w1, Kd.V (Kd.int .u8) e w1 W.heap.size (fun k => W.heap.size ≤ k) v r → Below W.heap.size W w1 → wpList P ops Q rest (a.put o.dst v) w1) :
    wpList P ops Q (o :: rest) a (W.alloc (.cells C e)) := by
  obtain rfl := Option.some.inj h
  have hr := Lib.run_convert_bytes_const (P := P) W t e C n c ht he
  refine wpList_plain hgd fun K hK => ?_
  unfold Oper.wp execOp
  simp only [hop, hs]
  have hr2 : (do let v ← convert t t (.slice (some ⟨W.heap.size, 0, none⟩) n c); pure (Next.value v) : Sem Next).run P (W.alloc (.cells C e)) = .ok (.value (.slice (some ⟨W.heap.size, 0, none⟩) n c)) (W.alloc (.cells C e (C.size, C.size + 1))) := by
    rw [Sem.run_bind, hr]; rfl
  first | rw [hr2] | (simp only [Sem.run_bind, hr, Sem.run_pure, Result.andThen_ok]) 
  refine hK _ _ (hk _ _ ?_ ((Below.refl _ W).alloc (Nat.le_refl _) _))
  subst hn
  refine Kd.V_mk hc (fun W' hW => ?_)
  refine bytesLit.cells hC hl (e := e) (p := (C.size, C.size + 1)) ?_
  rw [hW W.heap.size (Nat.le_refl _) (by simp)]
  exact heap_alloc_new W _

end Go.Proofs.YtbpdcbibooiimaaGreatDoor.Q

-- from Hcl0
/- Layer 6: the contracts told at once, whether or not a line is wrong; Proto. -/
namespace Go.Proofs.YtbpdcbibooiimaaGreatDoor.Q
open Go.RowKit Go.Shelf Go.Maps Go.Proofs.YtbpdcbibooiimaaGreatDoorW.PrintWords Go.Proofs.YtbpdcbibooiimaaGreatDoorW.PrintLast Go.Proofs.YtbpdcbibooiimaaGreatDoorW.PrintMore Go.Proofs.YtbpdcbibooiimaaGreatDoor.K
set_option linter.unusedVariables false
set_option linter.unusedSimpArgs false

theorem cfGo_cases : ∀ (X : List (Int × List (List Int))) (acc : List (Int × List Int)), (∃ l, cfGo X acc = (some l, 0, 0)) ∨ ∃ e n : Int, e ≠ 0 ∧ cfGo X acc = (none, e, n)
  | [], acc => .inl ⟨acc, rfl⟩
  | x :: X, acc => by
    cases h : cfS x.2 with
    | inl e => exact .inr ⟨e, x.1, cfS_err h, cfGo_err1 h⟩
    | inr p =>
      cases ha : acc.any (fun q => decide (q.1 = p.1)) with
      | true => exact .inr ⟨15, x.1, by decide, cfGo_twice1 h ha⟩
      | false => rw [cfGo_add1 h ha]; exact cfGo_cases X _
theorem cfS_len {x : List (List Int)} {p : Int × List Int} (h : cfS x = .inr p) : p.2.length ≤ 18 := by
  unfold cfS at h
  split at h
  · split at h
    · cases h
    · split at h
      · split at h
        · cases h
        · split at h
          · cases h
          · injection h with h
            subst h
            simp only; omega
      · cases h
  · cases h
theorem cfGo_count : ∀ (X : List (Int × List (List Int))) (acc l : List (Int × List Int)), (∀ p ∈ acc, p.2.length ≤ 18) → cfGo X acc = (some l, 0, 0) → l.length ≤ acc.length + X.length ∧ ∀ p ∈ l, p.2.length ≤ 18
  | [], acc, l, ha, h => by
    unfold cfGo at h
    rw [Prod.mk.injEq, Option.some.injEq] at h
    obtain rfl := h.1
    exact ⟨by simp, ha⟩
  | x :: X, acc, l, ha, h => by
    cases hx : cfS x.2 with
    | inl e => rw [cfGo_err1 hx] at h; cases h
    | inr p =>
      cases hb : acc.any (fun q => decide (q.1 = p.1)) with
      | true => rw [cfGo_twice1 hx hb] at h; cases h
      | false =>
        rw [cfGo_add1 hx hb] at h
        have hp := insP_perm p acc
        have := cfGo_count X (insP p acc) l (fun q hq => by
          rcases List.mem_cons.1 (hp.mem_iff.1 hq) with rfl | hq
          · exact cfS_len hx
          · exact ha q hq) h
        have h2 := hp.length_eq
        exact ⟨by have := this.1; simp only [List.length_cons] at h2 ⊢; omega, this.2⟩
/-- What Parse of a file is. -/
def cfA (L : List Int) : Option (List (Int × List Int)) × Int × Int := cfGo (linesI 0 (spl 10 L)) []
theorem cfA_cases (L : List Int) : (∃ l, cfA L = (some l, 0, 0)) ∨ ∃ e n : Int, e ≠ 0 ∧ cfA L = (none, e, n) := cfGo_cases _ _
theorem cfA_len {L : List Int} (hl : L.length ≤ 2000) {l : List (Int × List Int)} (h : cfA L = (some l, 0, 0)) : l.length ≤ 100000 ∧ ∀ p ∈ l, p.2.length ≤ 100000 := by
  obtain ⟨h1, h2⟩ := cfGo_count _ [] l (fun p hp => by cases hp) h
  have h3 := linesI_len (spl 10 L) 0
  have h4 := splP_count (fun x => decide (x = (10 : Int))) L
  unfold spl at h1 h3
  simp only [List.length_nil] at h1
  exact ⟨by omega, fun p hp => by have := h2 p hp; omega⟩
section
variable {L : List Int}
theorem c6_ok (A : Option Addr) (c : Nat) (ho : Oct L) (hl : L.length ≤ 50000) (w : World) (hE : EnvF w) (hr : Kd.C (Kd.int .u8) w A L.length L) (hc : L.length ≤ c) {l : List (Int × List Int)} (h : cfA L = (some l, 0, 0)) :
    Calls Tryz.prog 24 #[.slice A L.length c] w fun e w' => ∃ g, e = .returned (.tuple #[.pointer (some ⟨g, 0, none⟩), .int .i64 0, .int .i64 0]) ∧ CTab w' (some ⟨g, 0, none⟩) l ∧ Below w.heap.size w w' :=
  (confus_Parse.main A c L ho hl w hE hr hc).mono fun e w' ⟨hb, q, he, hq⟩ => by
    unfold cfA at h
    rw [h] at he hq
    obtain ⟨g, b, n, rfl, h2, h3, h4⟩ := hq
    exact ⟨g, he, .inr ⟨g, b, n, rfl, h2, h3, h4⟩, hb⟩
theorem c6_err (A : Option Addr) (c : Nat) (ho : Oct L) (hl : L.length ≤ 50000) (w : World) (hE : EnvF w) (hr : Kd.C (Kd.int .u8) w A L.length L) (hc : L.length ≤ c) {e n : Int} (h : cfA L = (none, e, n)) :
    Calls Tryz.prog 24 #[.slice A L.length c] w fun ee w' => ee = .returned (.tuple #[.pointer none, .int .i64 e, .int .i64 n]) ∧ Below w.heap.size w w' :=
  (confus_Parse.main A c L ho hl w hE hr hc).mono fun ee w' ⟨hb, q, he, hq⟩ => by
    unfold cfA at h
    rw [h] at he hq
    have hq : q = none := hq
    subst hq
    exact ⟨he, hb⟩
theorem c6_ref (ho : Oct L) (hl : L.length ≤ 50000) (w : World) {M : List S56} {e n : Int} (hM : crfR (cfA L) = (M, e, n)) :
    Calls Tryz.prog 25 #[.string (strOfNums L)] w fun ee w' => ∃ A' c', ee = .returned (.tuple #[.slice A' M.length c', .int .i64 e, .int .i64 n]) ∧ M.length ≤ c' ∧ Kd.C k56 w' A' M.length M ∧ Below w.heap.size w w' := by
  obtain ⟨k, hk⟩ := (refParse6_ev ho hl).rounds
  unfold cfA at hM
  rw [hM] at hk
  refine (paronymref06_Parse.calls k (strOfNums L) M e n w hk).mono ?_
  rintro ee w' ⟨v, rfl, hN, hb⟩
  obtain ⟨A', c', rfl, h1, h2⟩ := Kd.N_reads hN
  exact ⟨A', c', rfl, h1, h2, hb⟩
end
set_option maxHeartbeats 2000000 in
set_option maxRecDepth 100000 in
theorem confus_Proto.nil (c : Int) (w : World) :
    Calls Tryz.prog 27 #[.pointer none, .int .i64 c] w fun e w' => e = .returned (.tuple #[.slice none 0 0, .bool false]) ∧ Below w.heap.size w w' := by
  go_enter Tryz.func27, Tryz.ntmps27
  go_wp2
  go_ret2
  exact ⟨rfl, Below.refl _ _⟩
set_option maxHeartbeats 2000000 in
set_option maxRecDepth 100000 in
theorem confus_Proto.calls (q : Option Addr) (l : List (Int × List Int)) (hll : ∀ p ∈ l, p.2.length ≤ 100000) (c : Int) (h0 : -9223372036854775808 ≤ c) (h1 : c ≤ 9223372036854775807) (w : World) (h : CTab w q l) :
    Calls Tryz.prog 27 #[.pointer q, .int .i64 c] w fun e w' => ∃ A c', e = .returned (.tuple #[.slice A ((getP l c).getD []).length c', .bool (getP l c).isSome]) ∧ (((getP l c).getD []).length ≤ c' ∧ Kd.C (Kd.int .i64) w' A ((getP l c).getD []).length ((getP l c).getD [])) ∧ Below w.heap.size w w' := by
  rcases h with ⟨rfl, rfl⟩ | ⟨g, b, n, rfl, h2, h3, h4⟩
  · exact (confus_Proto.nil c w).mono fun e w' ⟨he, hb⟩ => ⟨none, 0, he, ⟨Nat.le_refl _, Kd.C_nil _ _⟩, hb⟩
  · have hlen : ((getP l c).getD []).length ≤ 100000 := by
      cases hg : getP l c with
      | none => simp
      | some r => exact hll _ (getP_some hg)
    obtain ⟨A5, c5, g1, g2, g3, g4⟩ := h3.look h0 h1
    have hcg : w.cell? ⟨g, 0, none⟩ = some (.map (some b)) := h2.cell
    obtain ⟨R, hR⟩ : ∃ R, R = (getP l c).getD [] := ⟨_, rfl⟩
    obtain ⟨ok, hok⟩ : ∃ ok, ok = (getP l c).isSome := ⟨_, rfl⟩
    rw [← hR] at g1 g2 g3 g4 hlen ⊢
    rw [← hok] at g1 ⊢
    have hclone : slices_Clone_int_int.f R = some R := if_pos (by omega)
    have HCL := Aside0.mk hclone
    have HG := Aside0.mk (And.intro g3 g4)
    clear h0 h1 h2 h3 h4 g2 g3 g4 hlen hclone hR hok
    go_enter Tryz.func27, Tryz.ntmps27
    go_wp2_with (go_at_call 59; refine (slices_Clone_int_int.calls A5 c5 R R _ HG.out.2 HG.out.1 HCL.out).mono ?_; rintro e w4 ⟨v2, rfl, hv2, hb4⟩
                 obtain ⟨A6, c6, rfl⟩ := Kd.R_slice hv2
                 have HV := Aside0.mk hv2
                 have HB := Aside0.mk hb4
                 clear hv2 hb4)
    go_ret2
    obtain ⟨-, r1, r2⟩ := Kd.R_reads' HV.out
    exact ⟨A6, c6, rfl, ⟨r1, r2⟩, HB.out⟩
theorem is6_nil (A1 : Option Addr) (c1 : Nat) (m : Int) (h0 : 0 ≤ m) (w : World) (hr : Kd.C k56 w A1 0 []) :
    Calls Tryz.prog 26 #[.pointer none, .slice A1 0 c1, .int .i64 m] w fun e w' => e = .returned (.bool true) ∧ Below w.heap.size w w' :=
  paronymlaw06_Is.main none [] A1 c1 [] rfl m h0 w (CTab.nil _) (by simp) (fun p hp => by cases hp) hr
/-! ## the document's example -/
def aw6L : List Int := [48, 52, 51, 48, 32, 59, 32, 48, 48, 54, 49, 32, 59, 32, 77, 65, 32, 35, 32, 115, 109, 97, 108, 108, 32, 97, 10]
def aw6P : List Int := [48, 52, 51, 48]
def aw6Q : List Int := [48, 48, 54, 49]
theorem aw6L_oct : Oct aw6L := fun x hx => by simp only [aw6L, List.mem_cons, List.not_mem_nil, or_false] at hx; omega
theorem hexT1072 : hexT 1072 = [48, 52, 51, 48] := by
  unfold hexT
  rw [hexL_step (by omega), hexL_step (by omega), hexL_one (by omega)]
  decide
theorem hexT97b : hexT 97 = [48, 48, 54, 49] := by
  unfold hexT
  rw [hexL_step (by omega), hexL_one (by omega)]
  decide
theorem aw6_p1 : pointL aw6P = some 1072 := by
  rw [pointL_is, if_neg (by decide), show valF 0 aw6P = some 1072 from by decide]
  unfold endP
  simp only
  rw [if_neg (by decide), if_pos (by rw [hexT1072]; decide)]
theorem aw6_p2 : pointL aw6Q = some 97 := by
  rw [pointL_is, if_neg (by decide), show valF 0 aw6Q = some 97 from by decide]
  unfold endP
  simp only
  rw [if_neg (by decide), if_pos (by rw [hexT97b]; decide)]
theorem aw6_seq : seqL aw6Q = ([97], 0) := by
  unfold seqL
  rw [if_neg (by decide), show spl 32 aw6Q = [aw6Q] from by decide]
  unfold seqF
  rw [aw6_p2]
  rfl
theorem aw6_lines : linesI 0 (spl 10 aw6L) = [(1, [aw6P, aw6Q, [77, 65]])] := by decide +kernel
theorem aw6_S : cfS [aw6P, aw6Q, [77, 65]] = .inr (1072, [97]) := by
  unfold cfS
  simp only [aw6_p1, aw6_seq]
  rw [if_pos trivial, if_neg (by simp), if_neg (by simp)]
  rfl
theorem aw6_go : cfA aw6L = (some [(1072, [97])], 0, 0) := by
  unfold cfA
  rw [aw6_lines, cfGo_add1 (x := (1, [aw6P, aw6Q, [77, 65]])) aw6_S (by rfl)]
  rfl
theorem ints_one {W : World} {g : Nat} {l : List Int} (h : W.heap[g]? = some (.cells (l.map (Value.int .i64)).toArray 3 (0, 0))) (hl : l.length ≤ 1000000) : Kd.C (Kd.int .i64) W (some ⟨g, 0, none⟩) l.length l := by
  refine Kd.C_of_reads (d := (0 : Int)) ⟨rfl, by omega, fun _ => ⟨_, rfl, fun j hj => ?_⟩⟩
  rw [Addr.add_lit]
  simp only [World.cell?]
  rw [h]
  simp [hj, List.getD_eq_getElem?_getD]
set_option maxHeartbeats 4000000 in
set_option maxRecDepth 100000 in
theorem paronymlaw06_awake.calls0 (w : World) (hE : EnvF w) : Calls Tryz.prog 23 #[] w fun e w' => e = .returned (.bool true) ∧ Below w.heap.size w w' := by
  have HE := Aside0.mk hE
  clear hE
  go_enter Tryz.func23, Tryz.ntmps23
  go_wp2_with (first
    | ((with_reducible refine gate_dst (N := 8) rfl ?_); (try (refine gate_guard (by rfl) ?_; dsimp only)); refine bytesLit.step 22 5 _ aw6L aw6L rfl rfl rfl (by rfl) Tryz.underlying22 Tryz.underlying5 rfl rfl (by decide) (by decide) ?_; intro v1 w2 hv1 hb2; have HV1 := Aside0.mk hv1; have HB2 := Aside0.mk hb2; clear hv1 hb2)
    | (go_at_call 24
       obtain ⟨A1, c1, rfl⟩ := Kd.V_slice HV1.out
       obtain ⟨-, hc1, hC1⟩ := Kd.V_reads' HV1.out
       refine (c6_ok (L := aw6L) A1 c1 aw6L_oct (by decide) _ (HE.out.below HB2.out) hC1 hc1 aw6_go).mono ?_
       rintro e w4 ⟨g, rfl, hT, hb⟩
       have HT := Aside0.mk hT
       have HB4 := Aside0.mk (HB2.out.trans (hb.mono HB2.out.size))
       clear hc1 hC1 hT hb)
    | (go_at_call 27
       refine (confus_Proto.calls _ [(1072, [97])] (fun p hp => by rw [List.mem_singleton.1 hp]; simp) 1072 (by omega) (by omega) _ HT.out).mono ?_
       rintro e w5 ⟨A5, c5, rfl, hC5, hb⟩
       have HC5 : Aside0 (1 ≤ c5 ∧ Kd.C (Kd.int .i64) w5 A5 1 [97]) := ⟨hC5⟩
       have HT5 := Aside0.mk (HT.out.below hb)
       have HB5 := Aside0.mk (HB4.out.trans (hb.mono HB4.out.size))
       have hp1 : ((getP [((1072 : Int), [(97 : Int)])] 1072).getD []).length = 1 := rfl
       have hp2 : (getP [((1072 : Int), [(97 : Int)])] 1072).isSome = true := rfl
       clear hC5 hb)
    | (go_at_call 20
       have hb6 : Below w5.heap.size w5 (w5.alloc (.cells #[.int .i64 97] 3)) := (Below.refl _ _).alloc (Nat.le_refl _) _
       refine (same1_calls A5 (some ⟨w5.heap.size, 0, none⟩) c5 1 [97] (w5.alloc (.cells #[.int .i64 97] 3)) (Kd.C_below HC5.out.2 hb6) HC5.out.1 (ints_one (l := [97]) (heap_alloc_new w5 _) (by simp)) (Nat.le_refl _) (by simp)).mono ?_
       rintro e w6 ⟨rfl, ⟨nd6, rfl⟩⟩
       have HT6 := Aside0.mk ((HT5.out.below hb6).below (pw_below_drewN (Below.refl _ _) nd6))
       have HB6 := Aside0.mk ((HB5.out.trans (hb6.mono HB5.out.size)).trans ((pw_below_drewN (Below.refl _ _) nd6).mono (by have := HB5.out.size; simp; omega)))
       clear hb6)
    | (go_at_call 29; refine (confus_Len.calls _ _ _ HT6.out).mono ?_; rintro e w7 ⟨rfl, rfl⟩))
  go_ret
  exact ⟨rfl, HB6.out⟩
end Go.Proofs.YtbpdcbibooiimaaGreatDoor.Q

-- from Hw62
/- ConfusTells: the walk. -/
namespace Go.Proofs.YtbpdcbibooiimaaGreatDoor.Q
open Go.RowKit Go.Shelf Go.Maps Go.Proofs.YtbpdcbibooiimaaGreatDoorW.PrintWords Go.Proofs.YtbpdcbibooiimaaGreatDoorW.PrintLast Go.Proofs.YtbpdcbibooiimaaGreatDoorW.PrintMore Go.Proofs.YtbpdcbibooiimaaGreatDoor.K
set_option linter.unusedVariables false
set_option linter.unusedSimpArgs false

theorem fdx_none : ∀ (l : List (Int × List Int)) (c : Int) (i : Nat), getP l c = none → fdx l c i = -1
  | [], c, i, _ => rfl
  | q :: r, c, i, h => by
    unfold fdx
    by_cases e : q.1 = c
    · unfold getP at h
      rw [List.find?_cons_of_pos (by simpa using e)] at h; cases h
    · rw [if_neg e]
      refine fdx_none r c (i + 1) ?_
      unfold getP at h ⊢
      rwa [List.find?_cons_of_neg (by simpa using e)] at h
theorem fdx_some : ∀ (l : List (Int × List Int)) (c : Int) (i : Nat) (r : List Int), getP l c = some r → ∃ j : Nat, fdx l c i = ((i + j : Nat) : Int) ∧ l[j]? = some (c, r)
  | [], c, i, r, h => by unfold getP at h; cases h
  | q :: m, c, i, r, h => by
    unfold fdx
    by_cases e : q.1 = c
    · unfold getP at h
      rw [List.find?_cons_of_pos (by simpa using e)] at h
      have h2 : q.2 = r := Option.some.inj h
      rw [if_pos e]
      exact ⟨0, rfl, by rw [← e, ← h2]; rfl⟩
    · rw [if_neg e]
      obtain ⟨j, h1, h2⟩ := fdx_some m c (i + 1) r (by
        unfold getP at h ⊢
        rwa [List.find?_cons_of_neg (by simpa using e)] at h)
      exact ⟨j + 1, by rw [h1]; congr 1; omega, by simpa using h2⟩
theorem c6_any {L : List Int} (A : Option Addr) (c : Nat) (ho : Oct L) (hl : L.length ≤ 50000) (w : World) (hE : EnvF w) (hr : Kd.C (Kd.int .u8) w A L.length L) (hc : L.length ≤ c) {tl : List (Int × List Int)} (h : (cfA L).1.getD [] = tl) :
    Calls Tryz.prog 24 #[.slice A L.length c] w fun e w' => ∃ q, e = .returned (.tuple #[.pointer q, .int .i64 (cfA L).2.1, .int .i64 (cfA L).2.2]) ∧ CTab w' q tl ∧ Below w.heap.size w w' := by
  rcases cfA_cases L with ⟨l, hl2⟩ | ⟨e, n, h0, hl2⟩
  · rw [hl2] at h ⊢
    have h : l = tl := h
    subst h
    exact (c6_ok A c ho hl w hE hr hc hl2).mono fun e w' ⟨g, he, hT, hb⟩ => ⟨_, he, hT, hb⟩
  · rw [hl2] at h ⊢
    have h : [] = tl := h
    subst h
    exact (c6_err A c ho hl w hE hr hc hl2).mono fun e w' ⟨he, hb⟩ => ⟨_, he, CTab.nil _, hb⟩
theorem proto_none (q : Option Addr) (l : List (Int × List Int)) (hll : ∀ p ∈ l, p.2.length ≤ 100000) (c : Int) (h0 : -9223372036854775808 ≤ c) (h1 : c ≤ 9223372036854775807) (w : World) (h : CTab w q l) (hg : getP l c = none) :
    Calls Tryz.prog 27 #[.pointer q, .int .i64 c] w fun e w' => ∃ A c', e = .returned (.tuple #[.slice A 0 c', .bool false]) ∧ Below w.heap.size w w' := by
  have := confus_Proto.calls q l hll c h0 h1 w h
  rw [hg] at this
  exact this.mono fun e w' ⟨A, c', he, _, hb⟩ => ⟨A, c', he, hb⟩
theorem proto_some (q : Option Addr) (l : List (Int × List Int)) (hll : ∀ p ∈ l, p.2.length ≤ 100000) (c : Int) (h0 : -9223372036854775808 ≤ c) (h1 : c ≤ 9223372036854775807) (w : World) (h : CTab w q l) (r : List Int) (hg : getP l c = some r) :
    Calls Tryz.prog 27 #[.pointer q, .int .i64 c] w fun e w' => ∃ A c', e = .returned (.tuple #[.slice A r.length c', .bool true]) ∧ (r.length ≤ c' ∧ Kd.C (Kd.int .i64) w' A r.length r) ∧ Below w.heap.size w w' := by
  have := confus_Proto.calls q l hll c h0 h1 w h
  rw [hg] at this
  exact this
theorem find6 (A : Option Addr) (n : Nat) (l : List (Int × List Int)) (M : List S56) (hM : M = l.map cP) (c v : Int) (hv : fdx l c 0 = v) (hl : l.length ≤ 100000) (w : World) (hr : Kd.C k56 w A M.length M) (hc : M.length ≤ n) :
    Calls Tryz.prog 28 #[.slice A M.length n, .int .i64 c] w fun e w' => e = .returned (.int .i64 v) ∧ Drawn0 w w' := by
  subst hM
  obtain ⟨k, hk⟩ := (fdx_ev (acc := l) (by omega) c _ 0 rfl (Nat.zero_le _)).rounds
  rw [List.drop_zero, hv] at hk
  exact paronymref06_Find.calls k A n _ c v w hr hc hk
set_option maxHeartbeats 4000000 in
set_option maxRecDepth 100000 in
theorem paronymlaw06_ConfusTells.long (A : Option Addr) (c : Nat) (L : List Int) (m : Int) (w : World) (hE : EnvF w) (hl : ¬ L.length ≤ 800) :
    Calls Tryz.prog 8 #[.slice A L.length c, .int .i64 m] w fun e w' => e = .returned (.bool true) ∧ Below w.heap.size w w' := by
  have HE := Aside0.mk hE
  have e0 : ((800 : Int) < (L.length : Int)) = True := eq_true (by omega)
  have e1 : decide ((800 : Int) < (L.length : Int)) = true := decide_eq_true (by omega)
  clear hE hl
  have HB := Aside0.mk (Below.refl w.heap.size w)
  go_enter Tryz.func8, Tryz.ntmps8
  go_wp2_with (go_at_call 23; (with_reducible refine (paronymlaw06_awake.calls0 _ (HE.out.below HB.out)).mono ?_); rintro e w1 ⟨rfl, hb⟩; have HB := Aside0.mk (HB.out.trans (hb.mono HB.out.size)); clear hb)
  go_ret
  exact ⟨rfl, HB.out⟩
set_option maxHeartbeats 4000000 in
set_option maxRecDepth 100000 in
theorem paronymlaw06_ConfusTells.missing (A : Option Addr) (c : Nat) (L : List Int) (ho : Oct L) (m : Int) (w : World) (hE : EnvF w) (hl : L.length ≤ 800) (hr : Kd.C (Kd.int .u8) w A L.length L) (hc : L.length ≤ c) (hm0 : -9223372036854775808 ≤ m) (hm1 : m ≤ 9223372036854775807)
    (tl : List (Int × List Int)) (ht : (cfA L).1.getD [] = tl) (htl : tl.length ≤ 100000 ∧ ∀ p ∈ tl, p.2.length ≤ 100000) (hg : getP tl m = .none) :
    Calls Tryz.prog 8 #[.slice A L.length c, .int .i64 m] w fun e w' => e = .returned (.bool true) ∧ Below w.heap.size w w' := by
  have HE := Aside0.mk hE
  have HR := Aside0.mk hr
  have HC := Aside0.mk hc
  have HO := Aside0.mk ho
  obtain ⟨M, hMl⟩ : ∃ M, M = tl.map cP := ⟨_, rfl⟩
  have hM : crfR (cfA L) = (M, (cfA L).2.1, (cfA L).2.2) := by unfold crfR; rw [ht, hMl]
  have HM := Aside0.mk hM
  have HML := Aside0.mk hMl
  have HT0 := Aside0.mk ht
  have HTL := Aside0.mk htl
  have HG := Aside0.mk hg
  have HFD := Aside0.mk (fdx_none tl m 0 hg)
  have HMM := Aside0.mk (And.intro hm0 hm1)
  have HL : Aside0 (L.length ≤ 50000) := ⟨by omega⟩
  have e0 : ((800 : Int) < (L.length : Int)) = False := eq_false (by omega)
  have e1 : decide ((800 : Int) < (L.length : Int)) = false := decide_eq_false (by omega)
  clear hE hl hr hc ho ht hM hMl hm0 hm1 htl hg
  have HB := Aside0.mk (Below.refl w.heap.size w)
  go_enter Tryz.func8, Tryz.ntmps8
  go_wp2_with (first
    | (go_at_call 23; (with_reducible refine (paronymlaw06_awake.calls0 _ (HE.out.below HB.out)).mono ?_); rintro e w1 ⟨rfl, hb⟩; have HB := Aside0.mk (HB.out.trans (hb.mono HB.out.size)); clear hb)
    | (go_at_call 24; (with_reducible refine (c6_any A c HO.out HL.out _ (HE.out.below HB.out) (Kd.C_below HR.out HB.out) HC.out HT0.out).mono ?_); rintro e w3 ⟨q, rfl, hT, hb⟩; have HT := Aside0.mk hT; have HB := Aside0.mk (HB.out.trans (hb.mono HB.out.size)); clear hb hT
       have hcx := Kd.C_string (P := Tryz.prog) (c := c) Tryz.underlying22 Tryz.underlying5 Tryz.underlying9 (Kd.C_below HR.out HB.out))
    | (go_at_call 25; (with_reducible refine (c6_ref HO.out HL.out _ HM.out).mono ?_); rintro e w4 ⟨A4, c4, rfl, hc4, hC4, hb⟩; have HT := Aside0.mk (HT.out.below hb); have HB := Aside0.mk (HB.out.trans (hb.mono HB.out.size)); have HC4 := Aside0.mk (And.intro hc4 hC4); clear hb hC4 hc4 hcx)
    | (go_at_call 27; (with_reducible refine (proto_none q tl HTL.out.2 m HMM.out.1 HMM.out.2 _ HT.out HG.out).mono ?_); rintro e w5 ⟨A5, c5, rfl, hb⟩; have HC5 := Aside0.mk (Kd.C_below HC4.out.2 hb); have HB := Aside0.mk (HB.out.trans (hb.mono HB.out.size)); clear hb)
    | (go_at_call 28; (with_reducible refine (find6 A4 c4 tl M HML.out m (-1) HFD.out HTL.out.1 _ HC5.out HC4.out.1).mono ?_); rintro e w6 ⟨rfl, hd⟩; have HB := Aside0.mk (HB.out.trans (hd.below.mono HB.out.size)); clear hd)
    | (go_at_call 27; (with_reducible refine (confus_Proto.nil m _).mono ?_); rintro e w7 ⟨rfl, hb⟩; have HB := Aside0.mk (HB.out.trans (hb.mono HB.out.size)); clear hb)
    | (go_at_call 29; refine (confus_Len.calls none [] _ (CTab.nil _)).mono ?_; rintro e w8 ⟨rfl, rfl⟩)
    | (go_at_call 26; (with_reducible refine (is6_nil none 0 9 (by decide) _ (Kd.C_nil _ _)).mono ?_); rintro e w9 ⟨rfl, hb⟩; have HB := Aside0.mk (HB.out.trans (hb.mono HB.out.size)); clear hb))
  go_ret
  exact ⟨rfl, HB.out⟩
set_option maxHeartbeats 4000000 in
set_option maxRecDepth 100000 in
theorem paronymlaw06_ConfusTells.found (A : Option Addr) (c : Nat) (L : List Int) (ho : Oct L) (m : Int) (w : World) (hE : EnvF w) (hl : L.length ≤ 800) (hr : Kd.C (Kd.int .u8) w A L.length L) (hc : L.length ≤ c) (hm0 : -9223372036854775808 ≤ m) (hm1 : m ≤ 9223372036854775807)
    (tl : List (Int × List Int)) (ht : (cfA L).1.getD [] = tl) (htl : tl.length ≤ 100000 ∧ ∀ p ∈ tl, p.2.length ≤ 100000) (r : List Int) (hg : getP tl m = .some r) :
    Calls Tryz.prog 8 #[.slice A L.length c, .int .i64 m] w fun e w' => e = .returned (.bool true) ∧ Below w.heap.size w w' := by
  have HE := Aside0.mk hE
  have HR := Aside0.mk hr
  have HC := Aside0.mk hc
  have HO := Aside0.mk ho
  obtain ⟨M, hMl⟩ : ∃ M, M = tl.map cP := ⟨_, rfl⟩
  have hM : crfR (cfA L) = (M, (cfA L).2.1, (cfA L).2.2) := by unfold crfR; rw [ht, hMl]
  obtain ⟨j, hj1, hj2⟩ := fdx_some tl m 0 r hg
  rw [Nat.zero_add] at hj1
  have hjl : j < tl.length := (List.getElem?_eq_some_iff.1 hj2).1
  have hMn : M.length = tl.length := by rw [hMl, List.length_map]
  have hrd : rd_T56 M (j : Int) = cP (m, r) := by
    rw [hMl, rdPair tl j hjl]
    congr 1
    rw [List.getElem?_eq_getElem hjl] at hj2
    exact Option.some.inj hj2
  have hrl : r.length ≤ 100000 := htl.2 _ (getP_some hg)
  have HM := Aside0.mk hM
  have HML := Aside0.mk hMl
  have HT0 := Aside0.mk ht
  have HTL := Aside0.mk htl
  have HG := Aside0.mk hg
  have HFD := Aside0.mk hj1
  have HRD := Aside0.mk hrd
  have HRL := Aside0.mk hrl
  have HMM := Aside0.mk (And.intro hm0 hm1)
  have HL : Aside0 (L.length ≤ 50000) := ⟨by omega⟩
  have HJL : Aside0 (j < M.length) := ⟨by omega⟩
  have e0 : ((800 : Int) < (L.length : Int)) = False := eq_false (by omega)
  have e1 : decide ((800 : Int) < (L.length : Int)) = false := decide_eq_false (by omega)
  have e2 : ((0 : Int) ≤ (j : Int)) = True := eq_true (by omega)
  have e3 : ((j : Int) < (M.length : Int)) = True := eq_true (by omega)
  have e4 : (j < M.length) = True := eq_true (by omega)
  clear hE hl hr hc ho ht hM hMl hm0 hm1 htl hg hj1 hj2 hjl hMn hrd hrl
  have HB := Aside0.mk (Below.refl w.heap.size w)
  go_enter Tryz.func8, Tryz.ntmps8
  go_wp2_with (first
    | (go_at_call 23; (with_reducible refine (paronymlaw06_awake.calls0 _ (HE.out.below HB.out)).mono ?_); rintro e w1 ⟨rfl, hb⟩; have HB := Aside0.mk (HB.out.trans (hb.mono HB.out.size)); clear hb)
    | (go_at_call 24; (with_reducible refine (c6_any A c HO.out HL.out _ (HE.out.below HB.out) (Kd.C_below HR.out HB.out) HC.out HT0.out).mono ?_); rintro e w3 ⟨q, rfl, hT, hb⟩; have HT := Aside0.mk hT; have HB := Aside0.mk (HB.out.trans (hb.mono HB.out.size)); clear hb hT
       have hcx := Kd.C_string (P := Tryz.prog) (c := c) Tryz.underlying22 Tryz.underlying5 Tryz.underlying9 (Kd.C_below HR.out HB.out))
    | (go_at_call 25; (with_reducible refine (c6_ref HO.out HL.out _ HM.out).mono ?_); rintro e w4 ⟨A4, c4, rfl, hc4, hC4, hb⟩; have HT := Aside0.mk (HT.out.below hb); have HB := Aside0.mk (HB.out.trans (hb.mono HB.out.size)); have HC4 := Aside0.mk (And.intro hc4 hC4); clear hb hC4 hc4 hcx)
    | (go_at_call 27; (with_reducible refine (proto_some q tl HTL.out.2 m HMM.out.1 HMM.out.2 _ HT.out r HG.out).mono ?_); rintro e w5 ⟨A5, c5, rfl, hC5, hb⟩; have HP5 := Aside0.mk hC5; have HC5 := Aside0.mk (Kd.C_below HC4.out.2 hb); have HB := Aside0.mk (HB.out.trans (hb.mono HB.out.size)); clear hb hC5)
    | (go_at_call 28; (with_reducible refine (find6 A4 c4 tl M HML.out m (j : Int) HFD.out HTL.out.1 _ HC5.out HC4.out.1).mono ?_); rintro e w6 ⟨rfl, hd⟩
       have hC6 := Kd.C_below HC5.out hd.below
       obtain ⟨ad, A7, c7, rfl, hs0, hs1, hs2, hs3⟩ := at_T56 hC6 (j : Int) (by omega) (by have := HJL.out; omega)
       rw [HRD.out] at hs0 hs1 hs2 hs3
       rw [Int.toNat_natCast] at hs0 hs1
       have hr1 : w6.cell? ⟨(ad.add (j * 2)).block, (ad.add (j * 2)).off + 1, .none⟩ = some (.slice A7 r.length c7) := hs1
       have HS := Aside0.mk (And.intro hs2 hs3)
       have HP6 := Aside0.mk (And.intro HP5.out.1 (Kd.C_below HP5.out.2 hd.below))
       have HB := Aside0.mk (HB.out.trans (hd.below.mono HB.out.size))
       clear hd hC6 hs0 hs1 hs2 hs3)
    | (go_at_call 20; refine (same1_calls A5 A7 c5 c7 r _ HP6.out.2 HP6.out.1 HS.out.2 HS.out.1 (by have := HRL.out; omega)).mono ?_; rintro e w7 ⟨rfl, hd⟩; have HB := Aside0.mk (HB.out.trans (hd.below.mono HB.out.size)); clear hd hr1)
    | (go_at_call 27; (with_reducible refine (confus_Proto.nil m _).mono ?_); rintro e w8 ⟨rfl, hb⟩; have HB := Aside0.mk (HB.out.trans (hb.mono HB.out.size)); clear hb)
    | (go_at_call 29; refine (confus_Len.calls .none [] _ (CTab.nil _)).mono ?_; rintro e w9 ⟨rfl, rfl⟩)
    | (go_at_call 26; (with_reducible refine (is6_nil .none 0 9 (by decide) _ (Kd.C_nil _ _)).mono ?_); rintro e w9 ⟨rfl, hb⟩; have HB := Aside0.mk (HB.out.trans (hb.mono HB.out.size)); clear hb))
  go_ret
  exact ⟨rfl, HB.out⟩
theorem paronymlaw06_ConfusTells.walk (a0 : Option Addr) (cap0 : Nat) (l0 : List Int) (a1 : Int) (w : World) (hE : EnvF w) (hC0 : Kd.C (Kd.int .u8) w a0 l0.length l0) (hcap0 : l0.length ≤ cap0) (ho : Oct l0) (w1 : (Lit.int .i64 a1).wf = true) :
    Calls Tryz.prog 8 #[.slice a0 l0.length cap0, .int .i64 a1] w fun e w' => e = .returned (.bool true) ∧ Below w.heap.size w w' := by
  have hm : -9223372036854775808 ≤ a1 ∧ a1 ≤ 9223372036854775807 := by
    simp [Lit.wf, IntKind.min, IntKind.max, IntKind.signed, IntKind.bits] at w1
    omega
  by_cases hl : l0.length ≤ 800
  · have htl : ((cfA l0).1.getD []).length ≤ 100000 ∧ ∀ p ∈ (cfA l0).1.getD [], p.2.length ≤ 100000 := by
      rcases cfA_cases l0 with ⟨l, h⟩ | ⟨e, n, h0, h⟩
      · rw [h]; exact cfA_len (by omega) h
      · rw [h]; exact ⟨by simp, fun p hp => by cases hp⟩
    cases hg : getP ((cfA l0).1.getD []) a1 with
    | none => exact paronymlaw06_ConfusTells.missing a0 cap0 l0 ho a1 w hE hl hC0 hcap0 hm.1 hm.2 _ rfl htl hg
    | some r => exact paronymlaw06_ConfusTells.found a0 cap0 l0 ho a1 w hE hl hC0 hcap0 hm.1 hm.2 _ rfl htl r hg
  · exact paronymlaw06_ConfusTells.long a0 cap0 l0 a1 w hE hl
end Go.Proofs.YtbpdcbibooiimaaGreatDoor.Q

-- from LawConfusTells
-- Made by envrow.py, a program of this session, after the kit's rows: the world's shape handed on. Not trusted: Lean checks it.
namespace Go.Proofs.YtbpdcbibooiimaaGreatDoor.confusTells
open Go.ChangeShapes Go.WideShapes Go.ChangeAt Go.RowKit
open Go.ChangeMaps (open_string shut_string)
set_option linter.unusedVariables false
theorem own : ownKnob Tryz.prog.godebug = none := by kernel_rfl
theorem laidOut : laidOutB Tryz.prog = true := by kernel_rfl
set_option maxRecDepth 100000 in
theorem lifted (os : Os) (started : os.Started) (H : Type) (enc : TypeId × Value → H) :
    ReturnsInHanded {} Tryz.checked os 8 .any (fun w args => (Rows.confusTellsSpec.pre enc Tryz.prog Tryz.f8 Rows.confusTellsRow.domain false w args ∧ laidMetH Tryz.prog Rows.confusTellsRow.laid w) ∧ sizedMet enc Tryz.prog Tryz.f8 (OpenSpec.ofChange Rows.confusTellsSpec) false w args) (Rows.confusTellsSpec.post enc Tryz.prog Tryz.f8 false true false false) := by
  refine Q.returns_shaped_and (C := Tryz.checked) (X := fun w => laidMetH Tryz.prog Rows.confusTellsRow.laid w) (fun _ _ hh h => h.of_heap hh) own started (by kernel_rfl) Tryz.func8
    (ChangeSpec.witness_shaped (enc := enc) (C := Tryz.checked) (os := os) (X := fun w _ => laidMetH Tryz.prog Rows.confusTellsRow.laid w) false (World.laidAll Tryz.prog os Rows.confusTellsRow.laid) #[.slice none 0 0, .int .i64 0] 8 (World.laidAll_os _ _ _)
      (World.shaped_of_ZipB (by kernel_rfl) (by kernel_rfl)) (by kernel_rfl) (by kernel_rfl) (by kernel_rfl)
      (by rw [MakeChecks.laidMetH_plain _ _ _ (by kernel_rfl)]; exact laidMet_laidAll _ (by kernel_rfl) (by kernel_rfl))) ?_
  intro W base args ds gs before hsh hL hval0 hW hsz0
  have hsz : (DataW.weightsEach Tryz.prog (Tryz.f8.params.toList ++ Rows.confusTellsSpec.plain.varTypes Tryz.prog) (ds ++ gs)).all (· ≤ reachBytes) = true := hsz0
  have hval : ∀ (j : Nat) t v, Tryz.f8.params[j]? = some t → args[j]? = some v → Value.okWide Tryz.prog W .any base t v := hval0
  have hW' := hW
  obtain ⟨p, q, hA0, hV, rfl, hfz, hnd⟩ := hW
  have hA : DataW.TrodAll enc Tryz.prog W 0 (fun _ => true) true Tryz.f8.params.toList args.toList ds p := hA0
  rw [Tryz.params8] at hA hval hsz
  obtain ⟨v0, vs0, d0, ds0, p0, q0, hargs, rfl, rfl, h0, r0⟩ := trodAll_cons hA
  obtain ⟨v1, vs1, d1, ds1, p1, q1, rfl, rfl, rfl, h1, r1⟩ := trodAll_cons r0
  obtain ⟨rfl, rfl, rfl⟩ := trodAll_nil r1
  obtain rfl : args = #[v0, v1] := by cases args; simp_all
  obtain ⟨rfl, rfl⟩ := trodVars_none hV
  obtain ⟨a0, len0, cap0, rfl⟩ := okWide_slice Tryz.underlying22 (hval 0 22 v0 rfl rfl)
  have k0 := h0
  have lt0 : ∀ x ∈ p0, x.block < W.heap.size := by obtain ⟨m, hm⟩ := k0; exact DataW.trod_lt m _ _ _ hm
  obtain ⟨l0, hn0, hcap0, hC0, hwf0⟩ : ∃ l : List Int, l.length = len0 ∧ len0 ≤ cap0 ∧ Go.Proofs.YtbpdcbibooiimaaGreatDoorW.PrintWords.Kd.C (Go.Proofs.YtbpdcbibooiimaaGreatDoorW.PrintWords.Kd.int .u8) W a0 len0 l ∧ ∀ z ∈ l, (Lit.int .u8 z).wf = true := by
    obtain ⟨fuel, hf⟩ := h0
    have hf' : DataW.trod enc Tryz.prog W 0 (fun _ => true) true fuel 22 [.slice a0 len0 cap0] = some (d0, p0) := hf
    obtain ⟨A, c, l, e, q1, q2, q3⟩ := Q.ints_of_trod1 Tryz.underlying22 Tryz.underlying5 (by kernel_rfl) hf'
    simp only [List.cons.injEq, Value.slice.injEq, and_true] at e
    obtain ⟨rfl, rfl, rfl⟩ := e
    exact ⟨l, rfl, q1, q2, q3⟩
  subst hn0
  obtain ⟨a1, rfl, rfl, rfl, w1⟩ := open_int Tryz.underlying3 (hval 1 3 v1 rfl rfl) h1
  clear hA0 hval0 hsz0 hsz
  refine (Q.paronymlaw06_ConfusTells.walk a0 cap0 l0 a1 W (Q.env_of_laid (List.mem_filter.2 ⟨List.mem_cons_of_mem _ (List.mem_cons_self ..), by kernel_rfl⟩) hsh hL) hC0 hcap0 (K.oct_of_wf hwf0) w1).mono fun e W' ⟨he, bel⟩ => ?_
  subst he
  exact ⟨_, rfl, _, _, _, [], _, [], hW', trodAll_mk1 (shut_bool Tryz.underlying4 _), (trodAll_cons_mk (Below.trod laidOut (by kernel_rfl) (of_decide_eq_true (by kernel_rfl)) k0 bel lt0) (trodAll_cons_mk (shut_int Tryz.underlying3 w1) trodAll_mk0)), rfl, bel.frame _, fun h => by cases h⟩
theorem over : Rows.confusTellsRow.holds Tryz.pinned (OpenSpec.ofChange Rows.confusTellsSpec) :=
  OpenClaim.holds_of_wide 8 Tryz.f8 rfl rfl rfl rfl rfl rfl rfl ⟨rfl, rfl, rfl, rfl, rfl⟩ rfl rfl rfl rfl rfl (by kernel_rfl) Tryz.func8 (by kernel_rfl)
    (of_decide_eq_true (by kernel_rfl)) (by unfold Func.isWrapper; first | (rw [if_pos (by decide +kernel)]; kernel_rfl) | (rw [if_neg (by decide +kernel)]; exact ⟨rfl, rfl⟩))
    (fun os started H enc _ => lifted os started H enc)
theorem card : Rows.ConfusTellsCardSaid :=
  Claim7.holds_tied_plain_at .later [] [.data, .data, .data, .data, .pinned, .pinned] true (true, "ea15d2eb81024d9e71850c30cd30141e77aebce7e40ec8c40f847e40fd417039") true over (fun _ h => by cases h) (by kernel_rfl) (fun _ h => by cases h) confusTells_row_tie rfl ⟨rfl, rfl⟩ (by kernel_rfl) rfl
    (fun f fn hf hfn => by
      obtain rfl : f = 8 := Option.some.inj ((show Tryz.prog.funcNamed "paronym/paronymlaw06.ConfusTells" = some 8 by kernel_rfl).symm.trans hf) |>.symm
      obtain rfl : fn = Tryz.f8 := (Option.some.inj (Tryz.func8.symm.trans hfn)).symm
      exact ⟨by kernel_rfl, fun j t ht => by
        rw [Tryz.params8] at ht
        have hm : t ∈ ([22, 3] : List Nat) := by have := Array.mem_of_getElem? ht; simp at this ⊢; omega
        have hall : (([22, 3] : List Nat).all fun u => !Tryz.prog.wantsStandIn u) = true := by kernel_rfl
        exact (show Tryz.prog.wantsStandIn t = false by simpa using List.all_eq_true.1 hall t hm)⟩)
    (by kernel_rfl)
#print axioms card
end Go.Proofs.YtbpdcbibooiimaaGreatDoor.confusTells
namespace Go.Proofs.YtbpdcbibooiimaaGreatDoor
/-- The row, under a short name, for the claim. -/
theorem confusTells_holds : Rows.ConfusTellsCardSaid := confusTells.card
end Go.Proofs.YtbpdcbibooiimaaGreatDoor
