/- Part 2 of 4 of the proof of TrieNodes: all nodes of a trie For every input; no condition. -/
import Derived.Test.YtlipbiihemhieaaCTrieNodes1
import Derived.StillTailTactics
import Derived.BigRegion
import Derived.Deep.DeepCutAuto
import Derived.IntWalk
import Derived.Deep.RegionLaw
import Derived.Sort.LoopGhostIn
import Derived.WalkKit
import Derived.ProofKit
import Derived.OpenShut
import Derived.ShutString
import Derived.LaidMore
import Derived.ChangeOld
import Derived.DataElems
import Derived.Deep.Strs
import Derived.RangeFuncNested
import Derived.RangeFuncBound
import Derived.RangeFuncCalls
import Derived.RangeFuncLeaves
import Derived.Shelf.Abstract
import Derived.OwnWalkIn
import Derived.TacticsInMore
import Derived.LoopNIn
import Derived.LoopIn
import Derived.Maps.AppendAt
import Derived.RangeFuncBox

-- from Ptri4
/- Layer 22 on lists: the reference: Small, Empty, Find, New, Ends. -/
namespace Go.Proofs.Ytlipbiihemhieaa.K
set_option linter.unusedVariables false
set_option linter.unusedSimpArgs false
open Go.RowKit Go.Proofs.YtlipbiihemhieaaW.PrintWords Go.Proofs.YtlipbiihemhieaaW.PrintMore Go.Proofs.Ytlipbiihemhieaa.Q

theorem rdL1 {L : List (List Int)} (i : Nat) (h : i < L.length) : rd_L1 L (i : Int) = L[i] := by
  show L.getD (i : Int).toNat [] = L[i]
  rw [Int.toNat_natCast, List.getD_eq_getElem?_getD, List.getElem?_eq_getElem h]; rfl
/-- A text's place; -1: there is none. -/
def findT : Nat → List (List Int) → List Int → Int
  | _, [], _ => -1
  | i, t :: r, s => if t = s then (i : Int) else findT (i + 1) r s
theorem findT_none (s : List Int) : ∀ (l : List (List Int)) (i : Nat), s ∉ l → findT i l s = -1
  | [], i, h => rfl
  | q :: l, i, h => by
    simp only [List.mem_cons, not_or] at h
    simp only [findT]
    rw [if_neg (fun e => h.1 e.symm)]
    exact findT_none s l (i + 1) h.2
theorem findT_some (s : List Int) : ∀ (l : List (List Int)) (i : Nat), s ∈ l → ∃ j, findT i l s = ((i + j : Nat) : Int) ∧ l[j]? = some s
  | q :: l, i, h => by
    simp only [findT]
    by_cases e : q = s
    · rw [if_pos e]; exact ⟨0, rfl, by simp [e]⟩
    · rw [if_neg e]
      rcases List.mem_cons.1 h with h | h
      · exact absurd h.symm e
      · obtain ⟨j, h1, h2⟩ := findT_some s l (i + 1) h
        exact ⟨j + 1, by rw [h1]; congr 1; omega, by simpa using h2⟩
theorem findT_at {T : List (List Int)} (h : T.Nodup) {j : Nat} {s : List Int} (hj : T[j]? = some s) : findT 0 T s = (j : Int) := by
  obtain ⟨i, h1, h2⟩ := findT_some s T 0 (List.mem_of_getElem? hj)
  rw [h1, Nat.zero_add, uniq_at h h2 hj]
theorem find_T {T : List (List Int)} (hl : T.length ≤ 1000000) (ht : ∀ t ∈ T, t.length ≤ 1000000) (s : List Int) (hs : s.length ≤ 1000000) : Ev (fun k => paronymref22_Find.f k T s) (findT 0 T s) := by
  have key : ∀ (d i : Nat), T.length - i = d → i ≤ T.length → Ev (fun k => paronymref22_Find.l0 k T s (i : Int)) (findT i (T.drop i) s) := by
    intro d
    induction d with
    | zero =>
      intro i h1 h2
      have : i = T.length := by omega
      subst this
      rw [List.drop_length]
      exact Ev.step (fun k => rfl) (Ev.neg (by omega) (Ev.now _))
    | succ d ih =>
      intro i h1 h2
      have hil : i < T.length := by omega
      have h3 := ih (i + 1) (by omega) (by omega)
      rw [drop_L1 T i hil]
      have hx : (rd_L1 T (i : Int)).length ≤ 1000000 := by rw [rdL1 i hil]; exact ht _ (List.getElem_mem hil)
      refine Ev.step (fun k => rfl) (Ev.pos (by omega) (Ev.pos (by omega) (Ev.bind (refSame_ev (rd_L1 T (i : Int)) s (by omega) (by omega)) ?_)))
      by_cases e : rd_L1 T (i : Int) = s
      · simp only [findT]
        rw [if_pos e]
        exact Ev.pos (decide_eq_true e) (Ev.now _)
      · simp only [findT]
        rw [if_neg e]
        refine Ev.neg (by rw [decide_eq_false e]; exact fun h => by cases h) ?_
        rw [w64 (by omega) (by omega)]
        exact h3
  exact key T.length 0 (by omega) (by omega)
def smallB (P : List (List Int)) (most : Nat) : Bool := decide (P.length ≤ most) && P.all (fun p => decide (p.length ≤ most))
theorem smallB_t {P : List (List Int)} {most : Nat} (h : smallB P most = true) : P.length ≤ most ∧ ∀ p ∈ P, p.length ≤ most := by
  unfold smallB at h
  rw [Bool.and_eq_true, decide_eq_true_iff, List.all_eq_true] at h
  exact ⟨h.1, fun p hp => of_decide_eq_true (h.2 p hp)⟩
theorem small_T {P : List (List Int)} (most : Nat) (hm : most ≤ 1000) : Ev (fun k => paronymref22_Small.f k P most) (smallB P most) := by
  by_cases h0 : P.length ≤ most
  · have key : ∀ (d i : Nat), P.length - i = d → i ≤ P.length → Ev (fun k => paronymref22_Small.l0 k P most (i : Int)) ((P.drop i).all (fun p => decide (p.length ≤ most))) := by
      intro d
      induction d with
      | zero =>
        intro i h1 h2
        have : i = P.length := by omega
        subst this
        rw [List.drop_length]
        exact Ev.step (fun k => rfl) (Ev.neg (by omega) (Ev.ret (by simp)))
      | succ d ih =>
        intro i h1 h2
        have hil : i < P.length := by omega
        have h3 := ih (i + 1) (by omega) (by omega)
        rw [drop_L1 P i hil]
        refine Ev.step (fun k => rfl) (Ev.pos (by omega) (Ev.pos (by omega) ?_))
        by_cases e : (rd_L1 P (i : Int)).length ≤ most
        · refine Ev.neg (by omega) ?_
          rw [w64 (by omega) (by omega), List.all_cons, decide_eq_true e, Bool.true_and]
          exact h3
        · exact Ev.pos (by omega) (Ev.ret (by rw [List.all_cons, decide_eq_false e, Bool.false_and]))
    have := key P.length 0 (by omega) (by omega)
    rw [List.drop_zero] at this
    unfold smallB paronymref22_Small.f
    rw [decide_eq_true h0, Bool.true_and]
    exact Ev.neg (by omega) this
  · unfold smallB paronymref22_Small.f
    rw [decide_eq_false h0, Bool.false_and]
    exact Ev.pos (by omega) (Ev.now _)
theorem empty_T {P : List (List Int)} (hl : P.length ≤ 1000000) : Ev (fun k => paronymref22_Empty.f k P) (decide (idxE 0 P ≥ 0)) := by
  have key : ∀ (d i : Nat), P.length - i = d → i ≤ P.length → Ev (fun k => paronymref22_Empty.l0 k P (i : Int)) (decide (idxE i (P.drop i) ≥ 0)) := by
    intro d
    induction d with
    | zero =>
      intro i h1 h2
      have : i = P.length := by omega
      subst this
      rw [List.drop_length]
      exact Ev.step (fun k => rfl) (Ev.neg (by omega) (Ev.ret (by rfl)))
    | succ d ih =>
      intro i h1 h2
      have hil : i < P.length := by omega
      have h3 := ih (i + 1) (by omega) (by omega)
      rw [drop_L1 P i hil]
      refine Ev.step (fun k => rfl) (Ev.pos (by omega) (Ev.pos (by omega) ?_))
      by_cases e : (rd_L1 P (i : Int)).length = 0
      · refine Ev.pos (by omega) (Ev.ret ?_)
        rw [idxE_t e]; exact (decide_eq_true (by omega)).symm
      · refine Ev.neg (by omega) ?_
        rw [w64 (by omega) (by omega), idxE_f e]
        exact h3
  unfold paronymref22_Empty.f
  exact key P.length 0 (by omega) (by omega)
theorem ends_T {P : List (List Int)} (hl : P.length ≤ 1000000) (ht : ∀ t ∈ P, t.length ≤ 1000000) (s : List Int) (hs : s.length ≤ 1000000) : Ev (fun k => paronymref22_Ends.f k P s) (endsOf 0 P s) := by
  have key : ∀ (d i : Nat) (out : List Int), P.length - i = d → i ≤ P.length → out.length ≤ i → Ev (fun k => paronymref22_Ends.l0 k P s out (i : Int)) (out ++ endsOf i (P.drop i) s) := by
    intro d
    induction d with
    | zero =>
      intro i out h1 h2 h3
      have : i = P.length := by omega
      subst this
      rw [List.drop_length]
      exact Ev.step (fun k => rfl) (Ev.neg (by omega) (Ev.ret (by simp [endsOf])))
    | succ d ih =>
      intro i out h1 h2 h3
      have hil : i < P.length := by omega
      rw [drop_L1 P i hil]
      have hx : (rd_L1 P (i : Int)).length ≤ 1000000 := by rw [rdL1 i hil]; exact ht _ (List.getElem_mem hil)
      refine Ev.step (fun k => rfl) (Ev.pos (by omega) (Ev.pos (by omega) (Ev.bind (refSame_ev (rd_L1 P (i : Int)) s (by omega) (by omega)) ?_)))
      by_cases e : rd_L1 P (i : Int) = s
      · simp only [endsOf]
        rw [if_pos e]
        refine Ev.pos (decide_eq_true e) (Ev.pos (by omega) ?_)
        rw [w64 (by omega) (by omega)]
        have := ih (i + 1) (out ++ [(i : Int)]) (by omega) (by omega) (by simp; omega)
        rw [List.append_assoc] at this
        exact this
      · simp only [endsOf]
        rw [if_neg e]
        refine Ev.neg (by rw [decide_eq_false e]; exact fun h => by cases h) ?_
        rw [w64 (by omega) (by omega)]
        exact ih (i + 1) out (by omega) (by omega) (by omega)
  have := key P.length 0 [] (by omega) (by omega) (by simp)
  unfold paronymref22_Ends.f
  simpa using this
end Go.Proofs.Ytlipbiihemhieaa.K

-- from Ptri5
/- Layer 22 on lists: the texts. -/
namespace Go.Proofs.Ytlipbiihemhieaa.K
set_option linter.unusedVariables false
set_option linter.unusedSimpArgs false
open Go.RowKit Go.Proofs.YtlipbiihemhieaaW.PrintWords Go.Proofs.YtlipbiihemhieaaW.PrintMore Go.Proofs.Ytlipbiihemhieaa.Q

theorem goT_snoc (c : Int) : ∀ (p : List Int) (T : List (List Int)) (s : List Int), goT T s (p ++ [c]) = stepT (goT T s p) (s ++ p ++ [c])
  | [], T, s => by simp [goT]
  | d :: p, T, s => by
    show goT (stepT T (s ++ [d])) (s ++ [d]) (p ++ [c]) = _
    rw [goT_snoc c p]
    show stepT (goT (stepT T (s ++ [d])) (s ++ [d]) p) _ = stepT (goT (stepT T (s ++ [d])) (s ++ [d]) p) _
    congr 1; simp
theorem goT_short : ∀ (p : List Int) (T : List (List Int)) (s : List Int) (m : Nat), (∀ t ∈ T, t.length ≤ m) → s.length + p.length ≤ m → ∀ t ∈ goT T s p, t.length ≤ m
  | [], T, s, m, h, hs => h
  | c :: r, T, s, m, h, hs => by
    simp only [List.length_cons] at hs
    refine goT_short r (stepT T (s ++ [c])) (s ++ [c]) m (fun t ht => ?_) (by simp; omega)
    unfold stepT at ht
    split at ht
    · exact h t ht
    · rcases List.mem_append.1 ht with ht | ht
      · exact h t ht
      · rw [List.mem_singleton.1 ht]; simp; omega
theorem allT_short : ∀ (R T : List (List Int)) (m : Nat), (∀ t ∈ T, t.length ≤ m) → (∀ p ∈ R, p.length ≤ m) → ∀ t ∈ allT T R, t.length ≤ m
  | [], T, m, h, hp => h
  | p :: R, T, m, h, hp => allT_short R (goT T [] p) m (goT_short p T [] m h (by have := hp p (by simp); simpa using this)) (fun q hq => hp q (by simp [hq]))
abbrev stepL := stepT
theorem stepL_in {T : List (List Int)} {t : List Int} (h : t ∈ T) : stepL T t = T := by unfold stepL stepT; rw [if_pos h]
theorem stepL_out {T : List (List Int)} {t : List Int} (h : t ∉ T) : stepL T t = T ++ [t] := by unfold stepL stepT; rw [if_neg h]
end Go.Proofs.Ytlipbiihemhieaa.K

-- from Qf52
-- Made by hp.py, a program of this session, with the kit's printer. Not trusted: Lean checks it.
namespace Go.Proofs.Ytlipbiihemhieaa.Q
open Go.RowKit Go.Proofs.YtlipbiihemhieaaW.PrintWords Go.Proofs.YtlipbiihemhieaaW.PrintLast Go.Proofs.YtlipbiihemhieaaW.PrintMore
attribute [local go_sem] max2_int min2_int max_two min_two max_three min_three max_four min_four   -- for this text's walks alone
set_option linter.unusedVariables false
set_option linter.unusedSimpArgs false

/-! ### paronymref22_Edges: function 52 -/
mutual
def paronymref22_Edges.l0 : Nat → List (List Int) → List Int → List Int → Int → Option (List Int)
  | 0, _, _, _, _ => none
  | k + 1, x0, x1, x5, x6 => if x6 < (x0.length : Int) then (if 0 ≤ x6 then (if ((rd_L1 x0 x6).length : Int) = (wrap64 ((x1.length : Int) + 1)) then (if 0 ≤ (wrap64 (((rd_L1 x0 x6).length : Int) - 1)) then (if (wrap64 (((rd_L1 x0 x6).length : Int) - 1)) ≤ ((rd_L1 x0 x6).length : Int) then ((paronymref01_Same.f k ((rd_L1 x0 x6).take ((wrap64 (((rd_L1 x0 x6).length : Int) - 1)) : Int).toNat) x1).bind fun t107 => (paronymref22_Edges.j1 k x0 x1 x5 x6 ((rd_L1 x0 x6).length : Int) (!t107))) else (none)) else (none)) else (paronymref22_Edges.j1 k x0 x1 x5 x6 ((rd_L1 x0 x6).length : Int) true)) else (none)) else (some x5)
def paronymref22_Edges.j1 : Nat → List (List Int) → List Int → List Int → Int → Int → Bool → Option (List Int)
  | 0, _, _, _, _, _, _ => none
  | k + 1, x0, x1, x5, x6, x7, x38 => if x38 = true then (paronymref22_Edges.l0 k x0 x1 x5 (wrap64 (x6 + 1))) else (if 0 ≤ x6 then (if x6 < (x0.length : Int) then (if 0 ≤ (wrap64 (x7 - 1)) then (if (wrap64 (x7 - 1)) < ((rd_L1 x0 x6).length : Int) then (paronymref22_Edges.l1 k x0 x1 x5 x6 (rd (rd_L1 x0 x6) (wrap64 (x7 - 1))) (x5.length : Int)) else (none)) else (none)) else (none)) else (none))
def paronymref22_Edges.l1 : Nat → List (List Int) → List Int → List Int → Int → Int → Int → Option (List Int)
  | 0, _, _, _, _, _, _ => none
  | k + 1, x0, x1, x5, x6, x8, x9 => if x9 > 0 then (if 0 ≤ (wrap64 (x9 - 1)) then (if (wrap64 (x9 - 1)) < (x5.length : Int) then (if (rd x5 (wrap64 (x9 - 1))) > x8 then (paronymref22_Edges.l1 k x0 x1 x5 x6 x8 (wrap64 (x9 - 1))) else (if 0 ≤ x9 then (if x9 ≤ (x5.length : Int) then ((some (x5.take (x9 : Int).toNat : List Int)).bind fun y111 => (if ([] : List Int).length + y111.length < 17592186044416 then ((some (([] : List Int) ++ y111 : List Int)).bind fun y115 => (if y115.length < 17592186044416 then ((some (y115 ++ [x8] : List Int)).bind fun y118 => ((some (x5.drop (x9 : Int).toNat : List Int)).bind fun y121 => (if y118.length + y121.length < 17592186044416 then (paronymref22_Edges.l0 k x0 x1 (y118 ++ y121) (wrap64 (x6 + 1))) else (none)))) else (none))) else (none))) else (none)) else (none))) else (none)) else (none)) else (if 0 ≤ x9 then (if x9 ≤ (x5.length : Int) then ((some (x5.take (x9 : Int).toNat : List Int)).bind fun y128 => (if ([] : List Int).length + y128.length < 17592186044416 then ((some (([] : List Int) ++ y128 : List Int)).bind fun y132 => (if y132.length < 17592186044416 then ((some (y132 ++ [x8] : List Int)).bind fun y135 => ((some (x5.drop (x9 : Int).toNat : List Int)).bind fun y138 => (if y135.length + y138.length < 17592186044416 then (paronymref22_Edges.l0 k x0 x1 (y135 ++ y138) (wrap64 (x6 + 1))) else (none)))) else (none))) else (none))) else (none)) else (none))
end
def paronymref22_Edges.f (k : Nat) (l0 : List (List Int)) (l1 : List Int) : Option (List Int) := paronymref22_Edges.l0 k l0 l1 ([] : List Int) 0
theorem paronymref22_Edges.mono_l : ∀ k, (∀ y0 y1 y2 y3, LeO (paronymref22_Edges.l0 k y0 y1 y2 y3) (paronymref22_Edges.l0 (k + 1) y0 y1 y2 y3)) ∧ (∀ y0 y1 y2 y3 y4 y5, LeO (paronymref22_Edges.j1 k y0 y1 y2 y3 y4 y5) (paronymref22_Edges.j1 (k + 1) y0 y1 y2 y3 y4 y5)) ∧ (∀ y0 y1 y2 y3 y4 y5, LeO (paronymref22_Edges.l1 k y0 y1 y2 y3 y4 y5) (paronymref22_Edges.l1 (k + 1) y0 y1 y2 y3 y4 y5))
  | 0 => ⟨fun _ _ _ _ r h => by simp [paronymref22_Edges.l0] at h, fun _ _ _ _ _ _ r h => by simp [paronymref22_Edges.j1] at h, fun _ _ _ _ _ _ r h => by simp [paronymref22_Edges.l1] at h⟩
  | k + 1 => by
    obtain ⟨ih0, ih1, ih2⟩ := paronymref22_Edges.mono_l k
    refine ⟨?_, ?_, ?_⟩
    · intro y0 y1 y2 y3
      unfold paronymref22_Edges.l0
      repeat' first
      | (with_reducible exact ih0 _ _ _ _)
      | (with_reducible exact ih1 _ _ _ _ _ _)
      | (with_reducible exact ih2 _ _ _ _ _ _)
      | (with_reducible exact paronymref01_Same.mono _ _ _)
      | (with_reducible exact LeO.refl _)
      | (with_reducible exact LeO.none _)
      | (with_reducible refine LeO.ite ?_ ?_)
      | (with_reducible refine LeO.bind ?_ (fun _ => ?_))
      | exact ih0 _ _ _ _
      | exact ih1 _ _ _ _ _ _
      | exact ih2 _ _ _ _ _ _
      | exact paronymref01_Same.mono _ _ _
      | exact LeO.none _
      | refine LeO.ite ?_ ?_
      | refine LeO.bind ?_ (fun _ => ?_)
    · intro y0 y1 y2 y3 y4 y5
      unfold paronymref22_Edges.j1
      repeat' first
      | (with_reducible exact ih0 _ _ _ _)
      | (with_reducible exact ih1 _ _ _ _ _ _)
      | (with_reducible exact ih2 _ _ _ _ _ _)
      | (with_reducible exact paronymref01_Same.mono _ _ _)
      | (with_reducible exact LeO.refl _)
      | (with_reducible exact LeO.none _)
      | (with_reducible refine LeO.ite ?_ ?_)
      | (with_reducible refine LeO.bind ?_ (fun _ => ?_))
      | exact ih0 _ _ _ _
      | exact ih1 _ _ _ _ _ _
      | exact ih2 _ _ _ _ _ _
      | exact paronymref01_Same.mono _ _ _
      | exact LeO.none _
      | refine LeO.ite ?_ ?_
      | refine LeO.bind ?_ (fun _ => ?_)
    · intro y0 y1 y2 y3 y4 y5
      unfold paronymref22_Edges.l1
      repeat' first
      | (with_reducible exact ih0 _ _ _ _)
      | (with_reducible exact ih1 _ _ _ _ _ _)
      | (with_reducible exact ih2 _ _ _ _ _ _)
      | (with_reducible exact paronymref01_Same.mono _ _ _)
      | (with_reducible exact LeO.refl _)
      | (with_reducible exact LeO.none _)
      | (with_reducible refine LeO.ite ?_ ?_)
      | (with_reducible refine LeO.bind ?_ (fun _ => ?_))
      | exact ih0 _ _ _ _
      | exact ih1 _ _ _ _ _ _
      | exact ih2 _ _ _ _ _ _
      | exact paronymref01_Same.mono _ _ _
      | exact LeO.none _
      | refine LeO.ite ?_ ?_
      | refine LeO.bind ?_ (fun _ => ?_)
theorem paronymref22_Edges.mono : ∀ a0 a1 k, LeO (paronymref22_Edges.f k a0 a1) (paronymref22_Edges.f (k + 1) a0 a1) := by
  intro a0 a1 k
  obtain ⟨ih0, ih1, ih2⟩ := paronymref22_Edges.mono_l k
  unfold paronymref22_Edges.f
  repeat' first
      | (with_reducible exact ih0 _ _ _ _)
      | (with_reducible exact ih1 _ _ _ _ _ _)
      | (with_reducible exact ih2 _ _ _ _ _ _)
      | (with_reducible exact paronymref01_Same.mono _ _ _)
      | (with_reducible exact LeO.refl _)
      | (with_reducible exact LeO.none _)
      | (with_reducible refine LeO.ite ?_ ?_)
      | (with_reducible refine LeO.bind ?_ (fun _ => ?_))
      | exact ih0 _ _ _ _
      | exact ih1 _ _ _ _ _ _
      | exact ih2 _ _ _ _ _ _
      | exact paronymref01_Same.mono _ _ _
      | exact LeO.none _
      | refine LeO.ite ?_ ?_
      | refine LeO.bind ?_ (fun _ => ?_)
set_option maxHeartbeats 8000000 in
set_option maxRecDepth 100000 in
theorem paronymref22_Edges.calls (k : Nat) (A0 : Option Addr) (c0 : Nat) (l0 : List (List Int)) (A1 : Option Addr) (c1 : Nat) (l1 : List Int) (r : List Int) (w : World) (hr0 : Kd.C (Kd.slice 3 (Kd.int .i64)) w A0 l0.length l0) (hc0 : l0.length ≤ c0) (hr1 : Kd.C (Kd.int .i64) w A1 l1.length l1) (hc1 : l1.length ≤ c1) (h : paronymref22_Edges.f k l0 l1 = some r) :
    Calls Try.prog 52 #[.slice A0 l0.length c0, .slice A1 l1.length c1] w fun e w' => ∃ v0_ : Value, e = .returned (v0_) ∧ Kd.R (Kd.int .i64) 3 w' w.heap.size (fun _ => True) v0_ r ∧ Below w.heap.size w w' := by
  have HR0 := Aside0.mk hr0
  have HC0 := Aside0.mk hc0
  clear hr0 hc0
  have HR1 := Aside0.mk hr1
  have HC1 := Aside0.mk hc1
  clear hr1 hc1
  have HB := Aside0.mk (Below.refl w.heap.size w)
  have H : (paronymref22_Edges.l0 k l0 l1 ([] : List Int) 0) = some r := h
  clear h
  have H' := Aside0.mk H
  clear H
  go_enter Try.func52, Try.ntmps52
  go_wp2
  go_loopg [5, 6] k (fun kq v5 v6 w' => ∃ (x5_1 : List Int) (x6_1 : Int), v6 = .int .i64 x6_1 ∧ Aside0 (paronymref22_Edges.l0 kq l0 l1 x5_1 x6_1 = some r) ∧ Aside0 (kq ≤ k) ∧ Aside0 (Kd.R (Kd.int .i64) 3 w' w.heap.size (fun _ => True) v5 x5_1) ∧ Aside0 (Below w.heap.size w w'))
  case atStart => exact ⟨(([] : List Int)), (0), (by first | rfl | (simp; done) | (simp [*]; done)), H', ⟨Nat.le_refl _⟩, ⟨by first | exact Kd.R_nil _ _ _ _ _ | exact Kd.N_nil _ _ _ _ _ | exact Kd.V_nil _ _ _ _ _ | exact Kd.Q_nil _ _ _ _ _ | exact Kd.S_nil _ _ _ _ _⟩, ⟨by repeat (first | (with_reducible first | exact HB.out | apply below_alloc | apply pw_below_drewN | apply below_drew1) | exact HB.out)⟩⟩
  case round =>
    clear H'
    try clear c1
    try clear p2
    obtain ⟨x5_1, x6_1, rfl, HA, HK1, HO_5, HB⟩ := hrel
    cases gk with
    | zero => exact absurd HA.out (by simp [paronymref22_Edges.l0])
    | succ k1 =>
      have H := HA.out
      clear HA
      simp only [paronymref22_Edges.l0] at H
      by_cases c3 : x6_1 < (l0.length : Int)
      · rw [if_pos c3] at H
        have c3b0 : decide (x6_1 < (l0.length : Int)) = true := decide_eq_true c3
        clear c3
        by_cases c4 : 0 ≤ x6_1
        · rw [if_pos c4] at H
          have c4b0 : decide (0 ≤ x6_1) = true := decide_eq_true c4
          clear c4
          have HC5 := Aside0.mk H
          clear H
          have p101 : 0 ≤ (x6_1 : Int) := of_decide_eq_true (by first | (with_reducible assumption) | assumption)
          have q101 : x6_1 < (l0.length : Int) := of_decide_eq_true (by first | (with_reducible assumption) | assumption)
          obtain ⟨ad101, A101_0, c101_0, e101, hx101_0, hl101_0, hi101_0⟩ := at_L1 HR0.out x6_1 p101 q101
          cases e101
          replace hx101_0 := (HB.out.cell (World.block_lt_of_cell? w _ hx101_0)).trans hx101_0
          have HR101_0 := Aside0.mk hi101_0
          have HC101_0 := Aside0.mk hl101_0
          clear hi101_0 hl101_0
          replace p101 := eq_true p101
          replace q101 := eq_true q101
          go_upto_region 6 with (fail)
          go_cut [38] (fun v38 wc => ∃ (kq : Nat) (x38_4 : Bool), v38 = .bool x38_4 ∧ Aside0 (paronymref22_Edges.j1 kq l0 l1 x5_1 x6_1 ((rd_L1 l0 x6_1).length : Int) x38_4 = some r) ∧ Aside0 (kq ≤ k1) ∧ Aside0 (Kd.R (Kd.int .i64) 3 wc w.heap.size (fun _ => True) u5 x5_1) ∧ Aside0 (Below w.heap.size w wc))
          case first =>
            have H := HC5.out
            clear HC5
            by_cases c6 : ((rd_L1 l0 x6_1).length : Int) = (wrap64 ((l1.length : Int) + 1))
            · rw [if_pos c6] at H
              have c6b0 : (((rd_L1 l0 x6_1).length : Int) == (wrap64 ((l1.length : Int) + 1))) = true := beq_iff_eq.mpr c6
              have c6b1 : (((rd_L1 l0 x6_1).length : Int) != (wrap64 ((l1.length : Int) + 1))) = false := bne_eq_false_iff_eq.mpr c6
              clear c6
              (first | rw [c6b0] | (simp only [i64_w, i32_w]; rw [c6b0]) | rw [c6b1] | (simp only [i64_w, i32_w]; rw [c6b1]) | skip)
              obtain ⟨ji7, hji7⟩ : ∃ j_ : Int, (wrap64 (((rd_L1 l0 x6_1).length : Int) - 1)) = j_ := ⟨_, rfl⟩
              replace H : (if 0 ≤ (ji7) then (if (ji7) ≤ ((rd_L1 l0 x6_1).length : Int) then ((paronymref01_Same.f k1 ((rd_L1 l0 x6_1).take ((ji7) : Int).toNat) l1).bind fun t107 => (paronymref22_Edges.j1 k1 l0 l1 x5_1 x6_1 ((rd_L1 l0 x6_1).length : Int) (!t107))) else (none)) else (none)) = some r := by first | (rw [hji7] at H; exact H) | (simp only [hji7] at H ⊢; exact H)
              have hji7w : (IntKind.i64.wrap (((rd_L1 l0 x6_1).length : Int) - 1)) = ji7 := (i64_w _).trans hji7
              by_cases c8 : 0 ≤ (ji7)
              · rw [if_pos c8] at H
                have c8b0 := eq_true c8
                have c8b1 : decide (0 ≤ (ji7)) = true := decide_eq_true c8
                clear c8
                by_cases c9 : (ji7) ≤ ((rd_L1 l0 x6_1).length : Int)
                · rw [if_pos c9] at H
                  have c9b0 := eq_true c9
                  have c9b1 : decide ((ji7) ≤ ((rd_L1 l0 x6_1).length : Int)) = true := decide_eq_true c9
                  clear c9
                  obtain ⟨y103, hy103⟩ : ∃ y_ : List Int, y_ = ((rd_L1 l0 x6_1).take ((ji7) : Int).toNat) := ⟨_, rfl⟩
                  replace H : ((paronymref01_Same.f k1 y103 l1).bind fun t107 => (paronymref22_Edges.j1 k1 l0 l1 x5_1 x6_1 ((rd_L1 l0 x6_1).length : Int) (!t107))) = some r := by first | (rw [hy103]; with_reducible exact H) | (have H2_ := (Option.bind_some _ _).symm.trans H; rw [hy103]; with_reducible exact H2_) | (have H2_ := (Option.bind_some _ _).symm.trans H; with_reducible exact H2_) | with_reducible exact H | (rw [hy103]; exact H) | exact H
                  have Ny103 := Aside0.mk hy103
                  clear hy103
                  replace H := Option.bind_eq_some_iff.mp H
                  obtain ⟨t107, A100, H⟩ := H
                  replace H : (paronymref22_Edges.j1 k1 l0 l1 x5_1 x6_1 ((rd_L1 l0 x6_1).length : Int) (!t107)) = some r := H
                  have A10 := Aside0.mk A100
                  clear A100
                  have H' := Aside0.mk H
                  clear H
                  have p102 : 0 ≤ (x6_1 : Int) := of_decide_eq_true (by first | (with_reducible assumption) | assumption)
                  have q102 : x6_1 < (l0.length : Int) := of_decide_eq_true (by first | (with_reducible assumption) | assumption)
                  obtain ⟨ad102, A102_0, c102_0, e102, hx102_0, hl102_0, hi102_0⟩ := at_L1 HR0.out x6_1 p102 q102
                  obtain rfl : ad101 = ad102 := (by injection e102)
                  replace hx102_0 := (HB.out.cell (World.block_lt_of_cell? w _ hx102_0)).trans hx102_0
                  try clear hx101_0
                  have HR102_0 := Aside0.mk hi102_0
                  have HC102_0 := Aside0.mk hl102_0
                  clear hi102_0 hl102_0
                  replace p102 := eq_true p102
                  replace q102 := eq_true q102
                  have q11 : ((ji7) : Int) ≤ (((rd_L1 l0 x6_1).length : Int) : Int) := of_decide_eq_true (by first | (with_reducible assumption) | assumption)
                  obtain ⟨i011, hi011, _, hsz11, _⟩ := info_parts info3
                  have hroom11 : (rd_L1 l0 x6_1).length ≤ c102_0 := HC102_0.out
                  have hC11 : Kd.C (Kd.int .i64) _ A102_0 (rd_L1 l0 x6_1).length (rd_L1 l0 x6_1) := HR102_0.out
                  have hcut11 := cut_to (P := Try.prog) 22 3 .i64 Try.underlying22 hi011 A102_0 (rd_L1 l0 x6_1).length c102_0 (ji7) (of_decide_eq_true (by first | (with_reducible assumption) | assumption)) q11 hroom11
                  have hr11 := Kd.C_take (m := ((ji7) : Int).toNat) hC11 (by omega)
                  have hy11 : y103.length = ((ji7) : Int).toNat := (by rw [Ny103.out, List.length_take]; omega)
                  rw [← Ny103.out] at hr11
                  rw [← hy11] at hcut11
                  have HR106 := Aside0.mk hr11
                  have HC106 := Aside0.mk (show y103.length ≤ c102_0 from by omega)
                  clear hr11 hC11 hroom11 hi011 hsz11
                  have KY11 := Aside0.mk hy11
                  clear hy11
                  replace q11 := eq_true q11
                  go_wp2_with (first | (go_at_call 20; (with_reducible refine (paronymref01_Same.calls k1 _ _ y103 _ _ l1 t107 _ ?side1 ?side2 ?side3 ?side4 A10.out).mono ?_); (case side1 => repeat (first | exact (Kd.C_below HR106.out HB.out) | (with_reducible refine Kd.C_alloc ?_ _) | (with_reducible refine Kd.C_drewN ?_ _) | (with_reducible refine Kd.C_drew ?_))); (case side2 => exact HC106.out); (case side3 => repeat (first | exact (Kd.C_below HR1.out HB.out) | (with_reducible refine Kd.C_alloc ?_ _) | (with_reducible refine Kd.C_drewN ?_ _) | (with_reducible refine Kd.C_drew ?_))); (case side4 => exact HC1.out); rintro e w' ⟨rfl, ⟨nd, rfl⟩⟩))
                  go_meet
                  case rel => exact ⟨_, (!t107), (by first | rfl | (simp; done) | (simp [*]; done)), H', ⟨by have := HK1.out; first | omega | exact Nat.le_refl _⟩, ⟨by (with_reducible repeat (first | apply Kd.R_alloc | apply Kd.R_drewN | apply Kd.R_drew)); exact HO_5.out⟩, ⟨by repeat (first | (with_reducible first | exact HB.out | apply below_alloc | apply pw_below_drewN | apply below_drew1) | exact HB.out)⟩⟩
                · rw [if_neg c9] at H
                  exact absurd H (by simp)
              · rw [if_neg c8] at H
                exact absurd H (by simp)
            · rw [if_neg c6] at H
              have c6b0 : (((rd_L1 l0 x6_1).length : Int) == (wrap64 ((l1.length : Int) + 1))) = false := beq_eq_false_iff_ne.mpr c6
              have c6b1 : (((rd_L1 l0 x6_1).length : Int) != (wrap64 ((l1.length : Int) + 1))) = true := bne_iff_ne.mpr c6
              (first | rw [c6b0] | (simp only [i64_w, i32_w]; rw [c6b0]) | rw [c6b1] | (simp only [i64_w, i32_w]; rw [c6b1]) | skip)
              have H' := Aside0.mk H
              clear H
              go_wp2
              go_meet
              case rel => exact ⟨_, (true), (by first | rfl | (simp; done) | (simp [*]; done)), H', ⟨by have := HK1.out; first | omega | exact Nat.le_refl _⟩, ⟨by (with_reducible repeat (first | apply Kd.R_alloc | apply Kd.R_drewN | apply Kd.R_drew)); exact HO_5.out⟩, ⟨by repeat (first | (with_reducible first | exact HB.out | apply below_alloc | apply pw_below_drewN | apply below_drew1) | exact HB.out)⟩⟩
          case rest =>
            clear HC5
            try clear c1
            try clear p1
            try clear q1
            try clear hx1
            try clear p2
            try clear c3
            try clear c3b0
            try clear c4
            try clear c4b0
            try clear c5
            try clear c6
            try clear c6b0
            try clear c6b1
            try clear p6
            try clear c8
            try clear c8b0
            try clear c8b1
            try clear c9
            try clear c9b0
            try clear c9b1
            try clear c10
            try clear p10
            try clear q10
            try clear hx10
            try clear q11
            try clear hx101_0
            try clear hx102_0
            try clear p101
            try clear p102
            try clear p2
            try clear q101
            try clear q102
            try clear q11
            obtain ⟨kq, x38_4, rfl, HA, HJ4, HO_5, HB⟩ := hcut
            cases kq with
            | zero => exact absurd HA.out (by simp [paronymref22_Edges.j1])
            | succ kj4 =>
              have H := HA.out
              clear HA
              simp only [paronymref22_Edges.j1] at H
              by_cases c12 : x38_4 = true
              · subst c12
                have H1 : (paronymref22_Edges.l0 kj4 l0 l1 x5_1 (wrap64 (x6_1 + 1))) = some r := by rw [if_pos rfl] at H; exact H
                clear H
                have H := H1
                clear H1
                have H' := Aside0.mk H
                clear H
                go_wp2
                go_roundg kj4
                case measure => have := HK1.out; have := HJ4.out; omega
                case rel => exact ⟨(x5_1), (wrap64 (x6_1 + 1)), (by first | rfl | (simp; done) | (simp [*]; done)), H', ⟨by have := HK1.out; have := HJ4.out; omega⟩, ⟨by (with_reducible repeat (first | apply Kd.R_alloc | apply Kd.R_drewN | apply Kd.R_drew)); exact HO_5.out⟩, ⟨by repeat (first | (with_reducible first | exact HB.out | apply below_alloc | apply pw_below_drewN | apply below_drew1) | exact HB.out)⟩⟩
              · replace c12 := Bool.eq_false_iff.mpr c12
                subst c12
                have H1 : (if 0 ≤ x6_1 then (if x6_1 < (l0.length : Int) then (if 0 ≤ (wrap64 (((rd_L1 l0 x6_1).length : Int) - 1)) then (if (wrap64 (((rd_L1 l0 x6_1).length : Int) - 1)) < ((rd_L1 l0 x6_1).length : Int) then (paronymref22_Edges.l1 kj4 l0 l1 x5_1 x6_1 (rd (rd_L1 l0 x6_1) (wrap64 (((rd_L1 l0 x6_1).length : Int) - 1))) (x5_1.length : Int)) else (none)) else (none)) else (none)) else (none)) = some r := by rw [if_neg (show ¬ (false = true) by decide)] at H; exact H
                clear H
                have H := H1
                clear H1
                by_cases c13 : 0 ≤ x6_1
                · rw [if_pos c13] at H
                  have c13b0 : decide (0 ≤ x6_1) = true := decide_eq_true c13
                  clear c13
                  by_cases c14 : x6_1 < (l0.length : Int)
                  · rw [if_pos c14] at H
                    have c14b0 : decide (x6_1 < (l0.length : Int)) = true := decide_eq_true c14
                    clear c14
                    obtain ⟨ji15, hji15⟩ : ∃ j_ : Int, (wrap64 (((rd_L1 l0 x6_1).length : Int) - 1)) = j_ := ⟨_, rfl⟩
                    replace H : (if 0 ≤ (ji15) then (if (ji15) < ((rd_L1 l0 x6_1).length : Int) then (paronymref22_Edges.l1 kj4 l0 l1 x5_1 x6_1 (rd (rd_L1 l0 x6_1) (ji15)) (x5_1.length : Int)) else (none)) else (none)) = some r := by first | (rw [hji15] at H; exact H) | (simp only [hji15] at H ⊢; exact H)
                    have hji15w : (IntKind.i64.wrap (((rd_L1 l0 x6_1).length : Int) - 1)) = ji15 := (i64_w _).trans hji15
                    by_cases c16 : 0 ≤ (ji15)
                    · rw [if_pos c16] at H
                      have c16b0 : decide (0 ≤ (ji15)) = true := decide_eq_true c16
                      clear c16
                      by_cases c17 : (ji15) < ((rd_L1 l0 x6_1).length : Int)
                      · rw [if_pos c17] at H
                        have c17b0 : decide ((ji15) < ((rd_L1 l0 x6_1).length : Int)) = true := decide_eq_true c17
                        clear c17
                        have H' := Aside0.mk H
                        clear H
                        have p108 : 0 ≤ (x6_1 : Int) := of_decide_eq_true (by first | (with_reducible assumption) | assumption)
                        have q108 : x6_1 < (l0.length : Int) := of_decide_eq_true (by first | (with_reducible assumption) | assumption)
                        obtain ⟨ad108, A108_0, c108_0, e108, hx108_0, hl108_0, hi108_0⟩ := at_L1 HR0.out x6_1 p108 q108
                        obtain rfl : ad101 = ad108 := (by injection e108)
                        replace hx108_0 := (HB.out.cell (World.block_lt_of_cell? w _ hx108_0)).trans hx108_0
                        try clear hx101_0
                        have HR108_0 := Aside0.mk hi108_0
                        have HC108_0 := Aside0.mk hl108_0
                        clear hi108_0 hl108_0
                        replace p108 := eq_true p108
                        replace q108 := eq_true q108
                        have p109 : 0 ≤ ((ji15) : Int) := of_decide_eq_true (by first | (with_reducible assumption) | assumption)
                        have q109 : (ji15) < ((rd_L1 l0 x6_1).length : Int) := of_decide_eq_true (by first | (with_reducible assumption) | assumption)
                        obtain ⟨ad109, e109, hx109_0⟩ := Kd.at_int HR108_0.out (ji15) p109 q109
                        cases e109
                        replace hx109_0 := (HB.out.cell (World.block_lt_of_cell? w _ hx109_0)).trans hx109_0
                        replace p109 := eq_true p109
                        replace q109 := eq_true q109
                        obtain ⟨Ao18, co18, eo18⟩ := Kd.R_slice HO_5.out
                        subst eo18
                        go_wp2
                        go_loopg [9] kj4 (fun kq v9 w' => ∃ (x9_3 : Int), v9 = .int .i64 x9_3 ∧ Aside0 (paronymref22_Edges.l1 kq l0 l1 x5_1 x6_1 (rd (rd_L1 l0 x6_1) (ji15)) x9_3 = some r) ∧ Aside0 (kq ≤ kj4) ∧ Aside0 (Kd.R (Kd.int .i64) 3 w' w.heap.size (fun _ => True) (.slice Ao18 x5_1.length co18) x5_1) ∧ Aside0 (Below w.heap.size w w'))
                        case atStart => exact ⟨((x5_1.length : Int)), (by first | rfl | (simp; done) | (simp [*]; done)), H', ⟨Nat.le_refl _⟩, ⟨by (with_reducible repeat (first | apply Kd.R_alloc | apply Kd.R_drewN | apply Kd.R_drew)); exact HO_5.out⟩, ⟨by repeat (first | (with_reducible first | exact HB.out | apply below_alloc | apply pw_below_drewN | apply below_drew1) | exact HB.out)⟩⟩
                        case round =>
                          clear H'
                          try clear c1
                          try clear p1
                          try clear q1
                          try clear hx1
                          try clear p2
                          try clear c3
                          try clear c3b0
                          try clear c4
                          try clear c4b0
                          try clear c5
                          try clear c6
                          try clear c6b0
                          try clear c6b1
                          try clear p6
                          try clear c8
                          try clear c8b0
                          try clear c8b1
                          try clear c9
                          try clear c9b0
                          try clear c9b1
                          try clear c10
                          try clear p10
                          try clear q10
                          try clear hx10
                          try clear q11
                          try clear c12
                          try clear c13
                          try clear c13b0
                          try clear c14
                          try clear c14b0
                          try clear c16
                          try clear c16b0
                          try clear c17
                          try clear c17b0
                          try clear hx101_0
                          try clear hx102_0
                          try clear hx108_0
                          try clear hx109_0
                          try clear p1
                          try clear p10
                          try clear p101
                          try clear p102
                          try clear p108
                          try clear p109
                          try clear p2
                          try clear p6
                          try clear q1
                          try clear q10
                          try clear q101
                          try clear q102
                          try clear q108
                          try clear q109
                          try clear q11
                          obtain ⟨x9_3, rfl, HA, HK3, HO_5, HB⟩ := hrel
                          cases gk with
                          | zero => exact absurd HA.out (by simp [paronymref22_Edges.l1])
                          | succ k3 =>
                            have H := HA.out
                            clear HA
                            simp only [paronymref22_Edges.l1] at H
                            by_cases c19 : x9_3 > 0
                            · rw [if_pos c19] at H
                              have c19b0 : decide (0 < x9_3) = true := decide_eq_true c19
                              clear c19
                              obtain ⟨ji20, hji20⟩ : ∃ j_ : Int, (wrap64 (x9_3 - 1)) = j_ := ⟨_, rfl⟩
                              replace H : (if 0 ≤ (ji20) then (if (ji20) < (x5_1.length : Int) then (if (rd x5_1 (ji20)) > (rd (rd_L1 l0 x6_1) (ji15)) then (paronymref22_Edges.l1 k3 l0 l1 x5_1 x6_1 (rd (rd_L1 l0 x6_1) (ji15)) ji20) else (if 0 ≤ x9_3 then (if x9_3 ≤ (x5_1.length : Int) then ((some (x5_1.take (x9_3 : Int).toNat : List Int)).bind fun y111 => (if ([] : List Int).length + y111.length < 17592186044416 then ((some (([] : List Int) ++ y111 : List Int)).bind fun y115 => (if y115.length < 17592186044416 then ((some (y115 ++ [(rd (rd_L1 l0 x6_1) (ji15))] : List Int)).bind fun y118 => ((some (x5_1.drop (x9_3 : Int).toNat : List Int)).bind fun y121 => (if y118.length + y121.length < 17592186044416 then (paronymref22_Edges.l0 k3 l0 l1 (y118 ++ y121) (wrap64 (x6_1 + 1))) else (none)))) else (none))) else (none))) else (none)) else (none))) else (none)) else (none)) = some r := by first | (rw [hji20] at H; exact H) | (simp only [hji20] at H ⊢; exact H)
                              have hji20w : (IntKind.i64.wrap (x9_3 - 1)) = ji20 := (i64_w _).trans hji20
                              by_cases c21 : 0 ≤ (ji20)
                              · rw [if_pos c21] at H
                                have c21b0 : decide (0 ≤ (ji20)) = true := decide_eq_true c21
                                clear c21
                                by_cases c22 : (ji20) < (x5_1.length : Int)
                                · rw [if_pos c22] at H
                                  have c22b0 : decide ((ji20) < (x5_1.length : Int)) = true := decide_eq_true c22
                                  clear c22
                                  by_cases c23 : (rd x5_1 (ji20)) > (rd (rd_L1 l0 x6_1) (ji15))
                                  · rw [if_pos c23] at H
                                    have c23b0 : decide ((rd (rd_L1 l0 x6_1) (ji15)) < (rd x5_1 (ji20))) = true := decide_eq_true c23
                                    clear c23
                                    have H' := Aside0.mk H
                                    clear H
                                    have p110 : 0 ≤ ((ji20) : Int) := of_decide_eq_true (by first | (with_reducible assumption) | assumption)
                                    have q110 : (ji20) < (x5_1.length : Int) := of_decide_eq_true (by first | (with_reducible assumption) | assumption)
                                    obtain ⟨ad110, e110, hx110_0⟩ := Kd.at_int (Kd.R_reads' HO_5.out).2.2 (ji20) p110 q110
                                    cases e110
                                    replace p110 := eq_true p110
                                    replace q110 := eq_true q110
                                    go_wp2
                                    go_roundg k3
                                    case measure => have := HK1.out; have := HJ4.out; have := HK3.out; omega
                                    case rel => exact ⟨(ji20), (by first | rfl | (simp; done) | (simp only [← hji20] <;> (first | rfl | simp)) | (simp [*]; done)), H', ⟨by have := HK1.out; have := HJ4.out; have := HK3.out; omega⟩, ⟨by (with_reducible repeat (first | apply Kd.R_alloc | apply Kd.R_drewN | apply Kd.R_drew)); exact HO_5.out⟩, ⟨by repeat (first | (with_reducible first | exact HB.out | apply below_alloc | apply pw_below_drewN | apply below_drew1) | exact HB.out)⟩⟩
                                  · rw [if_neg c23] at H
                                    have c23b0 : decide ((rd (rd_L1 l0 x6_1) (ji15)) < (rd x5_1 (ji20))) = false := decide_eq_false c23
                                    clear c23
                                    by_cases c24 : 0 ≤ x9_3
                                    · rw [if_pos c24] at H
                                      have c24b0 := eq_true c24
                                      have c24b1 : decide (0 ≤ x9_3) = true := decide_eq_true c24
                                      clear c24
                                      by_cases c25 : x9_3 ≤ (x5_1.length : Int)
                                      · rw [if_pos c25] at H
                                        have c25b0 := eq_true c25
                                        have c25b1 : decide (x9_3 ≤ (x5_1.length : Int)) = true := decide_eq_true c25
                                        clear c25
                                        obtain ⟨y111, hy111⟩ : ∃ y_ : List Int, y_ = (x5_1.take (x9_3 : Int).toNat) := ⟨_, rfl⟩
                                        replace H : (if ([] : List Int).length + y111.length < 17592186044416 then ((some (([] : List Int) ++ y111 : List Int)).bind fun y115 => (if y115.length < 17592186044416 then ((some (y115 ++ [(rd (rd_L1 l0 x6_1) (ji15))] : List Int)).bind fun y118 => ((some (x5_1.drop (x9_3 : Int).toNat : List Int)).bind fun y121 => (if y118.length + y121.length < 17592186044416 then (paronymref22_Edges.l0 k3 l0 l1 (y118 ++ y121) (wrap64 (x6_1 + 1))) else (none)))) else (none))) else (none)) = some r := by first | (rw [hy111]; with_reducible exact H) | (have H2_ := (Option.bind_some _ _).symm.trans H; rw [hy111]; with_reducible exact H2_) | (have H2_ := (Option.bind_some _ _).symm.trans H; with_reducible exact H2_) | with_reducible exact H | (rw [hy111]; exact H) | exact H
                                        have Ny111 := Aside0.mk hy111
                                        clear hy111
                                        by_cases c26 : ([] : List Int).length + y111.length < 17592186044416
                                        · rw [if_pos c26] at H
                                          have LMc26 := Aside0.mk c26
                                          clear c26
                                          obtain ⟨y115, hy115⟩ : ∃ y_ : List Int, y_ = (([] : List Int) ++ y111) := ⟨_, rfl⟩
                                          replace H : (if y115.length < 17592186044416 then ((some (y115 ++ [(rd (rd_L1 l0 x6_1) (ji15))] : List Int)).bind fun y118 => ((some (x5_1.drop (x9_3 : Int).toNat : List Int)).bind fun y121 => (if y118.length + y121.length < 17592186044416 then (paronymref22_Edges.l0 k3 l0 l1 (y118 ++ y121) (wrap64 (x6_1 + 1))) else (none)))) else (none)) = some r := by first | (rw [hy115]; with_reducible exact H) | (have H2_ := (Option.bind_some _ _).symm.trans H; rw [hy115]; with_reducible exact H2_) | (have H2_ := (Option.bind_some _ _).symm.trans H; with_reducible exact H2_) | with_reducible exact H | (rw [hy115]; exact H) | exact H
                                          have Ny115 := Aside0.mk hy115
                                          clear hy115
                                          by_cases c27 : y115.length < 17592186044416
                                          · rw [if_pos c27] at H
                                            have LMc27 := Aside0.mk c27
                                            clear c27
                                            obtain ⟨y118, hy118⟩ : ∃ y_ : List Int, y_ = (y115 ++ [(rd (rd_L1 l0 x6_1) (ji15))]) := ⟨_, rfl⟩
                                            replace H : ((some (x5_1.drop (x9_3 : Int).toNat : List Int)).bind fun y121 => (if y118.length + y121.length < 17592186044416 then (paronymref22_Edges.l0 k3 l0 l1 (y118 ++ y121) (wrap64 (x6_1 + 1))) else (none))) = some r := by first | (rw [hy118]; with_reducible exact H) | (have H2_ := (Option.bind_some _ _).symm.trans H; rw [hy118]; with_reducible exact H2_) | (have H2_ := (Option.bind_some _ _).symm.trans H; with_reducible exact H2_) | with_reducible exact H | (rw [hy118]; exact H) | exact H
                                            have Ny118 := Aside0.mk hy118
                                            clear hy118
                                            have c28b0 := eq_true (of_decide_eq_true (by first | (with_reducible assumption) | assumption) : 0 ≤ x9_3)
                                            have c29b0 := eq_true (of_decide_eq_true (by first | (with_reducible assumption) | assumption) : x9_3 ≤ (x5_1.length : Int))
                                            obtain ⟨y121, hy121⟩ : ∃ y_ : List Int, y_ = (x5_1.drop (x9_3 : Int).toNat) := ⟨_, rfl⟩
                                            replace H : (if y118.length + y121.length < 17592186044416 then (paronymref22_Edges.l0 k3 l0 l1 (y118 ++ y121) (wrap64 (x6_1 + 1))) else (none)) = some r := by first | (rw [hy121]; with_reducible exact H) | (have H2_ := (Option.bind_some _ _).symm.trans H; rw [hy121]; with_reducible exact H2_) | (have H2_ := (Option.bind_some _ _).symm.trans H; with_reducible exact H2_) | with_reducible exact H | (rw [hy121]; exact H) | exact H
                                            have Ny121 := Aside0.mk hy121
                                            clear hy121
                                            by_cases c30 : y118.length + y121.length < 17592186044416
                                            · rw [if_pos c30] at H
                                              have LMc30 := Aside0.mk c30
                                              clear c30
                                              obtain ⟨y125, hy125⟩ : ∃ y_ : List Int, y_ = (y118 ++ y121) := ⟨_, rfl⟩
                                              replace H : (paronymref22_Edges.l0 k3 l0 l1 y125 (wrap64 (x6_1 + 1))) = some r := by first | (rw [hy125]; with_reducible exact H) | (have H2_ := (Option.bind_some _ _).symm.trans H; rw [hy125]; with_reducible exact H2_) | (have H2_ := (Option.bind_some _ _).symm.trans H; with_reducible exact H2_) | with_reducible exact H | (rw [hy125]; exact H) | exact H
                                              have Ny125 := Aside0.mk hy125
                                              clear hy125
                                              have H' := Aside0.mk H
                                              clear H
                                              have p110 : 0 ≤ ((ji20) : Int) := of_decide_eq_true (by first | (with_reducible assumption) | assumption)
                                              have q110 : (ji20) < (x5_1.length : Int) := of_decide_eq_true (by first | (with_reducible assumption) | assumption)
                                              obtain ⟨ad110, e110, hx110_0⟩ := Kd.at_int (Kd.R_reads' HO_5.out).2.2 (ji20) p110 q110
                                              cases e110
                                              replace p110 := eq_true p110
                                              replace q110 := eq_true q110
                                              have q31 : (x9_3 : Int) ≤ ((x5_1.length : Int) : Int) := of_decide_eq_true (by first | (with_reducible assumption) | assumption)
                                              obtain ⟨i031, hi031, _, hsz31, _⟩ := info_parts info3
                                              have hroom31 : x5_1.length ≤ co18 := (Kd.R_reads' HO_5.out).2.1
                                              have hC31 : Kd.C (Kd.int .i64) _ (some ad110) x5_1.length x5_1 := (Kd.R_reads' HO_5.out).2.2
                                              have hcut31 := cut_to (P := Try.prog) 22 3 .i64 Try.underlying22 hi031 (some ad110) x5_1.length co18 x9_3 (of_decide_eq_true (by first | (with_reducible assumption) | assumption)) q31 hroom31
                                              have hr31 := Kd.C_take (m := (x9_3 : Int).toNat) hC31 (by omega)
                                              have hy31 : y111.length = (x9_3 : Int).toNat := (by rw [Ny111.out, List.length_take]; omega)
                                              rw [← Ny111.out] at hr31
                                              rw [← hy31] at hcut31
                                              have HR114 := Aside0.mk hr31
                                              have HC114 := Aside0.mk (show y111.length ≤ co18 from by omega)
                                              clear hr31 hC31 hroom31 hi031 hsz31
                                              have KY31 := Aside0.mk hy31
                                              clear hy31
                                              have KL31 := Aside0.mk (show (x9_3 : Int).toNat ≤ x5_1.length from by omega)
                                              replace q31 := eq_true q31
                                              go_wp2_with (first | ((with_reducible refine gate_builtin (b := .append) (xs := #[.tmp 62, .tmp 65]) rfl ?_); at_builtin; refine Kd.R_append_rows (Kd.int .i64) (w0 := w) w.heap.size rfl (.tmp 62) (.tmp 65) 22 3 (.int .i64 0) 8 rfl Try.underlying22 info3 rfl (by decide) (by omega) (.slice none 0 0) ([] : List Int) y111 _ _ _ (fun k_ => some k_ ≠ (.slice (some ad110) x5_1.length co18 : Value).ownBlock) (fun _ => False) rfl rfl ?aO ?aR (fun _ _ h => h) (fun _ h => h.elim) ?aF ?aB ?aS ?aL ?_; (case aR => repeat (first | exact (by repeat (first | (with_reducible exact HR114.out) | (with_reducible refine Kd.C_alloc ?_ _) | (with_reducible refine Kd.C_drewN ?_ _) | (with_reducible refine Kd.C_drew ?_) | exact HR114.out)) | (with_reducible refine Kd.C_alloc ?_ _) | (with_reducible refine Kd.C_drewN ?_ _) | (with_reducible refine Kd.C_drew ?_))); (case aB => exact (by repeat (first | (with_reducible first | exact HB.out | apply below_alloc | apply pw_below_drewN | apply below_drew1) | exact HB.out))); (case aF => exact (fun k_ hk => Kd.fresh' (Kd.R_lt (by (with_reducible repeat (first | apply Kd.R_alloc | apply Kd.R_drewN | apply Kd.R_drew)); exact HO_5.out)) k_ hk)); (case aO => exact ((Kd.R_nil _ _ _ _ (fun k_ => some k_ ≠ (.slice (some ad110) x5_1.length co18 : Value).ownBlock)))); (case aS => exact (below_size (by repeat (first | (with_reducible first | exact HB.out | apply below_alloc | apply pw_below_drewN | apply below_drew1) | exact HB.out)))); (case aL => have := LMc26.out; omega); intro v116 w32 ho hb hg hat; rw [← Ny115.out] at ho; have n0_ := Aside0.mk (Kd.R_after (Kd.R_apart_nil (by (with_reducible repeat (first | apply Kd.R_alloc | apply Kd.R_drewN | apply Kd.R_drew)); exact HO_5.out)) hg hat); have n1_ := Aside0.mk (hb); have n2_ := Aside0.mk ((show Kd.C (Kd.int .i64) w32 (some ad110) y111.length y111 from by rw [Ny111.out]; exact Kd.C_take (m := (x9_3 : Int).toNat) ((Kd.R_reads' (Kd.R_after (Kd.R_apart_nil (by (with_reducible repeat (first | apply Kd.R_alloc | apply Kd.R_drewN | apply Kd.R_drew)); exact HO_5.out)) hg hat)).2.2) KL31.out)); have n3_ := Aside0.mk (ho); clear HO_5; clear HB; clear HR114; have HO_5 := n0_; have HB := n1_; have HR114 := n2_; have HO117 := n3_; clear n0_ n1_ n2_ n3_; clear ho hb hg hat) | ((with_reducible refine gate_builtin (b := .append) (xs := #[.tmp 67, .tmp 69]) rfl ?_); at_builtin; refine Kd.R_append (Kd.int .i64) (w0 := w) w.heap.size rfl (.tmp 67) (.tmp 69) 22 3 (.int .i64 0) 8 rfl Try.underlying22 info3 rfl (by decide) (by omega) v116 y115 (rd (rd_L1 l0 x6_1) (ji15)) [.int .i64 (rd (rd_L1 l0 x6_1) (ji15))] (fun k_ => some k_ ≠ (.slice (some ad110) x5_1.length co18 : Value).ownBlock) (fun _ => False) rfl rfl ?aP (fun _ hk => hk.elim) ?aF ?aO ?aB ?aS ?aL ?_; (case aP => exact rfl); (case aB => exact (by repeat (first | (with_reducible first | exact HB.out | apply below_alloc | apply pw_below_drewN | apply below_drew1) | exact HB.out))); (case aF => exact (fun k_ hk => Kd.fresh' (Kd.R_lt (by (with_reducible repeat (first | apply Kd.R_alloc | apply Kd.R_drewN | apply Kd.R_drew)); exact HO_5.out)) k_ hk)); (case aO => exact (by (with_reducible repeat (first | apply Kd.R_alloc | apply Kd.R_drewN | apply Kd.R_drew)); exact HO117.out)); (case aS => exact (below_size (by repeat (first | (with_reducible first | exact HB.out | apply below_alloc | apply pw_below_drewN | apply below_drew1) | exact HB.out)))); (case aL => have := LMc27.out; omega); intro v119 w33 ho hb hg hat; rw [← Ny118.out] at ho; have n0_ := Aside0.mk (Kd.R_after (ok := (fun _ => True)) (by (with_reducible repeat (first | apply Kd.R_alloc | apply Kd.R_drewN | apply Kd.R_drew)); exact HO_5.out) hg hat); have n1_ := Aside0.mk (hb); have n2_ := Aside0.mk ((show Kd.C (Kd.int .i64) w33 (some ad110) y111.length y111 from by rw [Ny111.out]; exact Kd.C_take (m := (x9_3 : Int).toNat) ((Kd.R_reads' (Kd.R_after (ok := (fun _ => True)) (by (with_reducible repeat (first | apply Kd.R_alloc | apply Kd.R_drewN | apply Kd.R_drew)); exact HO_5.out) hg hat)).2.2) KL31.out)); have n3_ := Aside0.mk (ho); clear HO_5; clear HB; clear HR114; clear HO117; have HO_5 := n0_; have HB := n1_; have HR114 := n2_; have HO120 := n3_; clear n0_ n1_ n2_ n3_; clear ho hb hg hat; have q34 : (x9_3 : Int) ≤ ((x5_1.length : Int) : Int) := of_decide_eq_true (by first | (with_reducible assumption) | assumption); obtain ⟨i034, hi034, _, hsz34, _⟩ := info_parts info3; have hroom34 : x5_1.length ≤ co18 := (Kd.R_reads' HO_5.out).2.1; have hC34 : Kd.C (Kd.int .i64) _ (some ad110) x5_1.length x5_1 := (Kd.R_reads' HO_5.out).2.2; have q034 : (0 : Int) ≤ (x9_3 : Int) := of_decide_eq_true (by first | (with_reducible assumption) | assumption); have hcut34 := cut_from (P := Try.prog) 22 3 .i64 Try.underlying22 hi034 1 hsz34 (some ad110) x5_1.length co18 x9_3 q034 q34; have hr34 := Kd.C_drop (m := (x9_3 : Int).toNat) (c := co18) hC34 (by omega) hroom34; obtain ⟨A34, hA34⟩ : ∃ A1, A1 = (if co18 = (x9_3 : Int).toNat then (some ad110) else ((some ad110) : Option Addr).map (·.add ((x9_3 : Int).toNat * 1))) := ⟨_, rfl⟩; obtain ⟨c34, hc34⟩ : ∃ c1, c1 = co18 - (x9_3 : Int).toNat := ⟨_, rfl⟩; have hy34 : y121.length = x5_1.length - (x9_3 : Int).toNat := (by rw [Ny121.out, List.length_drop] <;> omega); rw [show (x5_1).drop (x9_3 : Int).toNat = y121 from Ny121.out.symm] at hr34; replace hr34 : Kd.C (Kd.int .i64) _ A34 y121.length y121 := (by rw [hA34]; exact hr34); rw [← hy34, ← hA34, ← hc34] at hcut34; have HR124 := Aside0.mk hr34; have HC124 := Aside0.mk (show y121.length ≤ c34 from by rw [hy34, hc34]; exact Nat.sub_le_sub_right hroom34 _); clear hr34 hC34 hroom34 hi034 hsz34 hc34; have KY34 := Aside0.mk hy34; have KA34 := Aside0.mk hA34; clear hy34 hA34; have KL34 := Aside0.mk (show (x9_3 : Int).toNat ≤ x5_1.length from by omega); replace q34 := eq_true q34) | ((with_reducible refine gate_builtin (b := .append) (xs := #[.tmp 71, .tmp 74]) rfl ?_); at_builtin; refine Kd.R_append_rows (Kd.int .i64) (w0 := w) w.heap.size rfl (.tmp 71) (.tmp 74) 22 3 (.int .i64 0) 8 rfl Try.underlying22 info3 rfl (by decide) (by omega) v119 y118 y121 _ _ _ (fun k_ => some k_ ≠ (.slice (some ad110) x5_1.length co18 : Value).ownBlock) (fun _ => False) rfl rfl ?aO ?aR (fun _ _ h => h) (fun _ h => h.elim) ?aF ?aB ?aS ?aL ?_; (case aR => repeat (first | exact (by repeat (first | (with_reducible exact HR124.out) | (with_reducible refine Kd.C_alloc ?_ _) | (with_reducible refine Kd.C_drewN ?_ _) | (with_reducible refine Kd.C_drew ?_) | exact HR124.out)) | (with_reducible refine Kd.C_alloc ?_ _) | (with_reducible refine Kd.C_drewN ?_ _) | (with_reducible refine Kd.C_drew ?_))); (case aB => exact (by repeat (first | (with_reducible first | exact HB.out | apply below_alloc | apply pw_below_drewN | apply below_drew1) | exact HB.out))); (case aF => exact (fun k_ hk => Kd.fresh' (Kd.R_lt (by (with_reducible repeat (first | apply Kd.R_alloc | apply Kd.R_drewN | apply Kd.R_drew)); exact HO_5.out)) k_ hk)); (case aO => exact (by (with_reducible repeat (first | apply Kd.R_alloc | apply Kd.R_drewN | apply Kd.R_drew)); exact HO120.out)); (case aS => exact (below_size (by repeat (first | (with_reducible first | exact HB.out | apply below_alloc | apply pw_below_drewN | apply below_drew1) | exact HB.out)))); (case aL => have := LMc30.out; omega); intro v126 w35 ho hb hg hat; rw [← Ny125.out] at ho; have n0_ := Aside0.mk (Kd.R_after (ok := (fun _ => True)) (by (with_reducible repeat (first | apply Kd.R_alloc | apply Kd.R_drewN | apply Kd.R_drew)); exact HO_5.out) hg hat); have n1_ := Aside0.mk (hb); have n2_ := Aside0.mk ((show Kd.C (Kd.int .i64) w35 (some ad110) y111.length y111 from by rw [Ny111.out]; exact Kd.C_take (m := (x9_3 : Int).toNat) ((Kd.R_reads' (Kd.R_after (ok := (fun _ => True)) (by (with_reducible repeat (first | apply Kd.R_alloc | apply Kd.R_drewN | apply Kd.R_drew)); exact HO_5.out) hg hat)).2.2) KL31.out)); have n3_ := Aside0.mk ((show Kd.C (Kd.int .i64) w35 A34 y121.length y121 from by rw [Ny121.out, KA34.out]; exact Kd.C_drop (m := (x9_3 : Int).toNat) (c := co18) ((Kd.R_reads' (Kd.R_after (ok := (fun _ => True)) (by (with_reducible repeat (first | apply Kd.R_alloc | apply Kd.R_drewN | apply Kd.R_drew)); exact HO_5.out) hg hat)).2.2) KL34.out ((Kd.R_reads' (Kd.R_after (ok := (fun _ => True)) (by (with_reducible repeat (first | apply Kd.R_alloc | apply Kd.R_drewN | apply Kd.R_drew)); exact HO_5.out) hg hat)).2.1))); have n4_ := Aside0.mk (ho); clear HO_5; clear HB; clear HR114; clear HR124; clear HO120; have HO_5 := n0_; have HB := n1_; have HR114 := n2_; have HR124 := n3_; have HO127 := n4_; clear n0_ n1_ n2_ n3_ n4_; clear ho hb hg hat))
                                              go_roundg k3
                                              case measure => have := HK1.out; have := HJ4.out; have := HK3.out; omega
                                              case rel => exact ⟨(y125), (wrap64 (x6_1 + 1)), (by first | rfl | (simp; done) | (simp [*]; done)), H', ⟨by have := HK1.out; have := HJ4.out; have := HK3.out; omega⟩, ⟨by (with_reducible repeat (first | apply Kd.R_alloc | apply Kd.R_drewN | apply Kd.R_drew)); exact Kd.R_mono HO127.out (fun _ hk => trivial)⟩, ⟨by repeat (first | (with_reducible first | exact HB.out | apply below_alloc | apply pw_below_drewN | apply below_drew1) | exact HB.out)⟩⟩
                                            · rw [if_neg c30] at H
                                              exact absurd H (by simp)
                                          · rw [if_neg c27] at H
                                            exact absurd H (by simp)
                                        · rw [if_neg c26] at H
                                          exact absurd H (by simp)
                                      · rw [if_neg c25] at H
                                        exact absurd H (by simp)
                                    · rw [if_neg c24] at H
                                      exact absurd H (by simp)
                                · rw [if_neg c22] at H
                                  exact absurd H (by simp)
                              · rw [if_neg c21] at H
                                exact absurd H (by simp)
                            · rw [if_neg c19] at H
                              have c19b0 : decide (0 < x9_3) = false := decide_eq_false c19
                              clear c19
                              by_cases c36 : 0 ≤ x9_3
                              · rw [if_pos c36] at H
                                have c36b0 := eq_true c36
                                have c36b1 : decide (0 ≤ x9_3) = true := decide_eq_true c36
                                clear c36
                                by_cases c37 : x9_3 ≤ (x5_1.length : Int)
                                · rw [if_pos c37] at H
                                  have c37b0 := eq_true c37
                                  have c37b1 : decide (x9_3 ≤ (x5_1.length : Int)) = true := decide_eq_true c37
                                  clear c37
                                  obtain ⟨y128, hy128⟩ : ∃ y_ : List Int, y_ = (x5_1.take (x9_3 : Int).toNat) := ⟨_, rfl⟩
                                  replace H : (if ([] : List Int).length + y128.length < 17592186044416 then ((some (([] : List Int) ++ y128 : List Int)).bind fun y132 => (if y132.length < 17592186044416 then ((some (y132 ++ [(rd (rd_L1 l0 x6_1) (ji15))] : List Int)).bind fun y135 => ((some (x5_1.drop (x9_3 : Int).toNat : List Int)).bind fun y138 => (if y135.length + y138.length < 17592186044416 then (paronymref22_Edges.l0 k3 l0 l1 (y135 ++ y138) (wrap64 (x6_1 + 1))) else (none)))) else (none))) else (none)) = some r := by first | (rw [hy128]; with_reducible exact H) | (have H2_ := (Option.bind_some _ _).symm.trans H; rw [hy128]; with_reducible exact H2_) | (have H2_ := (Option.bind_some _ _).symm.trans H; with_reducible exact H2_) | with_reducible exact H | (rw [hy128]; exact H) | exact H
                                  have Ny128 := Aside0.mk hy128
                                  clear hy128
                                  by_cases c38 : ([] : List Int).length + y128.length < 17592186044416
                                  · rw [if_pos c38] at H
                                    have LMc38 := Aside0.mk c38
                                    clear c38
                                    obtain ⟨y132, hy132⟩ : ∃ y_ : List Int, y_ = (([] : List Int) ++ y128) := ⟨_, rfl⟩
                                    replace H : (if y132.length < 17592186044416 then ((some (y132 ++ [(rd (rd_L1 l0 x6_1) (ji15))] : List Int)).bind fun y135 => ((some (x5_1.drop (x9_3 : Int).toNat : List Int)).bind fun y138 => (if y135.length + y138.length < 17592186044416 then (paronymref22_Edges.l0 k3 l0 l1 (y135 ++ y138) (wrap64 (x6_1 + 1))) else (none)))) else (none)) = some r := by first | (rw [hy132]; with_reducible exact H) | (have H2_ := (Option.bind_some _ _).symm.trans H; rw [hy132]; with_reducible exact H2_) | (have H2_ := (Option.bind_some _ _).symm.trans H; with_reducible exact H2_) | with_reducible exact H | (rw [hy132]; exact H) | exact H
                                    have Ny132 := Aside0.mk hy132
                                    clear hy132
                                    by_cases c39 : y132.length < 17592186044416
                                    · rw [if_pos c39] at H
                                      have LMc39 := Aside0.mk c39
                                      clear c39
                                      obtain ⟨y135, hy135⟩ : ∃ y_ : List Int, y_ = (y132 ++ [(rd (rd_L1 l0 x6_1) (ji15))]) := ⟨_, rfl⟩
                                      replace H : ((some (x5_1.drop (x9_3 : Int).toNat : List Int)).bind fun y138 => (if y135.length + y138.length < 17592186044416 then (paronymref22_Edges.l0 k3 l0 l1 (y135 ++ y138) (wrap64 (x6_1 + 1))) else (none))) = some r := by first | (rw [hy135]; with_reducible exact H) | (have H2_ := (Option.bind_some _ _).symm.trans H; rw [hy135]; with_reducible exact H2_) | (have H2_ := (Option.bind_some _ _).symm.trans H; with_reducible exact H2_) | with_reducible exact H | (rw [hy135]; exact H) | exact H
                                      have Ny135 := Aside0.mk hy135
                                      clear hy135
                                      have c40b0 := eq_true (of_decide_eq_true (by first | (with_reducible assumption) | assumption) : 0 ≤ x9_3)
                                      have c41b0 := eq_true (of_decide_eq_true (by first | (with_reducible assumption) | assumption) : x9_3 ≤ (x5_1.length : Int))
                                      obtain ⟨y138, hy138⟩ : ∃ y_ : List Int, y_ = (x5_1.drop (x9_3 : Int).toNat) := ⟨_, rfl⟩
                                      replace H : (if y135.length + y138.length < 17592186044416 then (paronymref22_Edges.l0 k3 l0 l1 (y135 ++ y138) (wrap64 (x6_1 + 1))) else (none)) = some r := by first | (rw [hy138]; with_reducible exact H) | (have H2_ := (Option.bind_some _ _).symm.trans H; rw [hy138]; with_reducible exact H2_) | (have H2_ := (Option.bind_some _ _).symm.trans H; with_reducible exact H2_) | with_reducible exact H | (rw [hy138]; exact H) | exact H
                                      have Ny138 := Aside0.mk hy138
                                      clear hy138
                                      by_cases c42 : y135.length + y138.length < 17592186044416
                                      · rw [if_pos c42] at H
                                        have LMc42 := Aside0.mk c42
                                        clear c42
                                        obtain ⟨y142, hy142⟩ : ∃ y_ : List Int, y_ = (y135 ++ y138) := ⟨_, rfl⟩
                                        replace H : (paronymref22_Edges.l0 k3 l0 l1 y142 (wrap64 (x6_1 + 1))) = some r := by first | (rw [hy142]; with_reducible exact H) | (have H2_ := (Option.bind_some _ _).symm.trans H; rw [hy142]; with_reducible exact H2_) | (have H2_ := (Option.bind_some _ _).symm.trans H; with_reducible exact H2_) | with_reducible exact H | (rw [hy142]; exact H) | exact H
                                        have Ny142 := Aside0.mk hy142
                                        clear hy142
                                        have H' := Aside0.mk H
                                        clear H
                                        have q43 : (x9_3 : Int) ≤ ((x5_1.length : Int) : Int) := of_decide_eq_true (by first | (with_reducible assumption) | assumption)
                                        obtain ⟨i043, hi043, _, hsz43, _⟩ := info_parts info3
                                        have hroom43 : x5_1.length ≤ co18 := (Kd.R_reads' HO_5.out).2.1
                                        have hC43 : Kd.C (Kd.int .i64) _ Ao18 x5_1.length x5_1 := (Kd.R_reads' HO_5.out).2.2
                                        have hcut43 := cut_to (P := Try.prog) 22 3 .i64 Try.underlying22 hi043 Ao18 x5_1.length co18 x9_3 (of_decide_eq_true (by first | (with_reducible assumption) | assumption)) q43 hroom43
                                        have hr43 := Kd.C_take (m := (x9_3 : Int).toNat) hC43 (by omega)
                                        have hy43 : y128.length = (x9_3 : Int).toNat := (by rw [Ny128.out, List.length_take]; omega)
                                        rw [← Ny128.out] at hr43
                                        rw [← hy43] at hcut43
                                        have HR131 := Aside0.mk hr43
                                        have HC131 := Aside0.mk (show y128.length ≤ co18 from by omega)
                                        clear hr43 hC43 hroom43 hi043 hsz43
                                        have KY43 := Aside0.mk hy43
                                        clear hy43
                                        have KL43 := Aside0.mk (show (x9_3 : Int).toNat ≤ x5_1.length from by omega)
                                        replace q43 := eq_true q43
                                        go_wp2_with (first | ((with_reducible refine gate_builtin (b := .append) (xs := #[.tmp 62, .tmp 65]) rfl ?_); at_builtin; refine Kd.R_append_rows (Kd.int .i64) (w0 := w) w.heap.size rfl (.tmp 62) (.tmp 65) 22 3 (.int .i64 0) 8 rfl Try.underlying22 info3 rfl (by decide) (by omega) (.slice none 0 0) ([] : List Int) y128 _ _ _ (fun k_ => some k_ ≠ (.slice Ao18 x5_1.length co18 : Value).ownBlock) (fun _ => False) rfl rfl ?aO ?aR (fun _ _ h => h) (fun _ h => h.elim) ?aF ?aB ?aS ?aL ?_; (case aR => repeat (first | exact (by repeat (first | (with_reducible exact HR131.out) | (with_reducible refine Kd.C_alloc ?_ _) | (with_reducible refine Kd.C_drewN ?_ _) | (with_reducible refine Kd.C_drew ?_) | exact HR131.out)) | (with_reducible refine Kd.C_alloc ?_ _) | (with_reducible refine Kd.C_drewN ?_ _) | (with_reducible refine Kd.C_drew ?_))); (case aB => exact (by repeat (first | (with_reducible first | exact HB.out | apply below_alloc | apply pw_below_drewN | apply below_drew1) | exact HB.out))); (case aF => exact (fun k_ hk => Kd.fresh' (Kd.R_lt (by (with_reducible repeat (first | apply Kd.R_alloc | apply Kd.R_drewN | apply Kd.R_drew)); exact HO_5.out)) k_ hk)); (case aO => exact ((Kd.R_nil _ _ _ _ (fun k_ => some k_ ≠ (.slice Ao18 x5_1.length co18 : Value).ownBlock)))); (case aS => exact (below_size (by repeat (first | (with_reducible first | exact HB.out | apply below_alloc | apply pw_below_drewN | apply below_drew1) | exact HB.out)))); (case aL => have := LMc38.out; omega); intro v133 w44 ho hb hg hat; rw [← Ny132.out] at ho; have n0_ := Aside0.mk (Kd.R_after (Kd.R_apart_nil (by (with_reducible repeat (first | apply Kd.R_alloc | apply Kd.R_drewN | apply Kd.R_drew)); exact HO_5.out)) hg hat); have n1_ := Aside0.mk (hb); have n2_ := Aside0.mk ((show Kd.C (Kd.int .i64) w44 Ao18 y128.length y128 from by rw [Ny128.out]; exact Kd.C_take (m := (x9_3 : Int).toNat) ((Kd.R_reads' (Kd.R_after (Kd.R_apart_nil (by (with_reducible repeat (first | apply Kd.R_alloc | apply Kd.R_drewN | apply Kd.R_drew)); exact HO_5.out)) hg hat)).2.2) KL43.out)); have n3_ := Aside0.mk (ho); clear HO_5; clear HB; clear HR131; have HO_5 := n0_; have HB := n1_; have HR131 := n2_; have HO134 := n3_; clear n0_ n1_ n2_ n3_; clear ho hb hg hat) | ((with_reducible refine gate_builtin (b := .append) (xs := #[.tmp 67, .tmp 69]) rfl ?_); at_builtin; refine Kd.R_append (Kd.int .i64) (w0 := w) w.heap.size rfl (.tmp 67) (.tmp 69) 22 3 (.int .i64 0) 8 rfl Try.underlying22 info3 rfl (by decide) (by omega) v133 y132 (rd (rd_L1 l0 x6_1) (ji15)) [.int .i64 (rd (rd_L1 l0 x6_1) (ji15))] (fun k_ => some k_ ≠ (.slice Ao18 x5_1.length co18 : Value).ownBlock) (fun _ => False) rfl rfl ?aP (fun _ hk => hk.elim) ?aF ?aO ?aB ?aS ?aL ?_; (case aP => exact rfl); (case aB => exact (by repeat (first | (with_reducible first | exact HB.out | apply below_alloc | apply pw_below_drewN | apply below_drew1) | exact HB.out))); (case aF => exact (fun k_ hk => Kd.fresh' (Kd.R_lt (by (with_reducible repeat (first | apply Kd.R_alloc | apply Kd.R_drewN | apply Kd.R_drew)); exact HO_5.out)) k_ hk)); (case aO => exact (by (with_reducible repeat (first | apply Kd.R_alloc | apply Kd.R_drewN | apply Kd.R_drew)); exact HO134.out)); (case aS => exact (below_size (by repeat (first | (with_reducible first | exact HB.out | apply below_alloc | apply pw_below_drewN | apply below_drew1) | exact HB.out)))); (case aL => have := LMc39.out; omega); intro v136 w45 ho hb hg hat; rw [← Ny135.out] at ho; have n0_ := Aside0.mk (Kd.R_after (ok := (fun _ => True)) (by (with_reducible repeat (first | apply Kd.R_alloc | apply Kd.R_drewN | apply Kd.R_drew)); exact HO_5.out) hg hat); have n1_ := Aside0.mk (hb); have n2_ := Aside0.mk ((show Kd.C (Kd.int .i64) w45 Ao18 y128.length y128 from by rw [Ny128.out]; exact Kd.C_take (m := (x9_3 : Int).toNat) ((Kd.R_reads' (Kd.R_after (ok := (fun _ => True)) (by (with_reducible repeat (first | apply Kd.R_alloc | apply Kd.R_drewN | apply Kd.R_drew)); exact HO_5.out) hg hat)).2.2) KL43.out)); have n3_ := Aside0.mk (ho); clear HO_5; clear HB; clear HR131; clear HO134; have HO_5 := n0_; have HB := n1_; have HR131 := n2_; have HO137 := n3_; clear n0_ n1_ n2_ n3_; clear ho hb hg hat; have q46 : (x9_3 : Int) ≤ ((x5_1.length : Int) : Int) := of_decide_eq_true (by first | (with_reducible assumption) | assumption); obtain ⟨i046, hi046, _, hsz46, _⟩ := info_parts info3; have hroom46 : x5_1.length ≤ co18 := (Kd.R_reads' HO_5.out).2.1; have hC46 : Kd.C (Kd.int .i64) _ Ao18 x5_1.length x5_1 := (Kd.R_reads' HO_5.out).2.2; have q046 : (0 : Int) ≤ (x9_3 : Int) := of_decide_eq_true (by first | (with_reducible assumption) | assumption); have hcut46 := cut_from (P := Try.prog) 22 3 .i64 Try.underlying22 hi046 1 hsz46 Ao18 x5_1.length co18 x9_3 q046 q46; have hr46 := Kd.C_drop (m := (x9_3 : Int).toNat) (c := co18) hC46 (by omega) hroom46; obtain ⟨A46, hA46⟩ : ∃ A1, A1 = (if co18 = (x9_3 : Int).toNat then Ao18 else (Ao18 : Option Addr).map (·.add ((x9_3 : Int).toNat * 1))) := ⟨_, rfl⟩; obtain ⟨c46, hc46⟩ : ∃ c1, c1 = co18 - (x9_3 : Int).toNat := ⟨_, rfl⟩; have hy46 : y138.length = x5_1.length - (x9_3 : Int).toNat := (by rw [Ny138.out, List.length_drop] <;> omega); rw [show (x5_1).drop (x9_3 : Int).toNat = y138 from Ny138.out.symm] at hr46; replace hr46 : Kd.C (Kd.int .i64) _ A46 y138.length y138 := (by rw [hA46]; exact hr46); rw [← hy46, ← hA46, ← hc46] at hcut46; have HR141 := Aside0.mk hr46; have HC141 := Aside0.mk (show y138.length ≤ c46 from by rw [hy46, hc46]; exact Nat.sub_le_sub_right hroom46 _); clear hr46 hC46 hroom46 hi046 hsz46 hc46; have KY46 := Aside0.mk hy46; have KA46 := Aside0.mk hA46; clear hy46 hA46; have KL46 := Aside0.mk (show (x9_3 : Int).toNat ≤ x5_1.length from by omega); replace q46 := eq_true q46) | ((with_reducible refine gate_builtin (b := .append) (xs := #[.tmp 71, .tmp 74]) rfl ?_); at_builtin; refine Kd.R_append_rows (Kd.int .i64) (w0 := w) w.heap.size rfl (.tmp 71) (.tmp 74) 22 3 (.int .i64 0) 8 rfl Try.underlying22 info3 rfl (by decide) (by omega) v136 y135 y138 _ _ _ (fun k_ => some k_ ≠ (.slice Ao18 x5_1.length co18 : Value).ownBlock) (fun _ => False) rfl rfl ?aO ?aR (fun _ _ h => h) (fun _ h => h.elim) ?aF ?aB ?aS ?aL ?_; (case aR => repeat (first | exact (by repeat (first | (with_reducible exact HR141.out) | (with_reducible refine Kd.C_alloc ?_ _) | (with_reducible refine Kd.C_drewN ?_ _) | (with_reducible refine Kd.C_drew ?_) | exact HR141.out)) | (with_reducible refine Kd.C_alloc ?_ _) | (with_reducible refine Kd.C_drewN ?_ _) | (with_reducible refine Kd.C_drew ?_))); (case aB => exact (by repeat (first | (with_reducible first | exact HB.out | apply below_alloc | apply pw_below_drewN | apply below_drew1) | exact HB.out))); (case aF => exact (fun k_ hk => Kd.fresh' (Kd.R_lt (by (with_reducible repeat (first | apply Kd.R_alloc | apply Kd.R_drewN | apply Kd.R_drew)); exact HO_5.out)) k_ hk)); (case aO => exact (by (with_reducible repeat (first | apply Kd.R_alloc | apply Kd.R_drewN | apply Kd.R_drew)); exact HO137.out)); (case aS => exact (below_size (by repeat (first | (with_reducible first | exact HB.out | apply below_alloc | apply pw_below_drewN | apply below_drew1) | exact HB.out)))); (case aL => have := LMc42.out; omega); intro v143 w47 ho hb hg hat; rw [← Ny142.out] at ho; have n0_ := Aside0.mk (Kd.R_after (ok := (fun _ => True)) (by (with_reducible repeat (first | apply Kd.R_alloc | apply Kd.R_drewN | apply Kd.R_drew)); exact HO_5.out) hg hat); have n1_ := Aside0.mk (hb); have n2_ := Aside0.mk ((show Kd.C (Kd.int .i64) w47 Ao18 y128.length y128 from by rw [Ny128.out]; exact Kd.C_take (m := (x9_3 : Int).toNat) ((Kd.R_reads' (Kd.R_after (ok := (fun _ => True)) (by (with_reducible repeat (first | apply Kd.R_alloc | apply Kd.R_drewN | apply Kd.R_drew)); exact HO_5.out) hg hat)).2.2) KL43.out)); have n3_ := Aside0.mk ((show Kd.C (Kd.int .i64) w47 A46 y138.length y138 from by rw [Ny138.out, KA46.out]; exact Kd.C_drop (m := (x9_3 : Int).toNat) (c := co18) ((Kd.R_reads' (Kd.R_after (ok := (fun _ => True)) (by (with_reducible repeat (first | apply Kd.R_alloc | apply Kd.R_drewN | apply Kd.R_drew)); exact HO_5.out) hg hat)).2.2) KL46.out ((Kd.R_reads' (Kd.R_after (ok := (fun _ => True)) (by (with_reducible repeat (first | apply Kd.R_alloc | apply Kd.R_drewN | apply Kd.R_drew)); exact HO_5.out) hg hat)).2.1))); have n4_ := Aside0.mk (ho); clear HO_5; clear HB; clear HR131; clear HR141; clear HO137; have HO_5 := n0_; have HB := n1_; have HR131 := n2_; have HR141 := n3_; have HO144 := n4_; clear n0_ n1_ n2_ n3_ n4_; clear ho hb hg hat))
                                        go_roundg k3
                                        case measure => have := HK1.out; have := HJ4.out; have := HK3.out; omega
                                        case rel => exact ⟨(y142), (wrap64 (x6_1 + 1)), (by first | rfl | (simp; done) | (simp [*]; done)), H', ⟨by have := HK1.out; have := HJ4.out; have := HK3.out; omega⟩, ⟨by (with_reducible repeat (first | apply Kd.R_alloc | apply Kd.R_drewN | apply Kd.R_drew)); exact Kd.R_mono HO144.out (fun _ hk => trivial)⟩, ⟨by repeat (first | (with_reducible first | exact HB.out | apply below_alloc | apply pw_below_drewN | apply below_drew1) | exact HB.out)⟩⟩
                                      · rw [if_neg c42] at H
                                        exact absurd H (by simp)
                                    · rw [if_neg c39] at H
                                      exact absurd H (by simp)
                                  · rw [if_neg c38] at H
                                    exact absurd H (by simp)
                                · rw [if_neg c37] at H
                                  exact absurd H (by simp)
                              · rw [if_neg c36] at H
                                exact absurd H (by simp)
                      · rw [if_neg c17] at H
                        exact absurd H (by simp)
                    · rw [if_neg c16] at H
                      exact absurd H (by simp)
                  · rw [if_neg c14] at H
                    exact absurd H (by simp)
                · rw [if_neg c13] at H
                  exact absurd H (by simp)
        · rw [if_neg c4] at H
          exact absurd H (by simp)
      · rw [if_neg c3] at H
        have c3b0 : decide (x6_1 < (l0.length : Int)) = false := decide_eq_false c3
        clear c3
        obtain rfl := Option.some.inj H
        go_wp2
        go_ret
        exact ⟨_, by first | rfl | (simp [errW_none, errW_some] <;> rfl) | (simp [*, errW_none, errW_some] <;> rfl), by (with_reducible repeat (first | apply Kd.R_alloc | apply Kd.R_drewN | apply Kd.R_drew)); exact HO_5.out, by repeat (first | (with_reducible first | exact HB.out | apply below_alloc | apply pw_below_drewN | apply below_drew1) | exact HB.out)⟩

end Go.Proofs.Ytlipbiihemhieaa.Q

-- from Ptri6
/- Layer 22 on lists: the reference's Edges. -/
namespace Go.Proofs.Ytlipbiihemhieaa.K
set_option linter.unusedVariables false
set_option linter.unusedSimpArgs false
open Go.RowKit Go.Proofs.YtlipbiihemhieaaW.PrintWords Go.Proofs.YtlipbiihemhieaaW.PrintMore Go.Proofs.Ytlipbiihemhieaa.Q

/-- Where a number is put: behind the last that is not greater. -/
def dn (out : List Int) (c : Int) : Nat → Nat
  | 0 => 0
  | n + 1 => if rd out (n : Int) > c then dn out c n else n + 1
theorem dn_le (out : List Int) (c : Int) : ∀ n, dn out c n ≤ n
  | 0 => Nat.le_refl _
  | n + 1 => by
    have := dn_le out c n
    unfold dn; split <;> omega
def insC (out : List Int) (c : Int) : List Int := out.take (dn out c out.length) ++ c :: out.drop (dn out c out.length)
theorem insC_len (out : List Int) (c : Int) : (insC out c).length = out.length + 1 := by
  have := dn_le out c out.length
  unfold insC
  simp only [List.length_append, List.length_cons, List.length_take, List.length_drop]
  omega
def edgesL (s : List Int) : List (List Int) → List Int → List Int
  | [], out => out
  | t :: r, out => if t.length = s.length + 1 ∧ t.take s.length = s then edgesL s r (insC out (rd t (s.length : Int))) else edgesL s r out
theorem edges_T {T : List (List Int)} (hl : T.length ≤ 1000000) (ht : ∀ t ∈ T, t.length ≤ 1000000) (s : List Int) (hs : s.length ≤ 1000000) : Ev (fun k => paronymref22_Edges.f k T s) (edgesL s T []) := by
  have key : ∀ (d i : Nat) (out : List Int), T.length - i = d → i ≤ T.length → out.length ≤ i → Ev (fun k => paronymref22_Edges.l0 k T s out (i : Int)) (edgesL s (T.drop i) out) := by
    intro d
    induction d with
    | zero =>
      intro i out h1 h2 h3
      have : i = T.length := by omega
      subst this
      rw [List.drop_length]
      exact Ev.step (fun k => rfl) (Ev.neg (by omega) (Ev.now _))
    | succ d ih =>
      intro i out h1 h2 h3
      have hil : i < T.length := by omega
      rw [drop_L1 T i hil]
      have hx : (rd_L1 T (i : Int)).length ≤ 1000000 := by rw [rdL1 i hil]; exact ht _ (List.getElem_mem hil)
      obtain ⟨t, hte⟩ : ∃ t, t = rd_L1 T (i : Int) := ⟨_, rfl⟩
      rw [← hte] at hx ⊢
      have hskip : Ev (fun k => paronymref22_Edges.l0 k T s out (wrap64 ((i : Int) + 1))) (edgesL s (T.drop (i + 1)) out) := by
        rw [w64 (by omega) (by omega)]
        exact ih (i + 1) out (by omega) (by omega) (by omega)
      have w1 : Aside0 (wrap64 ((s.length : Int) + 1) = (s.length : Int) + 1) := ⟨w64 (by omega) (by omega)⟩
      refine Ev.step (fun k => rfl) (Ev.pos (by omega) (Ev.pos (by omega) ?_))
      rw [← hte, w1.out]
      by_cases e : t.length = s.length + 1
      · have w2 : Aside0 (wrap64 ((t.length : Int) - 1) = (s.length : Int)) := ⟨by rw [w64 (by omega) (by omega)]; omega⟩
        refine Ev.pos (by omega) ?_
        rw [w2.out]
        refine Ev.pos (by omega) (Ev.pos (by omega) (Ev.bind (refSame_ev (t.take (s.length : Int).toNat) s (by rw [List.length_take]; omega) (by omega)) ?_))
        rw [Int.toNat_natCast]
        by_cases e2 : t.take s.length = s
        · have hb : (!decide (t.take s.length = s)) = false := by rw [decide_eq_true e2]; rfl
          rw [hb]
          have hed : edgesL s (t :: T.drop (i + 1)) out = edgesL s (T.drop (i + 1)) (insC out (rd t (s.length : Int))) := by
            show (if t.length = s.length + 1 ∧ t.take s.length = s then _ else _) = _
            rw [if_pos ⟨e, e2⟩]
          rw [hed]
          have hfin := ih (i + 1) (insC out (rd t (s.length : Int))) (by omega) (by omega) (by rw [insC_len]; omega)
          obtain ⟨c, hc⟩ : ∃ c, c = rd t (s.length : Int) := ⟨_, rfl⟩
          rw [← hc] at hfin
          have w3 : Aside0 (wrap64 ((i : Int) + 1) = ((i + 1 : Nat) : Int)) := ⟨by rw [w64 (by omega) (by omega)]; omega⟩
          have put : ∀ n : Nat, n ≤ out.length → dn out c out.length = n → Ev (fun k => paronymref22_Edges.l0 k T s ((([] : List Int) ++ out.take n ++ [c]) ++ out.drop n) (wrap64 ((i : Int) + 1))) (edgesL s (T.drop (i + 1)) (insC out c)) := by
            intro n hn he
            rw [w3.out]
            have : (([] : List Int) ++ out.take n ++ [c]) ++ out.drop n = insC out c := by unfold insC; rw [he]; simp
            rw [this]
            exact hfin
          have loop : ∀ n : Nat, n ≤ out.length → dn out c out.length = dn out c n → Ev (fun k => paronymref22_Edges.l1 k T s out (i : Int) c (n : Int)) (edgesL s (T.drop (i + 1)) (insC out c)) := by
            intro n
            induction n with
            | zero =>
              intro hn he
              refine Ev.step (fun k => rfl) (Ev.neg (by omega) (Ev.pos (by omega) (Ev.pos (by omega) (Ev.bindS rfl (Ev.pos (by first | (simp; done) | (simp; omega)) (Ev.bindS rfl (Ev.pos (by first | (simp; done) | (simp; omega)) (Ev.bindS rfl (Ev.bindS rfl (Ev.pos (by first | (simp; done) | (simp; omega)) ?_))))))))))
              exact put 0 (by omega) he
            | succ n ihn =>
              intro hn he
              have w4 : Aside0 (wrap64 (((n + 1 : Nat) : Int) - 1) = (n : Int)) := ⟨by rw [w64 (by omega) (by omega)]; omega⟩
              refine Ev.step (fun k => rfl) (Ev.pos (by omega) ?_)
              rw [w4.out]
              refine Ev.pos (by omega) (Ev.pos (by omega) ?_)
              by_cases e3 : rd out (n : Int) > c
              · refine Ev.pos e3 (ihn (by omega) ?_)
                rw [he]
                show (if rd out (n : Int) > c then dn out c n else n + 1) = _
                rw [if_pos e3]
              · have he2 : dn out c out.length = n + 1 := by
                  rw [he]
                  show (if rd out (n : Int) > c then dn out c n else n + 1) = _
                  rw [if_neg e3]
                have hlt : (out.take (n + 1)).length ≤ n + 1 := by rw [List.length_take]; omega
                refine Ev.neg e3 (Ev.pos (by omega) (Ev.pos (by omega) (Ev.bindS rfl (Ev.pos ?_ (Ev.bindS rfl (Ev.pos ?_ (Ev.bindS rfl (Ev.bindS rfl (Ev.pos ?_ ?_)))))))))
                · rw [Int.toNat_natCast]; simp only [List.length_nil]; omega
                · rw [Int.toNat_natCast]; simp only [List.nil_append]; omega
                · rw [Int.toNat_natCast]; simp only [List.nil_append, List.length_append, List.length_cons, List.length_nil, List.length_drop]; omega
                · rw [Int.toNat_natCast]
                  exact put (n + 1) hn he2
          refine Ev.step (f := fun k => if 0 ≤ (i : Int) then (if (i : Int) < (T.length : Int) then (if 0 ≤ wrap64 ((t.length : Int) - 1) then (if wrap64 ((t.length : Int) - 1) < ((rd_L1 T (i : Int)).length : Int) then paronymref22_Edges.l1 k T s out (i : Int) (rd (rd_L1 T (i : Int)) (wrap64 ((t.length : Int) - 1))) (out.length : Int) else none) else none) else none) else none) (fun k => rfl) (Ev.pos (by omega) (Ev.pos (by omega) ?_))
          rw [w2.out]
          refine Ev.pos (by omega) (Ev.pos (by rw [← hte]; omega) ?_)
          rw [← hte, ← hc]
          exact loop out.length (Nat.le_refl _) rfl
        · have hb : (!decide (t.take s.length = s)) = true := by rw [decide_eq_false e2]; rfl
          rw [hb]
          have hed : edgesL s (t :: T.drop (i + 1)) out = edgesL s (T.drop (i + 1)) out := by
            show (if t.length = s.length + 1 ∧ t.take s.length = s then _ else _) = _
            rw [if_neg (fun h => e2 h.2)]
          rw [hed]
          exact Ev.step (f := fun k => paronymref22_Edges.l0 k T s out (wrap64 ((i : Int) + 1))) (fun k => rfl) hskip
      · have hed : edgesL s (t :: T.drop (i + 1)) out = edgesL s (T.drop (i + 1)) out := by
          show (if t.length = s.length + 1 ∧ t.take s.length = s then _ else _) = _
          rw [if_neg (fun h => e h.1)]
        rw [hed]
        refine Ev.neg (by omega) (Ev.step (f := fun k => paronymref22_Edges.l0 k T s out (wrap64 ((i : Int) + 1))) (fun k => rfl) hskip)
  exact key T.length 0 [] (by omega) (by omega) (by simp)
end Go.Proofs.Ytlipbiihemhieaa.K

-- from Qf72
-- Made by hp.py, a program of this session, with the kit's printer. Not trusted: Lean checks it.
namespace Go.Proofs.Ytlipbiihemhieaa.Q
open Go.RowKit Go.Proofs.YtlipbiihemhieaaW.PrintWords Go.Proofs.YtlipbiihemhieaaW.PrintLast Go.Proofs.YtlipbiihemhieaaW.PrintMore
attribute [local go_sem] max2_int min2_int max_two min_two max_three min_three max_four min_four   -- for this text's walks alone
set_option linter.unusedVariables false
set_option linter.unusedSimpArgs false

/-! ### slices_Reverse_int_int: function 72 -/
def slices_Reverse_int_int.l0 : Nat → List Int → Int → Int → Option (List Int)
  | 0, _, _, _ => none
  | k + 1, x0, x2, x3 => if x2 < x3 then (if 0 ≤ x3 then (if x3 < (x0.length : Int) then (if 0 ≤ x2 then (if x2 < (x0.length : Int) then (slices_Reverse_int_int.l0 k ((x0.set (x2 : Int).toNat (rd x0 x3)).set (x3 : Int).toNat (rd x0 x2)) (wrap64 (x2 + 1)) (wrap64 (x3 - 1))) else (none)) else (none)) else (none)) else (none)) else (some x0)
def slices_Reverse_int_int.f (k : Nat) (l0 : List Int) : Option (List Int) := slices_Reverse_int_int.l0 k l0 0 (wrap64 ((l0.length : Int) - 1))
theorem slices_Reverse_int_int.mono_l : ∀ k, (∀ y0 y1 y2, LeO (slices_Reverse_int_int.l0 k y0 y1 y2) (slices_Reverse_int_int.l0 (k + 1) y0 y1 y2))
  | 0 => fun _ _ _ r h => by simp [slices_Reverse_int_int.l0] at h
  | k + 1 => by
    have ih0 := slices_Reverse_int_int.mono_l k
    · intro y0 y1 y2
      unfold slices_Reverse_int_int.l0
      repeat' first
      | (with_reducible exact ih0 _ _ _)
      | (with_reducible exact LeO.refl _)
      | (with_reducible exact LeO.none _)
      | (with_reducible refine LeO.ite ?_ ?_)
      | (with_reducible refine LeO.bind ?_ (fun _ => ?_))
      | exact ih0 _ _ _
      | exact LeO.none _
      | refine LeO.ite ?_ ?_
      | refine LeO.bind ?_ (fun _ => ?_)
theorem slices_Reverse_int_int.mono : ∀ a0 k, LeO (slices_Reverse_int_int.f k a0) (slices_Reverse_int_int.f (k + 1) a0) := by
  intro a0 k
  have ih0 := slices_Reverse_int_int.mono_l k
  unfold slices_Reverse_int_int.f
  repeat' first
      | (with_reducible exact ih0 _ _ _)
      | (with_reducible exact LeO.refl _)
      | (with_reducible exact LeO.none _)
      | (with_reducible refine LeO.ite ?_ ?_)
      | (with_reducible refine LeO.bind ?_ (fun _ => ?_))
      | exact ih0 _ _ _
      | exact LeO.none _
      | refine LeO.ite ?_ ?_
      | refine LeO.bind ?_ (fun _ => ?_)
def slices_Reverse_int_int.T3 : Bool × List (List Nat × List Nat) := (true, [([], []), ([], []), ([], []), ([], []), ([], []), ([], []), ([4, 5], [4, 5]), ([6], [6]), ([], []), ([], []), ([8, 9], [8, 9]), ([10], [10]), ([0, 1, 0, 1, 4, 5, 6, 7, 11], [0, 1]), ([12, 7, 0, 1, 4, 5, 6, 7, 11], [7, 12]), ([2, 3, 0, 1, 2, 3, 4, 5, 6, 7, 8, 9, 10, 11, 12, 13], [2, 3]), ([14, 11, 13, 0, 1, 2, 3, 4, 5, 6, 7, 8, 9, 10, 11, 12, 13], [11, 14])])
def slices_Reverse_int_int.B3 : List Nat := [0, 0, 0, 0, 0, 0, 48, 112, 0, 0, 768, 1792, 4083, 8179, 16383, 32767]
theorem slices_Reverse_int_int.tab3 : rtab .any (opsOf Try.f72 3) = slices_Reverse_int_int.T3 := by kernel_rfl
theorem slices_Reverse_int_int.bits3 : waitsOk slices_Reverse_int_int.T3.2 slices_Reverse_int_int.B3 = true := by kernel_rfl
set_option maxHeartbeats 8000000 in
set_option maxRecDepth 100000 in
theorem slices_Reverse_int_int.calls (k : Nat) (P0_ : Nat → Prop) (u9000_ : Value) (l0 : List Int) (r : List Int) (w0 w : World) (hB : Below w0.heap.size w0 w) (ho0 : Kd.R (Kd.int .i64) 3 w w0.heap.size P0_ u9000_ l0) (h : slices_Reverse_int_int.f k l0 = some r) :
    Calls Try.prog 72 #[u9000_] w fun e w' => e = .returned (.tuple #[]) ∧ Kd.R (Kd.int .i64) 3 w' w0.heap.size (fun k_ => (P0_ k_ ∨ w.heap.size ≤ k_)) u9000_ r ∧ Below w0.heap.size w0 w' ∧ Kept w w' (fun k_ => P0_ k_) := by
  have HO0 := Aside0.mk (show Kd.R (Kd.int .i64) 3 w w0.heap.size (fun k_ => (P0_ k_ ∨ w.heap.size ≤ k_)) u9000_ l0 from Kd.R_mono ho0 (fun k_ hk => (.inl hk)))
  have HK := Aside0.mk (Kept.refl w (fun k_ => P0_ k_))
  have HW0 := Aside0.mk hB.size
  have HB := Aside0.mk hB
  clear hB
  have H : (slices_Reverse_int_int.l0 k l0 0 (wrap64 ((l0.length : Int) - 1))) = some r := h
  clear h
  have H' := Aside0.mk H
  clear H
  obtain ⟨Ao2, co2, eo2⟩ := Kd.R_slice HO0.out
  subst eo2
  go_enter Try.func72, Try.ntmps72
  go_wp2
  go_loopg [2, 3] k (fun kq v2 v3 w' => ∃ (x0_1 : List Int) (x2_1 : Int) (x3_1 : Int), v2 = .int .i64 x2_1 ∧ v3 = .int .i64 x3_1 ∧ Aside0 (slices_Reverse_int_int.l0 kq x0_1 x2_1 x3_1 = some r) ∧ Aside0 (kq ≤ k) ∧ Aside0 (Kd.R (Kd.int .i64) 3 w' w0.heap.size (fun k_ => (P0_ k_ ∨ w.heap.size ≤ k_)) (.slice Ao2 l0.length co2) x0_1) ∧ Aside0 (Kept w w' (fun k_ => P0_ k_)) ∧ Aside0 (Below w0.heap.size w0 w'))
  case atStart => exact ⟨(l0), (0), (wrap64 ((l0.length : Int) - 1)), (by first | rfl | (simp; done) | (simp [*]; done)), (by first | rfl | (simp; done) | (simp [*]; done)), H', ⟨Nat.le_refl _⟩, ⟨by (with_reducible repeat (first | apply Kd.R_alloc | apply Kd.R_drewN | apply Kd.R_drew)); exact HO0.out⟩, ⟨by repeat (first | (with_reducible first | exact HK.out | apply Kept.alloc | apply Kept.drewN | apply Kept.drew) | exact HK.out)⟩, ⟨by repeat (first | (with_reducible first | exact HB.out | apply below_alloc | apply pw_below_drewN | apply below_drew1) | exact HB.out)⟩⟩
  case round =>
    clear H'
    try clear p2
    obtain ⟨x0_1, x2_1, x3_1, rfl, rfl, HA, HK1, HO_0, HK, HB⟩ := hrel
    have hl0_1 := (Kd.R_reads' HO_0.out).1
    rw [hl0_1] at HO_0
    (try simp only [hl0_1])
    cases gk with
    | zero => exact absurd HA.out (by simp [slices_Reverse_int_int.l0])
    | succ k1 =>
      have H := HA.out
      clear HA
      simp only [slices_Reverse_int_int.l0] at H
      by_cases c3 : x2_1 < x3_1
      · rw [if_pos c3] at H
        have c3b0 : decide (x2_1 < x3_1) = true := decide_eq_true c3
        clear c3
        by_cases c4 : 0 ≤ x3_1
        · rw [if_pos c4] at H
          have c4b0 : decide (0 ≤ x3_1) = true := decide_eq_true c4
          clear c4
          by_cases c5 : x3_1 < (x0_1.length : Int)
          · rw [if_pos c5] at H
            have c5b0 : decide (x3_1 < (x0_1.length : Int)) = true := decide_eq_true c5
            clear c5
            by_cases c6 : 0 ≤ x2_1
            · rw [if_pos c6] at H
              have c6b0 : decide (0 ≤ x2_1) = true := decide_eq_true c6
              clear c6
              by_cases c7 : x2_1 < (x0_1.length : Int)
              · rw [if_pos c7] at H
                have c7b0 : decide (x2_1 < (x0_1.length : Int)) = true := decide_eq_true c7
                clear c7
                obtain ⟨y103, hy103⟩ : ∃ y_ : List Int, y_ = (x0_1.set (x2_1 : Int).toNat (rd x0_1 x3_1)) := ⟨_, rfl⟩
                replace H : (slices_Reverse_int_int.l0 k1 (y103.set (x3_1 : Int).toNat (rd x0_1 x2_1)) (wrap64 (x2_1 + 1)) (wrap64 (x3_1 - 1))) = some r := by first | (rw [hy103]; with_reducible exact H) | (have H2_ := (Option.bind_some _ _).symm.trans H; rw [hy103]; with_reducible exact H2_) | (have H2_ := (Option.bind_some _ _).symm.trans H; with_reducible exact H2_) | with_reducible exact H | (rw [hy103]; exact H) | exact H
                have Ny103 := Aside0.mk hy103
                clear hy103
                obtain ⟨y104, hy104⟩ : ∃ y_ : List Int, y_ = (y103.set (x3_1 : Int).toNat (rd x0_1 x2_1)) := ⟨_, rfl⟩
                replace H : (slices_Reverse_int_int.l0 k1 y104 (wrap64 (x2_1 + 1)) (wrap64 (x3_1 - 1))) = some r := by first | (rw [hy104]; with_reducible exact H) | (have H2_ := (Option.bind_some _ _).symm.trans H; rw [hy104]; with_reducible exact H2_) | (have H2_ := (Option.bind_some _ _).symm.trans H; with_reducible exact H2_) | with_reducible exact H | (rw [hy104]; exact H) | exact H
                have Ny104 := Aside0.mk hy104
                clear hy104
                have H' := Aside0.mk H
                clear H
                try go_wp2
                have n0_ := Aside0.mk (Kd.R_drew HO_0.out)
                have n1_ := Aside0.mk (Kept.drew HK.out)
                have n2_ := Aside0.mk (below_drew1 HB.out)
                clear HO_0
                clear HK
                clear HB
                have HO_0 := n0_
                have HK := n1_
                have HB := n2_
                clear n0_ n1_ n2_
                have p101 : 0 ≤ (x3_1 : Int) := of_decide_eq_true (by first | (with_reducible assumption) | assumption)
                have q101 : x3_1 < (x0_1.length : Int) := of_decide_eq_true (by first | (with_reducible assumption) | assumption)
                obtain ⟨ad101, e101, hx101_0⟩ := Kd.at_int (Kd.R_reads' HO_0.out).2.2 x3_1 p101 q101
                cases e101
                replace p101 := eq_true p101
                replace q101 := eq_true q101
                have p102 : 0 ≤ (x2_1 : Int) := of_decide_eq_true (by first | (with_reducible assumption) | assumption)
                have q102 : x2_1 < (x0_1.length : Int) := of_decide_eq_true (by first | (with_reducible assumption) | assumption)
                obtain ⟨ad102, e102, hx102_0⟩ := Kd.at_int (Kd.R_reads' HO_0.out).2.2 x2_1 p102 q102
                obtain rfl : ad101 = ad102 := (by injection e102)
                replace p102 := eq_true p102
                replace q102 := eq_true q102
                have p8 : 0 ≤ (x2_1 : Int) := of_decide_eq_true (by first | (with_reducible assumption) | assumption)
                have q8 : (x2_1 : Int) < ((x0_1.length : Int) : Int) := of_decide_eq_true (by first | (with_reducible assumption) | assumption)
                obtain ⟨go8, co8, eo8, gb8, gl8, cl8, HG8⟩ := Kd.R_form HO_0.out (by omega)
                (first | cases eo8 | (injection eo8 with ea_ en_ ec_; (first | subst ea_ | (injection ea_ with ea_; subst ea_)); subst ec_; clear en_))
                have GB8 := Aside0.mk gb8
                have GG8 := Aside0.mk HG8
                clear gb8 gl8 HG8
                have HMgo8 := Aside0.mk (show (P0_ go8 ∨ w.heap.size ≤ go8) from (HO_0.out.1 _ rfl))
                (first | simp only [add_plain] at hx101_0 | skip)
                (first | simp only [add_plain] at hx102_0 | skip)
                obtain ⟨hx8_0, hf8_0⟩ := Kd.R_celln 0 HO_0.out (x2_1 : Int) p8 q8
                replace p8 := eq_true p8
                replace q8 := eq_true q8
                have HP11 := Kd.R_putn HO_0.out (x2_1 : Int) (rd x0_1 x3_1)
                rw [← Ny103.out] at HP11
                have HQ11 := Aside0.mk HP11
                clear HP11
                have p9 : 0 ≤ (x3_1 : Int) := of_decide_eq_true (by first | (with_reducible assumption) | assumption)
                have q9 : (x3_1 : Int) < ((x0_1.length : Int) : Int) := of_decide_eq_true (by first | (with_reducible assumption) | assumption)
                obtain ⟨hx9_0, hf9_0⟩ := Kd.R_celln 0 HQ11.out (x3_1 : Int) p9 q9
                replace p9 := eq_true p9
                replace q9 := eq_true q9
                have HP12 := Kd.R_putn HQ11.out (x3_1 : Int) (rd x0_1 x2_1)
                rw [← Ny104.out] at HP12
                have HQ12 := Aside0.mk HP12
                clear HP12
                refine start_ (n := 16) (S := fun w' => w'.cell? ⟨go8, (x3_1).toNat, none⟩ = some (.int .i64 (rd x0_1 x3_1)) ∧ w'.cell? ⟨go8, (x2_1).toNat, none⟩ = some (.int .i64 (rd x0_1 x2_1))) (ds := [13, 15]) #[false, false, false, false, false, false, false, false, false, false, false, false, false, false, false, false] (by kernel_rfl) rfl rfl ⟨hx101_0, hx102_0⟩ (fun hHeld => ?_); refine with_tabW slices_Reverse_int_int.tab3 slices_Reverse_int_int.bits3 (fun HT_ HW_ => ?_)
                generalize wr.drew = w10 at HO_0 HK HB GG8 HQ11 HQ12 hf8_0 hf9_0 hx101_0 hx102_0 hx8_0 hx9_0 hHeld ⊢
                refine pure_ (i := 0) (N := some 14) (v := ?_) (a' := ?_) #[true, false, false, false, false, false, false, false, false, false, false, false, false, false, false, false] rfl rfl (any_of HT_.out (by kernel_rfl)) (fun _ _ _ h => h) (Or.inl ⟨by rfl, ?_⟩) ?_ ?_
                rotate_left
                · intro w'
                  go_simp
                  with_reducible rfl
                rotate_left
                · simp only [Act.put, List.setIfInBounds_toArray, List.set_cons_zero, List.set_cons_succ, i64_w, i32_w]
                  rfl
                refine pure_ (i := 1) (N := some 15) (v := ?_) (a' := ?_) #[true, true, false, false, false, false, false, false, false, false, false, false, false, false, false, false] rfl rfl (any_of HT_.out (by kernel_rfl)) (fun _ _ _ h => h) (Or.inl ⟨by rfl, ?_⟩) ?_ ?_
                rotate_left
                · intro w'
                  go_simp
                  with_reducible rfl
                rotate_left
                · simp only [Act.put, List.setIfInBounds_toArray, List.set_cons_zero, List.set_cons_succ, i64_w, i32_w]
                  rfl
                refine pure_ (i := 2) (N := some 16) (v := ?_) (a' := ?_) #[true, true, true, false, false, false, false, false, false, false, false, false, false, false, false, false] rfl rfl (any_of HT_.out (by kernel_rfl)) (fun _ _ _ h => h) (Or.inl ⟨by rfl, ?_⟩) ?_ ?_
                rotate_left
                · intro w'
                  go_simp
                  with_reducible rfl
                rotate_left
                · simp only [Act.put, List.setIfInBounds_toArray, List.set_cons_zero, List.set_cons_succ, i64_w, i32_w]
                  rfl
                refine pure_ (i := 3) (N := some 17) (v := ?_) (a' := ?_) #[true, true, true, true, false, false, false, false, false, false, false, false, false, false, false, false] rfl rfl (any_of HT_.out (by kernel_rfl)) (fun _ _ _ h => h) (Or.inl ⟨by rfl, ?_⟩) ?_ ?_
                rotate_left
                · intro w'
                  go_simp
                  with_reducible rfl
                rotate_left
                · simp only [Act.put, List.setIfInBounds_toArray, List.set_cons_zero, List.set_cons_succ, i64_w, i32_w]
                  rfl
                refine pure_ (i := 4) (N := some 18) (v := ?_) (a' := ?_) #[true, true, true, true, true, false, false, false, false, false, false, false, false, false, false, false] rfl rfl (any_of HT_.out (by kernel_rfl)) (fun _ _ _ h => h) (Or.inl ⟨by rfl, ?_⟩) ?_ ?_
                rotate_left
                · intro w'
                  go_simp
                  with_reducible rfl
                rotate_left
                · simp only [Act.put, List.setIfInBounds_toArray, List.set_cons_zero, List.set_cons_succ, i64_w, i32_w]
                  rfl
                refine pure_ (i := 5) (N := some 19) (v := ?_) (a' := ?_) #[true, true, true, true, true, true, false, false, false, false, false, false, false, false, false, false] rfl rfl (any_of HT_.out (by kernel_rfl)) (fun _ _ _ h => h) (Or.inl ⟨by rfl, ?_⟩) ?_ ?_
                rotate_left
                · intro w'
                  go_simp
                  with_reducible rfl
                rotate_left
                · simp only [Act.put, List.setIfInBounds_toArray, List.set_cons_zero, List.set_cons_succ, i64_w, i32_w]
                  rfl
                refine pure_ (i := 6) (N := some 20) (v := ?_) (a' := ?_) #[true, true, true, true, true, true, true, false, false, false, false, false, false, false, false, false] rfl rfl (any_of HT_.out (by kernel_rfl)) (fun _ _ _ h => h) (Or.inl ⟨by rfl, ?_⟩) ?_ ?_
                rotate_left
                · intro w'
                  go_simp
                  with_reducible rfl
                rotate_left
                · simp only [Act.put, List.setIfInBounds_toArray, List.set_cons_zero, List.set_cons_succ, i64_w, i32_w]
                  rfl
                refine pure_ (i := 8) (N := some 22) (v := ?_) (a' := ?_) #[true, true, true, true, true, true, true, false, true, false, false, false, false, false, false, false] rfl rfl (any_of HT_.out (by kernel_rfl)) (fun _ _ _ h => h) (Or.inl ⟨by rfl, ?_⟩) ?_ ?_
                rotate_left
                · intro w'
                  go_simp
                  with_reducible rfl
                rotate_left
                · simp only [Act.put, List.setIfInBounds_toArray, List.set_cons_zero, List.set_cons_succ, i64_w, i32_w]
                  rfl
                refine pure_ (i := 9) (N := some 23) (v := ?_) (a' := ?_) #[true, true, true, true, true, true, true, false, true, true, false, false, false, false, false, false] rfl rfl (any_of HT_.out (by kernel_rfl)) (fun _ _ _ h => h) (Or.inl ⟨by rfl, ?_⟩) ?_ ?_
                rotate_left
                · intro w'
                  go_simp
                  with_reducible rfl
                rotate_left
                · simp only [Act.put, List.setIfInBounds_toArray, List.set_cons_zero, List.set_cons_succ, i64_w, i32_w]
                  rfl
                refine pure_ (i := 10) (N := some 24) (v := ?_) (a' := ?_) #[true, true, true, true, true, true, true, false, true, true, true, false, false, false, false, false] rfl rfl (any_of HT_.out (by kernel_rfl)) (fun _ _ _ h => h) (Or.inl ⟨by rfl, ?_⟩) ?_ ?_
                rotate_left
                · intro w'
                  go_simp
                  with_reducible rfl
                rotate_left
                · simp only [Act.put, List.setIfInBounds_toArray, List.set_cons_zero, List.set_cons_succ, i64_w, i32_w]
                  rfl
                refine take_ (i := 7) (N := some 21) (v := ?_) (a' := ?_) #[true, true, true, true, true, true, true, true, true, true, true, false, false, false, false, false] rfl rfl (take_ofW HT_.out HW_.out (by kernel_rfl)) (fun _ _ _ h => h) (Or.inl ⟨by rfl, ?_⟩) hHeld ?_ ?_
                rotate_left
                · rintro w' ⟨s0, s1⟩
                  go_simp
                  with_reducible rfl
                rotate_left
                · simp only [Act.put, List.setIfInBounds_toArray, List.set_cons_zero, List.set_cons_succ, i64_w, i32_w]
                  rfl
                refine take_ (i := 11) (N := some 25) (v := ?_) (a' := ?_) #[true, true, true, true, true, true, true, true, true, true, true, true, false, false, false, false] rfl rfl (take_ofW HT_.out HW_.out (by kernel_rfl)) (fun _ _ _ h => h) (Or.inl ⟨by rfl, ?_⟩) hHeld ?_ ?_
                rotate_left
                · rintro w' ⟨s0, s1⟩
                  go_simp
                  with_reducible rfl
                rotate_left
                · simp only [Act.put, List.setIfInBounds_toArray, List.set_cons_zero, List.set_cons_succ, i64_w, i32_w]
                  rfl
                refine pure_ (i := 12) (N := some 26) (v := ?_) (a' := ?_) #[true, true, true, true, true, true, true, true, true, true, true, true, true, false, false, false] rfl rfl (any_of HT_.out (by kernel_rfl)) (fun _ _ _ h => h) (Or.inl ⟨by rfl, ?_⟩) ?_ ?_
                rotate_left
                · intro w'
                  go_simp
                  with_reducible rfl
                rotate_left
                · simp only [Act.put, List.setIfInBounds_toArray, List.set_cons_zero, List.set_cons_succ, i64_w, i32_w]
                  rfl
                refine last_ (i := 13) (N := none) #[true, true, true, true, true, true, true, true, true, true, true, true, true, true, false, false] rfl rfl (one_of HT_.out (by kernel_rfl)) (by decide) (fun K hK => ?_)
                refine skip_ (w1 := ?_) (by rfl) rfl ?_ ?_
                rotate_left
                · go_simp
                  rfl
                refine hK.out _ _ ?_
                clear hK K
                refine pure_ (i := 14) (N := some 27) (v := ?_) (a' := ?_) #[true, true, true, true, true, true, true, true, true, true, true, true, true, true, true, false] rfl rfl (any_of HT_.out (by kernel_rfl)) (fun _ _ _ h => h) (Or.inl ⟨by rfl, ?_⟩) ?_ ?_
                rotate_left
                · intro w'
                  go_simp
                  with_reducible rfl
                rotate_left
                · simp only [Act.put, List.setIfInBounds_toArray, List.set_cons_zero, List.set_cons_succ, i64_w, i32_w]
                  rfl
                refine last_ (i := 15) (N := none) #[true, true, true, true, true, true, true, true, true, true, true, true, true, true, true, true] rfl rfl (one_of HT_.out (by kernel_rfl)) (by decide) (fun K hK => ?_)
                refine skip_ (w1 := ?_) (by rfl) rfl ?_ ?_
                rotate_left
                · go_simp
                  rfl
                refine hK.out _ _ ?_
                clear hK K
                refine done_ (done_of HT_.out (by kernel_rfl)) ?_
                try go_wp2
                (try simp only [← hl0_1])
                go_roundg k1
                case measure => have := HK1.out; omega
                case rel => exact ⟨(y104), (wrap64 (x2_1 + 1)), (wrap64 (x3_1 - 1)), (by first | rfl | (simp; done) | (simp [*]; done)), (by first | rfl | (simp; done) | (simp [*]; done)), H', ⟨by have := HK1.out; omega⟩, ⟨by (try simp only [hl0_1]); (with_reducible repeat (first | apply Kd.R_alloc | apply Kd.R_drewN | apply Kd.R_drew)); exact HQ12.out⟩, ⟨by repeat (first | (with_reducible first | exact HK.out | apply Kept.alloc | apply Kept.drewN | apply Kept.drew | refine Kept.setCell ?_ HMgo8.out _ | refine Kept.setCell ?_ HMgo8.out _) | exact HK.out)⟩, ⟨by repeat (first | (with_reducible first | exact HB.out | apply below_alloc | apply pw_below_drewN | apply below_drew1 | refine below_set ?_ GB8.out | refine below_set ?_ GB8.out) | exact HB.out)⟩⟩
              · rw [if_neg c7] at H
                exact absurd H (by simp)
            · rw [if_neg c6] at H
              exact absurd H (by simp)
          · rw [if_neg c5] at H
            exact absurd H (by simp)
        · rw [if_neg c4] at H
          exact absurd H (by simp)
      · rw [if_neg c3] at H
        have c3b0 : decide (x2_1 < x3_1) = false := decide_eq_false c3
        clear c3
        obtain rfl := Option.some.inj H
        go_wp2
        first | go_end0 | ((try simp only [Exit.inBlock, Exit.then]); refine bodyPost_ret (results_none rfl _ _ _) rfl ?_)
        exact ⟨by first | rfl | (simp [errW_none, errW_some] <;> rfl) | (simp [*, errW_none, errW_some] <;> rfl), (by first | exact (by (with_reducible repeat (first | apply Kd.R_alloc | apply Kd.R_drewN | apply Kd.R_drew)); exact HO_0.out) | (simp only [hl0_1]; exact (by (with_reducible repeat (first | apply Kd.R_alloc | apply Kd.R_drewN | apply Kd.R_drew)); exact HO_0.out))), by repeat (first | (with_reducible first | exact HB.out | apply below_alloc | apply pw_below_drewN | apply below_drew1) | exact HB.out), by repeat (first | (with_reducible first | exact HK.out | apply Kept.alloc | apply Kept.drewN | apply Kept.drew) | exact HK.out)⟩

end Go.Proofs.Ytlipbiihemhieaa.Q

-- from Htxx
/- trie: Text. -/
namespace Go.Proofs.Ytlipbiihemhieaa.Q
open Go.RowKit Go.Proofs.YtlipbiihemhieaaW.PrintWords Go.Proofs.YtlipbiihemhieaaW.PrintLast Go.Proofs.YtlipbiihemhieaaW.PrintMore Go.Proofs.Ytlipbiihemhieaa.K
set_option linter.unusedVariables false
set_option linter.unusedSimpArgs false

/-- A node's text, from its end on. -/
def textUp : Nat → List S107 → S107 → Option (List Int)
  | 0, _, _ => none
  | k + 1, N, x => if 0 < x.f2 then (if 0 ≤ x.f0 ∧ x.f0 < (N.length : Int) then (textUp k N (rd_T107 N x.f0)).bind fun r => some (x.f1 :: r) else none) else some []
theorem info_i3 : (Try.prog.info? 3).map (fun i => (i.zero, i.size, i.bytes)) = some (some (.int .i64 0), 1, 8) := by kernel_rfl
theorem set5 {W : World} {b t : Nat} {a0 a1 a2 a3 a4 : Value} (u0 u1 u2 u3 u4 : Value) (h : W.heap[b]? = some (.cells #[a0, a1, a2, a3, a4] t (0, 0))) :
    (((((W.setCell ⟨b, 0, none⟩ u0).setCell ⟨b, 1, none⟩ u1).setCell ⟨b, 2, none⟩ u2).setCell ⟨b, 3, none⟩ u3).setCell ⟨b, 4, none⟩ u4).heap[b]? = some (.cells #[u0, u1, u2, u3, u4] t (0, 0)) := by
  have h0 := heap_setCell_same W b 0 _ t u0 h
  have h1 := heap_setCell_same _ b 1 _ t u1 h0
  have h2 := heap_setCell_same _ b 2 _ t u2 h1
  have h3 := heap_setCell_same _ b 3 _ t u3 h2
  have h4 := heap_setCell_same _ b 4 _ t u4 h3
  rw [h4]
  rfl
theorem set5_other {W : World} {b : Nat} (u0 u1 u2 u3 u4 : Value) {k : Nat} (hk : k ≠ b) :
    (((((W.setCell ⟨b, 0, none⟩ u0).setCell ⟨b, 1, none⟩ u1).setCell ⟨b, 2, none⟩ u2).setCell ⟨b, 3, none⟩ u3).setCell ⟨b, 4, none⟩ u4).heap[k]? = W.heap[k]? := by
  rw [Below.heap_setCell _ ⟨b, 4, none⟩ _ k hk, Below.heap_setCell _ ⟨b, 3, none⟩ _ k hk, Below.heap_setCell _ ⟨b, 2, none⟩ _ k hk, Below.heap_setCell _ ⟨b, 1, none⟩ _ k hk, Below.heap_setCell _ ⟨b, 0, none⟩ _ k hk]
theorem set5_below {w W : World} {B b : Nat} (u0 u1 u2 u3 u4 : Value) (h : Below B w W) (hb : B ≤ b) :
    Below B w (((((W.setCell ⟨b, 0, none⟩ u0).setCell ⟨b, 1, none⟩ u1).setCell ⟨b, 2, none⟩ u2).setCell ⟨b, 3, none⟩ u3).setCell ⟨b, 4, none⟩ u4) :=
  ((((h.setCell (p := ⟨b, 0, none⟩) hb _).setCell (p := ⟨b, 1, none⟩) hb _).setCell (p := ⟨b, 2, none⟩) hb _).setCell (p := ⟨b, 3, none⟩) hb _).setCell (p := ⟨b, 4, none⟩) hb _
/-- A node in a variable. -/
def NodeB (w0 W : World) (b : Nat) (x : S107) : Prop := ∃ A3 c3 A4 c4, W.heap[b]? = some (.cells #[.int .i64 x.f0, .int .i64 x.f1, .int .i64 x.f2, .slice A3 x.f3.length c3, .slice A4 x.f4.length c4] 107 (0, 0))
set_option maxHeartbeats 4000000 in
set_option maxRecDepth 100000 in
theorem trie_Text.calls (k kr : Nat) (p : Option Addr) (N : List S107) (n : Int) (r r2 : List Int) (w : World) (hT : TrieR w p N) (h : textUp k N (nodeAt N n) = some r) (hl : r.length ≤ 1000) (h2 : slices_Reverse_int_int.f kr r = some r2) :
    Calls Try.prog 48 #[.pointer p, .int .i64 n] w fun e w' => ∃ v, e = .returned v ∧ Kd.R (Kd.int .i64) 3 w' w.heap.size (fun _ => True) v r2 ∧ Below w.heap.size w w' := by
  have HT := Aside0.mk hT
  obtain ⟨x0, hx⟩ : ∃ x, x = nodeAt N n := ⟨_, rfl⟩
  have HX := Aside0.mk hx
  rw [← hx] at h
  have H := Aside0.mk h
  have HL := Aside0.mk hl
  have H2 := Aside0.mk h2
  obtain ⟨g, A, c, hp, hg2, hg3, hg4⟩ := hT
  subst hp
  have HG2 := Aside0.mk hg2
  have HG4 := Aside0.mk hg4
  clear hx h hl h2 hg2 hg3 hg4
  go_enter Try.func48, Try.ntmps48
  go_wp2_with (go_at_call 71; refine (trie_find.calls (some ⟨g, 0, none⟩) N n _ HT.out).mono ?_; rintro e w1 ⟨⟨v, rfl, hv⟩, hb⟩; rw [← HX.out] at hv; obtain ⟨A3, c3, A4, c4, rfl, hl, h3, h4⟩ := hv; have HB := Aside0.mk hb; clear hb h3 h4 hl)
  have hn0 := heap_alloc_new w1 (.cells #[.int .i64 x0.f0, .int .i64 x0.f1, .int .i64 x0.f2, .slice A3 x0.f3.length c3, .slice A4 x0.f4.length c4] 107)
  have HN0 := Aside0.mk hn0
  have HB1 : Aside0 (Below w.heap.size w (w1.alloc (.cells #[.int .i64 x0.f0, .int .i64 x0.f1, .int .i64 x0.f2, .slice A3 x0.f3.length c3, .slice A4 x0.f4.length c4] 107))) := ⟨HB.out.alloc HB.out.size _⟩
  clear hn0
  go_loopg [5, 6] k (fun kq v5 v6 wr => ∃ (x : S107) (b : Nat) (pre rest : List Int), v6 = .pointer (some ⟨b, 0, none⟩) ∧ Aside0 (w.heap.size ≤ b ∧ NodeB w wr b x) ∧ Aside0 (textUp kq N x = some rest ∧ r = pre ++ rest) ∧ Aside0 (Kd.R (Kd.int .i64) 3 wr w.heap.size (fun _ => True) v5 pre) ∧ Aside0 (Below w.heap.size w wr))
  case atStart => exact ⟨x0, w1.heap.size, [], r, rfl, ⟨HB.out.size, _, _, _, _, HN0.out⟩, ⟨H.out, rfl⟩, ⟨Kd.R_nil _ _ _ _ _⟩, HB1⟩
  case round =>
    clear HN0 HB1 H
    obtain ⟨x, b, pre, rest, rfl, HN, HTX, HO, HBL⟩ := hrel
    cases gk with
    | zero => exact absurd HTX.out.1 (by simp [textUp])
    | succ kq =>
      have hT := HTX.out.1
      unfold textUp at hT
      obtain ⟨hbw, B3, d3, B4, d4, hnb⟩ := HN.out
      have hx0 : wr.cell? ⟨b, 0, none⟩ = some (.int .i64 x.f0) := by simp only [World.cell?]; rw [hnb]; rfl
      have hx1 : wr.cell? ⟨b, 1, none⟩ = some (.int .i64 x.f1) := by simp only [World.cell?]; rw [hnb]; rfl
      have hx2 : wr.cell? ⟨b, 2, none⟩ = some (.int .i64 x.f2) := by simp only [World.cell?]; rw [hnb]; rfl
      have HNB := Aside0.mk hnb
      have HBW := Aside0.mk hbw
      clear hnb hbw
      by_cases c1 : 0 < x.f2
      · rw [if_pos c1] at hT
        have e0 := eq_true c1
        have e1 : decide (0 < x.f2) = true := decide_eq_true c1
        by_cases c2 : 0 ≤ x.f0 ∧ x.f0 < (N.length : Int)
        · rw [if_pos c2] at hT
          obtain ⟨r', hr', hrr⟩ := Option.bind_eq_some_iff.mp hT
          have HR' := Aside0.mk hr'
          have HRR := Aside0.mk (Option.some.inj hrr)
          obtain ⟨A5, c5, hv5⟩ := Kd.R_slice HO.out
          subst hv5
          have C2 := Aside0.mk c2
          have hlen : pre.length < 1000 := by have h1 := HL.out; rw [HTX.out.2, ← HRR.out] at h1; simp at h1; omega
          have HLEN := Aside0.mk hlen
          clear hT hr' hrr c1 c2 hlen
          go_wp2_with (at_builtin; refine Kd.R_append (Kd.int .i64) (w0 := w) w.heap.size rfl (.tmp 21) (.tmp 24) 22 3 (.int .i64 0) 8 rfl Try.underlying22 info_i3 rfl (by decide) (by omega) (.slice A5 pre.length c5) pre x.f1 [.int .i64 x.f1] (fun _ => True) (fun _ => False) rfl rfl ?aP (fun _ hk => hk.elim) ?aF ?aO ?aB ?aS ?aL ?_
                       (case aP => exact rfl)
                       (case aB => exact HBL.out)
                       (case aF => exact (fun _ _ => trivial))
                       (case aO => exact HO.out)
                       (case aS => exact below_size HBL.out)
                       (case aL => have := HLEN.out; omega)
                       intro v105 w6 ho hb hg _
                       have HO6 := Aside0.mk ho
                       have HB6 := Aside0.mk hb
                       have hn6 := (hg.block b (Array.getElem?_eq_some_iff.1 HNB.out).1 (Kd.R_ne HO.out HNB.out (by decide))).trans HNB.out
                       have hy0 : w6.cell? ⟨b, 0, none⟩ = some (.int .i64 x.f0) := (by simp only [World.cell?]; rw [hn6]; rfl)
                       have hy1 : w6.cell? ⟨b, 1, none⟩ = some (.int .i64 x.f1) := (by simp only [World.cell?]; rw [hn6]; rfl)
                       have hy2 : w6.cell? ⟨b, 2, none⟩ = some (.int .i64 x.f2) := (by simp only [World.cell?]; rw [hn6]; rfl)
                       have hy3 : w6.cell? ⟨b, 3, none⟩ = some (.slice B3 x.f3.length d3) := (by simp only [World.cell?]; rw [hn6]; rfl)
                       have hy4 : w6.cell? ⟨b, 4, none⟩ = some (.slice B4 x.f4.length d4) := (by simp only [World.cell?]; rw [hn6]; rfl)
                       clear ho hb hg hx0 hx1 hx2 hn6)
          clear hy0 hy1 hy2 hy3 hy4
          have hnew := heap_alloc_new w6 (.cells #[.int .i64 x.f0, .int .i64 x.f1, .int .i64 x.f2, .slice B3 x.f3.length d3, .slice B4 x.f4.length d4] 107)
          have hb8 : Below w6.heap.size w6 (w6.alloc (.cells #[.int .i64 x.f0, .int .i64 x.f1, .int .i64 x.f2, .slice B3 x.f3.length d3, .slice B4 x.f4.length d4] 107)) := (Below.refl _ _).alloc (Nat.le_refl _) _
          generalize w6.alloc (.cells #[.int .i64 x.f0, .int .i64 x.f1, .int .i64 x.f2, .slice B3 x.f3.length d3, .slice B4 x.f4.length d4] 107) = w8 at *
          have hbw8 := HB6.out.trans (hb8.mono HB6.out.size)
          have hg8 : w8.cell? ⟨g, 0, none⟩ = some (.slice A N.length c) := by unfold World.cell?; rw [(hbw8.block _ (Array.getElem?_eq_some_iff.1 HG2.out).1).trans HG2.out]; rfl
          obtain ⟨ad, C3, m3, C4, m4, rfl, hz0, hz1, hz2, hz3, hz4, -, -, -, -⟩ := at_T107 HG4.out x.f0 C2.out.1 C2.out.2
          obtain ⟨y, hy⟩ : ∃ y, y = rd_T107 N x.f0 := ⟨_, rfl⟩
          rw [← hy] at hz0 hz1 hz2 hz3 hz4
          have HYY := Aside0.mk hy
          have hz0 := (hbw8.cell (World.block_lt_of_cell? w _ hz0)).trans hz0
          have hz1 := (hbw8.cell (World.block_lt_of_cell? w _ hz1)).trans hz1
          have hz2 := (hbw8.cell (World.block_lt_of_cell? w _ hz2)).trans hz2
          have hz3 := (hbw8.cell (World.block_lt_of_cell? w _ hz3)).trans hz3
          have hz4 := (hbw8.cell (World.block_lt_of_cell? w _ hz4)).trans hz4
          have hu0 : w8.cell? ⟨w6.heap.size, 0, none⟩ = some (.int .i64 x.f0) := by simp only [World.cell?]; rw [hnew]; rfl
          have HNEW := Aside0.mk hnew
          have HBW8 := Aside0.mk hbw8
          have HO8 := Aside0.mk (Kd.R_below HO6.out hb8)
          have e2 := eq_true C2.out.1
          have e3 := eq_true C2.out.2
          have d2 : decide (0 ≤ x.f0) = true := decide_eq_true C2.out.1
          clear hnew hb8 hbw8 hy
          go_still_tail 8, (by kernel_rfl)
          change wpList _ _ _ _ _ w8.drew
          have HN9 : Aside0 (w8.drew.heap[w6.heap.size]? = some (.cells #[.int .i64 x.f0, .int .i64 x.f1, .int .i64 x.f2, .slice B3 x.f3.length d3, .slice B4 x.f4.length d4] 107 (0, 0))) := ⟨HNEW.out⟩
          have HB9 := Aside0.mk (below_drew1 HBW8.out)
          have HO9 := Aside0.mk (Kd.R_drew HO8.out)
          generalize w8.drew = w9 at *
          clear hz0 hz1 hz2 hz3 hz4 hu0 hg8
          have hv0 : w9.cell? ⟨w6.heap.size, 0, none⟩ = some (.int .i64 x.f0) := by simp only [World.cell?]; rw [HN9.out]; rfl
          have hv1 : w9.cell? ⟨w6.heap.size, 1, none⟩ = some (.int .i64 x.f1) := by simp only [World.cell?]; rw [HN9.out]; rfl
          have hv2 : w9.cell? ⟨w6.heap.size, 2, none⟩ = some (.int .i64 x.f2) := by simp only [World.cell?]; rw [HN9.out]; rfl
          have hv3 : w9.cell? ⟨w6.heap.size, 3, none⟩ = some (.slice B3 x.f3.length d3) := by simp only [World.cell?]; rw [HN9.out]; rfl
          have hv4 : w9.cell? ⟨w6.heap.size, 4, none⟩ = some (.slice B4 x.f4.length d4) := by simp only [World.cell?]; rw [HN9.out]; rfl
          have hfz : ∀ j, w9.frozen? ⟨w6.heap.size, j, none⟩ = false := fun j => by simp only [World.frozen?]; rw [HN9.out]; rfl
          go_wp2
          go_roundg kq
          case measure => omega
          case rel =>
            refine ⟨y, w6.heap.size, pre ++ [x.f1], r', rfl, ⟨HB6.out.size, C3, m3, C4, m4, set5 _ _ _ _ _ HN9.out⟩, ⟨by rw [HYY.out]; exact HR'.out, by rw [HTX.out.2, ← HRR.out]; simp⟩, ⟨?_⟩, ⟨set5_below _ _ _ _ _ HB9.out HB6.out.size⟩⟩
            exact Kd.R_mono (Kd.R_step (Kd.R_types HO9.out HN9.out (by decide)) (fun k hk _ => set5_other _ _ _ _ _ hk.2)) (fun _ _ => trivial)
        · rw [if_neg c2] at hT; cases hT
      · rw [if_neg c1] at hT
        have e0 := eq_false c1
        have e1 : decide (0 < x.f2) = false := decide_eq_false c1
        have hr0 : rest = [] := (Option.some.inj hT).symm
        have hpre : pre = r := by rw [HTX.out.2, hr0, List.append_nil]
        have hO := HO.out
        rw [hpre] at hO
        have HO1 := Aside0.mk hO
        clear hT c1 hr0 hpre hO
        go_wp2_with (go_at_call 72; refine (slices_Reverse_int_int.calls kr (fun _ => True) _ r r2 w _ HBL.out HO1.out H2.out).mono ?_; rintro e w7 ⟨rfl, ho7, hb7, _⟩; have HO7 := Aside0.mk ho7; have HB7 := Aside0.mk hb7; clear ho7 hb7)
        go_ret
        exact ⟨_, rfl, Kd.R_mono HO7.out (fun _ _ => trivial), HB7.out⟩
end Go.Proofs.Ytlipbiihemhieaa.Q

-- from Ptri7
/- Layer 22 on lists: a node's edges are the reference's; its text. -/
namespace Go.Proofs.Ytlipbiihemhieaa.K
set_option linter.unusedVariables false
set_option linter.unusedSimpArgs false
open Go.RowKit Go.Proofs.YtlipbiihemhieaaW.PrintWords Go.Proofs.YtlipbiihemhieaaW.PrintMore Go.Proofs.Ytlipbiihemhieaa.Q

theorem dn_gt {out : List Int} {c : Int} : ∀ (m : Nat), m ≤ out.length → ∀ j, (hj : j < out.length) → dn out c m ≤ j → j < m → out[j] > c
  | 0, _, j, _, _, h => absurd h (by omega)
  | m + 1, hm, j, hj, h1, h2 => by
    unfold dn at h1
    split at h1
    · rename_i h3
      by_cases e : j = m
      · subst e; rw [rd_nat out j hj] at h3; exact h3
      · exact dn_gt m (by omega) j hj h1 (by omega)
    · omega
theorem dn_at {out : List Int} {c : Int} : ∀ (m : Nat), m ≤ out.length → ∀ j, (hj : j < out.length) → dn out c m = j + 1 → out[j] ≤ c
  | 0, _, j, _, h => by simp [dn] at h
  | m + 1, hm, j, hj, h => by
    unfold dn at h
    split at h
    · exact dn_at m (by omega) j hj h
    · rename_i h3
      have : m = j := by omega
      subst this
      rw [rd_nat out m hj] at h3
      omega
def Up (l : List Int) : Prop := l.Pairwise (· < ·)
theorem insC_mem {out : List Int} {c e : Int} : e ∈ insC out c ↔ e = c ∨ e ∈ out := by
  unfold insC
  rw [List.mem_append, List.mem_cons]
  conv => rhs; rw [← List.take_append_drop (dn out c out.length) out, List.mem_append]
  constructor
  · rintro (h | h | h)
    · exact .inr (.inl h)
    · exact .inl h
    · exact .inr (.inr h)
  · rintro (h | h | h)
    · exact .inr (.inl h)
    · exact .inl h
    · exact .inr (.inr h)
theorem insC_up {out : List Int} {c : Int} (h : Up out) (hc : c ∉ out) : Up (insC out c) := by
  have hle := dn_le out c out.length
  have hlt := List.pairwise_iff_getElem.1 h
  have h1 : ∀ a ∈ out.take (dn out c out.length), a < c := fun a ha => by
    obtain ⟨i, hi, rfl⟩ := List.mem_iff_getElem.1 ha
    rw [List.length_take] at hi
    rw [List.getElem_take]
    have h2 := dn_at (out := out) (c := c) out.length (Nat.le_refl _) (dn out c out.length - 1) (by omega) (by omega)
    have h3 : out[i] ≠ c := fun e => hc (e ▸ List.getElem_mem _)
    by_cases e : i = dn out c out.length - 1
    · subst e; omega
    · have := hlt i (dn out c out.length - 1) (by omega) (by omega) (by omega)
      omega
  have h2 : ∀ b ∈ out.drop (dn out c out.length), c < b := fun b hb => by
    obtain ⟨i, hi, rfl⟩ := List.mem_iff_getElem.1 hb
    rw [List.length_drop] at hi
    rw [List.getElem_drop]
    exact dn_gt out.length (Nat.le_refl _) _ (by omega) (by omega) (by omega)
  refine List.pairwise_append.2 ⟨h.sublist (List.take_sublist _ _), List.pairwise_cons.2 ⟨h2, h.sublist (List.drop_sublist _ _)⟩, fun a ha b hb => ?_⟩
  rcases List.mem_cons.1 hb with rfl | hb
  · exact h1 a ha
  · have := h1 a ha
    have := h2 b hb
    omega
theorem edgesL_spec (s : List Int) : ∀ (R D : List (List Int)) (out : List Int), (D ++ R).Nodup → Up out → (∀ c, c ∈ out ↔ s ++ [c] ∈ D) → Up (edgesL s R out) ∧ ∀ c, c ∈ edgesL s R out ↔ s ++ [c] ∈ D ++ R
  | [], D, out, hn, hu, hm => ⟨hu, fun c => by rw [List.append_nil]; exact hm c⟩
  | t :: R, D, out, hn, hu, hm => by
    have hn2 : ((D ++ [t]) ++ R).Nodup := by simpa using hn
    have hnt : t ∉ D := fun h => by
      have := (List.nodup_append.1 hn).2.2 t h t (by simp)
      exact this rfl
    have e2 : D ++ t :: R = (D ++ [t]) ++ R := by simp
    rw [e2]
    show Up (if t.length = s.length + 1 ∧ t.take s.length = s then edgesL s R (insC out (rd t (s.length : Int))) else edgesL s R out) ∧ ∀ c, c ∈ (if t.length = s.length + 1 ∧ t.take s.length = s then edgesL s R (insC out (rd t (s.length : Int))) else edgesL s R out) ↔ _
    by_cases e : t.length = s.length + 1 ∧ t.take s.length = s
    · rw [if_pos e]
      have ht : t = s ++ [rd t (s.length : Int)] := by
        rw [rd_nat t s.length (by omega)]
        conv => lhs; rw [← List.take_append_drop s.length t, e.2, List.drop_eq_getElem_cons (by omega : s.length < t.length)]
        rw [List.drop_eq_nil_of_le (by omega)]
      obtain ⟨c, hc⟩ : ∃ c, c = rd t (s.length : Int) := ⟨_, rfl⟩
      rw [← hc] at ht ⊢
      refine edgesL_spec s R (D ++ [t]) _ hn2 (insC_up hu (fun h => hnt (by rw [ht]; exact (hm c).1 h))) (fun c' => ?_)
      rw [insC_mem, hm, List.mem_append, List.mem_singleton, ht]
      constructor
      · rintro (h | h)
        · exact .inr (by rw [h])
        · exact .inl h
      · rintro (h | h)
        · exact .inr h
        · exact .inl (by simpa using h)
    · rw [if_neg e]
      refine edgesL_spec s R (D ++ [t]) out hn2 hu (fun c' => ?_)
      rw [hm, List.mem_append, List.mem_singleton]
      constructor
      · exact .inl
      · rintro (h | h)
        · exact h
        · exact absurd ⟨by rw [← h]; simp, by rw [← h]; simp⟩ e
theorem up_uniq : ∀ (l m : List Int), Up l → Up m → (∀ c, c ∈ l ↔ c ∈ m) → l = m
  | [], [], _, _, _ => rfl
  | [], b :: m, _, _, h => absurd ((h b).2 (by simp)) (by simp)
  | a :: l, [], _, _, h => absurd ((h a).1 (by simp)) (by simp)
  | a :: l, b :: m, hl, hm, h => by
    obtain ⟨l1, l2⟩ := List.pairwise_cons.1 hl
    obtain ⟨m1, m2⟩ := List.pairwise_cons.1 hm
    have hab : a = b := by
      rcases List.mem_cons.1 ((h a).1 (by simp)) with e | e
      · exact e
      · rcases List.mem_cons.1 ((h b).2 (by simp)) with e2 | e2
        · exact e2.symm
        · have := m1 a e; have := l1 b e2; omega
    subst hab
    congr 1
    refine up_uniq l m l2 m2 (fun c => ⟨fun hc => ?_, fun hc => ?_⟩)
    · rcases List.mem_cons.1 ((h c).1 (by simp [hc])) with e | e
      · have := l1 c hc; omega
      · exact e
    · rcases List.mem_cons.1 ((h c).2 (by simp [hc])) with e | e
      · have := m1 c hc; omega
      · exact e
theorem edges_nd {T : List (List Int)} (hT : T.Nodup) {j : Nat} {x : S107} {s : List Int} (h : Nd T j x s) : edgesL s T [] = x.f3.map (·.f0) := by
  obtain ⟨h1, h2⟩ := edgesL_spec s T [] [] (by simpa using hT) List.Pairwise.nil (by simp)
  refine up_uniq _ _ h1 (List.pairwise_map.2 h.rise) (fun c => ?_)
  rw [h2, List.nil_append, List.mem_map]
  constructor
  · intro hm
    obtain ⟨i, hi⟩ := List.mem_iff_getElem?.1 hm
    obtain ⟨e, he, h3, _⟩ := h.all i c hi
    exact ⟨e, he, h3⟩
  · rintro ⟨e, he, rfl⟩
    obtain ⟨i, _, hi⟩ := h.out e he
    exact List.mem_of_getElem? hi
theorem text_nd {N : List S107} {T : List (List Int)} (h : Tr N T) : ∀ (m : Nat) {j : Nat} {x : S107} {s : List Int}, s.length = m → N[j]? = some x → Nd T j x s → ∀ k, m < k → textUp k N x = some s.reverse
  | 0, j, x, s, hs, hj, hx, k + 1, hk => by
    have : s = [] := List.length_eq_zero_iff.1 hs
    subst this
    show (if 0 < x.f2 then _ else some []) = _
    rw [if_neg (by rw [hx.dep]; simp)]; rfl
  | m + 1, j, x, s, hs, hj, hx, k + 1, hk => by
    obtain ⟨u, s0, h1, h2, h3, h4⟩ := hx.up (fun e => by rw [e] at hs; simp at hs)
    have hul : u < N.length := by rw [h.len]; exact (List.getElem?_eq_some_iff.1 h3).1
    obtain ⟨s1, hy⟩ := h.at_ u N[u] (List.getElem?_eq_getElem hul)
    obtain rfl : s1 = s0 := Option.some.inj (hy.tx.symm.trans h3)
    have hl : s1.length = m := by rw [h4] at hs; simpa using hs
    have ih := text_nd h m hl (List.getElem?_eq_getElem hul) hy k (by omega)
    have hrd : rd_T107 N (u : Int) = N[u] := by unfold rd_T107; rw [Int.toNat_natCast, List.getD_eq_getElem?_getD, List.getElem?_eq_getElem hul]; rfl
    show (if 0 < x.f2 then (if 0 ≤ x.f0 ∧ x.f0 < (N.length : Int) then (textUp k N (rd_T107 N x.f0)).bind fun r => some (x.f1 :: r) else none) else some []) = _
    rw [if_pos (by rw [hx.dep]; omega), if_pos ⟨by omega, by omega⟩, h1, hrd, ih]
    show some (x.f1 :: s1.reverse) = _
    rw [h4]; simp
end Go.Proofs.Ytlipbiihemhieaa.K

-- from Ptri8
/- Layer 22 on lists: a node's step, as the reference tells it. -/
namespace Go.Proofs.Ytlipbiihemhieaa.K
set_option linter.unusedVariables false
set_option linter.unusedSimpArgs false
open Go.RowKit Go.Proofs.YtlipbiihemhieaaW.PrintWords Go.Proofs.YtlipbiihemhieaaW.PrintMore Go.Proofs.Ytlipbiihemhieaa.Q

theorem node_in {N : List S107} {j : Nat} {x : S107} (h : N[j]? = some x) : nodeAt N (j : Int) = x := by
  obtain ⟨hl, e⟩ := List.getElem?_eq_some_iff.1 h
  unfold nodeAt
  rw [if_neg (by omega), if_neg (by omega)]
  unfold rd_T107
  rw [Int.toNat_natCast, List.getD_eq_getElem?_getD, h]; rfl
theorem node_out {N : List S107} {n : Int} (h : n < 0 ∨ (N.length : Int) ≤ n) : nodeAt N n = z107 := by
  unfold nodeAt
  by_cases e : n < 0
  · rw [if_pos e]
  · rw [if_neg e, if_pos (by omega)]
theorem step_at {N : List S107} {T : List (List Int)} (h : Tr N T) (hl : T.length ≤ 100000) {j : Nat} {x : S107} {s : List Int} (hs : Nd T j x s) (c : Int) :
    ∃ k, trie_place.f k x.f3 c = some ((ePos x.f3 c : Int), eHas x.f3 c) ∧ (eHas x.f3 c = true → 0 ≤ (ePos x.f3 c : Int) ∧ (ePos x.f3 c : Int) < (x.f3.length : Int)) ∧ eHas x.f3 c = decide (0 ≤ findT 0 T (s ++ [c])) ∧
      (if eHas x.f3 c = true then (rd_T112 x.f3 (ePos x.f3 c : Int)).f1 else 0) = max (findT 0 T (s ++ [c])) 0 := by
  obtain ⟨k, hk⟩ := (place_ev (by have := hs.few; omega) hs.rise c).rounds
  refine ⟨k, hk, fun he => ?_, ?_⟩
  · obtain ⟨hp, _⟩ := eHas_t he
    omega
  · cases he : eHas x.f3 c with
    | true =>
      obtain ⟨hm, t, ht, ht2⟩ := step_old h hs he
      have hf := findT_at h.nd ht2
      rw [hf]
      refine ⟨(decide_eq_true (by omega)).symm, ?_⟩
      rw [if_pos rfl, ht]
      omega
    | false =>
      have hne := eHas_f hs.rise he
      have hf : findT 0 T (s ++ [c]) = -1 := findT_none _ T 0 (fun hm => by
        obtain ⟨i, hi⟩ := List.mem_iff_getElem?.1 hm
        obtain ⟨e, he2, h1, _⟩ := hs.all i c hi
        exact hne e he2 h1)
      rw [hf]
      refine ⟨(decide_eq_false (by omega)).symm, ?_⟩
      rw [if_neg (by simp)]
      omega
theorem step_no (c : Int) : ∃ k, trie_place.f k (z107).f3 c = some (0, false) := by
  obtain ⟨k, hk⟩ := (place_ev (L := []) (by simp) List.Pairwise.nil c).rounds
  exact ⟨k, hk⟩
/-- Where a text is, its node is. -/
theorem node_of {N : List S107} {T : List (List Int)} (h : Tr N T) {j : Nat} {s : List Int} (hj : T[j]? = some s) : ∃ x, N[j]? = some x ∧ Nd T j x s := by
  have hl : j < N.length := by rw [h.len]; exact (List.getElem?_eq_some_iff.1 hj).1
  obtain ⟨s1, hs⟩ := h.at_ j N[j] (List.getElem?_eq_getElem hl)
  obtain rfl : s1 = s := Option.some.inj (hs.tx.symm.trans hj)
  exact ⟨N[j], List.getElem?_eq_getElem hl, hs⟩
end Go.Proofs.Ytlipbiihemhieaa.K

-- from Htrn
/- trie's reference: New. -/
namespace Go.Proofs.Ytlipbiihemhieaa.Q
open Go.RowKit Go.Proofs.YtlipbiihemhieaaW.PrintWords Go.Proofs.YtlipbiihemhieaaW.PrintLast Go.Proofs.YtlipbiihemhieaaW.PrintMore Go.Proofs.Ytlipbiihemhieaa.K
set_option linter.unusedVariables false
set_option linter.unusedSimpArgs false

/-- A row of texts that the call has made; the texts are the caller's. -/
def TxIn (w0 W : World) (v : Value) (T : List (List Int)) : Prop := ∃ cells : List Value, W.ownsRow w0.heap.size 22 1 v T.length cells ∧ ∀ (j : Nat) (t : List Int), T[j]? = some t → ∃ A c, cells[j]? = some (Value.slice A t.length c) ∧ t.length ≤ c ∧ Kd.C (Kd.int .i64) w0 A t.length t
theorem TxIn.reads {w0 W : World} {v : Value} {T : List (List Int)} (h : TxIn w0 W v T) (hb : Below w0.heap.size w0 W) : ∃ A c, v = .slice A T.length c ∧ T.length ≤ c ∧ Kd.C (Kd.slice 3 (Kd.int .i64)) W A T.length T := by
  obtain ⟨cells, ho, hc⟩ := h
  rcases ho.2 with ⟨rfl, h0⟩ | ⟨g, cap, cur, rfl, h1, h2, h3, h4, h5, h6⟩
  · have hT : T = [] := List.length_eq_zero_iff.1 h0
    subst hT
    exact ⟨none, 0, rfl, Nat.le_refl _, rfl, by simp, fun h => by simp at h⟩
  · refine ⟨some ⟨g, 0, none⟩, cap, rfl, h3, rfl, by unfold maxLen at h4; omega, fun _ => ⟨⟨g, 0, none⟩, rfl, fun j t hj => ?_⟩⟩
    obtain ⟨A, c, e1, e2, e3⟩ := hc j t hj
    refine ⟨[.slice A t.length c], rfl, ⟨A, c, rfl, e2, Kd.C_below e3 hb⟩, fun i u hu => ?_⟩
    have hi : i = 0 := by
      cases i with
      | zero => rfl
      | succ i => simp at hu
    subst hi
    simp only [List.getElem?_cons_zero, Option.some.injEq] at hu
    subst hu
    have hjl : j < T.length := (List.getElem?_eq_some_iff.1 hj).1
    have h7 : cur[j]? = some (.slice A t.length c) := by
      rw [← h6, List.getElem?_take_of_lt (by omega), Array.getElem?_toList] at e1
      exact e1
    rw [Addr.add_lit]
    simp only [World.cell?]
    rw [h2]
    show cur[0 + (j * 1 + 0)]? = _
    rw [← h7]; congr 1; omega
theorem TxIn.below {w0 W W' : World} {v : Value} {T : List (List Int)} (h : TxIn w0 W v T) (hb : Below W.heap.size W W') : TxIn w0 W' v T := by
  obtain ⟨cells, ho, hc⟩ := h
  refine ⟨cells, ⟨ho.1, ?_⟩, hc⟩
  rcases ho.2 with h | ⟨g, cap, cur, h0, h1, h2, h3⟩
  · exact .inl h
  · exact .inr ⟨g, cap, cur, h0, h1, (hb.block g (Array.getElem?_eq_some_iff.1 h2).1).trans h2, h3⟩
theorem TxIn.snoc {w0 W : World} {v : Value} {T : List (List Int)} {cells : List Value} {t : List Int} {A : Option Addr} {c : Nat} (ho : W.ownsRow w0.heap.size 22 1 v (T.length + 1) (cells ++ [.slice A t.length c])) (hl : cells.length = T.length)
    (hc : ∀ (j : Nat) (t : List Int), T[j]? = some t → ∃ A c, cells[j]? = some (Value.slice A t.length c) ∧ t.length ≤ c ∧ Kd.C (Kd.int .i64) w0 A t.length t) (h1 : t.length ≤ c) (h2 : Kd.C (Kd.int .i64) w0 A t.length t) : TxIn w0 W v (T ++ [t]) := by
  refine ⟨cells ++ [.slice A t.length c], by rw [List.length_append]; exact ho, fun j q hj => ?_⟩
  by_cases e : j < T.length
  · rw [List.getElem?_append_left e] at hj
    rw [List.getElem?_append_left (by omega)]
    exact hc j q hj
  · have hj2 := (List.getElem?_eq_some_iff.1 hj).1
    have : j = T.length := by simp at hj2; omega
    subst this
    rw [List.getElem?_append_right (Nat.le_refl _), Nat.sub_self] at hj
    obtain rfl := Option.some.inj hj
    exact ⟨A, c, by rw [List.getElem?_append_right (by omega), hl, Nat.sub_self]; rfl, h1, h2⟩
theorem TxIn.first {w0 : World} (h : w0 = w0) : TxIn w0 (w0.alloc (.cells #[.slice none 0 0] 22)) (.slice (some ⟨w0.heap.size, 0, none⟩) 1 1) [[]] := by
  refine ⟨[.slice none 0 0], ⟨rfl, .inr ⟨w0.heap.size, 1, #[.slice none 0 0], rfl, Nat.le_refl _, heap_alloc_new w0 _, Nat.le_refl _, by decide, rfl, rfl⟩⟩, fun j t hj => ?_⟩
  have hj2 := (List.getElem?_eq_some_iff.1 hj).1
  have : j = 0 := by simp at hj2; omega
  subst this
  obtain rfl := (Option.some.inj hj).symm
  exact ⟨none, 0, rfl, Nat.le_refl _, rfl, by simp, fun h => by simp at h⟩
theorem refFind.calls {T : List (List Int)} {s : List Int} (hl : T.length ≤ 1000000) (ht : ∀ t ∈ T, t.length ≤ 1000000) (hs : s.length ≤ 1000000) (A0 : Option Addr) (c0 : Nat) (A1 : Option Addr) (c1 n : Nat) (w : World) (hr0 : Kd.C (Kd.slice 3 (Kd.int .i64)) w A0 T.length T) (hc0 : T.length ≤ c0) (hr1 : Kd.C (Kd.int .i64) w A1 s.length s) (hc1 : s.length ≤ c1) (hn : n = s.length) :
    Calls Try.prog 54 #[.slice A0 T.length c0, .slice A1 n c1] w fun e w' => e = .returned (.int .i64 (findT 0 T s)) ∧ Drawn0 w w' := by
  obtain ⟨k, hk⟩ := (find_T hl ht s hs).rounds
  subst hn
  exact paronymref22_Find.calls k A0 c0 T A1 c1 s _ w hr0 hc0 hr1 hc1 hk
theorem info_sl : (Try.prog.info? 22).map (fun i => (i.zero, i.size, i.bytes)) = some (some (.slice none 0 0), 1, 24) := by kernel_rfl
set_option maxHeartbeats 4000000 in
set_option maxRecDepth 100000 in
theorem refNew.calls (A : Option Addr) (ca : Nat) (P : List (List Int)) (w : World) (hp : Kd.C (Kd.slice 3 (Kd.int .i64)) w A P.length P) (hc : P.length ≤ ca) (hs : P.length ≤ 300) (hps : ∀ p ∈ P, p.length ≤ 300) :
    Calls Try.prog 46 #[.slice A P.length ca] w fun e w' => ∃ v, e = .returned v ∧ TxIn w w' v (allT [[]] P) ∧ Below w.heap.size w w' := by
  have HP := Aside0.mk hp
  have HC := Aside0.mk hc
  have HS := Aside0.mk hs
  have HPS := Aside0.mk hps
  clear hp hc hs hps
  go_enter Try.func46, Try.ntmps46
  go_wp2
  go_loopg [3, 4] (P.length + 1) (fun kq v3 v4 wr => ∃ (i : Nat), v4 = .int .i64 (i : Int) ∧ Aside0 (i + kq = P.length + 1 ∧ i ≤ P.length) ∧ Aside0 (TxIn w wr v3 (allT [[]] (P.take i))) ∧ Aside0 (Below w.heap.size w wr))
  case atStart => exact ⟨0, rfl, ⟨by omega, by omega⟩, ⟨TxIn.first rfl⟩, ⟨(Below.refl _ w).alloc (Nat.le_refl _) _⟩⟩
  case round =>
    obtain ⟨i, rfl, HI, HT, HB⟩ := hrel
    cases gk with
    | zero => exact absurd HI.out (by omega)
    | succ kq =>
      by_cases c1 : (i : Int) < (P.length : Int)
      · have hil : i < P.length := by omega
        have b0 : 0 ≤ (i : Int) := by omega
        obtain ⟨ad, A1, n1, e1, hx0, hl1, hi1⟩ := at_L1 HP.out (i : Int) b0 c1
        cases e1
        rw [Int.toNat_natCast] at hx0
        have hpj : (rd_L1 P (i : Int)).length ≤ 300 := by rw [rdL1 i hil]; exact HPS.out _ (List.getElem_mem hil)
        have hsn : allT [[]] (P.take (i + 1)) = goT (allT [[]] (P.take i)) [] (rd_L1 P (i : Int)) := by rw [take_L1 P i hil, allT_snoc]
        obtain ⟨p, hpe⟩ : ∃ p, p = rd_L1 P (i : Int) := ⟨_, rfl⟩
        rw [← hpe] at hx0 hl1 hi1 hpj hsn
        have HX0 := Aside0.mk hx0
        have HL1 := Aside0.mk hl1
        have HI1 := Aside0.mk hi1
        have HPJ := Aside0.mk hpj
        have HSN := Aside0.mk hsn
        have HIL := Aside0.mk hil
        have b4 : (i : Int) ≤ 300 := by have := HS.out; omega
        have e0 := eq_true c1
        have e1 : decide ((i : Int) < (P.length : Int)) = true := decide_eq_true c1
        clear hx0 hl1 hi1 hpj hsn hpe hil
        obtain ⟨T0, hT0⟩ : ∃ T0, T0 = allT [[]] (P.take i) := ⟨_, rfl⟩
        rw [← hT0] at HT HSN
        have hT0l : T0.length ≤ 1 + 300 * i ∧ ∀ t ∈ T0, t.length ≤ 300 := by
          have h1 := allT_len (P.take i) [[]] (fun q hq => HPS.out q (List.mem_of_mem_take hq))
          have h2 := allT_short (P.take i) [[]] 300 (by simp) (fun q hq => HPS.out q (List.mem_of_mem_take hq))
          rw [← hT0, List.length_take] at h1
          rw [← hT0] at h2
          refine ⟨?_, h2⟩
          simp only [List.length_cons, List.length_nil] at h1
          have := Nat.min_le_left i P.length
          omega
        have HT0L := Aside0.mk hT0l
        clear hT0 hT0l c1
        go_wp2
        go_loopg [3, 5] (p.length + 1) (fun kq2 v3 v5 wr2 => ∃ (j : Nat), v5 = .int .i64 ((j : Int) + 1) ∧ Aside0 (j + kq2 = p.length + 1 ∧ j ≤ p.length) ∧ Aside0 (TxIn w wr2 v3 (goT T0 [] (p.take j))) ∧ Aside0 (Below w.heap.size w wr2))
        case atStart => exact ⟨0, rfl, ⟨by omega, by omega⟩, HT, HB⟩
        case round =>
          obtain ⟨j, rfl, HJ, HTJ, HBJ⟩ := hrel
          cases gk with
          | zero => exact absurd HJ.out (by omega)
          | succ kq3 =>
            have hx := (HBJ.out.cell (World.block_lt_of_cell? w _ HX0.out)).trans HX0.out
            by_cases c2 : ((j : Int) + 1) ≤ (p.length : Int)
            · have hjl : j < p.length := by omega
              obtain ⟨t, ht⟩ : ∃ t, t = p.take (j + 1) := ⟨_, rfl⟩
              have htl : t.length = j + 1 := by rw [ht, List.length_take]; omega
              obtain ⟨T1, hT1⟩ : ∃ T1, T1 = goT T0 [] (p.take j) := ⟨_, rfl⟩
              rw [← hT1] at HTJ
              have hsn2 : goT T0 [] (p.take (j + 1)) = stepL T1 t := by
                rw [List.take_succ_eq_append_getElem hjl, goT_snoc, ← hT1, List.nil_append, ← List.take_succ_eq_append_getElem hjl, ← ht]
              have hT1l : T1.length ≤ 100000 ∧ ∀ q ∈ T1, q.length ≤ 300 := by
                have h1 := goT_len (p.take j) T0 []
                have h2 := goT_short (p.take j) T0 [] 300 HT0L.out.2 (by rw [List.length_take]; have := HPJ.out; simp; omega)
                rw [← hT1] at h1 h2
                have h3 := HT0L.out.1
                have h4 := HPJ.out
                rw [List.length_take] at h1
                exact ⟨by omega, h2⟩
              have hct : Kd.C (Kd.int .i64) w A1 t.length t := by rw [ht]; exact Kd.C_take HI1.out (by omega)
              have HCT := Aside0.mk hct
              have HT1L := Aside0.mk hT1l
              have HSN2 := Aside0.mk hsn2
              have HTL := Aside0.mk htl
              have HJL := Aside0.mk hjl
              obtain ⟨RA, rc, rfl, hrl, hrC⟩ := HTJ.out.reads HBJ.out
              have HRL := Aside0.mk hrl
              have HRC := Aside0.mk hrC
              have e2 := eq_true c2
              have e3 : decide (((j : Int) + 1) ≤ (p.length : Int)) = true := decide_eq_true c2
              have b5 : 0 ≤ ((j : Int) + 1) := by omega
              have b9 : (j : Int) ≤ 300 := by have := HPJ.out; omega
              have b6 : ((j : Int) + 1) ≤ (n1 : Int) := by have := HL1.out; omega
              have b7 : ((j : Int) + 1).toNat = j + 1 := by omega
              have b8 : (j + 1 ≤ n1) = True := eq_true (by have := HL1.out; omega)
              clear hct hT1l hsn2 htl hjl ht hT1 hrl hrC c2
              by_cases hm : t ∈ T1
              · obtain ⟨m, hf, _⟩ := findT_some t T1 0 hm
                have HM := Aside0.mk hm
                have HF := Aside0.mk hf
                clear hm hf
                have f0 : (((0 + m : Nat) : Int) < 0) = False := eq_false (by omega)
                have f1 : decide (((0 + m : Nat) : Int) < 0) = false := decide_eq_false (by omega)
                obtain ⟨mi, hmi⟩ : ∃ mi : Int, mi = ((0 + m : Nat) : Int) := ⟨_, rfl⟩
                rw [← hmi] at f0 f1
                have HMI := Aside0.mk hmi
                clear hmi
                go_wp2_with (go_at_call 54; (with_reducible refine (refFind.calls (T := T1) (s := t) ?g1 ?g2 ?g3 RA rc A1 n1 (j + 1) _ HRC.out HRL.out (Kd.C_below HCT.out HBJ.out) ?g4 ?g5).mono ?_); (case g1 => have := HT1L.out.1; omega); (case g2 => intro q hq; have := HT1L.out.2 q hq; omega); (case g3 => have := HTL.out; have := HPJ.out; have := HJL.out; omega); (case g4 => have := HTL.out; have := HL1.out; have := HJL.out; omega); (case g5 => exact HTL.out.symm); rintro e w5 ⟨rfl, hd⟩; rw [HF.out, ← HMI.out]; have HB5 := Aside0.mk (show Below wr.heap.size wr w5 by obtain ⟨m9, rfl⟩ := hd; exact pw_below_drewN (Below.refl _ _) _); clear hd)
                go_roundg kq3
                case measure => omega
                case rel => exact ⟨j + 1, by first | rfl | go_num, ⟨by have := HJ.out; omega, HJL.out⟩, ⟨by rw [HSN2.out, stepL_in HM.out]; exact HTJ.out.below HB5.out⟩, ⟨HBJ.out.trans (HB5.out.mono HBJ.out.size)⟩⟩
              · have hf := findT_none t T1 0 hm
                have HM := Aside0.mk hm
                have HF := Aside0.mk hf
                clear hm hf
                go_wp2_with (first
                  | (go_at_call 54; (with_reducible refine (refFind.calls (T := T1) (s := t) ?g1 ?g2 ?g3 RA rc A1 n1 (j + 1) _ HRC.out HRL.out (Kd.C_below HCT.out HBJ.out) ?g4 ?g5).mono ?_); (case g1 => have := HT1L.out.1; omega); (case g2 => intro q hq; have := HT1L.out.2 q hq; omega); (case g3 => have := HTL.out; have := HPJ.out; have := HJL.out; omega); (case g4 => have := HTL.out; have := HL1.out; have := HJL.out; omega); (case g5 => exact HTL.out.symm); rintro e w5 ⟨rfl, hd⟩; rw [HF.out]; have HB5 := Aside0.mk (show Below wr.heap.size wr w5 by obtain ⟨m9, rfl⟩ := hd; exact pw_below_drewN (Below.refl _ _) _); have hx5 := (HB5.out.cell (World.block_lt_of_cell? wr _ hx)).trans hx; clear hd
                     obtain ⟨cells, hown, hcells⟩ := HTJ.out.below HB5.out
                     have hb5 : Below w.heap.size w w5 := HBJ.out.trans (HB5.out.mono HBJ.out.size)
                     have HCE := Aside0.mk hcells
                     have HBD := Aside0.mk hb5
                     have HOD := Aside0.mk hown
                     clear hown hcells hb5)
                  | ((with_reducible refine gate_builtin (b := .append) (xs := #[.tmp 31, .tmp 38]) rfl ?_); at_builtin
                     refine print_append_cells (w0 := w) (W := w5) w.heap.size rfl (.tmp 31) (.tmp 38) 24 22 (.slice none 0 0) 1 24 rfl Try.underlying24 info_sl rfl (by decide) (by decide) (.slice RA T1.length rc) T1.length cells [.slice A1 (j + 1) n1] rfl rfl rfl ?ho HOD.out HBD.out ?hb ?hl ?_
                     (case ho => intro u hu; simp at hu; subst hu; rfl)
                     (case hb => exact HBD.out.size)
                     (case hl => have := HT1L.out.1; omega)
                     intro v1 w6 hown1 hb1 hg1 hat1
                     have HO6 := Aside0.mk hown1
                     have HB6 := Aside0.mk hb1
                     clear hown1 hb1 hg1 hat1))
                go_roundg kq3
                case measure => omega
                case rel => exact ⟨j + 1, by first | rfl | go_num, ⟨by have := HJ.out; omega, HJL.out⟩, ⟨by rw [HSN2.out, stepL_out HM.out]; exact TxIn.snoc (by rw [HTL.out]; exact HO6.out) (by have := HOD.out.1; omega) HCE.out (by have := HTL.out; have := HL1.out; have := HJL.out; omega) HCT.out⟩, HB6⟩
            · have hjl : j = p.length := by have := HJ.out; omega
              have hT := HTJ.out
              rw [hjl, List.take_length, ← HSN.out] at hT
              have HTT := Aside0.mk hT
              have e2 := eq_false c2
              have e3 : decide ((j : Int) + 1 ≤ (p.length : Int)) = false := decide_eq_false c2
              clear hjl hT c2
              go_wp2
              go_roundg kq
              case measure => omega
              case rel => exact ⟨i + 1, by first | rfl | go_num, ⟨by have := HI.out; omega, HIL.out⟩, HTT, HBJ⟩
      · have hil : i = P.length := by have := HI.out; omega
        have hT := HT.out
        rw [hil, List.take_length] at hT
        have HTT := Aside0.mk hT
        have e0 := eq_false c1
        have e1 : decide ((i : Int) < (P.length : Int)) = false := decide_eq_false c1
        clear hil hT c1
        go_wp2
        go_ret
        exact ⟨_, rfl, HTT.out, HB.out⟩
end Go.Proofs.Ytlipbiihemhieaa.Q

-- from Haw22
/- trie's law: awake. -/
namespace Go.Proofs.Ytlipbiihemhieaa.Q
open Go.RowKit Go.Proofs.YtlipbiihemhieaaW.PrintWords Go.Proofs.YtlipbiihemhieaaW.PrintLast Go.Proofs.YtlipbiihemhieaaW.PrintMore Go.Proofs.Ytlipbiihemhieaa.K
set_option linter.unusedVariables false
set_option linter.unusedSimpArgs false

def P3 : List (List Int) := [[1, 2], [1, 3], [1]]
def T3 : List S107 := [⟨0, 0, 0, [⟨1, 1⟩], []⟩, ⟨0, 1, 1, [⟨2, 2⟩, ⟨3, 3⟩], [2]⟩, ⟨1, 2, 2, [], [0]⟩, ⟨1, 3, 2, [], [1]⟩]
theorem p3_all : addAll 10 root0 0 P3 = some T3 := by kernel_rfl
theorem p3_idx : idxE 0 P3 = -1 := by rfl
theorem p3_same : paronymref01_Same.f 10 [2] [2] = some true := by kernel_rfl
theorem ints_lit {W : World} {g : Nat} {l : List Int} {e : Nat} {p : Nat × Nat} (h : W.heap[g]? = some (.cells (l.map (Value.int .i64)).toArray e p)) (hl : l.length ≤ 1000) : Kd.C (Kd.int .i64) W (some ⟨g, 0, none⟩) l.length l := by
  refine ⟨rfl, by omega, fun _ => ⟨⟨g, 0, none⟩, rfl, fun j q hj => ⟨_, rfl, rfl, fun i u hu => ?_⟩⟩⟩
  have hi : i = 0 := by
    cases i with
    | zero => rfl
    | succ i => simp at hu
  subst hi
  simp only [List.getElem?_cons_zero, Option.some.injEq] at hu
  subst hu
  rw [Addr.add_lit]
  simp only [World.cell?]
  rw [h]
  show ((l.map (Value.int .i64)).toArray)[0 + (j * 1 + 0)]? = _
  simp [hj]
theorem rows_lit {W : World} {g : Nat} {P : List (List Int)} {gs : List Nat} {e : Nat} {p : Nat × Nat} (h : W.heap[g]? = some (.cells ((P.zip gs).map (fun q => Value.slice (some ⟨q.2, 0, none⟩) q.1.length q.1.length)).toArray e p)) (hl : P.length ≤ 1000) (hg : gs.length = P.length)
    (hin : ∀ (j : Nat) (q : List Int) (b : Nat), P[j]? = some q → gs[j]? = some b → Kd.C (Kd.int .i64) W (some ⟨b, 0, none⟩) q.length q) : Kd.C (Kd.slice 3 (Kd.int .i64)) W (some ⟨g, 0, none⟩) P.length P := by
  refine ⟨rfl, by omega, fun _ => ⟨⟨g, 0, none⟩, rfl, fun j q hj => ?_⟩⟩
  have hjl : j < gs.length := by rw [hg]; exact (List.getElem?_eq_some_iff.1 hj).1
  have hb : gs[j]? = some gs[j] := List.getElem?_eq_getElem hjl
  refine ⟨[.slice (some ⟨gs[j], 0, none⟩) q.length q.length], rfl, ⟨_, _, rfl, Nat.le_refl _, hin j q _ hj hb⟩, fun i u hu => ?_⟩
  have hi : i = 0 := by
    cases i with
    | zero => rfl
    | succ i => simp at hu
  subst hi
  simp only [List.getElem?_cons_zero, Option.some.injEq] at hu
  subst hu
  rw [Addr.add_lit]
  simp only [World.cell?]
  rw [h]
  have hz : (P.zip gs)[j]? = some (q, gs[j]) := List.getElem?_zip_eq_some.2 ⟨hj, hb⟩
  show (((P.zip gs).map (fun q => Value.slice (some ⟨q.2, 0, none⟩) q.1.length q.1.length)).toArray)[0 + (j * 1 + 0)]? = _
  simp [hz]
theorem p3_no : false = decide (idxE 0 P3 ≥ 0) := by decide
theorem p3_len : ∀ i : Nat, (rd_L1 P3 (i : Int)).length ≤ 1000 := fun i => by
  match i with
  | 0 => decide
  | 1 => decide
  | 2 => decide
  | i + 3 => show (P3.getD (i + 3) []).length ≤ 1000; simp [P3]
/-- A check that a computer can do. -/
def small (N : List S107) (m : Nat) : Bool := decide (N.length ≤ m) && N.all fun x => decide (x.f3.length ≤ m) && decide (x.f4.length ≤ m) && decide (-1 ≤ x.f2) && decide (x.f2 ≤ m)
theorem small_S {N : List S107} {m : Nat} (h : small N m = true) : TrieS N m := by
  unfold small at h
  rw [Bool.and_eq_true, decide_eq_true_iff, List.all_eq_true] at h
  refine ⟨h.1, fun x hx => ?_⟩
  have := h.2 x hx
  simp only [Bool.and_eq_true, decide_eq_true_iff] at this
  exact ⟨this.1.1.1, this.1.1.2, this.1.2, this.2⟩
def smallAt (i j : Nat) : Bool := match addAll 10 root0 0 (P3.take i) with
  | none => true
  | some N1 => match addGo 10 N1 0 ((rd_L1 P3 (i : Int)).take j) with
    | none => true
    | some q => small q.1 100000
theorem smallAt_S {i j : Nat} (h : smallAt i j = true) {N1 N2 : List S107} {a : Nat} (h1 : addAll 10 root0 0 (P3.take i) = some N1) (h2 : addGo 10 N1 0 ((rd_L1 P3 (i : Int)).take j) = some (N2, a)) : TrieS N2 100000 := by
  unfold smallAt at h
  rw [h1] at h
  simp only at h
  rw [h2] at h
  exact small_S h
theorem p3_small : AllS 10 P3 := by
  intro i N1 hi h1 j N2 a hj h2
  have hi : i < 3 := hi
  match i, hi with
  | 0, _ =>
    have hj : j ≤ 2 := hj
    match j, hj with
    | 0, _ => exact smallAt_S (i := 0) (j := 0) (by kernel_rfl) h1 h2
    | 1, _ => exact smallAt_S (i := 0) (j := 1) (by kernel_rfl) h1 h2
    | 2, _ => exact smallAt_S (i := 0) (j := 2) (by kernel_rfl) h1 h2
  | 1, _ =>
    have hj : j ≤ 2 := hj
    match j, hj with
    | 0, _ => exact smallAt_S (i := 1) (j := 0) (by kernel_rfl) h1 h2
    | 1, _ => exact smallAt_S (i := 1) (j := 1) (by kernel_rfl) h1 h2
    | 2, _ => exact smallAt_S (i := 1) (j := 2) (by kernel_rfl) h1 h2
  | 2, _ =>
    have hj : j ≤ 1 := hj
    match j, hj with
    | 0, _ => exact smallAt_S (i := 2) (j := 0) (by kernel_rfl) h1 h2
    | 1, _ => exact smallAt_S (i := 2) (j := 1) (by kernel_rfl) h1 h2
theorem p3_row (w : World) : Kd.C (Kd.slice 3 (Kd.int .i64)) ((((w.alloc (.cells #[.int .i64 1, .int .i64 2] 3)).alloc (.cells #[.int .i64 1, .int .i64 3] 3)).alloc (.cells #[.int .i64 1] 3)).alloc
    (.cells #[.slice (some ⟨w.heap.size, 0, none⟩) 2 2, .slice (some ⟨w.heap.size + 1, 0, none⟩) 2 2, .slice (some ⟨w.heap.size + 1 + 1, 0, none⟩) 1 1] 22)) (some ⟨w.heap.size + 1 + 1 + 1, 0, none⟩) P3.length P3 := by
  obtain ⟨w1, h1⟩ : ∃ w1, w1 = w.alloc (.cells #[.int .i64 1, .int .i64 2] 3) := ⟨_, rfl⟩
  obtain ⟨w2, h2⟩ : ∃ w2, w2 = w1.alloc (.cells #[.int .i64 1, .int .i64 3] 3) := ⟨_, rfl⟩
  obtain ⟨w3, h3⟩ : ∃ w3, w3 = w2.alloc (.cells #[.int .i64 1] 3) := ⟨_, rfl⟩
  rw [← h1, ← h2, ← h3]
  have s1 : w1.heap.size = w.heap.size + 1 := by rw [h1]; simp
  have s2 : w2.heap.size = w.heap.size + 1 + 1 := by rw [h2]; simp [s1]
  have s3 : w3.heap.size = w.heap.size + 1 + 1 + 1 := by rw [h3]; simp [s2]
  have k1 : w1.heap[w.heap.size]? = some (.cells #[.int .i64 1, .int .i64 2] 3 (0, 0)) := by rw [h1]; exact heap_alloc_new w _
  have k2 : w2.heap[w1.heap.size]? = some (.cells #[.int .i64 1, .int .i64 3] 3 (0, 0)) := by rw [h2]; exact heap_alloc_new w1 _
  have k3 : w3.heap[w2.heap.size]? = some (.cells #[.int .i64 1] 3 (0, 0)) := by rw [h3]; exact heap_alloc_new w2 _
  have e2 : w2.heap[w.heap.size]? = w1.heap[w.heap.size]? := by rw [h2]; exact heap_alloc_old _ _ (by omega)
  have e3 : w3.heap[w.heap.size]? = w2.heap[w.heap.size]? := by rw [h3]; exact heap_alloc_old _ _ (by omega)
  have f3 : w3.heap[w1.heap.size]? = w2.heap[w1.heap.size]? := by rw [h3]; exact heap_alloc_old _ _ (by omega)
  rw [s1] at k2 f3
  rw [s2] at k3
  rw [show w.heap.size + 1 + 1 + 1 = w3.heap.size from s3.symm]
  refine rows_lit (gs := [w.heap.size, w.heap.size + 1, w.heap.size + 1 + 1]) (heap_alloc_new w3 _) (by decide) rfl ?_
  intro j q b hq hb
  match j, hq, hb with
  | 0, hq, hb =>
    simp [P3] at hq hb
    subst hq; subst hb
    exact ints_lit (((heap_alloc_old _ _ (by omega)).trans (e3.trans e2)).trans k1) (by decide)
  | 1, hq, hb =>
    simp [P3] at hq hb
    subst hq; subst hb
    exact ints_lit (((heap_alloc_old _ _ (by omega)).trans f3).trans k2) (by decide)
  | 2, hq, hb =>
    simp [P3] at hq hb
    subst hq; subst hb
    exact ints_lit ((heap_alloc_old _ _ (by omega)).trans k3) (by decide)
  | j + 3, hq, hb => simp [P3] at hq
set_option maxHeartbeats 4000000 in
set_option maxRecDepth 100000 in
theorem paronymlaw22_awake.calls0 (w : World) : Calls Try.prog 42 #[] w fun e w' => e = .returned (.bool true) ∧ Below w.heap.size w w' := by
  go_enter Try.func42, Try.ntmps42
  have t4 : ((T3.length : Int) = 4) = True := eq_true rfl
  have t5 : ((T3.length : Int) == 4) = true := rfl
  have t6 : decide ((T3.length : Int) = 4) = true := rfl
  go_wp2_with (first
    | (go_at_call 44
       refine (trie_New.calls 10 _ 3 P3 _ (p3_row w) (by decide) (by decide) p3_len false p3_no T3 (fun _ => ⟨p3_all, p3_small⟩)).mono ?_
       rintro e w1 ⟨hb1, hq⟩
       rcases hq with ⟨hq, _⟩ | ⟨_, g, rfl, hT⟩
       (exact absurd hq (by decide))
       have HT1 := Aside0.mk hT.reads
       have HB1 := Aside0.mk ((((((Below.refl _ w).alloc (Nat.le_refl _) _).alloc (by simp) _).alloc (by simp; omega) _).alloc (by simp; omega) _).trans (hb1.mono (by simp; omega)) : Below w.heap.size w w1)
       clear hb1 hT)
    | (go_at_call 47
       (with_reducible refine (trie_Len.calls _ T3 _ HT1.out).mono ?_)
       rintro e w2 ⟨rfl, hb2⟩
       have HB2 := Aside0.mk hb2
       clear hb2)
    | (go_at_call 50
       (with_reducible refine (trie_Ends.calls _ T3 1 _ (HT1.out.below HB2.out) (by decide)).mono ?_)
       rintro e w3 ⟨v, rfl, hR, hb3⟩
       have HR3 : Aside0 (Kd.R (Kd.int .i64) 3 w3 w2.heap.size (fun _ => True) v [2]) := ⟨hR⟩
       have HB3 := Aside0.mk hb3
       obtain ⟨A3, c3, rfl, hl3, hC3⟩ := Kd.R_reads hR
       have HL3 : Aside0 ([(2 : Int)].length ≤ c3) := ⟨hl3⟩
       have HC3 : Aside0 (Kd.C (Kd.int .i64) w3 A3 [(2 : Int)].length [2]) := ⟨hC3⟩
       clear hR hb3 hl3 hC3)
    | (go_at_call 20
       refine (paronymref01_Same.calls 10 A3 c3 [2] (some ⟨w3.heap.size, 0, none⟩) 1 [2] true _ (Kd.C_below HC3.out ((Below.refl _ _).alloc (Nat.le_refl _) _)) HL3.out (ints_lit (l := [2]) (heap_alloc_new w3 _) (by decide)) (by decide) p3_same).mono ?_
       rintro e w4 ⟨rfl, ⟨m4, rfl⟩⟩))
  go_ret
  have hb3 : Below w.heap.size w w3 := (HB1.out.trans (HB2.out.mono HB1.out.size)).trans (HB3.out.mono (by have h1 := HB1.out.size; have h2 := HB2.out.size; omega))
  exact ⟨rfl, pw_below_drewN (hb3.alloc hb3.size _) _⟩
end Go.Proofs.Ytlipbiihemhieaa.Q

-- from Prev
/- slices.Reverse at int. -/
namespace Go.Proofs.Ytlipbiihemhieaa.K
set_option linter.unusedVariables false
set_option linter.unusedSimpArgs false
open Go.RowKit Go.Proofs.YtlipbiihemhieaaW.PrintWords Go.Proofs.YtlipbiihemhieaaW.PrintMore Go.Proofs.Ytlipbiihemhieaa.Q

theorem rev_T {l : List Int} (hl : l.length ≤ 1000000) : Ev (fun k => slices_Reverse_int_int.f k l) l.reverse := by
  have key : ∀ (d i : Nat) (x : List Int), l.length - i = d → x.length = l.length → 2 * i ≤ l.length + 1 → (∀ j, j < l.length → x[j]? = if j < i ∨ l.length - i ≤ j then l[l.length - 1 - j]? else l[j]?) →
      Ev (fun k => slices_Reverse_int_int.l0 k x (i : Int) ((l.length : Int) - 1 - i)) l.reverse := by
    intro d
    induction d with
    | zero =>
      intro i x h1 h2 h3 h4
      refine Ev.step (fun k => rfl) (Ev.neg (by omega) (Ev.ret ?_))
      refine List.ext_getElem? (fun j => ?_)
      by_cases hj : j < l.length
      · rw [h4 j hj, List.getElem?_reverse hj, if_pos (by omega)]
      · rw [List.getElem?_eq_none (by omega), List.getElem?_eq_none (by simp; omega)]
    | succ d ih =>
      intro i x h1 h2 h3 h4
      by_cases c : (i : Int) < (l.length : Int) - 1 - i
      · have hb : ((l.length : Int) - 1 - i).toNat = l.length - 1 - i := by omega
        have e1 : rd x ((l.length : Int) - 1 - i) = x[l.length - 1 - i] := by
          rw [show (l.length : Int) - 1 - i = ((l.length - 1 - i : Nat) : Int) by omega, rd_nat x _ (by omega)]
        have e2 : rd x (i : Int) = x[i] := rd_nat x i (by omega)
        have hi := ih (i + 1) ((x.set i x[l.length - 1 - i]).set (l.length - 1 - i) x[i]) (by omega) (by simp [h2]) (by omega) (fun j hj => ?_)
        · refine Ev.step (fun k => rfl) (Ev.pos c (Ev.pos (by omega) (Ev.pos (by omega) (Ev.pos (by omega) (Ev.pos (by omega) ?_)))))
          rw [hb, Int.toNat_natCast, e1, e2, w64 (by omega) (by omega), w64 (by omega) (by omega)]
          rw [show (l.length : Int) - 1 - i - 1 = (l.length : Int) - 1 - ((i + 1 : Nat) : Int) by omega]
          exact hi
        · have g1 := h4 i (by omega)
          have g2 := h4 (l.length - 1 - i) (by omega)
          rw [if_neg (by omega), List.getElem?_eq_getElem (by omega)] at g1
          rw [if_neg (by omega), List.getElem?_eq_getElem (by omega)] at g2
          rw [List.getElem?_set]
          by_cases ej : l.length - 1 - i = j
          · subst ej
            rw [if_pos rfl, if_pos (by simp; omega), if_pos (by omega), g1]
            congr 1; omega
          · rw [if_neg ej, List.getElem?_set]
            by_cases ej2 : i = j
            · subst ej2
              rw [if_pos rfl, if_pos (by omega), if_pos (by omega), g2]
            · rw [if_neg ej2, h4 j hj]
              by_cases q : j < i ∨ l.length - i ≤ j
              · rw [if_pos q, if_pos (by omega)]
              · rw [if_neg q, if_neg (by omega)]
      · refine Ev.step (fun k => rfl) (Ev.neg c (Ev.ret ?_))
        refine List.ext_getElem? (fun j => ?_)
        by_cases hj : j < l.length
        · rw [h4 j hj, List.getElem?_reverse hj]
          by_cases q : j < i ∨ l.length - i ≤ j
          · rw [if_pos q]
          · rw [if_neg q]; congr 1; omega
        · rw [List.getElem?_eq_none (by omega), List.getElem?_eq_none (by simp; omega)]
  have := key l.length 0 l (by omega) rfl (by omega) (fun j hj => by rw [if_neg (by omega)])
  unfold slices_Reverse_int_int.f
  rw [w64 (by omega) (by omega)]
  simpa using this
end Go.Proofs.Ytlipbiihemhieaa.K

-- from Hopn
/- What an argument reads as, by kinds: rows of anything. -/
namespace Go.Proofs.Ytlipbiihemhieaa.Q
open Go.ChangeShapes Go.WideShapes Go.RowKit Go.Proofs.YtlipbiihemhieaaW.PrintWords Go.Proofs.YtlipbiihemhieaaW.PrintLast Go.Proofs.YtlipbiihemhieaaW.PrintMore
set_option linter.unusedVariables false
set_option linter.unusedSimpArgs false

/-- Cells of type t that the call reads are of this kind, and right. -/
def Opens {H α : Type} (enc : TypeId × Value → H) (P : Program) (w : World) (t : TypeId) (d : Kd α) (q : α → Prop) : Prop :=
  ∀ (sp : Nat → Bool) (held : Bool) (fuel : Nat) (cs : List Value) (x : DataW H × List MemPlace), DataW.trod enc P w 0 sp held fuel t cs = some x → ∃ a, d.K w a cs ∧ q a
section
variable {H : Type} {enc : TypeId × Value → H} {P : Program} {w : World}
theorem opens_int {t : TypeId} {k : IntKind} (ht : P.underlying t = some (.int k)) : Opens enc P w t (Kd.int k) (fun n => (Lit.int k n).wf = true) := fun sp held fuel cs x h => by
  obtain ⟨n, rfl, _, hw⟩ := DataW.trod_int ht h
  exact ⟨n, rfl, hw⟩
theorem opens_bool {t : TypeId} (ht : P.underlying t = some .bool) : Opens enc P w t Kd.bool (fun _ => True) := fun sp held fuel cs x h => by
  obtain ⟨n, rfl, _⟩ := DataW.trod_bool ht h
  exact ⟨n, rfl, trivial⟩
theorem opens_string {t : TypeId} (ht : P.underlying t = some .string) : Opens enc P w t Kd.string (fun s => s.size ≤ 9223372036854775807) := fun sp held fuel cs x h => by
  obtain ⟨s, rfl, _, hs⟩ := DataW.trod_string ht h
  exact ⟨s, rfl, by unfold maxLen at hs; omega⟩
theorem opens_slice {α : Type} {t e : TypeId} {d : Kd α} {q : α → Prop} (ht : P.underlying t = some (.slice e)) (hc : P.cellsOf e = d.sz) (he : Opens enc P w e d q) : Opens enc P w t (Kd.slice e d) (fun l => ∀ a ∈ l, q a) := fun sp held fuel cs x h => by
  rcases DataW.trod_slice ht h with ⟨rfl, _⟩ | ⟨a, len, cap, elems, rest, m, _, rfl, _, _, hl, hm, hlen, hel, _⟩
  · exact ⟨[], ⟨none, 0, rfl, Nat.le_refl _, ⟨rfl, by simp, fun h => by simp at h⟩⟩, fun a ha => by cases ha⟩
  · have each : ∀ i, i < len → ∃ (y : α) (c : List Value), c.length = d.sz ∧ d.K w y c ∧ q y ∧ ∀ j u, c[j]? = some u → w.cell? (a.add (i * d.sz + j)) = some u := by
      intro i hi
      have hE := hel i hi
      rw [List.getElem?_eq_getElem (by omega : i < elems.length), Option.bind_eq_some_iff] at hE
      obtain ⟨cs', hcs', hy⟩ := hE
      obtain ⟨y, h1, h2⟩ := he _ _ _ _ _ hy
      obtain ⟨_, h3, h4⟩ := World.cells?_some hcs'
      rw [hc] at h3 h4
      refine ⟨y, cs', h3, h1, h2, fun j u hj => ?_⟩
      have hjl : j < d.sz := by rw [← h3]; exact (List.getElem?_eq_some_iff.1 hj).1
      have := h4 j hjl
      rw [Addr.add_add] at this
      rw [this, hj]
    have pick : ∀ m, m ≤ len → ∃ ls : List α, ls.length = m ∧ (∀ i y, ls[i]? = some y → ∃ c : List Value, c.length = d.sz ∧ d.K w y c ∧ q y ∧ ∀ j u, c[j]? = some u → w.cell? (a.add (i * d.sz + j)) = some u) := by
      intro m
      induction m with
      | zero => intro _; exact ⟨[], rfl, fun i l h => by simp at h⟩
      | succ m ih =>
        intro hm'
        obtain ⟨ls, g1, g2⟩ := ih (by omega)
        obtain ⟨y, c, q1, q2, q3, q4⟩ := each m (by omega)
        refine ⟨ls ++ [y], by simp [g1], fun i l' hi => ?_⟩
        by_cases hlt : i < ls.length
        · rw [List.getElem?_append_left hlt] at hi
          exact g2 i l' hi
        · have him : i = m := by
            have := (List.getElem?_eq_some_iff.1 hi).1
            simp at this
            omega
          subst him
          rw [List.getElem?_append_right (by omega), g1, Nat.sub_self] at hi
          simp at hi
          subst hi
          exact ⟨c, q1, q2, q3, q4⟩
    obtain ⟨ls, g1, g2⟩ := pick len (Nat.le_refl _)
    refine ⟨ls, ⟨some a, cap, by rw [g1], by omega, ⟨rfl, by unfold maxLen at hm; omega, fun _ => ⟨a, rfl, fun j p hj => ?_⟩⟩⟩, fun y hy => ?_⟩
    · obtain ⟨c, q1, q2, _, q4⟩ := g2 j p hj
      exact ⟨c, q1, q2, q4⟩
    · obtain ⟨i, hi⟩ := List.getElem?_of_mem hy
      exact (g2 i y hi).choose_spec.2.2.1
/-- The argument itself. -/
theorem opens_arg {α : Type} {t e : TypeId} {d : Kd α} {q : α → Prop} (ht : P.underlying t = some (.slice e)) (hc : P.cellsOf e = d.sz) (he : Opens enc P w e d q) {sp : Nat → Bool} {held : Bool} {A : Option Addr} {n c : Nat} {x : DataW H} {ps : List MemPlace} (h : DataW.Trod enc P w 0 sp held t (.slice A n c) x ps) :
    ∃ ls : List α, ls.length = n ∧ n ≤ c ∧ Kd.C d w A n ls ∧ ∀ a ∈ ls, q a := by
  obtain ⟨fuel, hf⟩ := h
  obtain ⟨ls, ⟨B, c', h1, h2, h3⟩, h4⟩ := opens_slice ht hc he _ _ _ _ _ hf
  simp only [Value.cells, List.cons.injEq, Value.slice.injEq, and_true] at h1
  obtain ⟨rfl, rfl, rfl⟩ := h1
  exact ⟨ls, rfl, h2, h3, h4⟩
/-- A struct by value. -/
theorem opens_one {α : Type} {t : TypeId} {d : Kd α} {q : α → Prop} (he : Opens enc P w t d q) {sp : Nat → Bool} {held : Bool} {v : Value} {x : DataW H} {ps : List MemPlace} (h : DataW.Trod enc P w 0 sp held t v x ps) :
    ∃ a, d.K w a v.cells.toList ∧ q a := by
  obtain ⟨fuel, hf⟩ := h
  exact he _ _ _ _ _ hf
end
end Go.Proofs.Ytlipbiihemhieaa.Q

-- from Htwr
/- trie's laws: the calls, without rounds. -/
namespace Go.Proofs.Ytlipbiihemhieaa.Q
open Go.RowKit Go.Proofs.YtlipbiihemhieaaW.PrintWords Go.Proofs.YtlipbiihemhieaaW.PrintLast Go.Proofs.YtlipbiihemhieaaW.PrintMore Go.Proofs.Ytlipbiihemhieaa.K
set_option linter.unusedVariables false
set_option linter.unusedSimpArgs false

theorem lawSmall.calls (A : Option Addr) (ca : Nat) (P : List (List Int)) (most : Nat) (hm : most ≤ 1000) (w : World) (hp : Kd.C (Kd.slice 3 (Kd.int .i64)) w A P.length P) (hc : P.length ≤ ca) :
    Calls Try.prog 43 #[.slice A P.length ca, .int .i64 (most : Int)] w fun e w' => e = .returned (.bool (smallB P most)) ∧ Drawn0 w w' := by
  obtain ⟨k, hk⟩ := (small_T (P := P) most hm).rounds
  exact paronymref22_Small.calls k A ca P most _ w hp hc hk
theorem lawEmpty.calls (A : Option Addr) (ca : Nat) (P : List (List Int)) (hm : P.length ≤ 1000) (w : World) (hp : Kd.C (Kd.slice 3 (Kd.int .i64)) w A P.length P) (hc : P.length ≤ ca) :
    Calls Try.prog 45 #[.slice A P.length ca] w fun e w' => e = .returned (.bool (decide (idxE 0 P ≥ 0))) ∧ Drawn0 w w' := by
  obtain ⟨k, hk⟩ := (empty_T (P := P) (by omega)).rounds
  exact paronymref22_Empty.calls k A ca P _ w hp hc hk
theorem len_rd {P : List (List Int)} {m : Nat} (h : ∀ p ∈ P, p.length ≤ m) (i : Nat) : (rd_L1 P (i : Int)).length ≤ m := by
  by_cases e : i < P.length
  · rw [rdL1 i e]; exact h _ (List.getElem_mem e)
  · show (P.getD (i : Int).toNat []).length ≤ m
    rw [Int.toNat_natCast, List.getD_eq_getElem?_getD, List.getElem?_eq_none (by omega)]
    simp
/-- New at few patterns, none of them empty. -/
theorem lawNew.calls (A : Option Addr) (ca : Nat) (P : List (List Int)) (h1 : P.length ≤ 300) (h2 : ∀ p ∈ P, p.length ≤ 300) (hE : decide (idxE 0 P ≥ 0) = false) (w : World) (hp : Kd.C (Kd.slice 3 (Kd.int .i64)) w A P.length P) (hc : P.length ≤ ca) :
    Calls Try.prog 44 #[.slice A P.length ca] w fun e w' => ∃ g N, e = .returned (.tuple #[.pointer (some ⟨g, 0, none⟩), .int .i64 0]) ∧ TrieR w' (some ⟨g, 0, none⟩) N ∧ Tri N (allT [[]] P) P ∧ Below w.heap.size w w' := by
  obtain ⟨N, hN, hT, hS⟩ := trie_all h1 h2
  obtain ⟨k, hk⟩ := hN.rounds
  refine (trie_New.calls k A ca P w hp hc (by omega) (fun i => Nat.le_trans (len_rd h2 i) (by omega)) false hE.symm N (fun _ => ⟨hk, hS k⟩)).mono ?_
  rintro e w' ⟨hb, hq⟩
  rcases hq with ⟨hq, _⟩ | ⟨_, g, rfl, hO⟩
  · cases hq
  · exact ⟨g, N, rfl, hO.reads, hT, hb⟩
/-- New where one is empty. -/
theorem lawNewE.calls (A : Option Addr) (ca : Nat) (P : List (List Int)) (h1 : P.length ≤ 300) (h2 : ∀ p ∈ P, p.length ≤ 300) (hE : decide (idxE 0 P ≥ 0) = true) (w : World) (hp : Kd.C (Kd.slice 3 (Kd.int .i64)) w A P.length P) (hc : P.length ≤ ca) :
    Calls Try.prog 44 #[.slice A P.length ca] w fun e w' => e = .returned (.tuple #[.pointer none, .int .i64 37]) ∧ Below w.heap.size w w' := by
  refine (trie_New.calls 0 A ca P w hp hc (by omega) (fun i => Nat.le_trans (len_rd h2 i) (by omega)) true hE.symm [] (fun h => by cases h)).mono ?_
  rintro e w' ⟨hb, hq⟩
  rcases hq with ⟨_, rfl⟩ | ⟨hq, _⟩
  · exact ⟨rfl, hb⟩
  · cases hq
/-- Step at a node. -/
theorem lawStep.calls {N : List S107} {T : List (List Int)} (h : Tr N T) (hl : T.length ≤ 100000) {j : Nat} {s : List Int} (hj : T[j]? = some s) (p : Option Addr) (c : Int) (w : World) (hT : TrieR w p N) :
    Calls Try.prog 55 #[.pointer p, .int .i64 (j : Int), .int .i64 c] w fun e w' => e = .returned (.tuple #[.int .i64 (max (findT 0 T (s ++ [c])) 0), .bool (decide (0 ≤ findT 0 T (s ++ [c])))]) ∧ Below w.heap.size w w' := by
  obtain ⟨x, hx, hn⟩ := node_of h hj
  obtain ⟨k, h1, h2, h3, h4⟩ := step_at h hl hn c
  have hnode := node_in hx
  refine (trie_Step.calls k p N (j : Int) c _ _ w hT (by rw [hnode]; exact h1) (by rw [hnode]; exact h2)).mono ?_
  rintro e w' ⟨rfl, hb⟩
  rw [hnode, h4, h3]
  exact ⟨rfl, hb⟩
theorem lawStepNo.calls {N : List S107} {n : Int} (hn : n < 0 ∨ (N.length : Int) ≤ n) (p : Option Addr) (c : Int) (w : World) (hT : TrieR w p N) :
    Calls Try.prog 55 #[.pointer p, .int .i64 n, .int .i64 c] w fun e w' => e = .returned (.tuple #[.int .i64 0, .bool false]) ∧ Below w.heap.size w w' := by
  obtain ⟨k, h1⟩ := step_no c
  refine (trie_Step.calls k p N n c _ _ w hT (by rw [node_out hn]; exact h1) (fun h => by cases h)).mono ?_
  rintro e w' ⟨rfl, hb⟩
  exact ⟨rfl, hb⟩
theorem lawDepth.calls {N : List S107} {T : List (List Int)} (h : Tr N T) {j : Nat} {s : List Int} (hj : T[j]? = some s) (p : Option Addr) (w : World) (hT : TrieR w p N) :
    Calls Try.prog 49 #[.pointer p, .int .i64 (j : Int)] w fun e w' => e = .returned (.int .i64 (s.length : Int)) ∧ Below w.heap.size w w' := by
  obtain ⟨x, hx, hn⟩ := node_of h hj
  have := trie_Depth.calls p N (j : Int) w hT
  rw [node_in hx, hn.dep] at this
  exact this
theorem lawEnds.calls {N : List S107} {T P : List (List Int)} (h : Tri N T P) (hl : P.length ≤ 1000) {j : Nat} {s : List Int} (hj : T[j]? = some s) (p : Option Addr) (w : World) (hT : TrieR w p N) :
    Calls Try.prog 50 #[.pointer p, .int .i64 (j : Int)] w fun e w' => ∃ v, e = .returned v ∧ Kd.R (Kd.int .i64) 3 w' w.heap.size (fun _ => True) v (endsOf 0 P s) ∧ Below w.heap.size w w' := by
  obtain ⟨x, hx, hn⟩ := node_of h.tr hj
  have he := h.ends j x s hx hj
  have := trie_Ends.calls p N (j : Int) w hT (by rw [node_in hx, he]; have := endsOf_len s P 0; omega)
  rw [node_in hx, he] at this
  exact this
theorem lawText.calls {N : List S107} {T : List (List Int)} (h : Tr N T) {j : Nat} {s : List Int} (hj : T[j]? = some s) (hl : s.length ≤ 1000) (p : Option Addr) (w : World) (hT : TrieR w p N) :
    Calls Try.prog 48 #[.pointer p, .int .i64 (j : Int)] w fun e w' => ∃ v, e = .returned v ∧ Kd.R (Kd.int .i64) 3 w' w.heap.size (fun _ => True) v s ∧ Below w.heap.size w w' := by
  obtain ⟨x, hx, hn⟩ := node_of h hj
  obtain ⟨kr, hr⟩ := (rev_T (l := s.reverse) (by simp; omega)).rounds
  rw [List.reverse_reverse] at hr
  exact trie_Text.calls (s.length + 1) kr p N (j : Int) s.reverse s w hT (by rw [node_in hx]; exact text_nd h s.length rfl hx hn _ (by omega)) (by simp; omega) hr
theorem lawDepthNo.calls {N : List S107} {n : Int} (hn : nodeAt N n = z107) (p : Option Addr) (w : World) (hT : TrieR w p N) :
    Calls Try.prog 49 #[.pointer p, .int .i64 n] w fun e w' => e = .returned (.int .i64 0) ∧ Below w.heap.size w w' := by
  have := trie_Depth.calls p N n w hT
  rw [hn] at this
  exact this
theorem lawEndsNo.calls {N : List S107} {n : Int} (hn : nodeAt N n = z107) (p : Option Addr) (w : World) (hT : TrieR w p N) :
    Calls Try.prog 50 #[.pointer p, .int .i64 n] w fun e w' => ∃ A c, e = .returned (.slice A 0 c) ∧ Below w.heap.size w w' := by
  have := trie_Ends.calls p N n w hT (by rw [hn]; simp [z107])
  rw [hn] at this
  refine this.mono ?_
  rintro e w' ⟨v, rfl, hR, hb⟩
  obtain ⟨A, c, rfl⟩ := Kd.R_slice hR
  exact ⟨A, c, rfl, hb⟩
theorem lawTextNo.calls {N : List S107} {n : Int} (hn : nodeAt N n = z107) (p : Option Addr) (w : World) (hT : TrieR w p N) :
    Calls Try.prog 48 #[.pointer p, .int .i64 n] w fun e w' => ∃ A c, e = .returned (.slice A 0 c) ∧ Below w.heap.size w w' := by
  obtain ⟨kr, hr⟩ := (rev_T (l := []) (by simp)).rounds
  refine (trie_Text.calls 1 kr p N n [] [] w hT (by rw [hn]; rfl) (by simp) hr).mono ?_
  rintro e w' ⟨v, rfl, hR, hb⟩
  obtain ⟨A, c, rfl⟩ := Kd.R_slice hR
  exact ⟨A, c, rfl, hb⟩
end Go.Proofs.Ytlipbiihemhieaa.Q

-- from Hit
namespace Go.Proofs.Ytlipbiihemhieaa.Q
open Go.RowKit Go.Shelf Go.Proofs.YtlipbiihemhieaaW.PrintWords Go.Proofs.YtlipbiihemhieaaW.PrintLast Go.Proofs.YtlipbiihemhieaaW.PrintMore
set_option linter.unusedVariables false
set_option linter.unusedSimpArgs false

/-- The blocks of S stay as they are. -/
def KeepS (S : Nat → Prop) (A B : World) : Prop := ∀ k, S k → B.heap[k]? = A.heap[k]?
theorem KeepS.refl (S : Nat → Prop) (A : World) : KeepS S A A := fun _ _ => rfl
theorem KeepS.trans {S : Nat → Prop} {A B C : World} (h : KeepS S A B) (k : KeepS S B C) : KeepS S A C := fun j hj => (k j hj).trans (h j hj)
theorem KeepS.grown {S : Nat → Prop} {A B : World} {row : Option Nat} (hg : A.grownBy B row) (hS : ∀ k, S k → k < A.heap.size) (hne : ∀ k, S k → some k ≠ row) : KeepS S A B := fun k hk => hg.block k (hS k hk) (hne k hk)
theorem KeepS.below {S : Nat → Prop} {A B : World} {n : Nat} (hb : Below n A B) (hS : ∀ k, S k → k < n) : KeepS S A B := fun k hk => hb.block k (hS k hk)
theorem keepS_lt {S : Nat → Prop} {A B : World} (h : KeepS S A B) (hS : ∀ k, S k → k < A.heap.size) : ∀ k, S k → k < B.heap.size := fun k hk => by
  have := h k hk
  rw [Array.getElem?_eq_getElem (hS k hk)] at this
  exact (Array.getElem?_eq_some_iff.1 this).1
theorem keepS_b {S : Nat → Prop} {w : World} (hS : ∀ k, S k → k < w.heap.size) : ∀ (W : World) (l : Nat) (o o' : Obj), w.heap.size ≤ l → W.heap[l]? = some o → o.isCells = false → o.isWalk = false → KeepS S W (W.putObj l o') :=
  fun W l o o' hl ho _ _ => by
    intro k hk
    have hkl : k < l := Nat.lt_of_lt_of_le (hS k hk) hl
    have hlt : l < W.heap.size := (Array.getElem?_eq_some_iff.1 ho).1
    exact (grownBy_putObj' W l o').block k (Nat.lt_trans hkl hlt) (fun e => by cases e; exact Nat.lt_irrefl _ hkl)
theorem grownBy_none_of_below {w w1 : World} (h : Below w.heap.size w w1) : w.grownBy w1 none := grown_of_below h none

end Go.Proofs.Ytlipbiihemhieaa.Q

-- from Hrfp
/- Range over a function whose items are slices: what is told of an item in the world in which it is handed over (Pr) comes with it. The proof follows the library's law wpIn_rangeFunc_ownG (RangeFuncWrites), of which this is the wider form; nothing but Pr is new. -/
namespace Go.Proofs.Ytlipbiihemhieaa.Q
open Go.RowKit Go.Shelf Go.Proofs.YtlipbiihemhieaaW.PrintWords Go.Proofs.YtlipbiihemhieaaW.PrintLast Go.Proofs.YtlipbiihemhieaaW.PrintMore
set_option linter.unusedVariables false
set_option linter.unusedSimpArgs false

/-- The iterator's contract: an item x is handed over in worlds in which Pr x holds. -/
def SeqPr {α : Type} (F : Fence) (n : Nat) (P : Program) (g : Nat) (lb : Array Value) (encs : α → Array Value) (Kp : World → World → Prop) (Pr : α → World → Prop) (S Sp : List α → Prop) (w : World) : Prop :=
  ∀ (l : Nat) (J Jx : List α → World → Prop) (W : World), Below w.heap.size w W → AbidesFrom W.heap.size J → AbidesFrom W.heap.size Jx →
    (∀ pre x W1, J pre W1 → Pr x W1 → Sp (pre ++ [x]) → YieldAt F (n - 1) P l (encs x) W1 fun e W' =>
      (e = .returned (.bool true) ∧ J (pre ++ [x]) W' ∧ Kp W1 W') ∨ (e = .returned (.bool false) ∧ Jx (pre ++ [x]) W')) →
    J [] W →
    CallsIn F n P g (#[.func (.yield l) #[] #[]] ++ lb) W fun e W' => (∃ v, e = .returned v) ∧ ((∃ xs, S xs ∧ J xs W') ∨ (∃ pre, Sp pre ∧ Jx pre W'))

section
variable {F : Fence} {n : Nat} {P : Program}
theorem wpIn_range_pr {α : Type} {g : Operand} {ps : Array Tmp} {assign body : Code} {Q : Exit → Act → World → Prop} {a : Act} {w : World}
    (hro : F.round = none) (h1 : 1 ≤ n) {gf : Nat} {lb : Array Value} (hg : a.eval g = .func (.func gf) #[] lb) (hFg : F.fn gf) (eg : ∀ args w, (callFunc gf args).run P w = .ok (.enter gf args) w)
    {encs : α → Array Value} {Kp : World → World → Prop} {Pr : α → World → Prop} {S Sp : List α → Prop} {w0 : World} (hseq : SeqPr F (n - 1) P gf lb encs Kp Pr S Sp w0)
    (hKt : ∀ {A B C : World}, Kp A B → Kp B C → Kp A C) (hKb : ∀ (W : World) (l : Nat) (o o' : Obj), w.heap.size ≤ l → W.heap[l]? = some o → o.isCells = false → o.isWalk = false → Kp W (W.putObj l o')) (hb0 : Below w0.heap.size w0 w) (hps : ∀ x, (encs x).size = ps.size)
    (hPr : ∀ x, OwnFrom w.heap.size (fun (_ : Unit) W => Pr x W))
    (I : List α → World → Prop) (Ix : Code → List α → World → Prop) (hI : OwnFrom w.heap.size I) (hIx : ∀ c, OwnFrom w.heap.size (Ix c)) (h0 : I [] w) (a₁ : α → Act)
    (hassign : ∀ (l : Nat) (x : α) (W : World) (K : Act → World → Prop), K (a₁ x) W →
      assign.wpIn (F.inRound l) (n - 1 - 1) P (Exit.then K (fun _ _ _ => False)) { tmps := (ps.zip (encs x)).foldl (fun t (p, v) => t.setIfInBounds p v) a.tmps, defers := [] } W)
    (hbody : ∀ (l : Nat) (pre : List α) (x : α) (W : World), I pre W → Pr x W → Sp (pre ++ [x]) → body.wpIn (F.inRound l) (n - 1 - 1) P (ownPostG w.heap.size Kp I Ix (pre ++ [x]) W) (a₁ x) W)
    (hdone : ∀ (D : Nat) (xs : List α) (W : World), w.heap.size ≤ D → S xs → I xs W → W.heap[D]? = some (.deferred (some [])) → Q .normal { a with defers := { target := .collected D, args := #[] } :: a.defers } W)
    (hstop : ∀ (D : Nat) (c : Code) (pre : List α) (W : World), w.heap.size ≤ D → Sp pre → Ix c pre W → W.heap[D]? = some (.deferred (some [])) → c.wpIn F n P Q { a with defers := { target := .collected D, args := #[] } :: a.defers } W) :
    (Code.rangeFunc g ps assign body).wpIn F n P Q a w := by
  refine wpIn_rangeFunc ?_
  intro fn hfn
  rw [hro]
  -- the two blocks that the loop lays: the deferred calls' and its own record
  let L : Nat := w.heap.size + 1
  obtain ⟨rec, hrec⟩ : ∃ rec : LoopState → Option Code → Loop, rec = fun st pe => { state := st, pending := pe, fn, tmps := a.tmps, params := ps, assign, body, defers := w.heap.size } := ⟨_, rfl⟩
  obtain ⟨W1, hW1⟩ : ∃ W1, (w.alloc (.deferred (some []))).alloc (.loop (rec .ready none)) = W1 := ⟨_, rfl⟩
  have hL1 : W1.heap[L]? = some (.loop (rec .ready none)) := by
    have := World.alloc_heap_new (w.alloc (.deferred (some []))) (.loop (rec .ready none))
    rw [World.size_alloc] at this
    rw [← hW1]; exact this
  have hD1 : W1.heap[w.heap.size]? = some (.deferred (some [])) := by
    rw [← hW1]; exact (Below.heap_alloc _ _ _ (by simp)).trans (World.alloc_heap_new w _)
  have hb1 : Below w0.heap.size w0 W1 := by
    rw [← hW1]; exact hb0.trans ((((Below.refl _ w).alloc (Nat.le_refl _) _).alloc (by simp) _).mono hb0.size)
  have hsz1 : W1.heap.size = w.heap.size + 2 := by rw [← hW1]; simp
  have walk_row : ∀ {A : World} {row : Option Nat}, (∀ r, row = some r → W1.heap.size ≤ r ∧ ∃ o : Obj, A.heap[r]? = some o ∧ o.isWalk = true) → (∀ r, row = some r → w.heap.size ≤ r ∧ ∃ o : Obj, A.heap[r]? = some o ∧ o.isCells = false) :=
    fun hr r e => by obtain ⟨hB, o, ho, hw⟩ := hr r e; exact ⟨by omega, o, ho, Obj.not_cells_of_walk hw⟩
  have stay : ∀ {A B : World} {row : Option Nat} {k : Nat} {o : Obj}, A.grownBy B row → (∀ r, row = some r → W1.heap.size ≤ r ∧ ∃ o : Obj, A.heap[r]? = some o ∧ o.isWalk = true) → A.heap[k]? = some o → o.isWalk = false → B.heap[k]? = some o :=
    fun hg' hr hk hw => (grownBy_keeps hg' (fun r e => (hr r e).2) hk hw).trans hk
  refine ⟨L, [{ target := .collected w.heap.size, args := #[] }], W1, { target := .fn (.func gf) lb, args := #[.func (.yield L) #[] #[]] }, W1, gf, #[.func (.yield L) #[] #[]] ++ lb, W1, ?_, ?_, ?_, ?_, fun _ => h1, ?_⟩
  · rw [← hW1, hrec]; exact run_enterLoop_outer _ _ _ _ _
  · simp only [resolve, hg]
    simp [go_sem]
  · intro f' hf'; simp [Target.leads] at hf'; subst hf'; exact hFg
  · simp [invoke, go_sem, eg]
  · have call := hseq L (fun pre W => I pre W ∧ W.heap[L]? = some (.loop (rec .ready none)) ∧ W.heap[w.heap.size]? = some (.deferred (some [])))
      (fun pre W => ∃ c, Ix c pre W ∧ W.heap[L]? = some (.loop (rec .done (some c))) ∧ W.heap[w.heap.size]? = some (.deferred (some []))) W1 hb1
      (fun s A B row hs hg' hr => ⟨hI s A B row hs.1 hg' (walk_row hr), stay hg' hr hs.2.1 rfl, stay hg' hr hs.2.2 rfl⟩)
      (fun s A B row ⟨c, hc, hl, hk⟩ hg' hr => ⟨c, hIx c s A B row hc hg' (walk_row hr), stay hg' hr hl rfl, stay hg' hr hk rfl⟩)
      ?round ⟨by rw [← hW1]; exact hI.alloc _ (hI.alloc _ h0), hL1, hD1⟩
    case round =>
      rintro pre x W ⟨hi, hl, hk⟩ hpr hlen
      have hlt : L < W.heap.size := (Array.getElem?_eq_some_iff.1 hl).1
      have hLD : w.heap.size ≠ L := by show w.heap.size ≠ w.heap.size + 1; omega
      have hLw : w.heap.size ≤ L := by show w.heap.size ≤ w.heap.size + 1; omega
      have hy := run_yield (P := P) (args := encs x) hl (by rw [hrec]; exact hps x)
      rw [hrec] at hy
      refine ⟨fn, _, assign, body, hy, roundIn_of_wpIn hfn (hassign _ x W _ ⟨_, run_beginRound hl (by rw [hrec]), ?_⟩)⟩
      obtain ⟨WB, hWB⟩ : ∃ WB, W.putObj L (.loop { rec .ready none with state := .busy }) = WB := ⟨_, rfl⟩
      have hl2 : WB.heap[L]? = some (.loop { rec .ready none with state := .busy }) := by rw [← hWB]; exact World.putObj_heap_same hlt
      have hk2 : WB.heap[w.heap.size]? = some (.deferred (some [])) := by rw [← hWB]; exact (World.putObj_heap_other hLD).trans hk
      have hw2 : Kp W WB := by rw [← hWB]; exact hKb _ _ _ _ hLw hl rfl rfl
      have hi2 : I pre WB := by rw [← hWB]; exact hI.putObj _ hi hLw hl rfl
      have hp2 : Pr x WB := by rw [← hWB]; exact (hPr x).putObj (s := ()) _ hpr hLw hl rfl
      rw [hWB]
      refine wpIn_mono (hbody _ pre x WB hi2 hp2 hlen) ?_
      have fin : ∀ (jump : Option Code) (W3 : World), KeepsFrom w.heap.size WB W3 →
          (Instr.endRound L jump).run P W3 = .ok (.bool jump.isNone) (W3.putObj L (.loop (rec (if jump.isNone then .ready else .done) jump))) ∧
          W3.heap[L]? = some (.loop { rec .ready none with state := .busy }) ∧
          (W3.putObj L (.loop (rec (if jump.isNone then .ready else .done) jump))).heap[L]? = some (.loop (rec (if jump.isNone then .ready else .done) jump)) ∧
          (W3.putObj L (.loop (rec (if jump.isNone then .ready else .done) jump))).heap[w.heap.size]? = some (.deferred (some [])) := fun jump W3 hk3 => by
        have hl3 := hk3.same _ _ hLw hl2 rfl
        have hd3 := hk3.same _ _ (Nat.le_refl _) hk2 rfl
        have hend := run_endRound (P := P) jump hl3
        refine ⟨?_, hl3, World.putObj_heap_same (Array.getElem?_eq_some_iff.1 hl3).1, (World.putObj_heap_other hLD).trans hd3⟩
        rw [hrec] at hend ⊢
        exact hend
      have out : ∀ (c : Code) (W3 : World), KeepsFrom w.heap.size WB W3 → Ix c (pre ++ [x]) W3 → ∃ v W', (Instr.endRound L (some c)).run P W3 = .ok v W' ∧ v = .bool false ∧ ∃ c', Ix c' (pre ++ [x]) W' ∧ W'.heap[L]? = some (.loop (rec .done (some c'))) ∧ W'.heap[w.heap.size]? = some (.deferred (some [])) := fun c W3 hk3 hi3 => by
        obtain ⟨hr, hl3, hl4, hk4⟩ := fin (some c) W3 hk3
        exact ⟨_, _, hr, rfl, c, (hIx _).putObj _ hi3 hLw hl3 rfl, hl4, hk4⟩
      rintro e a3 W3 hp
      cases e with
      | normal =>
        obtain ⟨hk3, hkp3, hi3⟩ := hp
        obtain ⟨hr, hl3, hl4, hk4⟩ := fin none W3 hk3
        exact ⟨_, _, hr, .inl ⟨rfl, ⟨hI.putObj _ hi3 hLw hl3 rfl, hl4, hk4⟩, hKt (hKt hw2 hkp3) (hKb _ _ _ _ hLw hl3 rfl rfl)⟩⟩
      | ret =>
        obtain ⟨v, W', hr, rfl, h⟩ := out .ret W3 hp.1 hp.2
        exact ⟨_, _, hr, .inr ⟨rfl, h⟩⟩
      | exit id =>
        obtain ⟨v, W', hr, rfl, h⟩ := out (.exit id) W3 hp.1 hp.2
        exact ⟨_, _, hr, .inr ⟨rfl, h⟩⟩
      | goto t =>
        obtain ⟨v, W', hr, rfl, h⟩ := out (.goto t) W3 hp.1 hp.2
        exact ⟨_, _, hr, .inr ⟨rfl, h⟩⟩
      | panic ch => exact hp.elim
      | outgrown => exact hp.elim
    refine call.mono ?_
    have hLD : w.heap.size ≠ L := by show w.heap.size ≠ w.heap.size + 1; omega
    have hLw : w.heap.size ≤ L := by show w.heap.size ≤ w.heap.size + 1; omega
    rintro e W2 ⟨⟨v, rfl⟩, (⟨xs, hS, hi, hl, hk⟩ | ⟨pre, hSp, c, hi, hl, hk⟩)⟩
    · exact ⟨none, _, by have := run_endLoop (P := P) hl (by rw [hrec]; simp); rw [hrec] at this; exact this, hdone _ xs _ (Nat.le_refl _) hS (hI.putObj _ hi hLw hl rfl) ((World.putObj_heap_other hLD).trans hk)⟩
    · exact ⟨some c, _, by have := run_endLoop (P := P) hl (by rw [hrec]; simp); rw [hrec] at this; exact this, hstop _ c pre _ (Nat.le_refl _) hSp ((hIx c).putObj _ hi hLw hl rfl) ((World.putObj_heap_other hLD).trans hk)⟩
end

/-! a region that draws its order, in a round: operations that defer nothing go as outside of it -/
def noDefer (ops : Array Oper) : Bool := ops.all fun o => match o.op with | .defer _ => false | _ => true
theorem noDefer_spec {ops : Array Oper} (h : noDefer ops = true) (i : Nat) (o : Oper) (ho : ops[i]? = some o) (c : Call) : o.op ≠ .defer c := fun e => by
  have := Array.all_eq_true_iff_forall_mem.1 h o (Array.mem_of_getElem? ho)
  simp [e] at this
theorem wpOpIn_round {F : Fence} {n : Nat} {P : Program} {ops : Array Oper} {Q : Exit → Act → World → Prop} {l i : Nat} (hro : F.round = none) (hno : ∀ (o : Oper), ops[i]? = some o → ∀ c, o.op ≠ .defer c) {K K' : Act → World → Prop} (hK : ∀ a w, K a w → K' a w) {a : Act} {w : World} (h : wpOpIn F n P ops Q i K a w) : wpOpIn (F.inRound l) n P ops Q i K' a w := by
  unfold Go.wpOpIn at h ⊢
  cases ho : ops[i]? with
  | none => rw [ho] at h; exact hK _ _ h
  | some o =>
    rw [ho] at h
    simp only at h ⊢
    by_cases hw : Region.wanted o (yielded ops a.tmps) = true
    · rw [if_pos hw] at h ⊢
      have h := Oper.wpIn_mono hK h
      unfold Oper.wpIn at h ⊢
      rw [hro, Oper.semAt_none] at h
      rw [Oper.semAt_eq _ _ _ (hno o ho)]
      exact h
    · rw [if_neg hw] at h ⊢
      exact ⟨h.1, hK _ _ h.2⟩
theorem wpAnyIn_round {F : Fence} {n : Nat} {P : Program} {md : Region.Mode} {ops : Array Oper} {Q : Exit → Act → World → Prop} {l : Nat} (hro : F.round = none) (hno : noDefer ops = true) : ∀ (fuel : Nat) (listed : Array Bool) (a : Act) (w : World), wpAnyIn F n P md ops Q fuel listed a w → wpAnyIn (F.inRound l) n P md ops Q fuel listed a w
  | 0, _, _, _, h => h
  | fuel + 1, listed, a, w, h => ⟨h.1, fun i hi => wpOpIn_round hro (noDefer_spec hno i) (wpAnyIn_round hro hno fuel _) (h.2 i hi)⟩

end Go.Proofs.Ytlipbiihemhieaa.Q

-- from Qf24
-- Made by hp.py, a program of this session, with the kit's printer. Not trusted: Lean checks it.
namespace Go.Proofs.Ytlipbiihemhieaa.Q
open Go.RowKit Go.Proofs.YtlipbiihemhieaaW.PrintWords Go.Proofs.YtlipbiihemhieaaW.PrintLast Go.Proofs.YtlipbiihemhieaaW.PrintMore
attribute [local go_sem] max2_int min2_int max_two min_two max_three min_three max_four min_four   -- for this text's walks alone
set_option linter.unusedVariables false
set_option linter.unusedSimpArgs false

/-! ### order_Alphabet: function 24 -/
def order_Alphabet.l0 : Nat → List Int → Int → Option (Bool)
  | 0, _, _ => none
  | k + 1, x0, x3 => if x3 < (x0.length : Int) then (if 0 ≤ x3 then (if 0 ≤ (wrap64 (x3 - 1)) then (if (wrap64 (x3 - 1)) < (x0.length : Int) then (if (rd x0 x3) ≤ (rd x0 (wrap64 (x3 - 1))) then (some false) else (order_Alphabet.l0 k x0 (wrap64 (x3 + 1)))) else (none)) else (none)) else (none)) else (some true)
def order_Alphabet.f (k : Nat) (l0 : List Int) : Option (Bool) := order_Alphabet.l0 k l0 1
theorem order_Alphabet.mono_l : ∀ k, (∀ y0 y1, LeO (order_Alphabet.l0 k y0 y1) (order_Alphabet.l0 (k + 1) y0 y1))
  | 0 => fun _ _ r h => by simp [order_Alphabet.l0] at h
  | k + 1 => by
    have ih0 := order_Alphabet.mono_l k
    · intro y0 y1
      unfold order_Alphabet.l0
      repeat' first
      | (with_reducible exact ih0 _ _)
      | (with_reducible exact LeO.refl _)
      | (with_reducible exact LeO.none _)
      | (with_reducible refine LeO.ite ?_ ?_)
      | (with_reducible refine LeO.bind ?_ (fun _ => ?_))
      | exact ih0 _ _
      | exact LeO.none _
      | refine LeO.ite ?_ ?_
      | refine LeO.bind ?_ (fun _ => ?_)
theorem order_Alphabet.mono : ∀ a0 k, LeO (order_Alphabet.f k a0) (order_Alphabet.f (k + 1) a0) := by
  intro a0 k
  have ih0 := order_Alphabet.mono_l k
  unfold order_Alphabet.f
  repeat' first
      | (with_reducible exact ih0 _ _)
      | (with_reducible exact LeO.refl _)
      | (with_reducible exact LeO.none _)
      | (with_reducible refine LeO.ite ?_ ?_)
      | (with_reducible refine LeO.bind ?_ (fun _ => ?_))
      | exact ih0 _ _
      | exact LeO.none _
      | refine LeO.ite ?_ ?_
      | refine LeO.bind ?_ (fun _ => ?_)
set_option maxHeartbeats 8000000 in
set_option maxRecDepth 100000 in
theorem order_Alphabet.calls (k : Nat) (A0 : Option Addr) (c0 : Nat) (l0 : List Int) (r : Bool) (w : World) (hr0 : Kd.C (Kd.int .i64) w A0 l0.length l0) (hc0 : l0.length ≤ c0) (h : order_Alphabet.f k l0 = some r) :
    Calls Try.prog 24 #[.slice A0 l0.length c0] w fun e w' => e = .returned (.bool r) ∧ Drawn0 w w' := by
  have HR0 := Aside0.mk hr0
  have HC0 := Aside0.mk hc0
  clear hr0 hc0
  have H : (order_Alphabet.l0 k l0 1) = some r := h
  clear h
  have H' := Aside0.mk H
  clear H
  go_enter Try.func24, Try.ntmps24
  go_wp2
  repeat (go_quiet (fail); try go_wp2)
  go_loopg [3] k (fun kq v3 w' => ∃ (x3_1 : Int), v3 = .int .i64 x3_1 ∧ Aside0 (order_Alphabet.l0 kq l0 x3_1 = some r) ∧ Aside0 (kq ≤ k) ∧ Drawn0 w w')
  case atStart => exact ⟨(1), (by first | rfl | (simp; done) | (simp [*]; done)), H', ⟨Nat.le_refl _⟩, by repeat (first | exact Drawn0.refl _ | apply Drawn0.step)⟩
  case round =>
    clear H'
    obtain ⟨x3_1, rfl, HA, HK1, ⟨m1, rfl⟩⟩ := hrel
    cases gk with
    | zero => exact absurd HA.out (by simp [order_Alphabet.l0])
    | succ k1 =>
      have H := HA.out
      clear HA
      simp only [order_Alphabet.l0] at H
      by_cases c2 : x3_1 < (l0.length : Int)
      · rw [if_pos c2] at H
        have c2b0 : decide (x3_1 < (l0.length : Int)) = true := decide_eq_true c2
        clear c2
        by_cases c3 : 0 ≤ x3_1
        · rw [if_pos c3] at H
          have c3b0 : decide (0 ≤ x3_1) = true := decide_eq_true c3
          clear c3
          obtain ⟨ji4, hji4⟩ : ∃ j_ : Int, (wrap64 (x3_1 - 1)) = j_ := ⟨_, rfl⟩
          replace H : (if 0 ≤ (ji4) then (if (ji4) < (l0.length : Int) then (if (rd l0 x3_1) ≤ (rd l0 (ji4)) then (some false) else (order_Alphabet.l0 k1 l0 (wrap64 (x3_1 + 1)))) else (none)) else (none)) = some r := by first | (rw [hji4] at H; exact H) | (simp only [hji4] at H ⊢; exact H)
          have hji4w : (IntKind.i64.wrap (x3_1 - 1)) = ji4 := (i64_w _).trans hji4
          by_cases c5 : 0 ≤ (ji4)
          · rw [if_pos c5] at H
            have c5b0 : decide (0 ≤ (ji4)) = true := decide_eq_true c5
            clear c5
            by_cases c6 : (ji4) < (l0.length : Int)
            · rw [if_pos c6] at H
              have c6b0 : decide ((ji4) < (l0.length : Int)) = true := decide_eq_true c6
              clear c6
              by_cases c7 : (rd l0 x3_1) ≤ (rd l0 (ji4))
              · rw [if_pos c7] at H
                have c7b0 : decide ((rd l0 x3_1) ≤ (rd l0 (ji4))) = true := decide_eq_true c7
                clear c7
                obtain rfl := Option.some.inj H
                have p101 : 0 ≤ (x3_1 : Int) := of_decide_eq_true (by first | (with_reducible assumption) | assumption)
                have q101 : x3_1 < (l0.length : Int) := of_decide_eq_true (by first | (with_reducible assumption) | assumption)
                obtain ⟨ad101, e101, hx101_0⟩ := Kd.at_int HR0.out x3_1 p101 q101
                cases e101
                replace p101 := eq_true p101
                replace q101 := eq_true q101
                have p102 : 0 ≤ ((ji4) : Int) := of_decide_eq_true (by first | (with_reducible assumption) | assumption)
                have q102 : (ji4) < (l0.length : Int) := of_decide_eq_true (by first | (with_reducible assumption) | assumption)
                obtain ⟨ad102, e102, hx102_0⟩ := Kd.at_int HR0.out (ji4) p102 q102
                obtain rfl : ad101 = ad102 := (by injection e102)
                replace p102 := eq_true p102
                replace q102 := eq_true q102
                go_wp2
                repeat (go_quiet (fail); try go_wp2)
                go_ret
                exact ⟨by first | rfl | (simp; done) | (simp only [← hji4] <;> (first | rfl | simp)) | (simp [*]; done), by repeat (first | exact Drawn0.refl _ | apply Drawn0.step)⟩
              · rw [if_neg c7] at H
                have c7b0 : decide ((rd l0 x3_1) ≤ (rd l0 (ji4))) = false := decide_eq_false c7
                clear c7
                have H' := Aside0.mk H
                clear H
                have p101 : 0 ≤ (x3_1 : Int) := of_decide_eq_true (by first | (with_reducible assumption) | assumption)
                have q101 : x3_1 < (l0.length : Int) := of_decide_eq_true (by first | (with_reducible assumption) | assumption)
                obtain ⟨ad101, e101, hx101_0⟩ := Kd.at_int HR0.out x3_1 p101 q101
                cases e101
                replace p101 := eq_true p101
                replace q101 := eq_true q101
                have p102 : 0 ≤ ((ji4) : Int) := of_decide_eq_true (by first | (with_reducible assumption) | assumption)
                have q102 : (ji4) < (l0.length : Int) := of_decide_eq_true (by first | (with_reducible assumption) | assumption)
                obtain ⟨ad102, e102, hx102_0⟩ := Kd.at_int HR0.out (ji4) p102 q102
                obtain rfl : ad101 = ad102 := (by injection e102)
                replace p102 := eq_true p102
                replace q102 := eq_true q102
                go_wp2
                repeat (go_quiet (fail); try go_wp2)
                go_roundg k1
                case measure => have := HK1.out; omega
                case rel => exact ⟨(wrap64 (x3_1 + 1)), (by first | rfl | (simp; done) | (simp [*]; done)), H', ⟨by have := HK1.out; omega⟩, by repeat (first | exact Drawn0.refl _ | apply Drawn0.step)⟩
            · rw [if_neg c6] at H
              exact absurd H (by simp)
          · rw [if_neg c5] at H
            exact absurd H (by simp)
        · rw [if_neg c3] at H
          exact absurd H (by simp)
      · rw [if_neg c2] at H
        have c2b0 : decide (x3_1 < (l0.length : Int)) = false := decide_eq_false c2
        clear c2
        obtain rfl := Option.some.inj H
        go_wp2
        repeat (go_quiet (fail); try go_wp2)
        go_ret
        exact ⟨by first | rfl | (simp; done) | (simp [*]; done), by repeat (first | exact Drawn0.refl _ | apply Drawn0.step)⟩

end Go.Proofs.Ytlipbiihemhieaa.Q

-- from Qf23
-- Made by hp.py, a program of this session, with the kit's printer. Not trusted: Lean checks it.
namespace Go.Proofs.Ytlipbiihemhieaa.Q
open Go.RowKit Go.Proofs.YtlipbiihemhieaaW.PrintWords Go.Proofs.YtlipbiihemhieaaW.PrintLast Go.Proofs.YtlipbiihemhieaaW.PrintMore
attribute [local go_sem] max2_int min2_int max_two min_two max_three min_three max_four min_four   -- for this text's walks alone
set_option linter.unusedVariables false
set_option linter.unusedSimpArgs false

/-! ### order_First: function 23 -/
def order_First.f (k : Nat) (l0 : List Int) (a1 : Int) : Option (List Int × Bool) := if (l0.length : Int) = 0 then (some (([] : List Int), false)) else ((order_Alphabet.f k l0).bind fun t101 => (if t101 = true then (if a1 < 1 then (some (([] : List Int), false)) else (if 0 < (l0.length : Int) then (some ((([rd l0 0] : List Int)), true)) else (none))) else (some (([] : List Int), false))))
theorem order_First.mono : ∀ a0 a1 k, LeO (order_First.f k a0 a1) (order_First.f (k + 1) a0 a1) := by
  intro a0 a1 k
  unfold order_First.f
  repeat' first
      | (with_reducible exact order_Alphabet.mono _ _)
      | (with_reducible exact LeO.refl _)
      | (with_reducible exact LeO.none _)
      | (with_reducible refine LeO.ite ?_ ?_)
      | (with_reducible refine LeO.bind ?_ (fun _ => ?_))
      | exact order_Alphabet.mono _ _
      | exact LeO.none _
      | refine LeO.ite ?_ ?_
      | refine LeO.bind ?_ (fun _ => ?_)
set_option maxHeartbeats 8000000 in
set_option maxRecDepth 100000 in
theorem order_First.calls (k : Nat) (A0 : Option Addr) (c0 : Nat) (l0 : List Int) (a1 : Int) (r1 : List Int) (r2 : Bool) (w : World) (hr0 : Kd.C (Kd.int .i64) w A0 l0.length l0) (hc0 : l0.length ≤ c0) (h : order_First.f k l0 a1 = some (r1, r2)) :
    Calls Try.prog 23 #[.slice A0 l0.length c0, .int .i64 a1] w fun e w' => ∃ v0_ : Value, e = .returned (.tuple #[v0_, .bool r2]) ∧ Kd.R (Kd.int .i64) 3 w' w.heap.size (fun _ => True) v0_ r1 ∧ Below w.heap.size w w' := by
  have HR0 := Aside0.mk hr0
  have HC0 := Aside0.mk hc0
  clear hr0 hc0
  have HB := Aside0.mk (Below.refl w.heap.size w)
  have H : (if (l0.length : Int) = 0 then (some (([] : List Int), false)) else ((order_Alphabet.f k l0).bind fun t101 => (if t101 = true then (if a1 < 1 then (some (([] : List Int), false)) else (if 0 < (l0.length : Int) then (some ((([rd l0 0] : List Int)), true)) else (none))) else (some (([] : List Int), false))))) = some (r1, r2) := h
  clear h
  by_cases c3 : (l0.length : Int) = 0
  · rw [if_pos c3] at H
    have c3b0 : ((l0.length : Int) == 0) = true := beq_iff_eq.mpr c3
    have c3b1 : ((l0.length : Int) != 0) = false := bne_eq_false_iff_eq.mpr c3
    clear c3
    simp only [Option.some.injEq, Prod.mk.injEq] at H
    obtain ⟨rfl, rfl⟩ := H
    go_enter Try.func23, Try.ntmps23
    go_wp2
    go_ret2
    exact ⟨_, by first | rfl | (simp [errW_none, errW_some] <;> rfl) | (simp [*, errW_none, errW_some] <;> rfl), by first | exact Kd.R_nil _ _ _ _ _ | exact Kd.N_nil _ _ _ _ _ | exact Kd.V_nil _ _ _ _ _ | exact Kd.Q_nil _ _ _ _ _ | exact Kd.S_nil _ _ _ _ _, by repeat (first | (with_reducible first | exact HB.out | apply below_alloc | apply pw_below_drewN | apply below_drew1) | exact HB.out)⟩
  · rw [if_neg c3] at H
    have c3b0 : ((l0.length : Int) == 0) = false := beq_eq_false_iff_ne.mpr c3
    have c3b1 : ((l0.length : Int) != 0) = true := bne_iff_ne.mpr c3
    have c3b2 : ¬ (l0 = []) := fun h_ => c3 (by rw [h_]; rfl)
    replace H := Option.bind_eq_some_iff.mp H
    obtain ⟨t101, A40, H⟩ := H
    replace H : (if t101 = true then (if a1 < 1 then (some (([] : List Int), false)) else (if 0 < (l0.length : Int) then (some ((([rd l0 0] : List Int)), true)) else (none))) else (some (([] : List Int), false))) = some (r1, r2) := H
    have A4 := Aside0.mk A40
    clear A40
    by_cases c5 : t101 = true
    · subst c5
      have H1 : (if a1 < 1 then (some (([] : List Int), false)) else (if 0 < (l0.length : Int) then (some ((([rd l0 0] : List Int)), true)) else (none))) = some (r1, r2) := by rw [if_pos rfl] at H; exact H
      clear H
      have H := H1
      clear H1
      by_cases c6 : a1 < 1
      · rw [if_pos c6] at H
        have c6b0 : decide (a1 < 1) = true := decide_eq_true c6
        clear c6
        simp only [Option.some.injEq, Prod.mk.injEq] at H
        obtain ⟨rfl, rfl⟩ := H
        go_enter Try.func23, Try.ntmps23
        go_wp2_with (first | (go_at_call 24; (with_reducible refine (order_Alphabet.calls k _ _ l0 true _ ?side1 ?side2 A4.out).mono ?_); (case side1 => repeat (first | exact HR0.out | (with_reducible refine Kd.C_alloc ?_ _) | (with_reducible refine Kd.C_drewN ?_ _) | (with_reducible refine Kd.C_drew ?_))); (case side2 => exact HC0.out); rintro e w' ⟨rfl, ⟨nd, rfl⟩⟩))
        go_ret2
        exact ⟨_, by first | rfl | (simp [errW_none, errW_some] <;> rfl) | (simp [*, errW_none, errW_some] <;> rfl), by first | exact Kd.R_nil _ _ _ _ _ | exact Kd.N_nil _ _ _ _ _ | exact Kd.V_nil _ _ _ _ _ | exact Kd.Q_nil _ _ _ _ _ | exact Kd.S_nil _ _ _ _ _, by repeat (first | (with_reducible first | exact HB.out | apply below_alloc | apply pw_below_drewN | apply below_drew1) | exact HB.out)⟩
      · rw [if_neg c6] at H
        have c6b0 : decide (a1 < 1) = false := decide_eq_false c6
        clear c6
        by_cases c7 : 0 < (l0.length : Int)
        · rw [if_pos c7] at H
          have c7b0 : decide (0 < (l0.length : Int)) = true := decide_eq_true c7
          have c7b1 : decide (0 < l0.length) = true := decide_eq_true (by omega)
          clear c7
          obtain ⟨y103, hy103⟩ : ∃ y_ : List Int, y_ = (([rd l0 0] : List Int)) := ⟨_, rfl⟩
          replace H : (some (y103, true)) = some (r1, r2) := by first | (rw [hy103]; with_reducible exact H) | (have H2_ := (Option.bind_some _ _).symm.trans H; rw [hy103]; with_reducible exact H2_) | (have H2_ := (Option.bind_some _ _).symm.trans H; with_reducible exact H2_) | with_reducible exact H | (rw [hy103]; exact H) | exact H
          have Ny103 := Aside0.mk hy103
          clear hy103
          simp only [Option.some.injEq, Prod.mk.injEq] at H
          obtain ⟨rfl, rfl⟩ := H
          go_enter Try.func23, Try.ntmps23
          go_wp2_with (first | (go_at_call 24; (with_reducible refine (order_Alphabet.calls k _ _ l0 true _ ?side1 ?side2 A4.out).mono ?_); (case side1 => repeat (first | exact HR0.out | (with_reducible refine Kd.C_alloc ?_ _) | (with_reducible refine Kd.C_drewN ?_ _) | (with_reducible refine Kd.C_drew ?_))); (case side2 => exact HC0.out); rintro e w' ⟨rfl, ⟨nd, rfl⟩⟩; have p102 : 0 ≤ (0 : Int) := (by omega); have q102 : 0 < (l0.length : Int) := of_decide_eq_true (by first | (with_reducible assumption) | assumption); obtain ⟨ad102, e102, hx102_0⟩ := Kd.at_int HR0.out 0 p102 q102; cases e102; have qi102 : (0 < l0.length) = True := eq_true (by omega); (try rw [show ((0 : Int)).toNat = 0 from rfl] at hx102_0); (try rw [Addr.add_zero'] at hx102_0); replace p102 := eq_true p102; replace q102 := eq_true q102) | ((with_reducible refine gate_dst (N := 21) rfl ?_); refine Kd.R_lit (Kd.int .i64) _ 3 ?hg (N := 21) ?hd (xs := ([rd l0 0] : List Int)) (inner := [.int .i64 (rd l0 0)]) (ok := fun _ => True) (okp := fun _ => True) ?hr ?hp (fun _ hk => hk) trivial (Below.refl _ _) (Nat.le_refl _) (by simp) ?_; (case hd => rfl); (case hg => rfl); (case hr => first | (go_simp; done) | (go_simp; rfl)); (case hp => exact (Reps.one (show Kd.M (Kd.int .i64) _ _ _ (rd l0 0) [.int .i64 (rd l0 0)] from rfl) (Reps.none _ _))); intro v104 w8 ho9 hb hg_ hnew_; clear hg_ hnew_; (first | rw [← Ny103.out] at ho9 | (simp only [Int.reduceToNat] at ho9; rw [← Ny103.out] at ho9)); have n0_ := Aside0.mk (Kd.R_lower ho9 (below_size (by repeat (first | (with_reducible first | exact HB.out | apply below_alloc | apply pw_below_drewN | apply below_drew1) | exact HB.out)))); have n1_ := Aside0.mk (below_step (by repeat (first | (with_reducible first | exact HB.out | apply below_alloc | apply pw_below_drewN | apply below_drew1) | exact HB.out)) hb); clear HB; have HO105 := n0_; have HB := n1_; clear n0_ n1_; clear hb ho9))
          go_ret2
          exact ⟨_, by first | rfl | (simp [errW_none, errW_some] <;> rfl) | (simp [*, errW_none, errW_some] <;> rfl), by (with_reducible repeat (first | apply Kd.R_alloc | apply Kd.R_drewN | apply Kd.R_drew)); exact HO105.out, by repeat (first | (with_reducible first | exact HB.out | apply below_alloc | apply pw_below_drewN | apply below_drew1) | exact HB.out)⟩
        · rw [if_neg c7] at H
          exact absurd H (by simp)
    · replace c5 := Bool.eq_false_iff.mpr c5
      subst c5
      have H1 : (some (([] : List Int), false)) = some (r1, r2) := by rw [if_neg (show ¬ (false = true) by decide)] at H; exact H
      clear H
      have H := H1
      clear H1
      simp only [Option.some.injEq, Prod.mk.injEq] at H
      obtain ⟨rfl, rfl⟩ := H
      go_enter Try.func23, Try.ntmps23
      go_wp2_with (first | (go_at_call 24; (with_reducible refine (order_Alphabet.calls k _ _ l0 false _ ?side1 ?side2 A4.out).mono ?_); (case side1 => repeat (first | exact HR0.out | (with_reducible refine Kd.C_alloc ?_ _) | (with_reducible refine Kd.C_drewN ?_ _) | (with_reducible refine Kd.C_drew ?_))); (case side2 => exact HC0.out); rintro e w' ⟨rfl, ⟨nd, rfl⟩⟩))
      go_ret2
      exact ⟨_, by first | rfl | (simp [errW_none, errW_some] <;> rfl) | (simp [*, errW_none, errW_some] <;> rfl), by first | exact Kd.R_nil _ _ _ _ _ | exact Kd.N_nil _ _ _ _ _ | exact Kd.V_nil _ _ _ _ _ | exact Kd.Q_nil _ _ _ _ _ | exact Kd.S_nil _ _ _ _ _, by repeat (first | (with_reducible first | exact HB.out | apply below_alloc | apply pw_below_drewN | apply below_drew1) | exact HB.out)⟩

end Go.Proofs.Ytlipbiihemhieaa.Q

-- from Qf78
-- Made by hp.py, a program of this session, with the kit's printer. Not trusted: Lean checks it.
namespace Go.Proofs.Ytlipbiihemhieaa.Q
open Go.RowKit Go.Proofs.YtlipbiihemhieaaW.PrintWords Go.Proofs.YtlipbiihemhieaaW.PrintLast Go.Proofs.YtlipbiihemhieaaW.PrintMore
attribute [local go_sem] max2_int min2_int max_two min_two max_three min_three max_four min_four   -- for this text's walks alone
set_option linter.unusedVariables false
set_option linter.unusedSimpArgs false

/-! ### cmp_Less_int: function 78 -/
def cmp_Less_int.f (a0 : Int) (a1 : Int) : Option (Bool) := (cmp_isNaN_int.f a0).bind fun t101 => (if t101 = true then ((cmp_isNaN_int.f a1).bind fun t102 => (if t102 = true then (some (decide (a0 < a1))) else (some true))) else (some (decide (a0 < a1))))
set_option maxHeartbeats 8000000 in
set_option maxRecDepth 100000 in
theorem cmp_Less_int.calls (a0 : Int) (a1 : Int) (r : Bool) (w : World) (h : cmp_Less_int.f a0 a1 = some r) :
    Calls Try.prog 78 #[.int .i64 a0, .int .i64 a1] w fun e w' => e = .returned (.bool r) ∧ Drawn0 w w' := by
  have H : ((cmp_isNaN_int.f a0).bind fun t101 => (if t101 = true then ((cmp_isNaN_int.f a1).bind fun t102 => (if t102 = true then (some (decide (a0 < a1))) else (some true))) else (some (decide (a0 < a1))))) = some r := h
  clear h
  replace H := Option.bind_eq_some_iff.mp H
  obtain ⟨t101, A30, H⟩ := H
  replace H : (if t101 = true then ((cmp_isNaN_int.f a1).bind fun t102 => (if t102 = true then (some (decide (a0 < a1))) else (some true))) else (some (decide (a0 < a1)))) = some r := H
  have A3 := Aside0.mk A30
  clear A30
  by_cases c4 : t101 = true
  · subst c4
    have H1 : ((cmp_isNaN_int.f a1).bind fun t102 => (if t102 = true then (some (decide (a0 < a1))) else (some true))) = some r := by rw [if_pos rfl] at H; exact H
    clear H
    have H := H1
    clear H1
    replace H := Option.bind_eq_some_iff.mp H
    obtain ⟨t102, A50, H⟩ := H
    replace H : (if t102 = true then (some (decide (a0 < a1))) else (some true)) = some r := H
    have A5 := Aside0.mk A50
    clear A50
    by_cases c6 : t102 = true
    · subst c6
      have H1 : (some (decide (a0 < a1))) = some r := by rw [if_pos rfl] at H; exact H
      clear H
      have H := H1
      clear H1
      obtain rfl := Option.some.inj H
      go_enter Try.func78, Try.ntmps78
      go_wp2_with (first | ((with_reducible refine gate_callee (f := 92) rfl ?_); refine goesL_ (some 6) rfl rfl Try.func92 (by kernel_rfl) rfl #[.int .i64 a0] rfl (by (try simp only [List.map_toArray, List.map_cons, List.map_nil]); first | done | rfl | (simp only [List.length_drop, List.length_take]; rfl)) ?_; (with_reducible refine (cmp_isNaN_int.calls a0 true _ A3.out).mono ?_); rintro e w' ⟨rfl, ⟨nd, rfl⟩⟩; refine ⟨_, rfl, ?_⟩) | (go_at_call 92; (with_reducible refine (cmp_isNaN_int.calls a1 true _ A5.out).mono ?_); rintro e w' ⟨rfl, ⟨nd, rfl⟩⟩))
      go_ret
      exact ⟨by first | rfl | (simp; done) | (simp [*]; done), by repeat (first | exact Drawn0.refl _ | apply Drawn0.step)⟩
    · replace c6 := Bool.eq_false_iff.mpr c6
      subst c6
      have H1 : (some true) = some r := by rw [if_neg (show ¬ (false = true) by decide)] at H; exact H
      clear H
      have H := H1
      clear H1
      obtain rfl := Option.some.inj H
      go_enter Try.func78, Try.ntmps78
      go_wp2_with (first | ((with_reducible refine gate_callee (f := 92) rfl ?_); refine goesL_ (some 6) rfl rfl Try.func92 (by kernel_rfl) rfl #[.int .i64 a0] rfl (by (try simp only [List.map_toArray, List.map_cons, List.map_nil]); first | done | rfl | (simp only [List.length_drop, List.length_take]; rfl)) ?_; (with_reducible refine (cmp_isNaN_int.calls a0 true _ A3.out).mono ?_); rintro e w' ⟨rfl, ⟨nd, rfl⟩⟩; refine ⟨_, rfl, ?_⟩) | (go_at_call 92; (with_reducible refine (cmp_isNaN_int.calls a1 false _ A5.out).mono ?_); rintro e w' ⟨rfl, ⟨nd, rfl⟩⟩))
      go_ret
      exact ⟨by first | rfl | (simp; done) | (simp [*]; done), by repeat (first | exact Drawn0.refl _ | apply Drawn0.step)⟩
  · replace c4 := Bool.eq_false_iff.mpr c4
    subst c4
    have H1 : (some (decide (a0 < a1))) = some r := by rw [if_neg (show ¬ (false = true) by decide)] at H; exact H
    clear H
    have H := H1
    clear H1
    obtain rfl := Option.some.inj H
    go_enter Try.func78, Try.ntmps78
    go_wp2_with (first | ((with_reducible refine gate_callee (f := 92) rfl ?_); refine goesL_ (some 6) rfl rfl Try.func92 (by kernel_rfl) rfl #[.int .i64 a0] rfl (by (try simp only [List.map_toArray, List.map_cons, List.map_nil]); first | done | rfl | (simp only [List.length_drop, List.length_take]; rfl)) ?_; (with_reducible refine (cmp_isNaN_int.calls a0 false _ A3.out).mono ?_); rintro e w' ⟨rfl, ⟨nd, rfl⟩⟩; refine ⟨_, rfl, ?_⟩))
    go_ret
    exact ⟨by first | rfl | (simp; done) | (simp [*]; done), by repeat (first | exact Drawn0.refl _ | apply Drawn0.step)⟩

end Go.Proofs.Ytlipbiihemhieaa.Q

-- from Qf79
-- Made by hp.py, a program of this session, with the kit's printer. Not trusted: Lean checks it.
namespace Go.Proofs.Ytlipbiihemhieaa.Q
open Go.RowKit Go.Proofs.YtlipbiihemhieaaW.PrintWords Go.Proofs.YtlipbiihemhieaaW.PrintLast Go.Proofs.YtlipbiihemhieaaW.PrintMore
attribute [local go_sem] max2_int min2_int max_two min_two max_three min_three max_four min_four   -- for this text's walks alone
set_option linter.unusedVariables false
set_option linter.unusedSimpArgs false

/-! ### slices_isNaN_int: function 79 -/
def slices_isNaN_int.f (a0 : Int) : Option (Bool) := some (a0 != a0)
set_option maxHeartbeats 8000000 in
set_option maxRecDepth 100000 in
theorem slices_isNaN_int.calls (a0 : Int) (r : Bool) (w : World) (h : slices_isNaN_int.f a0 = some r) :
    Calls Try.prog 79 #[.int .i64 a0] w fun e w' => e = .returned (.bool r) ∧ Drawn0 w w' := by
  have H : (some (a0 != a0)) = some r := h
  clear h
  obtain rfl := Option.some.inj H
  go_enter Try.func79, Try.ntmps79
  go_wp2
  go_ret
  exact ⟨by first | rfl | (simp; done) | (simp [*]; done), by repeat (first | exact Drawn0.refl _ | apply Drawn0.step)⟩

end Go.Proofs.Ytlipbiihemhieaa.Q

-- from Qf58
-- Made by hp.py, a program of this session, with the kit's printer. Not trusted: Lean checks it.
namespace Go.Proofs.Ytlipbiihemhieaa.Q
open Go.RowKit Go.Proofs.YtlipbiihemhieaaW.PrintWords Go.Proofs.YtlipbiihemhieaaW.PrintLast Go.Proofs.YtlipbiihemhieaaW.PrintMore
attribute [local go_sem] max2_int min2_int max_two min_two max_three min_three max_four min_four   -- for this text's walks alone
set_option linter.unusedVariables false
set_option linter.unusedSimpArgs false

/-! ### slices_BinarySearch_int_int: function 58 -/
def slices_BinarySearch_int_int.l0 : Nat → List Int → Int → Int → Int → Int → Option (Int × Bool)
  | 0, _, _, _, _, _ => none
  | k + 1, x0, x1, x6, x7, x8 => if x7 < x8 then (if 0 ≤ (wrap64 ((IntKind.u64.wrap (wrap64 (x7 + x8))) / 2)) then (if (wrap64 ((IntKind.u64.wrap (wrap64 (x7 + x8))) / 2)) < (x0.length : Int) then ((cmp_Less_int.f (rd x0 (wrap64 ((IntKind.u64.wrap (wrap64 (x7 + x8))) / 2))) x1).bind fun t102 => (if t102 = true then (slices_BinarySearch_int_int.l0 k x0 x1 x6 (wrap64 ((wrap64 ((IntKind.u64.wrap (wrap64 (x7 + x8))) / 2)) + 1)) x8) else (slices_BinarySearch_int_int.l0 k x0 x1 x6 x7 (wrap64 ((IntKind.u64.wrap (wrap64 (x7 + x8))) / 2))))) else (none)) else (none)) else (if x7 < x6 then (if 0 ≤ x7 then (if x7 < (x0.length : Int) then (if (rd x0 x7) = x1 then (some (x7, true)) else ((slices_isNaN_int.f (rd x0 x7)).bind fun t105 => (if t105 = true then ((slices_isNaN_int.f x1).bind fun t106 => (some (x7, t106))) else (some (x7, false))))) else (none)) else (none)) else (some (x7, false)))
def slices_BinarySearch_int_int.f (k : Nat) (l0 : List Int) (a1 : Int) : Option (Int × Bool) := slices_BinarySearch_int_int.l0 k l0 a1 (l0.length : Int) 0 (l0.length : Int)
theorem slices_BinarySearch_int_int.mono_l : ∀ k, (∀ y0 y1 y2 y3 y4, LeO (slices_BinarySearch_int_int.l0 k y0 y1 y2 y3 y4) (slices_BinarySearch_int_int.l0 (k + 1) y0 y1 y2 y3 y4))
  | 0 => fun _ _ _ _ _ r h => by simp [slices_BinarySearch_int_int.l0] at h
  | k + 1 => by
    have ih0 := slices_BinarySearch_int_int.mono_l k
    · intro y0 y1 y2 y3 y4
      unfold slices_BinarySearch_int_int.l0
      repeat' first
      | (with_reducible exact ih0 _ _ _ _ _)
      | (with_reducible exact LeO.refl _)
      | (with_reducible exact LeO.none _)
      | (with_reducible refine LeO.ite ?_ ?_)
      | (with_reducible refine LeO.bind ?_ (fun _ => ?_))
      | exact ih0 _ _ _ _ _
      | exact LeO.none _
      | refine LeO.ite ?_ ?_
      | refine LeO.bind ?_ (fun _ => ?_)
theorem slices_BinarySearch_int_int.mono : ∀ a0 a1 k, LeO (slices_BinarySearch_int_int.f k a0 a1) (slices_BinarySearch_int_int.f (k + 1) a0 a1) := by
  intro a0 a1 k
  have ih0 := slices_BinarySearch_int_int.mono_l k
  unfold slices_BinarySearch_int_int.f
  repeat' first
      | (with_reducible exact ih0 _ _ _ _ _)
      | (with_reducible exact LeO.refl _)
      | (with_reducible exact LeO.none _)
      | (with_reducible refine LeO.ite ?_ ?_)
      | (with_reducible refine LeO.bind ?_ (fun _ => ?_))
      | exact ih0 _ _ _ _ _
      | exact LeO.none _
      | refine LeO.ite ?_ ?_
      | refine LeO.bind ?_ (fun _ => ?_)
set_option maxHeartbeats 8000000 in
set_option maxRecDepth 100000 in
theorem slices_BinarySearch_int_int.calls (k : Nat) (A0 : Option Addr) (c0 : Nat) (l0 : List Int) (a1 : Int) (r1 : Int) (r2 : Bool) (w : World) (hr0 : Kd.C (Kd.int .i64) w A0 l0.length l0) (hc0 : l0.length ≤ c0) (h : slices_BinarySearch_int_int.f k l0 a1 = some (r1, r2)) :
    Calls Try.prog 58 #[.slice A0 l0.length c0, .int .i64 a1] w fun e w' => e = .returned (.tuple #[.int .i64 r1, .bool r2]) ∧ Drawn0 w w' := by
  have HR0 := Aside0.mk hr0
  have HC0 := Aside0.mk hc0
  clear hr0 hc0
  have H : (slices_BinarySearch_int_int.l0 k l0 a1 (l0.length : Int) 0 (l0.length : Int)) = some (r1, r2) := h
  clear h
  have H' := Aside0.mk H
  clear H
  go_enter Try.func58, Try.ntmps58
  go_wp2
  go_loopg [7, 8] k (fun kq v7 v8 w' => ∃ (x7_1 : Int) (x8_1 : Int), v7 = .int .i64 x7_1 ∧ v8 = .int .i64 x8_1 ∧ Aside0 (slices_BinarySearch_int_int.l0 kq l0 a1 (l0.length : Int) x7_1 x8_1 = some (r1, r2)) ∧ Aside0 (kq ≤ k) ∧ Drawn0 w w')
  case atStart => exact ⟨(0), ((l0.length : Int)), (by first | rfl | (simp; done) | (simp [*]; done)), (by first | rfl | (simp; done) | (simp [*]; done)), H', ⟨Nat.le_refl _⟩, by repeat (first | exact Drawn0.refl _ | apply Drawn0.step)⟩
  case round =>
    clear H'
    try clear p2
    obtain ⟨x7_1, x8_1, rfl, rfl, HA, HK1, ⟨m1, rfl⟩⟩ := hrel
    cases gk with
    | zero => exact absurd HA.out (by simp [slices_BinarySearch_int_int.l0])
    | succ k1 =>
      have H := HA.out
      clear HA
      simp only [slices_BinarySearch_int_int.l0] at H
      by_cases c3 : x7_1 < x8_1
      · rw [if_pos c3] at H
        have c3b0 : decide (x7_1 < x8_1) = true := decide_eq_true c3
        clear c3
        obtain ⟨ji4, hji4⟩ : ∃ j_ : Int, (wrap64 ((IntKind.u64.wrap (wrap64 (x7_1 + x8_1))) / 2)) = j_ := ⟨_, rfl⟩
        replace H : (if 0 ≤ (ji4) then (if (ji4) < (l0.length : Int) then ((cmp_Less_int.f (rd l0 (ji4)) a1).bind fun t102 => (if t102 = true then (slices_BinarySearch_int_int.l0 k1 l0 a1 (l0.length : Int) (wrap64 ((ji4) + 1)) x8_1) else (slices_BinarySearch_int_int.l0 k1 l0 a1 (l0.length : Int) x7_1 ji4))) else (none)) else (none)) = some (r1, r2) := by first | (rw [hji4] at H; exact H) | (simp only [hji4] at H ⊢; exact H)
        have hji4w : (IntKind.i64.wrap ((IntKind.u64.wrap (wrap64 (x7_1 + x8_1))) / 2)) = ji4 := (i64_w _).trans hji4
        by_cases c5 : 0 ≤ (ji4)
        · rw [if_pos c5] at H
          have c5b0 : decide (0 ≤ (ji4)) = true := decide_eq_true c5
          clear c5
          by_cases c6 : (ji4) < (l0.length : Int)
          · rw [if_pos c6] at H
            have c6b0 : decide ((ji4) < (l0.length : Int)) = true := decide_eq_true c6
            clear c6
            replace H := Option.bind_eq_some_iff.mp H
            obtain ⟨t102, A70, H⟩ := H
            replace H : (if t102 = true then (slices_BinarySearch_int_int.l0 k1 l0 a1 (l0.length : Int) (wrap64 ((ji4) + 1)) x8_1) else (slices_BinarySearch_int_int.l0 k1 l0 a1 (l0.length : Int) x7_1 ji4)) = some (r1, r2) := H
            have A7 := Aside0.mk A70
            clear A70
            by_cases c8 : t102 = true
            · subst c8
              have H1 : (slices_BinarySearch_int_int.l0 k1 l0 a1 (l0.length : Int) (wrap64 ((ji4) + 1)) x8_1) = some (r1, r2) := by rw [if_pos rfl] at H; exact H
              clear H
              have H := H1
              clear H1
              have H' := Aside0.mk H
              clear H
              have p101 : 0 ≤ ((ji4) : Int) := of_decide_eq_true (by first | (with_reducible assumption) | assumption)
              have q101 : (ji4) < (l0.length : Int) := of_decide_eq_true (by first | (with_reducible assumption) | assumption)
              obtain ⟨ad101, e101, hx101_0⟩ := Kd.at_int HR0.out (ji4) p101 q101
              cases e101
              replace p101 := eq_true p101
              replace q101 := eq_true q101
              go_wp2_with (first | ((with_reducible refine gate_callee (f := 78) rfl ?_); refine goesL_ (some 27) rfl rfl Try.func78 (by kernel_rfl) rfl #[.int .i64 (rd l0 (ji4)), .int .i64 a1] rfl (by (try simp only [List.map_toArray, List.map_cons, List.map_nil]); first | done | (simp only [hji4]; rfl) | rfl | (simp only [List.length_drop, List.length_take]; rfl)) ?_; (with_reducible refine (cmp_Less_int.calls (rd l0 (ji4)) a1 true _ A7.out).mono ?_); rintro e w' ⟨rfl, ⟨nd, rfl⟩⟩; refine ⟨_, rfl, ?_⟩))
              go_roundg k1
              case measure => have := HK1.out; omega
              case rel => exact ⟨(wrap64 ((ji4) + 1)), (x8_1), (by first | rfl | (simp; done) | (simp only [← hji4] <;> (first | rfl | simp)) | (simp [*]; done)), (by first | rfl | (simp; done) | (simp [*]; done)), H', ⟨by have := HK1.out; omega⟩, by repeat (first | exact Drawn0.refl _ | apply Drawn0.step)⟩
            · replace c8 := Bool.eq_false_iff.mpr c8
              subst c8
              have H1 : (slices_BinarySearch_int_int.l0 k1 l0 a1 (l0.length : Int) x7_1 ji4) = some (r1, r2) := by rw [if_neg (show ¬ (false = true) by decide)] at H; exact H
              clear H
              have H := H1
              clear H1
              have H' := Aside0.mk H
              clear H
              have p101 : 0 ≤ ((ji4) : Int) := of_decide_eq_true (by first | (with_reducible assumption) | assumption)
              have q101 : (ji4) < (l0.length : Int) := of_decide_eq_true (by first | (with_reducible assumption) | assumption)
              obtain ⟨ad101, e101, hx101_0⟩ := Kd.at_int HR0.out (ji4) p101 q101
              cases e101
              replace p101 := eq_true p101
              replace q101 := eq_true q101
              go_wp2_with (first | ((with_reducible refine gate_callee (f := 78) rfl ?_); refine goesL_ (some 27) rfl rfl Try.func78 (by kernel_rfl) rfl #[.int .i64 (rd l0 (ji4)), .int .i64 a1] rfl (by (try simp only [List.map_toArray, List.map_cons, List.map_nil]); first | done | (simp only [hji4]; rfl) | rfl | (simp only [List.length_drop, List.length_take]; rfl)) ?_; (with_reducible refine (cmp_Less_int.calls (rd l0 (ji4)) a1 false _ A7.out).mono ?_); rintro e w' ⟨rfl, ⟨nd, rfl⟩⟩; refine ⟨_, rfl, ?_⟩))
              go_roundg k1
              case measure => have := HK1.out; omega
              case rel => exact ⟨(x7_1), (ji4), (by first | rfl | (simp; done) | (simp [*]; done)), (by first | rfl | (simp; done) | (simp only [← hji4] <;> (first | rfl | simp)) | (simp [*]; done)), H', ⟨by have := HK1.out; omega⟩, by repeat (first | exact Drawn0.refl _ | apply Drawn0.step)⟩
          · rw [if_neg c6] at H
            exact absurd H (by simp)
        · rw [if_neg c5] at H
          exact absurd H (by simp)
      · rw [if_neg c3] at H
        have c3b0 : decide (x7_1 < x8_1) = false := decide_eq_false c3
        clear c3
        by_cases c9 : x7_1 < (l0.length : Int)
        · rw [if_pos c9] at H
          have c9b0 : decide (x7_1 < (l0.length : Int)) = true := decide_eq_true c9
          clear c9
          by_cases c10 : 0 ≤ x7_1
          · rw [if_pos c10] at H
            have c10b0 : decide (0 ≤ x7_1) = true := decide_eq_true c10
            clear c10
            by_cases c11 : x7_1 < (l0.length : Int)
            · rw [if_pos c11] at H
              have c11b0 : decide (x7_1 < (l0.length : Int)) = true := decide_eq_true c11
              clear c11
              by_cases c12 : (rd l0 x7_1) = a1
              · rw [if_pos c12] at H
                have c12b0 : ((rd l0 x7_1) == a1) = true := beq_iff_eq.mpr c12
                have c12b1 : ((rd l0 x7_1) != a1) = false := bne_eq_false_iff_eq.mpr c12
                clear c12
                simp only [Option.some.injEq, Prod.mk.injEq] at H
                obtain ⟨rfl, rfl⟩ := H
                have p103 : 0 ≤ (x7_1 : Int) := of_decide_eq_true (by first | (with_reducible assumption) | assumption)
                have q103 : x7_1 < (l0.length : Int) := of_decide_eq_true (by first | (with_reducible assumption) | assumption)
                obtain ⟨ad103, e103, hx103_0⟩ := Kd.at_int HR0.out x7_1 p103 q103
                cases e103
                replace p103 := eq_true p103
                replace q103 := eq_true q103
                go_wp2
                go_ret2
                exact ⟨by first | rfl | (simp; done) | (simp [*]; done), by repeat (first | exact Drawn0.refl _ | apply Drawn0.step)⟩
              · rw [if_neg c12] at H
                have c12b0 : ((rd l0 x7_1) == a1) = false := beq_eq_false_iff_ne.mpr c12
                have c12b1 : ((rd l0 x7_1) != a1) = true := bne_iff_ne.mpr c12
                replace H := Option.bind_eq_some_iff.mp H
                obtain ⟨t105, A130, H⟩ := H
                replace H : (if t105 = true then ((slices_isNaN_int.f a1).bind fun t106 => (some (x7_1, t106))) else (some (x7_1, false))) = some (r1, r2) := H
                have A13 := Aside0.mk A130
                clear A130
                by_cases c14 : t105 = true
                · subst c14
                  have H1 : ((slices_isNaN_int.f a1).bind fun t106 => (some (x7_1, t106))) = some (r1, r2) := by rw [if_pos rfl] at H; exact H
                  clear H
                  have H := H1
                  clear H1
                  replace H := Option.bind_eq_some_iff.mp H
                  obtain ⟨t106, A150, H⟩ := H
                  replace H : (some (x7_1, t106)) = some (r1, r2) := H
                  have A15 := Aside0.mk A150
                  clear A150
                  simp only [Option.some.injEq, Prod.mk.injEq] at H
                  obtain ⟨rfl, rfl⟩ := H
                  have p103 : 0 ≤ (x7_1 : Int) := of_decide_eq_true (by first | (with_reducible assumption) | assumption)
                  have q103 : x7_1 < (l0.length : Int) := of_decide_eq_true (by first | (with_reducible assumption) | assumption)
                  obtain ⟨ad103, e103, hx103_0⟩ := Kd.at_int HR0.out x7_1 p103 q103
                  cases e103
                  replace p103 := eq_true p103
                  replace q103 := eq_true q103
                  have p104 : 0 ≤ (x7_1 : Int) := of_decide_eq_true (by first | (with_reducible assumption) | assumption)
                  have q104 : x7_1 < (l0.length : Int) := of_decide_eq_true (by first | (with_reducible assumption) | assumption)
                  obtain ⟨ad104, e104, hx104_0⟩ := Kd.at_int HR0.out x7_1 p104 q104
                  obtain rfl : ad103 = ad104 := (by injection e104)
                  replace p104 := eq_true p104
                  replace q104 := eq_true q104
                  go_wp2_with (first | (go_at_call 79; (with_reducible refine (slices_isNaN_int.calls (rd l0 x7_1) true _ A13.out).mono ?_); rintro e w' ⟨rfl, ⟨nd, rfl⟩⟩) | (go_at_call 79; (with_reducible refine (slices_isNaN_int.calls a1 t106 _ A15.out).mono ?_); rintro e w' ⟨rfl, ⟨nd, rfl⟩⟩))
                  go_ret2
                  exact ⟨by first | rfl | (simp; done) | (simp [*]; done), by repeat (first | exact Drawn0.refl _ | apply Drawn0.step)⟩
                · replace c14 := Bool.eq_false_iff.mpr c14
                  subst c14
                  have H1 : (some (x7_1, false)) = some (r1, r2) := by rw [if_neg (show ¬ (false = true) by decide)] at H; exact H
                  clear H
                  have H := H1
                  clear H1
                  simp only [Option.some.injEq, Prod.mk.injEq] at H
                  obtain ⟨rfl, rfl⟩ := H
                  have p103 : 0 ≤ (x7_1 : Int) := of_decide_eq_true (by first | (with_reducible assumption) | assumption)
                  have q103 : x7_1 < (l0.length : Int) := of_decide_eq_true (by first | (with_reducible assumption) | assumption)
                  obtain ⟨ad103, e103, hx103_0⟩ := Kd.at_int HR0.out x7_1 p103 q103
                  cases e103
                  replace p103 := eq_true p103
                  replace q103 := eq_true q103
                  have p104 : 0 ≤ (x7_1 : Int) := of_decide_eq_true (by first | (with_reducible assumption) | assumption)
                  have q104 : x7_1 < (l0.length : Int) := of_decide_eq_true (by first | (with_reducible assumption) | assumption)
                  obtain ⟨ad104, e104, hx104_0⟩ := Kd.at_int HR0.out x7_1 p104 q104
                  obtain rfl : ad103 = ad104 := (by injection e104)
                  replace p104 := eq_true p104
                  replace q104 := eq_true q104
                  go_wp2_with (first | (go_at_call 79; (with_reducible refine (slices_isNaN_int.calls (rd l0 x7_1) false _ A13.out).mono ?_); rintro e w' ⟨rfl, ⟨nd, rfl⟩⟩))
                  go_ret2
                  exact ⟨by first | rfl | (simp; done) | (simp [*]; done), by repeat (first | exact Drawn0.refl _ | apply Drawn0.step)⟩
            · rw [if_neg c11] at H
              exact absurd H (by simp)
          · rw [if_neg c10] at H
            exact absurd H (by simp)
        · rw [if_neg c9] at H
          have c9b0 : decide (x7_1 < (l0.length : Int)) = false := decide_eq_false c9
          clear c9
          simp only [Option.some.injEq, Prod.mk.injEq] at H
          obtain ⟨rfl, rfl⟩ := H
          go_wp2
          go_ret2
          exact ⟨by first | rfl | (simp; done) | (simp [*]; done), by repeat (first | exact Drawn0.refl _ | apply Drawn0.step)⟩

end Go.Proofs.Ytlipbiihemhieaa.Q

-- from Qf91
-- Made by hp.py, a program of this session, with the kit's printer. Not trusted: Lean checks it.
namespace Go.Proofs.Ytlipbiihemhieaa.Q
open Go.RowKit Go.Proofs.YtlipbiihemhieaaW.PrintWords Go.Proofs.YtlipbiihemhieaaW.PrintLast Go.Proofs.YtlipbiihemhieaaW.PrintMore
attribute [local go_sem] max2_int min2_int max_two min_two max_three min_three max_four min_four   -- for this text's walks alone
set_option linter.unusedVariables false
set_option linter.unusedSimpArgs false

/-! ### slices_Index_int_int: function 91 -/
def slices_Index_int_int.l0 : Nat → List Int → Int → Int → Int → Option (Int)
  | 0, _, _, _, _ => none
  | k + 1, x0, x1, x7, x8 => if x8 < x7 then (if 0 ≤ x8 then (if x8 < (x0.length : Int) then (if x1 = (rd x0 x8) then (some x8) else (slices_Index_int_int.l0 k x0 x1 x7 (wrap64 (x8 + 1)))) else (none)) else (none)) else (some (-1))
def slices_Index_int_int.f (k : Nat) (l0 : List Int) (a1 : Int) : Option (Int) := slices_Index_int_int.l0 k l0 a1 (l0.length : Int) 0
theorem slices_Index_int_int.mono_l : ∀ k, (∀ y0 y1 y2 y3, LeO (slices_Index_int_int.l0 k y0 y1 y2 y3) (slices_Index_int_int.l0 (k + 1) y0 y1 y2 y3))
  | 0 => fun _ _ _ _ r h => by simp [slices_Index_int_int.l0] at h
  | k + 1 => by
    have ih0 := slices_Index_int_int.mono_l k
    · intro y0 y1 y2 y3
      unfold slices_Index_int_int.l0
      repeat' first
      | (with_reducible exact ih0 _ _ _ _)
      | (with_reducible exact LeO.refl _)
      | (with_reducible exact LeO.none _)
      | (with_reducible refine LeO.ite ?_ ?_)
      | (with_reducible refine LeO.bind ?_ (fun _ => ?_))
      | exact ih0 _ _ _ _
      | exact LeO.none _
      | refine LeO.ite ?_ ?_
      | refine LeO.bind ?_ (fun _ => ?_)
theorem slices_Index_int_int.mono : ∀ a0 a1 k, LeO (slices_Index_int_int.f k a0 a1) (slices_Index_int_int.f (k + 1) a0 a1) := by
  intro a0 a1 k
  have ih0 := slices_Index_int_int.mono_l k
  unfold slices_Index_int_int.f
  repeat' first
      | (with_reducible exact ih0 _ _ _ _)
      | (with_reducible exact LeO.refl _)
      | (with_reducible exact LeO.none _)
      | (with_reducible refine LeO.ite ?_ ?_)
      | (with_reducible refine LeO.bind ?_ (fun _ => ?_))
      | exact ih0 _ _ _ _
      | exact LeO.none _
      | refine LeO.ite ?_ ?_
      | refine LeO.bind ?_ (fun _ => ?_)
set_option maxHeartbeats 8000000 in
set_option maxRecDepth 100000 in
theorem slices_Index_int_int.calls (k : Nat) (A0 : Option Addr) (c0 : Nat) (l0 : List Int) (a1 : Int) (r : Int) (w : World) (hr0 : Kd.C (Kd.int .i64) w A0 l0.length l0) (hc0 : l0.length ≤ c0) (h : slices_Index_int_int.f k l0 a1 = some r) :
    Calls Try.prog 91 #[.slice A0 l0.length c0, .int .i64 a1] w fun e w' => e = .returned (.int .i64 r) ∧ Drawn0 w w' := by
  have HR0 := Aside0.mk hr0
  have HC0 := Aside0.mk hc0
  clear hr0 hc0
  have H : (slices_Index_int_int.l0 k l0 a1 (l0.length : Int) 0) = some r := h
  clear h
  have H' := Aside0.mk H
  clear H
  go_enter Try.func91, Try.ntmps91
  go_wp2
  go_loopg [8] k (fun kq v8 w' => ∃ (x8_1 : Int), v8 = .int .i64 x8_1 ∧ Aside0 (slices_Index_int_int.l0 kq l0 a1 (l0.length : Int) x8_1 = some r) ∧ Aside0 (kq ≤ k) ∧ Drawn0 w w')
  case atStart => exact ⟨(0), (by first | rfl | (simp; done) | (simp [*]; done)), H', ⟨Nat.le_refl _⟩, by repeat (first | exact Drawn0.refl _ | apply Drawn0.step)⟩
  case round =>
    clear H'
    try clear p2
    obtain ⟨x8_1, rfl, HA, HK1, ⟨m1, rfl⟩⟩ := hrel
    cases gk with
    | zero => exact absurd HA.out (by simp [slices_Index_int_int.l0])
    | succ k1 =>
      have H := HA.out
      clear HA
      simp only [slices_Index_int_int.l0] at H
      by_cases c3 : x8_1 < (l0.length : Int)
      · rw [if_pos c3] at H
        have c3b0 : decide (x8_1 < (l0.length : Int)) = true := decide_eq_true c3
        clear c3
        by_cases c4 : 0 ≤ x8_1
        · rw [if_pos c4] at H
          have c4b0 : decide (0 ≤ x8_1) = true := decide_eq_true c4
          clear c4
          by_cases c5 : x8_1 < (l0.length : Int)
          · rw [if_pos c5] at H
            have c5b0 : decide (x8_1 < (l0.length : Int)) = true := decide_eq_true c5
            clear c5
            by_cases c6 : a1 = (rd l0 x8_1)
            · rw [if_pos c6] at H
              have c6b0 : (a1 == (rd l0 x8_1)) = true := beq_iff_eq.mpr c6
              have c6b1 : (a1 != (rd l0 x8_1)) = false := bne_eq_false_iff_eq.mpr c6
              clear c6
              obtain rfl := Option.some.inj H
              have p101 : 0 ≤ (x8_1 : Int) := of_decide_eq_true (by first | (with_reducible assumption) | assumption)
              have q101 : x8_1 < (l0.length : Int) := of_decide_eq_true (by first | (with_reducible assumption) | assumption)
              obtain ⟨ad101, e101, hx101_0⟩ := Kd.at_int HR0.out x8_1 p101 q101
              cases e101
              replace p101 := eq_true p101
              replace q101 := eq_true q101
              go_wp2
              go_ret
              exact ⟨by first | rfl | (simp; done) | (simp [*]; done), by repeat (first | exact Drawn0.refl _ | apply Drawn0.step)⟩
            · rw [if_neg c6] at H
              have c6b0 : (a1 == (rd l0 x8_1)) = false := beq_eq_false_iff_ne.mpr c6
              have c6b1 : (a1 != (rd l0 x8_1)) = true := bne_iff_ne.mpr c6
              have H' := Aside0.mk H
              clear H
              have p101 : 0 ≤ (x8_1 : Int) := of_decide_eq_true (by first | (with_reducible assumption) | assumption)
              have q101 : x8_1 < (l0.length : Int) := of_decide_eq_true (by first | (with_reducible assumption) | assumption)
              obtain ⟨ad101, e101, hx101_0⟩ := Kd.at_int HR0.out x8_1 p101 q101
              cases e101
              replace p101 := eq_true p101
              replace q101 := eq_true q101
              go_wp2
              go_roundg k1
              case measure => have := HK1.out; omega
              case rel => exact ⟨(wrap64 (x8_1 + 1)), (by first | rfl | (simp; done) | (simp [*]; done)), H', ⟨by have := HK1.out; omega⟩, by repeat (first | exact Drawn0.refl _ | apply Drawn0.step)⟩
          · rw [if_neg c5] at H
            exact absurd H (by simp)
        · rw [if_neg c4] at H
          exact absurd H (by simp)
      · rw [if_neg c3] at H
        have c3b0 : decide (x8_1 < (l0.length : Int)) = false := decide_eq_false c3
        clear c3
        obtain rfl := Option.some.inj H
        go_wp2
        go_ret
        exact ⟨by first | rfl | (simp; done) | (simp [*]; done), by repeat (first | exact Drawn0.refl _ | apply Drawn0.step)⟩

end Go.Proofs.Ytlipbiihemhieaa.Q

-- from Qf77
-- Made by hp.py, a program of this session, with the kit's printer. Not trusted: Lean checks it.
namespace Go.Proofs.Ytlipbiihemhieaa.Q
open Go.RowKit Go.Proofs.YtlipbiihemhieaaW.PrintWords Go.Proofs.YtlipbiihemhieaaW.PrintLast Go.Proofs.YtlipbiihemhieaaW.PrintMore
attribute [local go_sem] max2_int min2_int max_two min_two max_three min_three max_four min_four   -- for this text's walks alone
set_option linter.unusedVariables false
set_option linter.unusedSimpArgs false

/-! ### slices_Contains_int_int: function 77 -/
def slices_Contains_int_int.f (k : Nat) (l0 : List Int) (a1 : Int) : Option (Bool) := (slices_Index_int_int.f k l0 a1).bind fun t101 => (some (decide (t101 ≥ 0)))
theorem slices_Contains_int_int.mono : ∀ a0 a1 k, LeO (slices_Contains_int_int.f k a0 a1) (slices_Contains_int_int.f (k + 1) a0 a1) := by
  intro a0 a1 k
  unfold slices_Contains_int_int.f
  repeat' first
      | (with_reducible exact slices_Index_int_int.mono _ _ _)
      | (with_reducible exact LeO.refl _)
      | (with_reducible exact LeO.none _)
      | (with_reducible refine LeO.ite ?_ ?_)
      | (with_reducible refine LeO.bind ?_ (fun _ => ?_))
      | exact slices_Index_int_int.mono _ _ _
      | exact LeO.none _
      | refine LeO.ite ?_ ?_
      | refine LeO.bind ?_ (fun _ => ?_)
set_option maxHeartbeats 8000000 in
set_option maxRecDepth 100000 in
theorem slices_Contains_int_int.calls (k : Nat) (A0 : Option Addr) (c0 : Nat) (l0 : List Int) (a1 : Int) (r : Bool) (w : World) (hr0 : Kd.C (Kd.int .i64) w A0 l0.length l0) (hc0 : l0.length ≤ c0) (h : slices_Contains_int_int.f k l0 a1 = some r) :
    Calls Try.prog 77 #[.slice A0 l0.length c0, .int .i64 a1] w fun e w' => e = .returned (.bool r) ∧ Drawn0 w w' := by
  have HR0 := Aside0.mk hr0
  have HC0 := Aside0.mk hc0
  clear hr0 hc0
  have H : ((slices_Index_int_int.f k l0 a1).bind fun t101 => (some (decide (t101 ≥ 0)))) = some r := h
  clear h
  replace H := Option.bind_eq_some_iff.mp H
  obtain ⟨t101, A30, H⟩ := H
  replace H : (some (decide (t101 ≥ 0))) = some r := H
  have A3 := Aside0.mk A30
  clear A30
  obtain rfl := Option.some.inj H
  go_enter Try.func77, Try.ntmps77
  go_wp2_with (first | ((with_reducible refine gate_callee (f := 91) rfl ?_); refine goesL_ (some 7) rfl rfl Try.func91 (by kernel_rfl) rfl #[.slice A0 l0.length c0, .int .i64 a1] rfl (by (try simp only [List.map_toArray, List.map_cons, List.map_nil]); first | done | rfl | (simp only [List.length_drop, List.length_take]; rfl)) ?_; (with_reducible refine (slices_Index_int_int.calls k _ _ l0 a1 t101 _ ?side1 ?side2 A3.out).mono ?_); (case side1 => repeat (first | exact HR0.out | (with_reducible refine Kd.C_alloc ?_ _) | (with_reducible refine Kd.C_drewN ?_ _) | (with_reducible refine Kd.C_drew ?_))); (case side2 => exact HC0.out); rintro e w' ⟨rfl, ⟨nd, rfl⟩⟩; refine ⟨_, rfl, ?_⟩))
  go_ret
  exact ⟨by first | rfl | (simp; done) | (simp [*]; done), by repeat (first | exact Drawn0.refl _ | apply Drawn0.step)⟩

end Go.Proofs.Ytlipbiihemhieaa.Q

-- from Hover
/- order.over: a closure that holds the alphabet's variable, and slices.ContainsFunc at it. -/
namespace Go.Proofs.Ytlipbiihemhieaa.Q
open Go.RowKit Go.Proofs.YtlipbiihemhieaaW.PrintWords Go.Proofs.YtlipbiihemhieaaW.PrintLast Go.Proofs.YtlipbiihemhieaaW.PrintMore
set_option linter.unusedVariables false
set_option linter.unusedSimpArgs false

def order_over.strange (k : Nat) (l : List Int) (x : Int) : Option Bool := (slices_Contains_int_int.f k l x).bind fun t => some (!t)
def order_over.l0 : Nat → List Int → List Int → Int → Int → Option Int
  | 0, _, _, _, _ => none
  | k + 1, l, x0, x3, x4 => if x4 < x3 then (if 0 ≤ x4 then (if x4 < (x0.length : Int) then ((order_over.strange k l (rd x0 x4)).bind fun t => (if t = true then (some x4) else (order_over.l0 k l x0 x3 (wrap64 (x4 + 1))))) else none) else none) else some (-1)
def order_over.any (k : Nat) (l s : List Int) : Option Bool := (order_over.l0 k l s (s.length : Int) 0).bind fun t => some (decide (t ≥ 0))
def order_over.f (k : Nat) (l s : List Int) (n : Int) : Option Bool := (order_over.any k l s).bind fun t => (order_Alphabet.f k l).bind fun a => some (a && (decide ((s.length : Int) ≥ 1) && (decide ((s.length : Int) ≤ n) && !t)))
theorem order_over.strange_mono : ∀ l x k, LeO (order_over.strange k l x) (order_over.strange (k + 1) l x) := by
  intro l x k
  unfold order_over.strange
  exact LeO.bind (slices_Contains_int_int.mono _ _ _) (fun _ => LeO.refl _)
theorem order_over.mono_l : ∀ k, (∀ l x0 x3 x4, LeO (order_over.l0 k l x0 x3 x4) (order_over.l0 (k + 1) l x0 x3 x4))
  | 0 => fun _ _ _ _ r h => by simp [order_over.l0] at h
  | k + 1 => by
    have ih0 := order_over.mono_l k
    intro l x0 x3 x4
    unfold order_over.l0
    repeat' first
      | (with_reducible exact ih0 _ _ _ _)
      | (with_reducible exact order_over.strange_mono _ _ _)
      | (with_reducible exact LeO.refl _)
      | (with_reducible exact LeO.none _)
      | (with_reducible refine LeO.ite ?_ ?_)
      | (with_reducible refine LeO.bind ?_ (fun _ => ?_))
theorem order_over.mono : ∀ a0 a1 a2 k, LeO (order_over.f k a0 a1 a2) (order_over.f (k + 1) a0 a1 a2) := by
  intro a0 a1 a2 k
  unfold order_over.f order_over.any
  exact LeO.bind (LeO.bind (order_over.mono_l k _ _ _ _) (fun _ => LeO.refl _)) (fun _ => LeO.bind (order_Alphabet.mono _ _) (fun _ => LeO.refl _))

set_option maxHeartbeats 1000000 in
set_option maxRecDepth 100000 in
theorem order_over.strange_calls (k : Nat) (A0 : Option Addr) (c0 : Nat) (l : List Int) (x : Int) (r : Bool) (B : Nat) (w : World) (hb : Boxed w B 22 (.slice A0 l.length c0)) (hr0 : Kd.C (Kd.int .i64) w A0 l.length l) (hc0 : l.length ≤ c0) (h : order_over.strange k l x = some r) :
    Calls Try.prog 76 #[.int .i64 x, .pointer (some ⟨B, 0, none⟩)] w fun e w' => e = .returned (.bool r) ∧ Drawn0 w w' := by
  have HR0 := Aside0.mk hr0
  have HC0 := Aside0.mk hc0
  have hcell := hb.cell
  clear hr0 hc0 hb
  obtain ⟨t, A10, H⟩ := Option.bind_eq_some_iff.mp h
  obtain rfl := Option.some.inj H
  have A1 := Aside0.mk A10
  clear A10 h H
  go_enter Try.func76, Try.ntmps76
  go_wp2_with (first | (go_at_call 77; (with_reducible refine (slices_Contains_int_int.calls k A0 c0 l x t _ ?side1 ?side2 A1.out).mono ?_); (case side1 => repeat (first | exact HR0.out | (with_reducible refine Kd.C_alloc ?_ _) | (with_reducible refine Kd.C_drewN ?_ _) | (with_reducible refine Kd.C_drew ?_))); (case side2 => exact HC0.out); rintro e w' ⟨rfl, ⟨nd, rfl⟩⟩))
  go_ret
  exact ⟨by first | rfl | (simp; done) | (simp [*]; done), by repeat (first | exact Drawn0.refl _ | apply Drawn0.step)⟩

set_option maxHeartbeats 1000000 in
set_option maxRecDepth 100000 in
theorem order_over.index_calls (k : Nat) (A0 : Option Addr) (c0 : Nat) (l0 : List Int) (Al : Option Addr) (cl : Nat) (l : List Int) (B : Nat) (r : Int) (w : World) (hb : Boxed w B 22 (.slice Al l.length cl)) (hrl : Kd.C (Kd.int .i64) w Al l.length l) (hcl : l.length ≤ cl) (hr0 : Kd.C (Kd.int .i64) w A0 l0.length l0) (hc0 : l0.length ≤ c0) (h : order_over.l0 k l l0 (l0.length : Int) 0 = some r) :
    Calls Try.prog 90 #[.slice A0 l0.length c0, .func (.func 76) #[] #[.pointer (some ⟨B, 0, none⟩)]] w fun e w' => e = .returned (.int .i64 r) ∧ Drawn0 w w' := by
  have HR0 := Aside0.mk hr0
  have HC0 := Aside0.mk hc0
  have HBX := Aside0.mk hb
  have HRL := Aside0.mk hrl
  have HCL := Aside0.mk hcl
  clear hr0 hc0 hb hrl hcl
  have H' := Aside0.mk h
  clear h
  go_enter Try.func90, Try.ntmps90
  go_wp2
  go_loopg [8] k (fun kq v8 w' => ∃ (x8_1 : Int), v8 = .int .i64 x8_1 ∧ Aside0 (order_over.l0 kq l l0 (l0.length : Int) x8_1 = some r) ∧ Aside0 (kq ≤ k) ∧ Drawn0 w w')
  case atStart => exact ⟨(0), (by first | rfl | (simp; done) | (simp [*]; done)), H', ⟨Nat.le_refl _⟩, by repeat (first | exact Drawn0.refl _ | apply Drawn0.step)⟩
  case round =>
    clear H'
    try clear p2
    obtain ⟨x8_1, rfl, HA, HK1, ⟨m1, rfl⟩⟩ := hrel
    cases gk with
    | zero => exact absurd HA.out (by simp [order_over.l0])
    | succ k1 =>
      have H := HA.out
      clear HA
      simp only [order_over.l0] at H
      by_cases c3 : x8_1 < (l0.length : Int)
      · rw [if_pos c3] at H
        have c3b0 : decide (x8_1 < (l0.length : Int)) = true := decide_eq_true c3
        clear c3
        by_cases c4 : 0 ≤ x8_1
        · rw [if_pos c4] at H
          have c4b0 : decide (0 ≤ x8_1) = true := decide_eq_true c4
          clear c4
          by_cases c5 : x8_1 < (l0.length : Int)
          · rw [if_pos c5] at H
            have c5b0 : decide (x8_1 < (l0.length : Int)) = true := decide_eq_true c5
            clear c5
            replace H := Option.bind_eq_some_iff.mp H
            obtain ⟨t102, A60, H⟩ := H
            replace H : (if t102 = true then (some x8_1) else (order_over.l0 k1 l l0 (l0.length : Int) (wrap64 (x8_1 + 1)))) = some r := H
            have A6 := Aside0.mk A60
            clear A60
            have p101 : 0 ≤ (x8_1 : Int) := of_decide_eq_true (by first | (with_reducible assumption) | assumption)
            have q101 : x8_1 < (l0.length : Int) := of_decide_eq_true (by first | (with_reducible assumption) | assumption)
            obtain ⟨ad101, e101, hx101_0⟩ := Kd.at_int HR0.out x8_1 p101 q101
            cases e101
            replace p101 := eq_true p101
            replace q101 := eq_true q101
            by_cases c7 : t102 = true
            · subst c7
              have H1 : (some x8_1) = some r := by rw [if_pos rfl] at H; exact H
              clear H
              obtain rfl := Option.some.inj H1
              clear H1
              go_wp2_with (first | (go_at_call 76; (refine (order_over.strange_calls k1 Al cl l (rd l0 x8_1) true B _ ?side0 ?side1 HCL.out A6.out).mono ?_); (case side0 => exact HBX.out); (case side1 => repeat (first | exact HRL.out | (with_reducible refine Kd.C_alloc ?_ _) | (with_reducible refine Kd.C_drewN ?_ _) | (with_reducible refine Kd.C_drew ?_))); rintro e w' ⟨rfl, ⟨nd, rfl⟩⟩))
              go_ret
              exact ⟨by first | rfl | (simp; done) | (simp [*]; done), by repeat (first | exact Drawn0.refl _ | apply Drawn0.step)⟩
            · replace c7 := Bool.eq_false_iff.mpr c7
              subst c7
              have H1 : (order_over.l0 k1 l l0 (l0.length : Int) (wrap64 (x8_1 + 1))) = some r := by rw [if_neg (show ¬ (false = true) by decide)] at H; exact H
              clear H
              have H' := Aside0.mk H1
              clear H1
              go_wp2_with (first | (go_at_call 76; (refine (order_over.strange_calls k1 Al cl l (rd l0 x8_1) false B _ ?side0 ?side1 HCL.out A6.out).mono ?_); (case side0 => exact HBX.out); (case side1 => repeat (first | exact HRL.out | (with_reducible refine Kd.C_alloc ?_ _) | (with_reducible refine Kd.C_drewN ?_ _) | (with_reducible refine Kd.C_drew ?_))); rintro e w' ⟨rfl, ⟨nd, rfl⟩⟩))
              go_roundg k1
              case measure => have := HK1.out; omega
              case rel => exact ⟨(wrap64 (x8_1 + 1)), (by first | rfl | (simp; done) | (simp [*]; done)), H', ⟨by have := HK1.out; omega⟩, by repeat (first | exact Drawn0.refl _ | apply Drawn0.step)⟩
          · rw [if_neg c5] at H
            exact absurd H (by simp)
        · rw [if_neg c4] at H
          exact absurd H (by simp)
      · rw [if_neg c3] at H
        have c3b0 : decide (x8_1 < (l0.length : Int)) = false := decide_eq_false c3
        clear c3
        obtain rfl := Option.some.inj H
        go_wp2
        go_ret
        exact ⟨by first | rfl | (simp; done) | (simp [*]; done), by repeat (first | exact Drawn0.refl _ | apply Drawn0.step)⟩

set_option maxHeartbeats 1000000 in
set_option maxRecDepth 100000 in
theorem order_over.any_calls (k : Nat) (A0 : Option Addr) (c0 : Nat) (l0 : List Int) (Al : Option Addr) (cl : Nat) (l : List Int) (B : Nat) (r : Bool) (w : World) (hb : Boxed w B 22 (.slice Al l.length cl)) (hrl : Kd.C (Kd.int .i64) w Al l.length l) (hcl : l.length ≤ cl) (hr0 : Kd.C (Kd.int .i64) w A0 l0.length l0) (hc0 : l0.length ≤ c0) (h : order_over.any k l l0 = some r) :
    Calls Try.prog 75 #[.slice A0 l0.length c0, .func (.func 76) #[] #[.pointer (some ⟨B, 0, none⟩)]] w fun e w' => e = .returned (.bool r) ∧ Drawn0 w w' := by
  have HR0 := Aside0.mk hr0
  have HC0 := Aside0.mk hc0
  have HBX := Aside0.mk hb
  have HRL := Aside0.mk hrl
  have HCL := Aside0.mk hcl
  clear hr0 hc0 hb hrl hcl
  obtain ⟨t, A10, H⟩ := Option.bind_eq_some_iff.mp h
  obtain rfl := Option.some.inj H
  have A1 := Aside0.mk A10
  clear A10 h H
  go_enter Try.func75, Try.ntmps75
  go_wp2_with (first | (go_at_call 90; (refine (order_over.index_calls k A0 c0 l0 Al cl l B t _ ?side0 ?side1 HCL.out ?side2 HC0.out A1.out).mono ?_); (case side0 => exact HBX.out); (case side1 => repeat (first | exact HRL.out | (with_reducible refine Kd.C_alloc ?_ _) | (with_reducible refine Kd.C_drewN ?_ _) | (with_reducible refine Kd.C_drew ?_))); (case side2 => repeat (first | exact HR0.out | (with_reducible refine Kd.C_alloc ?_ _) | (with_reducible refine Kd.C_drewN ?_ _) | (with_reducible refine Kd.C_drew ?_))); rintro e w' ⟨rfl, ⟨nd, rfl⟩⟩))
  go_ret
  exact ⟨by first | rfl | (simp; done) | (simp [*]; done), by repeat (first | exact Drawn0.refl _ | apply Drawn0.step)⟩

set_option maxHeartbeats 2000000 in
set_option maxRecDepth 100000 in
theorem order_over.calls (k : Nat) (A0 : Option Addr) (c0 : Nat) (l0 : List Int) (A1 : Option Addr) (c1 : Nat) (l1 : List Int) (a2 : Int) (r : Bool) (w : World) (hr0 : Kd.C (Kd.int .i64) w A0 l0.length l0) (hc0 : l0.length ≤ c0) (hr1 : Kd.C (Kd.int .i64) w A1 l1.length l1) (hc1 : l1.length ≤ c1) (h : order_over.f k l0 l1 a2 = some r) :
    Calls Try.prog 56 #[.slice A0 l0.length c0, .slice A1 l1.length c1, .int .i64 a2] w fun e w' => e = .returned (.bool r) ∧ Below w.heap.size w w' := by
  have HR0 := Aside0.mk (Kd.C_alloc hr0 (.cells #[.slice A0 l0.length c0] 22))
  have HC0 := Aside0.mk hc0
  have HR1 := Aside0.mk (Kd.C_alloc hr1 (.cells #[.slice A0 l0.length c0] 22))
  have HC1 := Aside0.mk hc1
  clear hr0 hc0 hr1 hc1
  obtain ⟨t, A10, H⟩ := Option.bind_eq_some_iff.mp h
  obtain ⟨u, A20, H⟩ := Option.bind_eq_some_iff.mp H
  have HU := Aside0.mk (Option.some.inj H)
  have A1' := Aside0.mk A10
  have A2' := Aside0.mk A20
  clear A10 A20 h H
  have HBX : Aside0 (Boxed (w.alloc (.cells #[.slice A0 l0.length c0] 22)) w.heap.size 22 (.slice A0 l0.length c0)) := ⟨Boxed.new w _ _⟩
  have hcell := HBX.out.cell
  have HB := Aside0.mk ((Below.refl _ w).alloc (Nat.le_refl _) (.cells #[.slice A0 l0.length c0] 22))
  go_enter Try.func56, Try.ntmps56
  have key : ∀ b1 b2 : Bool, decide ((l1.length : Int) ≥ 1) = b1 → decide ((l1.length : Int) ≤ a2) = b2 → (u && (b1 && (b2 && !t))) = r := by
    rintro b1 b2 rfl rfl
    exact HU.out
  go_wp2_with (first
    | (go_at_call 75; (refine (order_over.any_calls k A1 c1 l1 A0 c0 l0 w.heap.size t _ ?side0 ?side1 HC0.out ?side2 HC1.out A1'.out).mono ?_); (case side0 => exact HBX.out); (case side1 => exact HR0.out); (case side2 => exact HR1.out); rintro e w' ⟨rfl, ⟨nd, rfl⟩⟩)
    | (go_at_call 24; (refine (order_Alphabet.calls k A0 c0 l0 u _ ?side1 HC0.out A2'.out).mono ?_); (case side1 => repeat (first | exact HR0.out | (with_reducible refine Kd.C_drewN ?_ _) | (with_reducible refine Kd.C_drew ?_))); rintro e w' ⟨rfl, ⟨nd2, rfl⟩⟩))
  all_goals have hu := HU.out
  all_goals clear HU key HBX hcell HR0 HR1 A1' A2'
  all_goals go_ret
  all_goals refine ⟨?_, by repeat (first | exact HB.out | apply below_alloc | apply pw_below_drewN | apply below_drew1)⟩
  all_goals subst hu
  all_goals first | rfl | (simp [*]; done) | (simp_all; done) | (simp_all; omega)

end Go.Proofs.Ytlipbiihemhieaa.Q
