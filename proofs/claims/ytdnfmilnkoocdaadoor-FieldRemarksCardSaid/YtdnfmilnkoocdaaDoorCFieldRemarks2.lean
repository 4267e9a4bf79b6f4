/- Part 2 of 2 of the proof of FieldRemarks: remarks behind lines' bodies, and byte 0D ahead of their ends, change no fields For every input; no condition. -/
import Derived.Test.YtdnfmilnkoocdaaDoorCFieldRemarks1
import Derived.Laws.Bits64b
import Derived.Deep.RegionHeld3
import Derived.Lib.SlBytesConst
import Derived.Lib.ConvBytes
import Derived.BigQuiet
import Derived.Deep.LoopGhost
import Derived.Test.YtdnfmilnkoocdaaDoorRows
import Derived.Test.YtdnfmilnkoocdaaDoorCards
import Derived.Test.YtdnfmilnkoocdaaDoorTie
import Derived.LaidMore
import Derived.Lay
import Derived.SevenTiedAt
import Derived.Stop.Joined
import Derived.WalkKit
import Derived.ProofKit
import Derived.OpenShut
import Derived.ShutString
import Derived.ChangeOld
import Derived.ChangeMaps5
import Derived.Below
import Derived.SizedLaws
import Derived.Test.YtdnfmilnkoocdaaDoorWSized

-- from Phex
/- Layer 2 on lists: a code point's text, and back. -/
namespace Go.Proofs.YtdnfmilnkoocdaaDoor.K
set_option linter.unusedVariables false
set_option linter.unusedSimpArgs false
open Go.RowKit Go.Proofs.YtdnfmilnkoocdaaDoorW.PrintWords Go.Proofs.YtdnfmilnkoocdaaDoorW.PrintMore Go.Proofs.YtdnfmilnkoocdaaDoor.Q

/-- A digit's value. -/
def hexV (x : Int) : Option Nat := if 48 ≤ x ∧ x ≤ 57 then some (x - 48).toNat else if 65 ≤ x ∧ x ≤ 70 then some (x - 55).toNat else none
def valF : Nat → List Int → Option Nat
  | v, [] => some v
  | v, x :: r => match hexV x with
    | none => none
    | some d => valF (v * 16 + d) r
/-- The code point of a text. -/
def pointL (L : List Int) : Option Nat := if L.length < 4 ∨ 6 < L.length then none else match valF 0 L with
  | none => none
  | some v => if 1114111 < v then none else if hexT v = L then some v else none
theorem hexV_lt {x : Int} {d : Nat} (h : hexV x = some d) : d < 16 := by
  unfold hexV at h
  split at h
  · cases h; omega
  · split at h
    · cases h; omega
    · cases h
def dcap (d : Nat) : Int := if d < 10 then 48 + (d : Int) else 55 + (d : Int)
theorem up_hexD {d : Nat} (h : d < 16) : upI (hexD d) = dcap d := by
  unfold upI hexD dcap
  split <;> split <;> omega
theorem hexT_oct (c : Nat) (hc : c ≤ 1114111) : Oct (hexT c) := fun x hx => by
  unfold hexT at hx
  rcases List.mem_append.1 hx with hx | hx
  · obtain ⟨_, rfl⟩ := List.mem_replicate.1 hx; omega
  · obtain ⟨y, hy, rfl⟩ := List.mem_map.1 hx
    have := (hexL_small 6 c (by omega) (by omega)).2.2 y hy
    unfold upI
    split <;> omega
theorem hexT_len (c : Nat) (hc : c ≤ 1114111) : 4 ≤ (hexT c).length ∧ (hexT c).length ≤ 6 := by
  have := hexL_small 6 c (by omega) (by omega)
  unfold hexT
  rw [List.length_append, List.length_replicate, List.length_map]
  omega
/-- What the reference's rounds lay ahead. -/
def hexW (n : Nat) (acc : List Int) : List Int := if n = 0 then List.replicate (4 - acc.length) 48 ++ acc else List.replicate (4 - (hexL n).length - acc.length) 48 ++ ((hexL n).map upI ++ acc)
theorem hexW_step (n : Nat) (acc : List Int) (h : 0 < n ∨ acc.length < 4) : hexW n acc = hexW (n / 16) (dcap (n % 16) :: acc) := by
  unfold hexW
  by_cases h0 : n = 0
  · subst h0
    rw [if_pos rfl, if_pos (by omega), List.length_cons, show 4 - acc.length = 4 - (acc.length + 1) + 1 by omega, List.replicate_succ']
    simp [dcap]
  · rw [if_neg h0]
    by_cases h1 : n < 16
    · rw [if_pos (by omega), hexL_one h1, Nat.mod_eq_of_lt h1]
      simp only [List.map_cons, List.map_nil, List.length_cons, List.length_nil, List.singleton_append, up_hexD h1]
      congr 2
      omega
    · rw [if_neg (by omega), hexL_step (by omega), List.map_append, List.length_append]
      simp only [List.map_cons, List.map_nil, List.length_cons, List.length_nil, List.append_assoc, List.singleton_append, up_hexD (Nat.mod_lt n (by omega : 16 > 0))]
      congr 2
      omega
theorem hexW_done (acc : List Int) (h : 4 ≤ acc.length) : hexW 0 acc = acc := by
  unfold hexW
  rw [if_pos rfl, show 4 - acc.length = 0 by omega]; rfl
theorem hexW_all (v : Nat) : hexW v [] = hexT v := by
  unfold hexW hexT
  by_cases h : v = 0
  · subst h
    rw [if_pos rfl, hexL_one (by omega)]
    rfl
  · rw [if_neg h]; simp
theorem refHex_loop : ∀ (m n : Nat) (acc : List Int), n + (4 - acc.length) ≤ m → n ≤ 1114111 → acc.length ≤ 100 → n < 16 ^ (100 - acc.length) → Ev (fun k => paronymref02_Hex.l0 k (strOfNums acc) (n : Int)) (strOfNums (hexW n acc)) := by
  intro m
  induction m with
  | zero =>
    intro n acc hm hn ha hb
    have h0 : n = 0 := by omega
    rw [show hexW n acc = acc from by rw [h0]; exact hexW_done acc (by omega)]
    have hz := size_str acc
    refine Ev.step (fun k => rfl) (Ev.neg (by omega) ?_)
    rw [show decide (((strOfNums acc).size : Int) < 4) = false from decide_eq_false (by omega)]
    exact Ev.step (f := fun k => some (strOfNums acc)) (fun k => rfl) (Ev.ret rfl)
  | succ m ih =>
    intro n acc hm hn ha hb
    have hz := size_str acc
    by_cases hgo : 0 < n ∨ acc.length < 4
    · have next := ih (n / 16) (dcap (n % 16) :: acc) (by rw [List.length_cons]; omega) (by omega) (by
        rw [List.length_cons]
        rcases Nat.lt_or_ge acc.length 100 with h | h
        · omega
        · have : acc.length = 100 := by omega
          rw [this] at hb
          simp at hb
          omega) (by
        rw [List.length_cons]
        rcases Nat.lt_or_ge acc.length 100 with h | h
        · rw [show 100 - acc.length = (100 - (acc.length + 1)) + 1 by omega, Nat.pow_succ] at hb
          omega
        · have h1 : acc.length = 100 := by omega
          rw [h1] at hb
          simp at hb
          omega)
      rw [hexW_step n acc hgo]
      have hm16 : Int.tmod (n : Int) 16 = ((n % 16 : Nat) : Int) := by rw [Int.tmod_eq_emod_of_nonneg (by omega)]; omega
      have hd16 : Int.tdiv (n : Int) 16 = ((n / 16 : Nat) : Int) := by rw [Int.tdiv_eq_ediv_of_nonneg (by omega)]; omega
      have go : Ev (fun k => paronymref02_Hex.j1 k (strOfNums acc) (n : Int) true) (strOfNums (hexW (n / 16) (dcap (n % 16) :: acc))) := by
        have hlt : n % 16 < 16 := Nat.mod_lt _ (by omega)
        obtain ⟨d, hd⟩ : ∃ d, d = n % 16 := ⟨_, rfl⟩
        rw [← hd] at hm16 hlt next ⊢
        by_cases h10 : d < 10
        · refine Ev.step (f := fun k => if (Int.tmod (n : Int) 16) < 10 then ((some (([(wrap64 (48 + (Int.tmod (n : Int) 16))) % 256] : List Int) : List Int)).bind fun y101 => (if (strOfNums y101).size + (strOfNums acc).size ≤ 9223372036854775807 then (paronymref02_Hex.l0 k ((strOfNums y101) ++ (strOfNums acc)) (wrap64 (Int.tdiv (n : Int) 16))) else (none))) else ((some (([(wrap64 (55 + (Int.tmod (n : Int) 16))) % 256] : List Int) : List Int)).bind fun y104 => (if (strOfNums y104).size + (strOfNums acc).size ≤ 9223372036854775807 then (paronymref02_Hex.l0 k ((strOfNums y104) ++ (strOfNums acc)) (wrap64 (Int.tdiv (n : Int) 16))) else (none)))) (fun k => rfl) (Ev.pos (by rw [hm16]; omega) (Ev.bindS rfl (Ev.pos (by rw [size_str, hz]; simp; omega) ?_)))
          rw [hm16, hd16, w64 (n := 48 + (d : Int)) (by omega) (by omega), w64 (by omega) (by omega), str_append]
          have : ([(48 + (d : Int)) % 256] ++ acc : List Int) = dcap d :: acc := by
            unfold dcap
            rw [if_pos h10, Int.emod_eq_of_lt (by omega) (by omega)]; rfl
          rw [this]
          exact next
        · refine Ev.step (f := fun k => if (Int.tmod (n : Int) 16) < 10 then ((some (([(wrap64 (48 + (Int.tmod (n : Int) 16))) % 256] : List Int) : List Int)).bind fun y101 => (if (strOfNums y101).size + (strOfNums acc).size ≤ 9223372036854775807 then (paronymref02_Hex.l0 k ((strOfNums y101) ++ (strOfNums acc)) (wrap64 (Int.tdiv (n : Int) 16))) else (none))) else ((some (([(wrap64 (55 + (Int.tmod (n : Int) 16))) % 256] : List Int) : List Int)).bind fun y104 => (if (strOfNums y104).size + (strOfNums acc).size ≤ 9223372036854775807 then (paronymref02_Hex.l0 k ((strOfNums y104) ++ (strOfNums acc)) (wrap64 (Int.tdiv (n : Int) 16))) else (none)))) (fun k => rfl) (Ev.neg (by rw [hm16]; omega) (Ev.bindS rfl (Ev.pos (by rw [size_str, hz]; simp; omega) ?_)))
          rw [hm16, hd16, w64 (n := 55 + (d : Int)) (by omega) (by omega), w64 (by omega) (by omega), str_append]
          have : ([(55 + (d : Int)) % 256] ++ acc : List Int) = dcap d :: acc := by
            unfold dcap
            rw [if_neg h10, Int.emod_eq_of_lt (by omega) (by omega)]; rfl
          rw [this]
          exact next
      by_cases hn0 : 0 < n
      · exact Ev.step (fun k => rfl) (Ev.pos (by omega) go)
      · refine Ev.step (fun k => rfl) (Ev.neg (by omega) ?_)
        rw [show decide (((strOfNums acc).size : Int) < 4) = true from decide_eq_true (by omega)]
        exact go
    · have h0 : n = 0 := by omega
      rw [show hexW n acc = acc from by rw [h0]; exact hexW_done acc (by omega)]
      refine Ev.step (fun k => rfl) (Ev.neg (by omega) ?_)
      rw [show decide (((strOfNums acc).size : Int) < 4) = false from decide_eq_false (by omega)]
      exact Ev.step (f := fun k => some (strOfNums acc)) (fun k => rfl) (Ev.ret rfl)
theorem refHex_ev (v : Nat) (hv : v ≤ 1114111) : Ev (fun k => paronymref02_Hex.f k (v : Int)) (strOfNums (hexT v)) := by
  have := refHex_loop (v + 4) v [] (by simp) hv (by simp) (Nat.lt_of_le_of_lt hv (by decide))
  rw [hexW_all] at this
  exact this
end Go.Proofs.YtdnfmilnkoocdaaDoor.K

-- from Ppnt
/- Layer 2's reference on lists: Point. -/
namespace Go.Proofs.YtdnfmilnkoocdaaDoor.K
set_option linter.unusedVariables false
set_option linter.unusedSimpArgs false
open Go.RowKit Go.Proofs.YtdnfmilnkoocdaaDoorW.PrintWords Go.Proofs.YtdnfmilnkoocdaaDoorW.PrintMore Go.Proofs.YtdnfmilnkoocdaaDoor.Q

/-- -1: there is none. -/
def orNone : Option Nat → Int
  | none => -1
  | some v => (v : Int)
/-- Behind the digits. -/
def endP (L : List Int) : Option Nat → Option Nat
  | none => none
  | some v => if 1114111 < v then none else if hexT v = L then some v else none
theorem pointL_is (L : List Int) : pointL L = if L.length < 4 ∨ 6 < L.length then none else endP L (valF 0 L) := by
  unfold pointL endP
  cases valF 0 L <;> rfl
theorem pnt_step {L : List Int} (ho : Oct L) {v i : Nat} (hi : i < L.length) (hL : L.length ≤ 6) (hv : v < 16 ^ i) {r : Int}
    (h : match hexV L[i] with
      | none => r = -1
      | some d => Ev (fun k => paronymref02_Point.l0 k (strOfNums L) ((v * 16 + d : Nat) : Int) ((i + 1 : Nat) : Int)) r) : Ev (fun k => paronymref02_Point.l0 k (strOfNums L) (v : Int) (i : Int)) r := by
  have hz := size_str L
  have hb : bt (strOfNums L) (i : Int) = L[i] := by rw [bt_str ho (by omega) (by omega), rd_nat L i hi]
  have hx := ho _ (List.getElem_mem hi)
  obtain ⟨x, hxx⟩ : ∃ x, x = L[i] := ⟨_, rfl⟩
  rw [← hxx] at hb hx h
  have hw : wrap64 (bt (strOfNums L) (i : Int)) = x := by rw [hb, w64 (by omega) (by omega)]
  have hv6 : v < 16777216 := Nat.lt_of_lt_of_le hv (Nat.pow_le_pow_right (n := 16) (by omega) (show i ≤ 6 by omega))
  have j2f : ∀ (fl : Bool) , (fl = decide (48 ≤ x ∧ x ≤ 57)) → Ev (fun k => paronymref02_Point.j2 k (strOfNums L) (v : Int) (i : Int) x fl) r := by
    intro fl hfl
    cases fl with
    | true =>
      have h2 : 48 ≤ x ∧ x ≤ 57 := of_decide_eq_true hfl.symm
      unfold hexV at h
      rw [if_pos h2] at h
      refine Ev.step (f := fun k => paronymref02_Point.l0 k (strOfNums L) (wrap64 ((wrap64 ((wrap64 ((v : Int) * 16)) + x)) - 48)) (wrap64 ((i : Int) + 1))) (fun k => rfl) ?_
      rw [w64 (n := (v : Int) * 16) (by omega) (by omega), w64 (n := (v : Int) * 16 + x) (by omega) (by omega), w64 (by omega) (by omega), w64 (by omega) (by omega)]
      have e : (v : Int) * 16 + x - 48 = ((v * 16 + (x - 48).toNat : Nat) : Int) := by omega
      rw [e]
      exact h
    | false =>
      have h2 : ¬ (48 ≤ x ∧ x ≤ 57) := of_decide_eq_false hfl.symm
      unfold hexV at h
      rw [if_neg h2] at h
      refine Ev.step (f := fun k => if x ≥ 65 then (if x ≤ 70 then (paronymref02_Point.l0 k (strOfNums L) (wrap64 ((wrap64 ((wrap64 ((v : Int) * 16)) + x)) - 55)) (wrap64 ((i : Int) + 1))) else (some (-1))) else (some (-1))) (fun k => rfl) ?_
      by_cases h65 : x ≥ 65
      · refine Ev.pos h65 ?_
        by_cases h70 : x ≤ 70
        · rw [if_pos ⟨h65, h70⟩] at h
          refine Ev.pos h70 ?_
          rw [w64 (n := (v : Int) * 16) (by omega) (by omega), w64 (n := (v : Int) * 16 + x) (by omega) (by omega), w64 (by omega) (by omega), w64 (by omega) (by omega)]
          have e : (v : Int) * 16 + x - 55 = ((v * 16 + (x - 55).toNat : Nat) : Int) := by omega
          rw [e]
          exact h
        · rw [if_neg (by omega)] at h
          exact Ev.neg h70 (Ev.ret h.symm)
      · rw [if_neg (by omega)] at h
        exact Ev.neg h65 (Ev.ret h.symm)
  refine Ev.step (fun k => rfl) (Ev.pos (by omega) (Ev.pos (by omega) ?_))
  rw [hw]
  by_cases h48 : x ≥ 48
  · exact Ev.pos h48 (j2f _ (by rw [Bool.eq_iff_iff, decide_eq_true_iff, decide_eq_true_iff]; omega))
  · exact Ev.neg h48 (j2f _ (by symm; exact decide_eq_false (by omega)))
theorem pnt_loop {L : List Int} (ho : Oct L) (hL : L.length ≤ 6) : ∀ (d i v : Nat), L.length - i = d → i ≤ L.length → v < 16 ^ i → Ev (fun k => paronymref02_Point.l0 k (strOfNums L) (v : Int) (i : Int)) (orNone (endP L (valF v (L.drop i)))) := by
  intro d
  induction d with
  | zero =>
    intro i v h1 h2 h3
    have hz := size_str L
    rw [List.drop_eq_nil_iff.2 (by omega)]
    show Ev _ (orNone (if 1114111 < v then none else if hexT v = L then some v else none))
    refine Ev.step (fun k => rfl) (Ev.neg (by omega) ?_)
    by_cases h4 : 1114111 < v
    · rw [if_pos h4]
      exact Ev.pos (by omega) (Ev.ret rfl)
    · rw [if_neg h4]
      refine Ev.neg (by omega) (Ev.bind (refHex_ev v (by omega)) ?_)
      by_cases h5 : hexT v = L
      · rw [if_pos h5]
        exact Ev.pos (by rw [h5]) (Ev.ret rfl)
      · rw [if_neg h5]
        exact Ev.neg (fun e => h5 (str_inj (hexT_oct v (by omega)) ho (toList_inj e))) (Ev.ret rfl)
  | succ d ih =>
    intro i v h1 h2 h3
    have hi : i < L.length := by omega
    refine pnt_step ho hi hL h3 ?_
    rw [List.drop_eq_getElem_cons hi]
    show match hexV L[i] with
      | none => orNone (endP L (valF v (L[i] :: L.drop (i + 1)))) = -1
      | some d => Ev (fun k => paronymref02_Point.l0 k (strOfNums L) ((v * 16 + d : Nat) : Int) ((i + 1 : Nat) : Int)) (orNone (endP L (valF v (L[i] :: L.drop (i + 1)))))
    unfold valF
    cases hd : hexV L[i] with
    | none => rfl
    | some dd =>
      have hlt := hexV_lt hd
      exact ih (i + 1) (v * 16 + dd) (by omega) (by omega) (by rw [Nat.pow_succ]; omega)
theorem refPoint_ev {L : List Int} (ho : Oct L) (hl : L.length ≤ 1000000) : Ev (fun k => paronymref02_Point.f k (strOfNums L)) (orNone (pointL L)) := by
  have hz := size_str L
  rw [pointL_is]
  have j0f : ∀ fl : Bool, fl = decide (L.length < 4 ∨ 6 < L.length) → Ev (fun k => paronymref02_Point.j0 k (strOfNums L) fl) (orNone (if L.length < 4 ∨ 6 < L.length then none else endP L (valF 0 L))) := by
    intro fl h
    cases fl with
    | true =>
      rw [if_pos (of_decide_eq_true h.symm)]
      exact Ev.step (f := fun k => some (-1)) (fun k => rfl) (Ev.ret rfl)
    | false =>
      have hn := of_decide_eq_false h.symm
      rw [if_neg hn]
      have := pnt_loop ho (by omega) L.length 0 0 (by omega) (Nat.zero_le _) (by simp)
      rw [List.drop_zero] at this
      exact Ev.step (f := fun k => paronymref02_Point.l0 k (strOfNums L) ((0 : Nat) : Int) ((0 : Nat) : Int)) (fun k => rfl) this
  by_cases h4 : L.length < 4
  · exact Ev.pos (by omega) (j0f true (by symm; exact decide_eq_true (.inl h4)))
  · refine Ev.neg (by omega) (j0f _ ?_)
    rw [Bool.eq_iff_iff, decide_eq_true_iff, decide_eq_true_iff]
    omega
end Go.Proofs.YtdnfmilnkoocdaaDoor.K

-- from Qf38
-- Made by hp.py, a program of this session, with the kit's printer. Not trusted: Lean checks it.
namespace Go.Proofs.YtdnfmilnkoocdaaDoor.Q
open Go.RowKit Go.Proofs.YtdnfmilnkoocdaaDoorW.PrintWords Go.Proofs.YtdnfmilnkoocdaaDoorW.PrintLast Go.Proofs.YtdnfmilnkoocdaaDoorW.PrintMore
attribute [local go_sem] max2_int min2_int max_two min_two max_three min_three max_four min_four   -- for this text's walks alone
set_option linter.unusedVariables false
set_option linter.unusedSimpArgs false

/-! ### paronymref02_Range: function 38 -/
mutual
def paronymref02_Range.j1 : Nat → ByteArray → Int → Option (Int × Int × Int)
  | 0, _, _ => none
  | k + 1, x0, x5 => if x5 < 0 then ((paronymref02_Point.f k x0).bind fun t101 => (if t101 < 0 then (some (0, 0, 13)) else (some (t101, t101, 0)))) else (if 0 ≤ x5 then (if x5 ≤ (x0.size : Int) then ((paronymref02_Point.f k (x0.extract 0 (x5 : Int).toNat)).bind fun t102 => (if 0 ≤ (wrap64 (x5 + 2)) then (if (wrap64 (x5 + 2)) ≤ (x0.size : Int) then ((paronymref02_Point.f k (x0.extract ((wrap64 (x5 + 2)) : Int).toNat x0.size)).bind fun t103 => (if t102 < 0 then (paronymref02_Range.j2 k t102 t103 true) else (paronymref02_Range.j2 k t102 t103 (decide (t103 < 0))))) else (none)) else (none))) else (none)) else (none))
def paronymref02_Range.j2 : Nat → Int → Int → Bool → Option (Int × Int × Int)
  | 0, _, _, _ => none
  | k + 1, x8, x9, x51 => if x51 = true then (some (0, 0, 13)) else (if x9 ≤ x8 then (some (0, 0, 14)) else (some (x8, x9, 0)))
def paronymref02_Range.l0 : Nat → ByteArray → Int → Int → Option (Int × Int × Int)
  | 0, _, _, _ => none
  | k + 1, x0, x5, x6 => if (wrap64 (x6 + 2)) ≤ (x0.size : Int) then (if 0 ≤ x6 then (if x6 < (x0.size : Int) then (if (bt x0 x6) = 46 then (if 0 ≤ (wrap64 (x6 + 1)) then (if (wrap64 (x6 + 1)) < (x0.size : Int) then (if (bt x0 (wrap64 (x6 + 1))) = 46 then (paronymref02_Range.j1 k x0 x6) else (paronymref02_Range.l0 k x0 x5 (wrap64 (x6 + 1)))) else (none)) else (none)) else (paronymref02_Range.l0 k x0 x5 (wrap64 (x6 + 1)))) else (none)) else (none)) else (paronymref02_Range.j1 k x0 x5)
end
def paronymref02_Range.f (k : Nat) (a0 : ByteArray) : Option (Int × Int × Int) := paronymref02_Range.l0 k a0 (-1) 0
theorem paronymref02_Range.mono_l : ∀ k, (∀ y0 y1, LeO (paronymref02_Range.j1 k y0 y1) (paronymref02_Range.j1 (k + 1) y0 y1)) ∧ (∀ y0 y1 y2, LeO (paronymref02_Range.j2 k y0 y1 y2) (paronymref02_Range.j2 (k + 1) y0 y1 y2)) ∧ (∀ y0 y1 y2, LeO (paronymref02_Range.l0 k y0 y1 y2) (paronymref02_Range.l0 (k + 1) y0 y1 y2))
  | 0 => ⟨fun _ _ r h => by simp [paronymref02_Range.j1] at h, fun _ _ _ r h => by simp [paronymref02_Range.j2] at h, fun _ _ _ r h => by simp [paronymref02_Range.l0] at h⟩
  | k + 1 => by
    obtain ⟨ih0, ih1, ih2⟩ := paronymref02_Range.mono_l k
    refine ⟨?_, ?_, ?_⟩
    · intro y0 y1
      unfold paronymref02_Range.j1
      repeat' first
      | (with_reducible exact ih0 _ _)
      | (with_reducible exact ih1 _ _ _)
      | (with_reducible exact ih2 _ _ _)
      | (with_reducible exact paronymref02_Point.mono _ _)
      | (with_reducible exact LeO.refl _)
      | (with_reducible exact LeO.none _)
      | (with_reducible refine LeO.ite ?_ ?_)
      | (with_reducible refine LeO.bind ?_ (fun _ => ?_))
      | exact ih0 _ _
      | exact ih1 _ _ _
      | exact ih2 _ _ _
      | exact paronymref02_Point.mono _ _
      | exact LeO.none _
      | refine LeO.ite ?_ ?_
      | refine LeO.bind ?_ (fun _ => ?_)
    · intro y0 y1 y2
      unfold paronymref02_Range.j2
      repeat' first
      | (with_reducible exact ih0 _ _)
      | (with_reducible exact ih1 _ _ _)
      | (with_reducible exact ih2 _ _ _)
      | (with_reducible exact paronymref02_Point.mono _ _)
      | (with_reducible exact LeO.refl _)
      | (with_reducible exact LeO.none _)
      | (with_reducible refine LeO.ite ?_ ?_)
      | (with_reducible refine LeO.bind ?_ (fun _ => ?_))
      | exact ih0 _ _
      | exact ih1 _ _ _
      | exact ih2 _ _ _
      | exact paronymref02_Point.mono _ _
      | exact LeO.none _
      | refine LeO.ite ?_ ?_
      | refine LeO.bind ?_ (fun _ => ?_)
    · intro y0 y1 y2
      unfold paronymref02_Range.l0
      repeat' first
      | (with_reducible exact ih0 _ _)
      | (with_reducible exact ih1 _ _ _)
      | (with_reducible exact ih2 _ _ _)
      | (with_reducible exact paronymref02_Point.mono _ _)
      | (with_reducible exact LeO.refl _)
      | (with_reducible exact LeO.none _)
      | (with_reducible refine LeO.ite ?_ ?_)
      | (with_reducible refine LeO.bind ?_ (fun _ => ?_))
      | exact ih0 _ _
      | exact ih1 _ _ _
      | exact ih2 _ _ _
      | exact paronymref02_Point.mono _ _
      | exact LeO.none _
      | refine LeO.ite ?_ ?_
      | refine LeO.bind ?_ (fun _ => ?_)
theorem paronymref02_Range.mono : ∀ a0 k, LeO (paronymref02_Range.f k a0) (paronymref02_Range.f (k + 1) a0) := by
  intro a0 k
  obtain ⟨ih0, ih1, ih2⟩ := paronymref02_Range.mono_l k
  unfold paronymref02_Range.f
  repeat' first
      | (with_reducible exact ih0 _ _)
      | (with_reducible exact ih1 _ _ _)
      | (with_reducible exact ih2 _ _ _)
      | (with_reducible exact paronymref02_Point.mono _ _)
      | (with_reducible exact LeO.refl _)
      | (with_reducible exact LeO.none _)
      | (with_reducible refine LeO.ite ?_ ?_)
      | (with_reducible refine LeO.bind ?_ (fun _ => ?_))
      | exact ih0 _ _
      | exact ih1 _ _ _
      | exact ih2 _ _ _
      | exact paronymref02_Point.mono _ _
      | exact LeO.none _
      | refine LeO.ite ?_ ?_
      | refine LeO.bind ?_ (fun _ => ?_)
def paronymref02_Range.T12 : Bool × List (List Nat × List Nat) := (true, [([], []), ([], []), ([0, 1], [0, 1]), ([2], [2]), ([], []), ([], []), ([5], [5]), ([4, 6], [4, 6]), ([7, 3], [7]), ([3, 8, 0, 1, 2, 3], [3]), ([8, 9, 0, 1, 2, 3, 4, 5, 6, 7, 8, 9], [8])])
def paronymref02_Range.B12 : List Nat := [0, 0, 3, 7, 0, 0, 32, 112, 255, 511, 1023]
theorem paronymref02_Range.tab12 : rtab .any (opsOf Tryd.f38 12) = paronymref02_Range.T12 := by kernel_rfl
theorem paronymref02_Range.bits12 : waitsOk paronymref02_Range.T12.2 paronymref02_Range.B12 = true := by kernel_rfl
set_option maxHeartbeats 8000000 in
set_option maxRecDepth 100000 in
theorem paronymref02_Range.calls (k : Nat) (a0 : ByteArray) (r1 : Int) (r2 : Int) (r3 : Int) (w : World) (h : paronymref02_Range.f k a0 = some (r1, r2, r3)) :
    Calls Tryd.prog 38 #[.string a0] w fun e w' => e = .returned (.tuple #[.int .i64 r1, .int .i64 r2, .int .i64 r3]) ∧ Below w.heap.size w w' := by
  have HB := Aside0.mk (Below.refl w.heap.size w)
  have H : (paronymref02_Range.l0 k a0 (-1) 0) = some (r1, r2, r3) := h
  clear h
  have HC2 := Aside0.mk H
  clear H
  go_enter Tryd.func38, Tryd.ntmps38
  go_upto_block 0 with (fail)
  go_cut [5] (fun v5 wc => ∃ (kq : Nat) (x5_1 : Int), v5 = .int .i64 x5_1 ∧ Aside0 (paronymref02_Range.j1 kq a0 x5_1 = some (r1, r2, r3)) ∧ Aside0 (kq ≤ k) ∧ Aside0 (Below w.heap.size w wc))
  case first =>
    have H := HC2.out
    clear HC2
    have H' := Aside0.mk H
    clear H
    go_wp2
    go_loopg [5, 6] k (fun kq v5 v6 w' => ∃ (x5_1 : Int) (x6_1 : Int), v5 = .int .i64 x5_1 ∧ v6 = .int .i64 x6_1 ∧ Aside0 (paronymref02_Range.l0 kq a0 x5_1 x6_1 = some (r1, r2, r3)) ∧ Aside0 (kq ≤ k) ∧ Aside0 (Below w.heap.size w w'))
    case atStart => exact ⟨((-1)), (0), (by first | rfl | (simp; done) | (simp [*]; done)), (by first | rfl | (simp; done) | (simp [*]; done)), H', ⟨Nat.le_refl _⟩, ⟨by repeat (first | (with_reducible first | exact HB.out | apply below_alloc | apply pw_below_drewN | apply below_drew1) | exact HB.out)⟩⟩
    case round =>
      clear H'
      try clear p2
      obtain ⟨x5_1, x6_1, rfl, rfl, HA, HK1, HB⟩ := hrel
      cases gk with
      | zero => exact absurd HA.out (by simp [paronymref02_Range.l0])
      | succ k1 =>
        have H := HA.out
        clear HA
        simp only [paronymref02_Range.l0] at H
        by_cases c3 : (wrap64 (x6_1 + 2)) ≤ (a0.size : Int)
        · rw [if_pos c3] at H
          have c3b0 : decide ((wrap64 (x6_1 + 2)) ≤ (a0.size : Int)) = true := decide_eq_true c3
          clear c3
          (first | rw [c3b0] | (simp only [i64_w, i32_w]; rw [c3b0]) | rw [c3b1] | (simp only [i64_w, i32_w]; rw [c3b1]) | skip)
          by_cases c4 : 0 ≤ x6_1
          · rw [if_pos c4] at H
            have c4b0 : decide (0 ≤ x6_1) = true := decide_eq_true c4
            clear c4
            by_cases c5 : x6_1 < (a0.size : Int)
            · rw [if_pos c5] at H
              have c5b0 : decide (x6_1 < (a0.size : Int)) = true := decide_eq_true c5
              clear c5
              by_cases c7 : (bt a0 x6_1) = 46
              · rw [if_pos c7] at H
                have c7b0 : ((bt a0 x6_1) == 46) = true := beq_iff_eq.mpr c7
                have c7b1 : ((bt a0 x6_1) != 46) = false := bne_eq_false_iff_eq.mpr c7
                clear c7
                obtain ⟨ji8, hji8⟩ : ∃ j_ : Int, (wrap64 (x6_1 + 1)) = j_ := ⟨_, rfl⟩
                replace H : (if 0 ≤ (ji8) then (if (ji8) < (a0.size : Int) then (if (bt a0 (ji8)) = 46 then (paronymref02_Range.j1 k1 a0 x6_1) else (paronymref02_Range.l0 k1 a0 x5_1 ji8)) else (none)) else (none)) = some (r1, r2, r3) := by first | (rw [hji8] at H; exact H) | (simp only [hji8] at H ⊢; exact H)
                have hji8w : (IntKind.i64.wrap (x6_1 + 1)) = ji8 := (i64_w _).trans hji8
                by_cases c9 : 0 ≤ (ji8)
                · rw [if_pos c9] at H
                  have c9b0 : decide (0 ≤ (ji8)) = true := decide_eq_true c9
                  clear c9
                  by_cases c10 : (ji8) < (a0.size : Int)
                  · rw [if_pos c10] at H
                    have c10b0 : decide ((ji8) < (a0.size : Int)) = true := decide_eq_true c10
                    clear c10
                    by_cases c12 : (bt a0 (ji8)) = 46
                    · rw [if_pos c12] at H
                      have c12b0 : ((bt a0 (ji8)) == 46) = true := beq_iff_eq.mpr c12
                      have c12b1 : ((bt a0 (ji8)) != 46) = false := bne_eq_false_iff_eq.mpr c12
                      clear c12
                      have H' := Aside0.mk H
                      clear H
                      have p6 : 0 ≤ (x6_1 : Int) := of_decide_eq_true (by first | (with_reducible assumption) | assumption)
                      have q6 : x6_1 < (a0.size : Int) := of_decide_eq_true (by first | (with_reducible assumption) | assumption)
                      have hx6 := bt_at a0 x6_1
                      replace p6 := eq_true p6
                      replace q6 := eq_true q6
                      have p11 : 0 ≤ ((ji8) : Int) := of_decide_eq_true (by first | (with_reducible assumption) | assumption)
                      have q11 : (ji8) < (a0.size : Int) := of_decide_eq_true (by first | (with_reducible assumption) | assumption)
                      have hx11 := bt_at a0 (ji8)
                      replace p11 := eq_true p11
                      replace q11 := eq_true q11
                      go_wp2
                      go_meet
                      case rel => exact ⟨_, (x6_1), (by first | rfl | (simp; done) | (simp [*]; done)), H', ⟨by have := HK1.out; first | omega | exact Nat.le_refl _⟩, ⟨by repeat (first | (with_reducible first | exact HB.out | apply below_alloc | apply pw_below_drewN | apply below_drew1) | exact HB.out)⟩⟩
                    · rw [if_neg c12] at H
                      have c12b0 : ((bt a0 (ji8)) == 46) = false := beq_eq_false_iff_ne.mpr c12
                      have c12b1 : ((bt a0 (ji8)) != 46) = true := bne_iff_ne.mpr c12
                      have H' := Aside0.mk H
                      clear H
                      have p6 : 0 ≤ (x6_1 : Int) := of_decide_eq_true (by first | (with_reducible assumption) | assumption)
                      have q6 : x6_1 < (a0.size : Int) := of_decide_eq_true (by first | (with_reducible assumption) | assumption)
                      have hx6 := bt_at a0 x6_1
                      replace p6 := eq_true p6
                      replace q6 := eq_true q6
                      have p11 : 0 ≤ ((ji8) : Int) := of_decide_eq_true (by first | (with_reducible assumption) | assumption)
                      have q11 : (ji8) < (a0.size : Int) := of_decide_eq_true (by first | (with_reducible assumption) | assumption)
                      have hx11 := bt_at a0 (ji8)
                      replace p11 := eq_true p11
                      replace q11 := eq_true q11
                      go_wp2
                      go_roundg k1
                      case measure => have := HK1.out; omega
                      case rel => exact ⟨(x5_1), (ji8), (by first | rfl | (simp; done) | (simp [*]; done)), (by first | rfl | (simp; done) | (simp only [← hji8] <;> (first | rfl | simp)) | (simp [*]; done)), H', ⟨by have := HK1.out; omega⟩, ⟨by repeat (first | (with_reducible first | exact HB.out | apply below_alloc | apply pw_below_drewN | apply below_drew1) | exact HB.out)⟩⟩
                  · rw [if_neg c10] at H
                    exact absurd H (by simp)
                · rw [if_neg c9] at H
                  exact absurd H (by simp)
              · rw [if_neg c7] at H
                have c7b0 : ((bt a0 x6_1) == 46) = false := beq_eq_false_iff_ne.mpr c7
                have c7b1 : ((bt a0 x6_1) != 46) = true := bne_iff_ne.mpr c7
                have H' := Aside0.mk H
                clear H
                have p6 : 0 ≤ (x6_1 : Int) := of_decide_eq_true (by first | (with_reducible assumption) | assumption)
                have q6 : x6_1 < (a0.size : Int) := of_decide_eq_true (by first | (with_reducible assumption) | assumption)
                have hx6 := bt_at a0 x6_1
                replace p6 := eq_true p6
                replace q6 := eq_true q6
                go_wp2
                go_roundg k1
                case measure => have := HK1.out; omega
                case rel => exact ⟨(x5_1), (wrap64 (x6_1 + 1)), (by first | rfl | (simp; done) | (simp [*]; done)), (by first | rfl | (simp; done) | (simp [*]; done)), H', ⟨by have := HK1.out; omega⟩, ⟨by repeat (first | (with_reducible first | exact HB.out | apply below_alloc | apply pw_below_drewN | apply below_drew1) | exact HB.out)⟩⟩
            · rw [if_neg c5] at H
              exact absurd H (by simp)
          · rw [if_neg c4] at H
            exact absurd H (by simp)
        · rw [if_neg c3] at H
          have c3b0 : decide ((wrap64 (x6_1 + 2)) ≤ (a0.size : Int)) = false := decide_eq_false c3
          clear c3
          (first | rw [c3b0] | (simp only [i64_w, i32_w]; rw [c3b0]) | rw [c3b1] | (simp only [i64_w, i32_w]; rw [c3b1]) | skip)
          have H' := Aside0.mk H
          clear H
          go_wp2
          go_meet
          case rel => exact ⟨_, (x5_1), (by first | rfl | (simp; done) | (simp [*]; done)), H', ⟨by have := HK1.out; first | omega | exact Nat.le_refl _⟩, ⟨by repeat (first | (with_reducible first | exact HB.out | apply below_alloc | apply pw_below_drewN | apply below_drew1) | exact HB.out)⟩⟩
  case rest =>
    clear HC2
    try clear c1
    try clear p1
    try clear q1
    try clear hx1
    try clear p2
    try clear c3
    try clear c3b0
    try clear c3b1
    try clear c4
    try clear c4b0
    try clear c5
    try clear c5b0
    try clear p6
    try clear q6
    try clear hx6
    try clear c7
    try clear c7b0
    try clear c7b1
    try clear c9
    try clear c9b0
    try clear c10
    try clear c10b0
    try clear p11
    try clear q11
    try clear hx11
    try clear c12
    try clear c12b0
    try clear c12b1
    try clear p11
    try clear p2
    try clear p6
    try clear q11
    try clear q6
    obtain ⟨kq, x5_1, rfl, HA, HJ1, HB⟩ := hcut
    cases kq with
    | zero => exact absurd HA.out (by simp [paronymref02_Range.j1])
    | succ kj1 =>
      have H := HA.out
      clear HA
      simp only [paronymref02_Range.j1] at H
      by_cases c13 : x5_1 < 0
      · rw [if_pos c13] at H
        have c13b0 : decide (x5_1 < 0) = true := decide_eq_true c13
        clear c13
        replace H := Option.bind_eq_some_iff.mp H
        obtain ⟨t101, A140, H⟩ := H
        replace H : (if t101 < 0 then (some (0, 0, 13)) else (some (t101, t101, 0))) = some (r1, r2, r3) := H
        have A14 := Aside0.mk A140
        clear A140
        by_cases c15 : t101 < 0
        · rw [if_pos c15] at H
          have c15b0 : decide (t101 < 0) = true := decide_eq_true c15
          clear c15
          simp only [Option.some.injEq, Prod.mk.injEq] at H
          obtain ⟨rfl, rfl, rfl⟩ := H
          go_wp2_with (first | ((with_reducible refine gate_callee (f := 36) rfl ?_); refine goesL_ (some 32) rfl rfl Tryd.func36 (by kernel_rfl) rfl #[.string a0] rfl (by (try simp only [List.map_toArray, List.map_cons, List.map_nil]); first | done | rfl | (simp only [List.length_drop, List.length_take]; rfl)) ?_; (with_reducible refine (paronymref02_Point.calls kj1 a0 t101 _ A14.out).mono ?_); rintro e w16 ⟨rfl, hb⟩; refine ⟨_, rfl, ?_⟩; have n0_ := Aside0.mk (below_step (by repeat (first | (with_reducible first | exact HB.out | apply below_alloc | apply pw_below_drewN | apply below_drew1) | exact HB.out)) hb); clear HB; have HB := n0_; clear n0_; (try clear hb); (try clear hb2); (try clear hk); (try clear hi)))
          go_ret3
          exact ⟨by first | rfl | (simp [errW_none, errW_some] <;> rfl) | (simp [*, errW_none, errW_some] <;> rfl), by repeat (first | (with_reducible first | exact HB.out | apply below_alloc | apply pw_below_drewN | apply below_drew1) | exact HB.out)⟩
        · rw [if_neg c15] at H
          have c15b0 : decide (t101 < 0) = false := decide_eq_false c15
          clear c15
          simp only [Option.some.injEq, Prod.mk.injEq] at H
          obtain ⟨rfl, rfl, rfl⟩ := H
          go_wp2_with (first | ((with_reducible refine gate_callee (f := 36) rfl ?_); refine goesL_ (some 32) rfl rfl Tryd.func36 (by kernel_rfl) rfl #[.string a0] rfl (by (try simp only [List.map_toArray, List.map_cons, List.map_nil]); first | done | rfl | (simp only [List.length_drop, List.length_take]; rfl)) ?_; (with_reducible refine (paronymref02_Point.calls kj1 a0 t101 _ A14.out).mono ?_); rintro e w17 ⟨rfl, hb⟩; refine ⟨_, rfl, ?_⟩; have n0_ := Aside0.mk (below_step (by repeat (first | (with_reducible first | exact HB.out | apply below_alloc | apply pw_below_drewN | apply below_drew1) | exact HB.out)) hb); clear HB; have HB := n0_; clear n0_; (try clear hb); (try clear hb2); (try clear hk); (try clear hi)))
          go_ret3
          exact ⟨by first | rfl | (simp [errW_none, errW_some] <;> rfl) | (simp [*, errW_none, errW_some] <;> rfl), by repeat (first | (with_reducible first | exact HB.out | apply below_alloc | apply pw_below_drewN | apply below_drew1) | exact HB.out)⟩
      · rw [if_neg c13] at H
        have c13b0 : decide (x5_1 < 0) = false := decide_eq_false c13
        clear c13
        by_cases c18 : 0 ≤ x5_1
        · rw [if_pos c18] at H
          have c18b0 := eq_true c18
          have c18b1 : decide (0 ≤ x5_1) = true := decide_eq_true c18
          clear c18
          by_cases c19 : x5_1 ≤ (a0.size : Int)
          · rw [if_pos c19] at H
            have c19b0 := eq_true c19
            have c19b1 : decide (x5_1 ≤ (a0.size : Int)) = true := decide_eq_true c19
            clear c19
            replace H := Option.bind_eq_some_iff.mp H
            obtain ⟨t102, A200, H⟩ := H
            replace H : (if 0 ≤ (wrap64 (x5_1 + 2)) then (if (wrap64 (x5_1 + 2)) ≤ (a0.size : Int) then ((paronymref02_Point.f kj1 (a0.extract ((wrap64 (x5_1 + 2)) : Int).toNat a0.size)).bind fun t103 => (if t102 < 0 then (paronymref02_Range.j2 kj1 t102 t103 true) else (paronymref02_Range.j2 kj1 t102 t103 (decide (t103 < 0))))) else (none)) else (none)) = some (r1, r2, r3) := H
            have A20 := Aside0.mk A200
            clear A200
            obtain ⟨ji21, hji21⟩ : ∃ j_ : Int, (wrap64 (x5_1 + 2)) = j_ := ⟨_, rfl⟩
            replace H : (if 0 ≤ (ji21) then (if (ji21) ≤ (a0.size : Int) then ((paronymref02_Point.f kj1 (a0.extract ((ji21) : Int).toNat a0.size)).bind fun t103 => (if t102 < 0 then (paronymref02_Range.j2 kj1 t102 t103 true) else (paronymref02_Range.j2 kj1 t102 t103 (decide (t103 < 0))))) else (none)) else (none)) = some (r1, r2, r3) := by first | (rw [hji21] at H; exact H) | (simp only [hji21] at H ⊢; exact H)
            (try rw [hji21] at A20)
            have hji21w : (IntKind.i64.wrap (x5_1 + 2)) = ji21 := (i64_w _).trans hji21
            by_cases c22 : 0 ≤ (ji21)
            · rw [if_pos c22] at H
              have c22b0 := eq_true c22
              have c22b1 : decide (0 ≤ (ji21)) = true := decide_eq_true c22
              clear c22
              by_cases c23 : (ji21) ≤ (a0.size : Int)
              · rw [if_pos c23] at H
                have c23b0 := eq_true c23
                have c23b1 : decide ((ji21) ≤ (a0.size : Int)) = true := decide_eq_true c23
                clear c23
                replace H := Option.bind_eq_some_iff.mp H
                obtain ⟨t103, A240, H⟩ := H
                replace H : (if t102 < 0 then (paronymref02_Range.j2 kj1 t102 t103 true) else (paronymref02_Range.j2 kj1 t102 t103 (decide (t103 < 0)))) = some (r1, r2, r3) := H
                have A24 := Aside0.mk A240
                clear A240
                have HC25 := Aside0.mk H
                clear H
                try go_wp2
                have n0_ := Aside0.mk (below_drew1 HB.out)
                clear HB
                have HB := n0_
                clear n0_
                refine start_ (n := 11) (S := fun w' => True) (ds := []) #[false, false, false, false, false, false, false, false, false, false, false] (by kernel_rfl) rfl rfl trivial (fun hHeld => ?_); refine with_tabW paronymref02_Range.tab12 paronymref02_Range.bits12 (fun HT_ HW_ => ?_)
                generalize wc.drew = w26 at HB hHeld ⊢
                refine pure_ (i := 0) (N := some 37) (v := ?_) (a' := ?_) #[true, false, false, false, false, false, false, false, false, false, false] rfl rfl (any_of HT_.out (by kernel_rfl)) (fun _ _ _ h => h) (Or.inl ⟨by rfl, ?_⟩) ?_ ?_
                rotate_left
                · intro w'
                  go_simp
                  with_reducible rfl
                rotate_left
                · simp only [Act.put, List.setIfInBounds_toArray, List.set_cons_zero, List.set_cons_succ, i64_w, i32_w]
                  rfl
                refine pure_ (i := 1) (N := some 38) (v := ?_) (a' := ?_) #[true, true, false, false, false, false, false, false, false, false, false] rfl rfl (any_of HT_.out (by kernel_rfl)) (fun _ _ _ h => h) (Or.inl ⟨by rfl, ?_⟩) ?_ ?_
                rotate_left
                · intro w'
                  go_simp
                  with_reducible rfl
                rotate_left
                · simp only [Act.put, List.setIfInBounds_toArray, List.set_cons_zero, List.set_cons_succ, i64_w, i32_w]
                  rfl
                refine pure_ (i := 2) (N := some 39) (v := ?_) (a' := ?_) #[true, true, true, false, false, false, false, false, false, false, false] rfl rfl (any_of HT_.out (by kernel_rfl)) (fun _ _ _ h => h) (Or.inl ⟨by rfl, ?_⟩) ?_ ?_
                rotate_left
                · intro w'
                  go_simp
                  with_reducible rfl
                rotate_left
                · simp only [Act.put, List.setIfInBounds_toArray, List.set_cons_zero, List.set_cons_succ, i64_w, i32_w]
                  rfl
                refine pure_ (i := 4) (N := some 41) (v := ?_) (a' := ?_) #[true, true, true, false, true, false, false, false, false, false, false] rfl rfl (any_of HT_.out (by kernel_rfl)) (fun _ _ _ h => h) (Or.inl ⟨by rfl, ?_⟩) ?_ ?_
                rotate_left
                · intro w'
                  go_simp
                  with_reducible rfl
                rotate_left
                · simp only [Act.put, List.setIfInBounds_toArray, List.set_cons_zero, List.set_cons_succ, i64_w, i32_w]
                  rfl
                refine pure_ (i := 5) (N := some 42) (v := ?_) (a' := ?_) #[true, true, true, false, true, true, false, false, false, false, false] rfl rfl (any_of HT_.out (by kernel_rfl)) (fun _ _ _ h => h) (Or.inl ⟨by rfl, ?_⟩) ?_ ?_
                rotate_left
                · intro w'
                  go_simp
                  with_reducible rfl
                rotate_left
                · simp only [Act.put, List.setIfInBounds_toArray, List.set_cons_zero, List.set_cons_succ, i64_w, i32_w]
                  rfl
                refine pure_ (i := 6) (N := some 43) (v := ?_) (a' := ?_) #[true, true, true, false, true, true, true, false, false, false, false] rfl rfl (any_of HT_.out (by kernel_rfl)) (fun _ _ _ h => h) (Or.inl ⟨by rfl, ?_⟩) ?_ ?_
                rotate_left
                · intro w'
                  go_simp
                  with_reducible rfl
                rotate_left
                · simp only [Act.put, List.setIfInBounds_toArray, List.set_cons_zero, List.set_cons_succ, i64_w, i32_w]
                  rfl
                refine pure_ (i := 7) (N := some 44) (v := ?_) (a' := ?_) #[true, true, true, false, true, true, true, true, false, false, false] rfl rfl (any_of HT_.out (by kernel_rfl)) (fun _ _ _ h => h) (Or.inl ⟨by rfl, ?_⟩) ?_ ?_
                rotate_left
                · intro w'
                  go_simp
                  with_reducible rfl
                rotate_left
                · simp only [Act.put, List.setIfInBounds_toArray, List.set_cons_zero, List.set_cons_succ, i64_w, i32_w]
                  rfl
                refine one_ (i := 3) (N := some 40) #[true, true, true, true, true, true, true, true, false, false, false] rfl rfl (one_of HT_.out (by kernel_rfl)) (by decide) (fun K hK => ?_)
                refine goes_ Tryd.func36 (by kernel_rfl) rfl #[.string (a0.extract 0 (x5_1 : Int).toNat)] (by rfl) rfl rfl (by (try simp only [List.map_toArray, List.map_cons, List.map_nil]); first | done | rfl | (simp only [List.length_drop, List.length_take]; rfl)) ?_
                with_reducible refine (paronymref02_Point.calls kj1 (a0.extract 0 (x5_1 : Int).toNat) t102 _ A20.out).mono ?_
                rintro e w27 ⟨rfl, hb⟩
                refine ⟨_, rfl, ?_⟩
                have n0_ := Aside0.mk (below_step (by repeat (first | (with_reducible first | exact HB.out | apply below_alloc | apply pw_below_drewN | apply below_drew1) | exact HB.out)) hb)
                clear HB
                have HB := n0_
                clear n0_
                (try clear hb)
                (try clear hb2)
                (try clear hk)
                (try clear hi)
                refine hK.out _ _ trivial (fun hHeld => ?_)
                clear hK K
                refine norm_ (a' := ?_) ?_ ?_
                rotate_left
                · show Act.put _ (some 40) _ = _
                  simp only [Act.put, List.setIfInBounds_toArray, List.set_cons_zero, List.set_cons_succ, i64_w, i32_w]
                  rfl
                refine one_ (i := 8) (N := some 45) #[true, true, true, true, true, true, true, true, true, false, false] rfl rfl (one_of HT_.out (by kernel_rfl)) (by decide) (fun K hK => ?_)
                refine goes_ Tryd.func36 (by kernel_rfl) rfl #[.string (a0.extract ((ji21) : Int).toNat a0.size)] (by rfl) rfl rfl (by (try simp only [List.map_toArray, List.map_cons, List.map_nil]); first | done | (simp only [hji21]; rfl) | rfl | (simp only [List.length_drop, List.length_take]; rfl)) ?_
                with_reducible refine (paronymref02_Point.calls kj1 (a0.extract ((ji21) : Int).toNat a0.size) t103 _ A24.out).mono ?_
                rintro e w28 ⟨rfl, hb⟩
                refine ⟨_, rfl, ?_⟩
                have n0_ := Aside0.mk (below_step (by repeat (first | (with_reducible first | exact HB.out | apply below_alloc | apply pw_below_drewN | apply below_drew1) | exact HB.out)) hb)
                clear HB
                have HB := n0_
                clear n0_
                (try clear hb)
                (try clear hb2)
                (try clear hk)
                (try clear hi)
                refine hK.out _ _ trivial (fun hHeld => ?_)
                clear hK K
                refine norm_ (a' := ?_) ?_ ?_
                rotate_left
                · show Act.put _ (some 45) _ = _
                  simp only [Act.put, List.setIfInBounds_toArray, List.set_cons_zero, List.set_cons_succ, i64_w, i32_w]
                  rfl
                refine pure_ (i := 9) (N := some 8) (v := ?_) (a' := ?_) #[true, true, true, true, true, true, true, true, true, true, false] rfl rfl (any_of HT_.out (by kernel_rfl)) (fun _ _ _ h => h) (Or.inl ⟨by rfl, ?_⟩) ?_ ?_
                rotate_left
                · intro w'
                  go_simp
                  with_reducible rfl
                rotate_left
                · simp only [Act.put, List.setIfInBounds_toArray, List.set_cons_zero, List.set_cons_succ, i64_w, i32_w]
                  rfl
                refine pure_ (i := 10) (N := some 9) (v := ?_) (a' := ?_) #[true, true, true, true, true, true, true, true, true, true, true] rfl rfl (any_of HT_.out (by kernel_rfl)) (fun _ _ _ h => h) (Or.inl ⟨by rfl, ?_⟩) ?_ ?_
                rotate_left
                · intro w'
                  go_simp
                  with_reducible rfl
                rotate_left
                · simp only [Act.put, List.setIfInBounds_toArray, List.set_cons_zero, List.set_cons_succ, i64_w, i32_w]
                  rfl
                refine done_ (done_of HT_.out (by kernel_rfl)) ?_
                go_upto_region 13 with (fail)
                go_cut [51] (fun v51 wc => ∃ (kq : Nat) (x51_24 : Bool), v51 = .bool x51_24 ∧ Aside0 (paronymref02_Range.j2 kq t102 t103 x51_24 = some (r1, r2, r3)) ∧ Aside0 (kq ≤ kj1) ∧ Aside0 (Below w.heap.size w wc))
                case first =>
                  have H := HC25.out
                  clear HC25
                  by_cases c29 : t102 < 0
                  · rw [if_pos c29] at H
                    have c29b0 : decide (t102 < 0) = true := decide_eq_true c29
                    clear c29
                    (first | rw [c29b0] | (simp only [i64_w, i32_w]; rw [c29b0]) | rw [c29b1] | (simp only [i64_w, i32_w]; rw [c29b1]) | skip)
                    have H' := Aside0.mk H
                    clear H
                    go_wp2
                    go_meet
                    case rel => exact ⟨_, (true), (by first | rfl | (simp; done) | (simp [*]; done)), H', ⟨by have := HJ1.out; first | omega | exact Nat.le_refl _⟩, ⟨by repeat (first | (with_reducible first | exact HB.out | apply below_alloc | apply pw_below_drewN | apply below_drew1) | exact HB.out)⟩⟩
                  · rw [if_neg c29] at H
                    have c29b0 : decide (t102 < 0) = false := decide_eq_false c29
                    clear c29
                    (first | rw [c29b0] | (simp only [i64_w, i32_w]; rw [c29b0]) | rw [c29b1] | (simp only [i64_w, i32_w]; rw [c29b1]) | skip)
                    have H' := Aside0.mk H
                    clear H
                    go_wp2
                    go_meet
                    case rel => exact ⟨_, (decide (t103 < 0)), (by first | rfl | (simp; done) | (simp [*]; done)), H', ⟨by have := HJ1.out; first | omega | exact Nat.le_refl _⟩, ⟨by repeat (first | (with_reducible first | exact HB.out | apply below_alloc | apply pw_below_drewN | apply below_drew1) | exact HB.out)⟩⟩
                case rest =>
                  clear HC25
                  try clear c1
                  try clear p1
                  try clear q1
                  try clear hx1
                  try clear c2
                  try clear p2
                  try clear c3
                  try clear c3b0
                  try clear c3b1
                  try clear c4
                  try clear c4b0
                  try clear c5
                  try clear c5b0
                  try clear p6
                  try clear q6
                  try clear hx6
                  try clear c7
                  try clear c7b0
                  try clear c7b1
                  try clear c9
                  try clear c9b0
                  try clear c10
                  try clear c10b0
                  try clear p11
                  try clear q11
                  try clear hx11
                  try clear c12
                  try clear c12b0
                  try clear c12b1
                  try clear c13
                  try clear c13b0
                  try clear c15
                  try clear c15b0
                  try clear c18
                  try clear c18b0
                  try clear c18b1
                  try clear c19
                  try clear c19b0
                  try clear c19b1
                  try clear c22
                  try clear c22b0
                  try clear c22b1
                  try clear c23
                  try clear c23b0
                  try clear c23b1
                  try clear c29
                  try clear c29b0
                  try clear c29b1
                  try clear p1
                  try clear p11
                  try clear p2
                  try clear p6
                  try clear q1
                  try clear q11
                  try clear q6
                  obtain ⟨kq, x51_24, rfl, HA, HJ24, HB⟩ := hcut
                  cases kq with
                  | zero => exact absurd HA.out (by simp [paronymref02_Range.j2])
                  | succ kj24 =>
                    have H := HA.out
                    clear HA
                    simp only [paronymref02_Range.j2] at H
                    by_cases c30 : x51_24 = true
                    · subst c30
                      have H1 : (some (0, 0, 13)) = some (r1, r2, r3) := by rw [if_pos rfl] at H; exact H
                      clear H
                      have H := H1
                      clear H1
                      simp only [Option.some.injEq, Prod.mk.injEq] at H
                      obtain ⟨rfl, rfl, rfl⟩ := H
                      go_wp2
                      go_ret3
                      exact ⟨by first | rfl | (simp [errW_none, errW_some] <;> rfl) | (simp only [← hji21]; first | rfl | (simp [errW_none, errW_some] <;> rfl)) | (simp [*, errW_none, errW_some] <;> rfl), by repeat (first | (with_reducible first | exact HB.out | apply below_alloc | apply pw_below_drewN | apply below_drew1) | exact HB.out)⟩
                    · replace c30 := Bool.eq_false_iff.mpr c30
                      subst c30
                      have H1 : (if t103 ≤ t102 then (some (0, 0, 14)) else (some (t102, t103, 0))) = some (r1, r2, r3) := by rw [if_neg (show ¬ (false = true) by decide)] at H; exact H
                      clear H
                      have H := H1
                      clear H1
                      by_cases c31 : t103 ≤ t102
                      · rw [if_pos c31] at H
                        have c31b0 : decide (t103 ≤ t102) = true := decide_eq_true c31
                        clear c31
                        simp only [Option.some.injEq, Prod.mk.injEq] at H
                        obtain ⟨rfl, rfl, rfl⟩ := H
                        go_wp2
                        go_ret3
                        exact ⟨by first | rfl | (simp [errW_none, errW_some] <;> rfl) | (simp only [← hji21]; first | rfl | (simp [errW_none, errW_some] <;> rfl)) | (simp [*, errW_none, errW_some] <;> rfl), by repeat (first | (with_reducible first | exact HB.out | apply below_alloc | apply pw_below_drewN | apply below_drew1) | exact HB.out)⟩
                      · rw [if_neg c31] at H
                        have c31b0 : decide (t103 ≤ t102) = false := decide_eq_false c31
                        clear c31
                        simp only [Option.some.injEq, Prod.mk.injEq] at H
                        obtain ⟨rfl, rfl, rfl⟩ := H
                        go_wp2
                        go_ret3
                        exact ⟨by first | rfl | (simp [errW_none, errW_some] <;> rfl) | (simp only [← hji21]; first | rfl | (simp [errW_none, errW_some] <;> rfl)) | (simp [*, errW_none, errW_some] <;> rfl), by repeat (first | (with_reducible first | exact HB.out | apply below_alloc | apply pw_below_drewN | apply below_drew1) | exact HB.out)⟩
              · rw [if_neg c23] at H
                exact absurd H (by simp)
            · rw [if_neg c22] at H
              exact absurd H (by simp)
          · rw [if_neg c19] at H
            exact absurd H (by simp)
        · rw [if_neg c18] at H
          exact absurd H (by simp)

end Go.Proofs.YtdnfmilnkoocdaaDoor.Q

-- from Qf40
-- Made by hp.py, a program of this session, with the kit's printer. Not trusted: Lean checks it.
namespace Go.Proofs.YtdnfmilnkoocdaaDoor.Q
open Go.RowKit Go.Proofs.YtdnfmilnkoocdaaDoorW.PrintWords Go.Proofs.YtdnfmilnkoocdaaDoorW.PrintLast Go.Proofs.YtdnfmilnkoocdaaDoorW.PrintMore
attribute [local go_sem] max2_int min2_int max_two min_two max_three min_three max_four min_four   -- for this text's walks alone
set_option linter.unusedVariables false
set_option linter.unusedSimpArgs false

/-! ### paronymref02_Sequence: function 40 -/
def paronymref02_Sequence.l0 : Nat → List ByteArray → List Int → Int → Option (List Int × Int)
  | 0, _, _, _ => none
  | k + 1, x4, x5, x6 => if x6 < (x4.length : Int) then (if 0 ≤ x6 then ((paronymref02_Point.f k (rdOf ByteArray.empty x4 x6)).bind fun t105 => (if t105 < 0 then (some (([] : List Int), 13)) else (if x5.length < 17592186044416 then (paronymref02_Sequence.l0 k x4 (x5 ++ [t105]) (wrap64 (x6 + 1))) else (none)))) else (none)) else (some (x5, 0))
def paronymref02_Sequence.f (k : Nat) (a0 : ByteArray) : Option (List Int × Int) := if a0.toList = ([] : List UInt8) then (some (([] : List Int), 0)) else ((paronymref02_Cut.f k a0 32).bind fun t101 => (paronymref02_Sequence.l0 k t101 ([] : List Int) 0))
theorem paronymref02_Sequence.mono_l : ∀ k, (∀ y0 y1 y2, LeO (paronymref02_Sequence.l0 k y0 y1 y2) (paronymref02_Sequence.l0 (k + 1) y0 y1 y2))
  | 0 => fun _ _ _ r h => by simp [paronymref02_Sequence.l0] at h
  | k + 1 => by
    have ih0 := paronymref02_Sequence.mono_l k
    · intro y0 y1 y2
      unfold paronymref02_Sequence.l0
      repeat' first
      | (with_reducible exact ih0 _ _ _)
      | (with_reducible exact paronymref02_Cut.mono _ _ _)
      | (with_reducible exact paronymref02_Point.mono _ _)
      | (with_reducible exact LeO.refl _)
      | (with_reducible exact LeO.none _)
      | (with_reducible refine LeO.ite ?_ ?_)
      | (with_reducible refine LeO.bind ?_ (fun _ => ?_))
      | exact ih0 _ _ _
      | exact paronymref02_Cut.mono _ _ _
      | exact paronymref02_Point.mono _ _
      | exact LeO.none _
      | refine LeO.ite ?_ ?_
      | refine LeO.bind ?_ (fun _ => ?_)
theorem paronymref02_Sequence.mono : ∀ a0 k, LeO (paronymref02_Sequence.f k a0) (paronymref02_Sequence.f (k + 1) a0) := by
  intro a0 k
  have ih0 := paronymref02_Sequence.mono_l k
  unfold paronymref02_Sequence.f
  repeat' first
      | (with_reducible exact ih0 _ _ _)
      | (with_reducible exact paronymref02_Cut.mono _ _ _)
      | (with_reducible exact paronymref02_Point.mono _ _)
      | (with_reducible exact LeO.refl _)
      | (with_reducible exact LeO.none _)
      | (with_reducible refine LeO.ite ?_ ?_)
      | (with_reducible refine LeO.bind ?_ (fun _ => ?_))
      | exact ih0 _ _ _
      | exact paronymref02_Cut.mono _ _ _
      | exact paronymref02_Point.mono _ _
      | exact LeO.none _
      | refine LeO.ite ?_ ?_
      | refine LeO.bind ?_ (fun _ => ?_)
set_option maxHeartbeats 8000000 in
set_option maxRecDepth 100000 in
theorem paronymref02_Sequence.calls (k : Nat) (a0 : ByteArray) (r1 : List Int) (r2 : Int) (w : World) (h : paronymref02_Sequence.f k a0 = some (r1, r2)) :
    Calls Tryd.prog 40 #[.string a0] w fun e w' => ∃ v0_ : Value, e = .returned (.tuple #[v0_, .int .i64 r2]) ∧ Kd.R (Kd.int .i64) 3 w' w.heap.size (fun _ => True) v0_ r1 ∧ Below w.heap.size w w' := by
  have HB := Aside0.mk (Below.refl w.heap.size w)
  have H : (if a0.toList = ([] : List UInt8) then (some (([] : List Int), 0)) else ((paronymref02_Cut.f k a0 32).bind fun t101 => (paronymref02_Sequence.l0 k t101 ([] : List Int) 0))) = some (r1, r2) := h
  clear h
  by_cases c2 : a0.toList = ([] : List UInt8)
  · rw [if_pos c2] at H
    have c2b0 : (a0.toList == ([] : List UInt8)) = true := beq_iff_eq.mpr c2
    have c2b1 : (a0.toList != ([] : List UInt8)) = false := bne_eq_false_iff_eq.mpr c2
    clear c2
    simp only [Option.some.injEq, Prod.mk.injEq] at H
    obtain ⟨rfl, rfl⟩ := H
    go_enter Tryd.func40, Tryd.ntmps40
    go_wp2
    go_ret2
    exact ⟨_, by first | rfl | (simp [errW_none, errW_some] <;> rfl) | (simp [*, errW_none, errW_some] <;> rfl), by first | exact Kd.R_nil _ _ _ _ _ | exact Kd.N_nil _ _ _ _ _ | exact Kd.V_nil _ _ _ _ _ | exact Kd.Q_nil _ _ _ _ _ | exact Kd.S_nil _ _ _ _ _, by repeat (first | (with_reducible first | exact HB.out | apply below_alloc | apply pw_below_drewN | apply below_drew1) | exact HB.out)⟩
  · rw [if_neg c2] at H
    have c2b0 : (a0.toList == ([] : List UInt8)) = false := beq_eq_false_iff_ne.mpr c2
    have c2b1 : (a0.toList != ([] : List UInt8)) = true := bne_iff_ne.mpr c2
    replace H := Option.bind_eq_some_iff.mp H
    obtain ⟨t101, A30, H⟩ := H
    replace H : (paronymref02_Sequence.l0 k t101 ([] : List Int) 0) = some (r1, r2) := H
    have A3 := Aside0.mk A30
    clear A30
    have H' := Aside0.mk H
    clear H
    go_enter Tryd.func40, Tryd.ntmps40
    go_wp2_with (first | ((with_reducible refine gate_callee (f := 29) rfl ?_); refine goesL_ (some 11) rfl rfl Tryd.func29 (by kernel_rfl) rfl #[.string a0, .int .u8 32] rfl (by (try simp only [List.map_toArray, List.map_cons, List.map_nil]); first | done | rfl | (simp only [List.length_drop, List.length_take]; rfl)) ?_; (with_reducible refine (paronymref02_Cut.calls k a0 32 t101 _ A3.out).mono ?_); rintro e w4 ⟨v102, rfl, ho0, hb⟩; refine ⟨_, rfl, ?_⟩; have n0_ := Aside0.mk (Kd.R_lower ho0 (below_size (by repeat (first | (with_reducible first | exact HB.out | apply below_alloc | apply pw_below_drewN | apply below_drew1) | exact HB.out)))); have n1_ := Aside0.mk (below_step (by repeat (first | (with_reducible first | exact HB.out | apply below_alloc | apply pw_below_drewN | apply below_drew1) | exact HB.out)) hb); clear HB; have HO103 := n0_; have HB := n1_; clear n0_ n1_; (try clear hb); (try clear hb2); (try clear hk); (try clear hi); (try clear ho0)))
    go_loopg [5, 6] k (fun kq v5 v6 w' => ∃ (x5_1 : List Int) (x6_1 : Int), v6 = .int .i64 x6_1 ∧ Aside0 (paronymref02_Sequence.l0 kq t101 x5_1 x6_1 = some (r1, r2)) ∧ Aside0 (kq ≤ k) ∧ Aside0 (Kd.R Kd.string 9 w' w.heap.size (fun _ => True) v102 t101) ∧ Aside0 (Kd.R (Kd.int .i64) 3 w' w.heap.size (fun _ => True) v5 x5_1) ∧ Aside0 (Below w.heap.size w w'))
    case atStart => exact ⟨(([] : List Int)), (0), (by first | rfl | (simp; done) | (simp [*]; done)), H', ⟨Nat.le_refl _⟩, ⟨by (with_reducible repeat (first | apply Kd.R_alloc | apply Kd.R_drewN | apply Kd.R_drew)); exact HO103.out⟩, ⟨by first | exact Kd.R_nil _ _ _ _ _ | exact Kd.N_nil _ _ _ _ _ | exact Kd.V_nil _ _ _ _ _ | exact Kd.Q_nil _ _ _ _ _ | exact Kd.S_nil _ _ _ _ _⟩, ⟨by repeat (first | (with_reducible first | exact HB.out | apply below_alloc | apply pw_below_drewN | apply below_drew1) | exact HB.out)⟩⟩
    case round =>
      clear H'
      try clear c2
      try clear c2b0
      try clear c2b1
      try clear p2
      try clear c4
      obtain ⟨x5_1, x6_1, rfl, HA, HK1, HO_4, HO_5, HB⟩ := hrel
      cases gk with
      | zero => exact absurd HA.out (by simp [paronymref02_Sequence.l0])
      | succ k1 =>
        have H := HA.out
        clear HA
        simp only [paronymref02_Sequence.l0] at H
        by_cases c5 : x6_1 < (t101.length : Int)
        · rw [if_pos c5] at H
          have c5b0 : decide (x6_1 < (t101.length : Int)) = true := decide_eq_true c5
          clear c5
          by_cases c6 : 0 ≤ x6_1
          · rw [if_pos c6] at H
            have c6b0 : decide (0 ≤ x6_1) = true := decide_eq_true c6
            clear c6
            replace H := Option.bind_eq_some_iff.mp H
            obtain ⟨t105, A70, H⟩ := H
            replace H : (if t105 < 0 then (some (([] : List Int), 13)) else (if x5_1.length < 17592186044416 then (paronymref02_Sequence.l0 k1 t101 (x5_1 ++ [t105]) (wrap64 (x6_1 + 1))) else (none))) = some (r1, r2) := H
            have A7 := Aside0.mk A70
            clear A70
            by_cases c8 : t105 < 0
            · rw [if_pos c8] at H
              have c8b0 : decide (t105 < 0) = true := decide_eq_true c8
              clear c8
              simp only [Option.some.injEq, Prod.mk.injEq] at H
              obtain ⟨rfl, rfl⟩ := H
              obtain ⟨Ao9, co9, eo9⟩ := Kd.R_slice HO_4.out
              subst eo9
              have p104 : 0 ≤ (x6_1 : Int) := of_decide_eq_true (by first | (with_reducible assumption) | assumption)
              have q104 : x6_1 < (t101.length : Int) := of_decide_eq_true (by first | (with_reducible assumption) | assumption)
              obtain ⟨ad104, e104, hx104_0⟩ := Kd.at_string (Kd.R_reads' HO_4.out).2.2 x6_1 p104 q104
              cases e104
              replace p104 := eq_true p104
              replace q104 := eq_true q104
              go_wp2_with (first | ((with_reducible refine gate_callee (f := 36) rfl ?_); refine goesL_ (some 22) rfl rfl Tryd.func36 (by kernel_rfl) rfl #[.string (rdOf ByteArray.empty t101 x6_1)] rfl (by (try simp only [List.map_toArray, List.map_cons, List.map_nil]); first | done | rfl | (simp only [List.length_drop, List.length_take]; rfl)) ?_; (with_reducible refine (paronymref02_Point.calls k1 (rdOf ByteArray.empty t101 x6_1) t105 _ A7.out).mono ?_); rintro e w10 ⟨rfl, hb⟩; refine ⟨_, rfl, ?_⟩; have n0_ := Aside0.mk (Kd.R_below (by (with_reducible repeat (first | apply Kd.R_alloc | apply Kd.R_drewN | apply Kd.R_drew)); exact HO_4.out) hb); have n1_ := Aside0.mk (Kd.R_below (by (with_reducible repeat (first | apply Kd.R_alloc | apply Kd.R_drewN | apply Kd.R_drew)); exact HO_5.out) hb); have n2_ := Aside0.mk (below_step (by repeat (first | (with_reducible first | exact HB.out | apply below_alloc | apply pw_below_drewN | apply below_drew1) | exact HB.out)) hb); clear HO_4; clear HO_5; clear HB; have HO_4 := n0_; have HO_5 := n1_; have HB := n2_; clear n0_ n1_ n2_; (try clear hb); (try clear hb2); (try clear hk); (try clear hi)))
              go_ret2
              exact ⟨_, by first | rfl | (simp [errW_none, errW_some] <;> rfl) | (simp [*, errW_none, errW_some] <;> rfl), by first | exact Kd.R_nil _ _ _ _ _ | exact Kd.N_nil _ _ _ _ _ | exact Kd.V_nil _ _ _ _ _ | exact Kd.Q_nil _ _ _ _ _ | exact Kd.S_nil _ _ _ _ _, by repeat (first | (with_reducible first | exact HB.out | apply below_alloc | apply pw_below_drewN | apply below_drew1) | exact HB.out)⟩
            · rw [if_neg c8] at H
              have c8b0 : decide (t105 < 0) = false := decide_eq_false c8
              clear c8
              by_cases c11 : x5_1.length < 17592186044416
              · rw [if_pos c11] at H
                have LMc11 := Aside0.mk c11
                clear c11
                obtain ⟨y106, hy106⟩ : ∃ y_ : List Int, y_ = (x5_1 ++ [t105]) := ⟨_, rfl⟩
                replace H : (paronymref02_Sequence.l0 k1 t101 y106 (wrap64 (x6_1 + 1))) = some (r1, r2) := by first | (rw [hy106]; with_reducible exact H) | (have H2_ := (Option.bind_some _ _).symm.trans H; rw [hy106]; with_reducible exact H2_) | (have H2_ := (Option.bind_some _ _).symm.trans H; with_reducible exact H2_) | with_reducible exact H | (rw [hy106]; exact H) | exact H
                have Ny106 := Aside0.mk hy106
                clear hy106
                have H' := Aside0.mk H
                clear H
                obtain ⟨Ao12, co12, eo12⟩ := Kd.R_slice HO_4.out
                subst eo12
                have p104 : 0 ≤ (x6_1 : Int) := of_decide_eq_true (by first | (with_reducible assumption) | assumption)
                have q104 : x6_1 < (t101.length : Int) := of_decide_eq_true (by first | (with_reducible assumption) | assumption)
                obtain ⟨ad104, e104, hx104_0⟩ := Kd.at_string (Kd.R_reads' HO_4.out).2.2 x6_1 p104 q104
                cases e104
                replace p104 := eq_true p104
                replace q104 := eq_true q104
                go_wp2_with (first | ((with_reducible refine gate_callee (f := 36) rfl ?_); refine goesL_ (some 22) rfl rfl Tryd.func36 (by kernel_rfl) rfl #[.string (rdOf ByteArray.empty t101 x6_1)] rfl (by (try simp only [List.map_toArray, List.map_cons, List.map_nil]); first | done | rfl | (simp only [List.length_drop, List.length_take]; rfl)) ?_; (with_reducible refine (paronymref02_Point.calls k1 (rdOf ByteArray.empty t101 x6_1) t105 _ A7.out).mono ?_); rintro e w13 ⟨rfl, hb⟩; refine ⟨_, rfl, ?_⟩; have n0_ := Aside0.mk (Kd.R_below (by (with_reducible repeat (first | apply Kd.R_alloc | apply Kd.R_drewN | apply Kd.R_drew)); exact HO_4.out) hb); have n1_ := Aside0.mk (Kd.R_below (by (with_reducible repeat (first | apply Kd.R_alloc | apply Kd.R_drewN | apply Kd.R_drew)); exact HO_5.out) hb); have n2_ := Aside0.mk (below_step (by repeat (first | (with_reducible first | exact HB.out | apply below_alloc | apply pw_below_drewN | apply below_drew1) | exact HB.out)) hb); clear HO_4; clear HO_5; clear HB; have HO_4 := n0_; have HO_5 := n1_; have HB := n2_; clear n0_ n1_ n2_; (try clear hb); (try clear hb2); (try clear hk); (try clear hi)) | ((with_reducible refine gate_builtin (b := .append) (xs := #[.tmp 25, .tmp 27]) rfl ?_); at_builtin; refine Kd.R_append (Kd.int .i64) (w0 := w) w.heap.size rfl (.tmp 25) (.tmp 27) 70 3 (.int .i64 0) 8 rfl Tryd.underlying70 info3 rfl (by decide) (by omega) u5 x5_1 t105 [.int .i64 t105] (fun _ => True) (fun _ => False) rfl rfl ?aP (fun _ hk => hk.elim) ?aF ?aO ?aB ?aS ?aL ?_; (case aP => exact rfl); (case aB => exact (by repeat (first | (with_reducible first | exact HB.out | apply below_alloc | apply pw_below_drewN | apply below_drew1) | exact HB.out))); (case aF => exact (fun _ _ => trivial)); (case aO => exact (by (with_reducible repeat (first | apply Kd.R_alloc | apply Kd.R_drewN | apply Kd.R_drew)); exact HO_5.out)); (case aS => exact (below_size (by repeat (first | (with_reducible first | exact HB.out | apply below_alloc | apply pw_below_drewN | apply below_drew1) | exact HB.out)))); (case aL => have := LMc11.out; omega); intro v107 w14 ho hb hg hat; rw [← Ny106.out] at ho; have n0_ := Aside0.mk (Kd.R_over' (by (with_reducible repeat (first | apply Kd.R_alloc | apply Kd.R_drewN | apply Kd.R_drew)); exact HO_4.out) (Kd.R_typed (by (with_reducible repeat (first | apply Kd.R_alloc | apply Kd.R_drewN | apply Kd.R_drew)); exact HO_5.out)) (by decide) hg); have n1_ := Aside0.mk (hb); have n2_ := Aside0.mk (ho); clear HO_4; clear HB; clear HO_5; have HO_4 := n0_; have HB := n1_; have HO108 := n2_; clear n0_ n1_ n2_; clear ho hb hg hat))
                go_roundg k1
                case measure => have := HK1.out; omega
                case rel => exact ⟨(y106), (wrap64 (x6_1 + 1)), (by first | rfl | (simp; done) | (simp [*]; done)), H', ⟨by have := HK1.out; omega⟩, ⟨by (with_reducible repeat (first | apply Kd.R_alloc | apply Kd.R_drewN | apply Kd.R_drew)); exact HO_4.out⟩, ⟨by (with_reducible repeat (first | apply Kd.R_alloc | apply Kd.R_drewN | apply Kd.R_drew)); exact HO108.out⟩, ⟨by repeat (first | (with_reducible first | exact HB.out | apply below_alloc | apply pw_below_drewN | apply below_drew1) | exact HB.out)⟩⟩
              · rw [if_neg c11] at H
                exact absurd H (by simp)
          · rw [if_neg c6] at H
            exact absurd H (by simp)
        · rw [if_neg c5] at H
          have c5b0 : decide (x6_1 < (t101.length : Int)) = false := decide_eq_false c5
          clear c5
          simp only [Option.some.injEq, Prod.mk.injEq] at H
          obtain ⟨rfl, rfl⟩ := H
          obtain ⟨Ao15, co15, eo15⟩ := Kd.R_slice HO_4.out
          subst eo15
          go_wp2
          go_ret2
          exact ⟨_, by first | rfl | (simp [errW_none, errW_some] <;> rfl) | (simp [*, errW_none, errW_some] <;> rfl), by (with_reducible repeat (first | apply Kd.R_alloc | apply Kd.R_drewN | apply Kd.R_drew)); exact HO_5.out, by repeat (first | (with_reducible first | exact HB.out | apply below_alloc | apply pw_below_drewN | apply below_drew1) | exact HB.out)⟩

end Go.Proofs.YtdnfmilnkoocdaaDoor.Q

-- from Prng
/- Layer 2's reference on lists: Range, Sequence. -/
namespace Go.Proofs.YtdnfmilnkoocdaaDoor.K
set_option linter.unusedVariables false
set_option linter.unusedSimpArgs false
open Go.RowKit Go.Proofs.YtdnfmilnkoocdaaDoorW.PrintWords Go.Proofs.YtdnfmilnkoocdaaDoorW.PrintMore Go.Proofs.YtdnfmilnkoocdaaDoor.Q

/-- Where the first two dots stand. -/
def dots : List Int → Option Nat
  | x :: y :: l => if x = 46 ∧ y = 46 then some 0 else (dots (y :: l)).map (· + 1)
  | _ => none
theorem dots_lt : ∀ {L : List Int} {i : Nat}, dots L = some i → i + 2 ≤ L.length
  | [], i, h => by cases h
  | [x], i, h => by cases h
  | x :: y :: l, i, h => by
    unfold dots at h
    split at h
    · cases h; simp
    · obtain ⟨j, hj, rfl⟩ := Option.map_eq_some_iff.1 h
      have := dots_lt hj
      simp at this ⊢
      omega
def rangeE : Option Nat → Option Nat → Int × Int × Int
  | some a, some b => if b ≤ a then (0, 0, 14) else ((a : Int), (b : Int), 0)
  | _, _ => (0, 0, 13)
def rangeL (L : List Int) : Int × Int × Int :=
  match dots L with
  | none => (match pointL L with
    | none => (0, 0, 13)
    | some c => ((c : Int), (c : Int), 0))
  | some i => rangeE (pointL (L.take i)) (pointL (L.drop (i + 2)))
theorem index_dots : ∀ {L : List Int}, Oct L → Lib.index (Lib.bytesOf L) [46, 46] = (match dots L with | none => -1 | some i => (i : Int))
  | [], _ => rfl
  | [x], ho => by
    have hp : ([46, 46] : List UInt8).isPrefixOf (Lib.bytesOf [x]) = false := by simp [Lib.bytesOf, List.isPrefixOf]
    show Lib.index (_ :: []) _ = -1
    unfold Lib.index
    have hp' : ([46, 46] : List UInt8).isPrefixOf [UInt8.ofNat x.toNat] = false := hp
    rw [hp']
    rfl
  | x :: y :: l, ho => by
    have hx := u8_eq (ho x (by simp)) (y := 46) (by decide)
    have hy := u8_eq (ho y (by simp)) (y := 46) (by decide)
    rw [show UInt8.ofNat (46 : Int).toNat = 46 from rfl] at hx hy
    have ih := index_dots (L := y :: l) (fun z hz => ho z (by simp at hz ⊢; right; exact hz))
    show Lib.index (UInt8.ofNat x.toNat :: Lib.bytesOf (y :: l)) _ = _
    have hp : ([46, 46] : List UInt8).isPrefixOf (UInt8.ofNat x.toNat :: Lib.bytesOf (y :: l)) = decide (x = 46 ∧ y = 46) := by
      show ([46, 46] : List UInt8).isPrefixOf (UInt8.ofNat x.toNat :: UInt8.ofNat y.toNat :: Lib.bytesOf l) = _
      have hx' : ((46 : UInt8) == UInt8.ofNat x.toNat) = decide (x = 46) := by rw [← hx]; exact Bool.beq_comm
      have hy' : ((46 : UInt8) == UInt8.ofNat y.toNat) = decide (y = 46) := by rw [← hy]; exact Bool.beq_comm
      simp only [List.isPrefixOf, hx', hy', Bool.and_true]
      rw [Bool.eq_iff_iff]
      simp
    unfold Lib.index dots
    rw [hp, ih]
    by_cases h : x = 46 ∧ y = 46
    · rw [if_pos (decide_eq_true h), if_pos h]; rfl
    · rw [if_neg (by simpa using h), if_neg h]
      cases hd : dots (y :: l) with
      | none => rfl
      | some i =>
        have : ((i : Int) == -1) = false := beq_eq_false_iff_ne.mpr (by omega)
        simp [this]
theorem dots_step {L : List Int} {i : Nat} (h : i + 2 ≤ L.length) : dots (L.drop i) = if L[i] = 46 ∧ L[i + 1] = 46 then some 0 else (dots (L.drop (i + 1))).map (· + 1) := by
  rw [List.drop_eq_getElem_cons (by omega : i < L.length), List.drop_eq_getElem_cons (by omega : i + 1 < L.length)]
  rfl
theorem dots_short {L : List Int} (h : L.length < 2) : dots L = none := by
  match L, h with
  | [], _ => rfl
  | [x], _ => rfl
  | _ :: _ :: _, h => simp at h; omega
theorem refRange_end {L : List Int} (ho : Oct L) (hl : L.length ≤ 1000000) (at_ : Option Nat) (hat : ∀ i, at_ = some i → i + 2 ≤ L.length) (hd : dots L = at_) (m : Int) (hm : m = orNone at_) : Ev (fun k => paronymref02_Range.j1 k (strOfNums L) m) (rangeL L) := by
  have hz := size_str L
  unfold rangeL
  rw [hd]
  cases at_ with
  | none =>
    have hm' : m < 0 := by rw [hm]; decide
    refine Ev.step (fun k => rfl) (Ev.pos hm' (Ev.bind (refPoint_ev ho hl) ?_))
    cases hp : pointL L with
    | none => exact Ev.pos (by decide) (Ev.ret rfl)
    | some c => exact Ev.neg (by show ¬ (c : Int) < 0; omega) (Ev.ret rfl)
  | some i =>
    have hi := hat i rfl
    replace hm : m = (i : Int) := hm
    show Ev _ (rangeE (pointL (L.take i)) (pointL (L.drop (i + 2))))
    have e1 : (strOfNums L).extract 0 m.toNat = strOfNums (L.take i) := by rw [hm, Int.toNat_natCast, extract_str, List.drop_zero]
    have hw : wrap64 (m + 2) = ((i + 2 : Nat) : Int) := by rw [hm, w64 (by omega) (by omega)]; rfl
    have e2 : (strOfNums L).extract (((i + 2 : Nat) : Int)).toNat (strOfNums L).size = strOfNums (L.drop (i + 2)) := by rw [Int.toNat_natCast, extract_str, hz, List.take_length]
    have p1 := refPoint_ev (ho.take i) (by rw [List.length_take]; omega)
    have p2 := refPoint_ev (ho.drop (i + 2)) (by rw [List.length_drop]; omega)
    refine Ev.step (fun k => rfl) (Ev.neg (by omega) (Ev.pos (by omega) (Ev.pos (by omega) ?_)))
    rw [e1]
    refine Ev.bind p1 ?_
    rw [hw]
    refine Ev.pos (by omega) (Ev.pos (by omega) ?_)
    rw [e2]
    refine Ev.bind p2 ?_
    cases ha : pointL (L.take i) with
    | none => exact Ev.pos (by decide) (Ev.step (f := fun k => some ((0 : Int), (0 : Int), (13 : Int))) (fun k => rfl) (Ev.ret rfl))
    | some a =>
      refine Ev.neg (by show ¬ (a : Int) < 0; omega) ?_
      cases hb : pointL (L.drop (i + 2)) with
      | none => exact Ev.step (f := fun k => some ((0 : Int), (0 : Int), (13 : Int))) (fun k => rfl) (Ev.ret rfl)
      | some b =>
        rw [show decide (orNone (some b) < 0) = false from decide_eq_false (by show ¬ (b : Int) < 0; omega)]
        refine Ev.step (f := fun k => if orNone (some b) ≤ orNone (some a) then some ((0 : Int), (0 : Int), (14 : Int)) else some (orNone (some a), orNone (some b), 0)) (fun k => rfl) ?_
        by_cases hab : b ≤ a
        · exact Ev.pos (by show (b : Int) ≤ (a : Int); omega) (Ev.ret (by show _ = if b ≤ a then ((0 : Int), (0 : Int), (14 : Int)) else ((a : Int), (b : Int), 0); rw [if_pos hab]))
        · exact Ev.neg (by show ¬ (b : Int) ≤ (a : Int); omega) (Ev.ret (by show _ = if b ≤ a then ((0 : Int), (0 : Int), (14 : Int)) else ((a : Int), (b : Int), 0); rw [if_neg hab]; rfl))
theorem refRange_loop {L : List Int} (ho : Oct L) (hl : L.length ≤ 1000000) : ∀ (d i : Nat), L.length - i = d → i ≤ L.length → (dots L = (dots (L.drop i)).map (· + i)) → Ev (fun k => paronymref02_Range.l0 k (strOfNums L) (-1) (i : Int)) (rangeL L) := by
  intro d
  induction d with
  | zero =>
    intro i h1 h2 h3
    have hz := size_str L
    rw [List.drop_eq_nil_iff.2 (by omega)] at h3
    refine Ev.step (fun k => rfl) (Ev.neg (by rw [w64 (by omega) (by omega)]; omega) ?_)
    exact refRange_end ho hl none (fun i h => by cases h) h3 (-1) rfl
  | succ d ih =>
    intro i h1 h2 h3
    have hz := size_str L
    by_cases h4 : i + 2 ≤ L.length
    · have hb : bt (strOfNums L) (i : Int) = L[i] := by rw [bt_str ho (by omega) (by omega), rd_nat L i (by omega)]
      have hb2 : bt (strOfNums L) ((i + 1 : Nat) : Int) = L[i + 1] := by rw [bt_str ho (by omega) (by omega), rd_nat L (i + 1) (by omega)]
      have hw : wrap64 ((i : Int) + 1) = ((i + 1 : Nat) : Int) := by rw [w64 (by omega) (by omega)]; rfl
      have hst := dots_step h4
      have next : ¬ (L[i] = 46 ∧ L[i + 1] = 46) → Ev (fun k => paronymref02_Range.l0 k (strOfNums L) (-1) (wrap64 ((i : Int) + 1))) (rangeL L) := fun hn => by
        rw [hw]
        refine ih (i + 1) (by omega) (by omega) ?_
        rw [h3, hst, if_neg hn, Option.map_map]
        cases dots (L.drop (i + 1)) with
        | none => rfl
        | some j => simp; omega
      refine Ev.step (fun k => rfl) (Ev.pos (by rw [w64 (by omega) (by omega)]; omega) (Ev.pos (by omega) (Ev.pos (by omega) ?_)))
      by_cases h5 : L[i] = 46
      · refine Ev.pos (by rw [hb]; exact h5) (Ev.pos (by rw [hw]; omega) (Ev.pos (by rw [hw]; omega) ?_))
        by_cases h6 : L[i + 1] = 46
        · refine Ev.pos (by rw [hw, hb2]; exact h6) ?_
          have : dots L = some i := by rw [h3, hst, if_pos ⟨h5, h6⟩]; simp
          exact refRange_end ho hl (some i) (fun j h => by cases h; exact h4) this _ rfl
        · exact Ev.neg (by rw [hw, hb2]; exact h6) (next (fun h => h6 h.2))
      · exact Ev.neg (by rw [hb]; exact h5) (next (fun h => h5 h.1))
    · rw [dots_short (L := L.drop i) (by rw [List.length_drop]; omega)] at h3
      refine Ev.step (fun k => rfl) (Ev.neg (by rw [w64 (by omega) (by omega)]; omega) ?_)
      exact refRange_end ho hl none (fun i h => by cases h) h3 (-1) rfl
theorem refRange_ev {L : List Int} (ho : Oct L) (hl : L.length ≤ 1000000) : Ev (fun k => paronymref02_Range.f k (strOfNums L)) (rangeL L) :=
  refRange_loop ho hl _ 0 rfl (Nat.zero_le _) (by rw [List.drop_zero]; cases dots L <;> rfl)
/-! ## sequences -/
def seqF : List (List Int) → List Int → List Int × Int
  | [], acc => (acc, 0)
  | p :: r, acc => match pointL p with
    | none => ([], 13)
    | some c => seqF r (acc ++ [(c : Int)])
def seqL (L : List Int) : List Int × Int := if L = [] then ([], 0) else seqF (spl 32 L) []
theorem refSeq_loop {X : List (List Int)} (ho : ∀ l ∈ X, Oct l) (hl : ∀ l ∈ X, l.length ≤ 1000000) (hX : X.length ≤ 1000001) : ∀ (d i : Nat) (acc : List Int), X.length - i = d → i ≤ X.length → acc.length ≤ i → Ev (fun k => paronymref02_Sequence.l0 k (X.map strOfNums) acc (i : Int)) (seqF (X.drop i) acc) := by
  intro d
  induction d with
  | zero =>
    intro i acc h1 h2 h3
    rw [List.drop_eq_nil_iff.2 (by omega)]
    exact Ev.step (fun k => rfl) (Ev.neg (by rw [List.length_map]; omega) (Ev.ret rfl))
  | succ d ih =>
    intro i acc h1 h2 h3
    have hi : i < X.length := by omega
    have hp := refPoint_ev (ho _ (List.getElem_mem hi)) (hl _ (List.getElem_mem hi))
    rw [List.drop_eq_getElem_cons hi]
    refine Ev.step (fun k => rfl) (Ev.pos (by rw [List.length_map]; omega) (Ev.pos (by omega) ?_))
    rw [rdOf_map2 X i hi]
    refine Ev.bind hp ?_
    unfold seqF
    cases h : pointL X[i] with
    | none => exact Ev.pos (by decide) (Ev.ret rfl)
    | some c =>
      refine Ev.neg (by show ¬ (c : Int) < 0; omega) (Ev.pos (by omega) ?_)
      rw [w64 (by omega) (by omega)]
      exact ih (i + 1) (acc ++ [(c : Int)]) (by omega) (by omega) (by simp; omega)
theorem refSeq_ev {L : List Int} (ho : Oct L) (hl : L.length ≤ 1000000) : Ev (fun k => paronymref02_Sequence.f k (strOfNums L)) (seqL L) := by
  unfold seqL
  by_cases h : L = []
  · rw [if_pos h]
    exact Ev.pos (str_nilU.2 h) (Ev.ret rfl)
  · rw [if_neg h]
    refine Ev.neg (fun e => h (str_nilU.1 e)) (Ev.bind (cut_ev ho hl 32) ?_)
    have hc := splP_count (fun x => decide (x = (32 : Int))) L
    exact refSeq_loop (X := spl 32 L) (fun l hm => oct_spl ho hm) (fun l hm => by have := len_spl hm; omega) (by unfold spl; omega) _ 0 [] rfl (Nat.zero_le _) (Nat.zero_le _)
end Go.Proofs.YtdnfmilnkoocdaaDoor.K

-- from Hfpt
/- field.Point: the walk. -/
namespace Go.Proofs.YtdnfmilnkoocdaaDoor.Q
open Go.RowKit Go.Shelf Go.Proofs.YtdnfmilnkoocdaaDoorW.PrintWords Go.Proofs.YtdnfmilnkoocdaaDoorW.PrintLast Go.Proofs.YtdnfmilnkoocdaaDoorW.PrintMore Go.Proofs.YtdnfmilnkoocdaaDoor.K
set_option linter.unusedVariables false
set_option linter.unusedSimpArgs false

def orNo : Option Nat → Int
  | none => -1
  | some d => (d : Int)
theorem dIdx {x : Int} (h : 0 ≤ x ∧ x ≤ 255) : strings_IndexByte.f ⟨#[48, 49, 50, 51, 52, 53, 54, 55, 56, 57, 65, 66, 67, 68, 69, 70]⟩ x = some (orNo (hexV x)) := by
  obtain ⟨n, rfl⟩ := Int.eq_ofNat_of_zero_le h.1
  have hn : n < 256 := by omega
  have key : ∀ k : Fin 256, strings_IndexByte.f ⟨#[48, 49, 50, 51, 52, 53, 54, 55, 56, 57, 65, 66, 67, 68, 69, 70]⟩ (k.val : Int) = some (orNo (hexV (k.val : Int))) := by decide +kernel
  exact key ⟨n, hn⟩
theorem bits_or_i64_nat (a b : Nat) (ha : a < 9223372036854775808) (hb : b < 9223372036854775808) : bits .or .i64 (a : Int) (b : Int) = ((a ||| b : Nat) : Int) := by
  have hx : a ||| b < 2 ^ 63 := Nat.or_lt_two_pow (by omega) (by omega)
  have h1 : (BitVec.ofInt 64 (a : Int)).toNat = a := by
    rw [BitVec.ofInt_natCast, BitVec.toNat_ofNat]; exact Nat.mod_eq_of_lt (by omega)
  have h2 : (BitVec.ofInt 64 (b : Int)).toNat = b := by
    rw [BitVec.ofInt_natCast, BitVec.toNat_ofNat]; exact Nat.mod_eq_of_lt (by omega)
  show IntKind.i64.wrap ((BitVec.ofInt 64 (a : Int) ||| BitVec.ofInt 64 (b : Int)).toNat : Int) = _
  rw [BitVec.toNat_or, h1, h2]
  exact Go.IntWalk.i64_in _ (by omega)
theorem or_add (v d : Nat) (hd : d < 16) : (v * 16) ||| d = v * 16 + d := by
  have := Nat.two_pow_add_eq_or_of_lt (i := 4) (b := d) (by simpa using hd) v
  rw [Nat.mul_comm]
  exact this.symm
/-- What Point tells. -/
def pointR : Option Nat → Int × Int
  | none => (0, 13)
  | some v => ((v : Int), 0)
set_option maxHeartbeats 4000000 in
set_option maxRecDepth 100000 in
theorem field_Point.calls (L : List Int) (ho : Oct L) (hl : L.length ≤ 1000000) (w : World) (hE : EnvF w) :
    Calls Tryd.prog 35 #[.string (strOfNums L)] w fun e w' => e = .returned (.tuple #[.int .i64 (pointR (pointL L)).1, .int .i64 (pointR (pointL L)).2]) ∧ Below w.heap.size w w' := by
  have hz := size_str L
  obtain ⟨n, hn⟩ : ∃ n, n = L.length := ⟨_, rfl⟩
  rw [← hn] at hz
  obtain ⟨R, hR⟩ : ∃ R, R = pointL L := ⟨_, rfl⟩
  rw [← hR]
  rw [pointL_is] at hR
  have HO := Aside0.mk ho
  have HL := Aside0.mk hl
  have HE := Aside0.mk hE
  have HN := Aside0.mk hn
  by_cases h46 : L.length < 4 ∨ 6 < L.length
  · rw [if_pos h46] at hR
    subst hR
    have e0 : decide ((n : Int) < 4) = true ∨ (decide ((n : Int) < 4) = false ∧ decide ((6 : Int) < (n : Int)) = true) := by
      by_cases h4 : n < 4
      · exact .inl (decide_eq_true (by omega))
      · exact .inr ⟨decide_eq_false (by omega), decide_eq_true (by omega)⟩
    clear ho hl hE hn h46
    rcases e0 with e0 | ⟨e0, e1⟩
    · have e2 : ((n : Int) < 4) = True := eq_true (of_decide_eq_true e0)
      have e3 : (n < 4) = True := eq_true (by have := of_decide_eq_true e0; omega)
      go_enter Tryd.func35, Tryd.ntmps35
      go_wp2
      go_ret2
      exact ⟨rfl, Below.refl _ _⟩
    · have e2 : ((n : Int) < 4) = False := eq_false (of_decide_eq_false e0)
      have e3 : (n < 4) = False := eq_false (by have := of_decide_eq_false e0; omega)
      have e4 : ((6 : Int) < (n : Int)) = True := eq_true (of_decide_eq_true e1)
      have e5 : (6 < n) = True := eq_true (by have := of_decide_eq_true e1; omega)
      go_enter Tryd.func35, Tryd.ntmps35
      go_wp2
      go_ret2
      exact ⟨rfl, Below.refl _ _⟩
  · rw [if_neg h46] at hR
    have HR := Aside0.mk hR
    have HH := Aside0.mk h46
    have e0 : decide ((n : Int) < 4) = false := decide_eq_false (by omega)
    have e1 : decide ((6 : Int) < (n : Int)) = false := decide_eq_false (by omega)
    have e2 : ((n : Int) < 4) = False := eq_false (by omega)
    have e3 : (n < 4) = False := eq_false (by omega)
    have e4 : ((6 : Int) < (n : Int)) = False := eq_false (by omega)
    have e5 : (6 < n) = False := eq_false (by omega)
    clear ho hl hE hn h46 hR
    go_enter Tryd.func35, Tryd.ntmps35
    go_wp2
    clear e0 e1 e2 e3 e4 e5
    go_loopg [4, 17] (n + 1) (fun kq s4 s17 wr => ∃ i v : Nat, s17 = .int .i64 (i : Int) ∧ s4 = .int .i64 (v : Int) ∧ Aside0 (i + kq = n + 1 ∧ i ≤ n ∧ v < 16 ^ i ∧ valF 0 L = valF v (L.drop i)) ∧ Aside0 (Below w.heap.size w wr))
    case atStart => exact ⟨0, 0, rfl, rfl, ⟨by omega, by omega, by simp, by simp⟩, ⟨Below.refl _ _⟩⟩
    case round =>
      obtain ⟨i, v, rfl, rfl, HI, HB⟩ := hrel
      cases gk with
      | zero => exact absurd HI.out (by omega)
      | succ kq =>
      by_cases c1 : (i : Int) < (n : Int)
      · have hi : i < L.length := by have := HN.out; omega
        obtain ⟨x, hx⟩ : ∃ x, x = L[i] := ⟨_, rfl⟩
        have hox : 0 ≤ x ∧ x ≤ 255 := by rw [hx]; exact HO.out _ (List.getElem_mem hi)
        have hx12 : ∀ h : (i : Int).toNat < (strOfNums L).size, (((strOfNums L)[(i : Int).toNat]'h).toNat : Int) = x := fun h => by
          rw [bt_at (strOfNums L) (i : Int) h, bt_str HO.out (by omega) (by omega), rd_nat L i hi, hx]
        have hx13 : ∀ h : i < (strOfNums L).size, (((strOfNums L)[i]'h).toNat : Int) = x := fun h => hx12 h
        have e0 := eq_true c1
        have e1 : decide ((i : Int) < (n : Int)) = true := decide_eq_true c1
        have e2 : (i < n) = True := eq_true (by omega)
        have hstep : valF v (L.drop i) = (match hexV x with | none => none | some d => valF (v * 16 + d) (L.drop (i + 1))) := by
          rw [List.drop_eq_getElem_cons hi, hx]; rfl
        have HS := Aside0.mk hstep
        have HX := Aside0.mk hox
        have HV := Aside0.mk (dIdx hox)
        have hv6 : v < 16777216 := Nat.lt_of_lt_of_le HI.out.2.2.1 (Nat.pow_le_pow_right (n := 16) (by omega) (show i ≤ 6 by have := HH.out; have := HN.out; have := HI.out; omega))
        have HV6 := Aside0.mk hv6
        have HC1 := Aside0.mk hi
        clear c1 hi hx hox hstep hv6
        cases hv : hexV x with
        | none =>
          have HVN := Aside0.mk hv
          rw [hv] at HV
          have HV' : Aside0 (strings_IndexByte.f { data := #[48, 49, 50, 51, 52, 53, 54, 55, 56, 57, 65, 66, 67, 68, 69, 70] } x = some (-1)) := ⟨HV.out⟩
          have HRN : Aside0 (R = none) := ⟨by rw [HR.out, HI.out.2.2.2, HS.out, hv]; rfl⟩
          clear hv HV
          go_wp2_with (go_at_call 46; refine (strings_IndexByte.calls _ _ _ _ HV'.out).mono ?_; rintro e w2 ⟨rfl, ⟨m2, rfl⟩⟩)
          go_ret2
          rw [HRN.out]
          exact ⟨rfl, pw_below_drewN HB.out _⟩
        | some d =>
          have hd16 := hexV_lt hv
          rw [hv] at HV
          have HV' : Aside0 (strings_IndexByte.f { data := #[48, 49, 50, 51, 52, 53, 54, 55, 56, 57, 65, 66, 67, 68, 69, 70] } x = some (d : Int)) := ⟨HV.out⟩
          have HSN : Aside0 (valF v (L.drop i) = valF (v * 16 + d) (L.drop (i + 1))) := ⟨by rw [HS.out, hv]⟩
          have m1 : ((d : Int) < 0) = False := eq_false (by omega)
          have m2 : decide ((d : Int) < 0) = false := decide_eq_false (by omega)
          have hv6 := HV6.out
          have m3 : bits BinOp.or IntKind.i64 ((v : Int) * 16) (d : Int) = ((v * 16 + d : Nat) : Int) := by
            have := bits_or_i64_nat (v * 16) d (by omega) (by omega)
            rw [or_add v d hd16] at this
            rw [← this]; rfl
          have HD16 := Aside0.mk hd16
          have m4 : wrap64 ((v : Int) * 16) = (v : Int) * 16 := w64 (by omega) (by omega)
          have m5 : wrap64 ((i : Int) + 1) = (i : Int) + 1 := w64 (by omega) (by have := HI.out; have := HN.out; have := HH.out; omega)
          clear hv HV hd16 hv6
          go_wp2_with (go_at_call 46; refine (strings_IndexByte.calls _ _ _ _ HV'.out).mono ?_; rintro e w2 ⟨rfl, ⟨m2, rfl⟩⟩)
          go_roundg kq
          case measure => omega
          case rel =>
            have h1 := HI.out
            have h2 := HD16.out
            exact ⟨i + 1, v * 16 + d, by first | rfl | (rw [m5]; rfl), rfl, ⟨by omega, by have := HC1.out; have := HN.out; omega, by rw [Nat.pow_succ]; omega, by rw [h1.2.2.2]; exact HSN.out⟩, ⟨pw_below_drewN HB.out _⟩⟩
      · have hin : i = n := by have := HI.out; omega
        have e0 := eq_false c1
        have e1 : decide ((i : Int) < (n : Int)) = false := decide_eq_false c1
        have e2 : (i < n) = False := eq_false (by omega)
        have hRv : R = endP L (some v) := by
          rw [HR.out, HI.out.2.2.2, List.drop_eq_nil_iff.2 (by have := HN.out; omega)]; rfl
        by_cases c2 : 1114111 < v
        · have d0 : ((1114111 : Int) < (v : Int)) = True := eq_true (by omega)
          have d1 : decide ((1114111 : Int) < (v : Int)) = true := decide_eq_true (by omega)
          have d2 : (1114111 < v) = True := eq_true c2
          have HRN : Aside0 (R = none) := ⟨by rw [hRv]; unfold endP; simp only; rw [if_pos c2]⟩
          clear c1 hin hRv c2
          go_wp2
          go_ret2
          rw [HRN.out]
          exact ⟨rfl, HB.out⟩
        · have d0 : ((1114111 : Int) < (v : Int)) = False := eq_false (by omega)
          have d1 : decide ((1114111 : Int) < (v : Int)) = false := decide_eq_false (by omega)
          have d2 : (1114111 < v) = False := eq_false c2
          have HV := Aside0.mk (show v ≤ 1114111 by omega)
          have hEw : EnvF wr := HE.out.below HB.out
          have HEW := Aside0.mk hEw
          by_cases c3 : hexT v = L
          · have f2 : decide (strOfNums (hexT v) = strOfNums L) = true := decide_eq_true (by rw [c3])
            have f3 : ((strOfNums (hexT v)).toList == (strOfNums L).toList) = true := beq_iff_eq.mpr (by rw [c3])
            have f4 : ((strOfNums (hexT v)).toList != (strOfNums L).toList) = false := by rw [bne, f3]; rfl
            have HRN : Aside0 (R = some v) := ⟨by rw [hRv]; unfold endP; simp only; rw [if_neg c2, if_pos c3]⟩
            clear c1 hin hRv c2 hEw c3
            go_wp2_with (go_at_call 64; refine (text.calls v HV.out _ HEW.out).mono ?_; rintro e w2 ⟨rfl, hb⟩; have HB2 := Aside0.mk hb; clear hb)
            go_ret2
            rw [HRN.out]
            exact ⟨rfl, HB.out.trans (HB2.out.mono HB.out.size)⟩
          · have hne : strOfNums (hexT v) ≠ strOfNums L := fun e => c3 (str_inj (hexT_oct v HV.out) HO.out e)
            have hne2 : (strOfNums (hexT v)).toList ≠ (strOfNums L).toList := fun e => hne (toList_inj e)
            have f2 : decide (strOfNums (hexT v) = strOfNums L) = false := decide_eq_false hne
            have f3 : ((strOfNums (hexT v)).toList == (strOfNums L).toList) = false := beq_eq_false_iff_ne.mpr hne2
            have f4 : ((strOfNums (hexT v)).toList != (strOfNums L).toList) = true := by rw [bne, f3]; rfl
            have HRN : Aside0 (R = none) := ⟨by rw [hRv]; unfold endP; simp only; rw [if_neg c2, if_neg c3]⟩
            clear c1 hin hRv c2 hEw c3 hne hne2
            go_wp2_with (go_at_call 64; refine (text.calls v HV.out _ HEW.out).mono ?_; rintro e w2 ⟨rfl, hb⟩; have HB2 := Aside0.mk hb; clear hb)
            go_ret2
            rw [HRN.out]
            exact ⟨rfl, HB.out.trans (HB2.out.mono HB.out.size)⟩
end Go.Proofs.YtdnfmilnkoocdaaDoor.Q

-- from Hfrg
/- field.Range: the walk. -/
namespace Go.Proofs.YtdnfmilnkoocdaaDoor.Q
open Go.RowKit Go.Shelf Go.Proofs.YtdnfmilnkoocdaaDoorW.PrintWords Go.Proofs.YtdnfmilnkoocdaaDoorW.PrintLast Go.Proofs.YtdnfmilnkoocdaaDoorW.PrintMore Go.Proofs.YtdnfmilnkoocdaaDoor.K
set_option linter.unusedVariables false
set_option linter.unusedSimpArgs false

theorem sCut2.calls (L : List Int) (ho : Oct L) (hl : L.length ≤ 1000000) (w : World) (hE : EnvF w) : Calls Tryd.prog 66 #[.string (strOfNums L), .string ⟨#[46, 46]⟩] w fun e w' =>
    e = .returned (match dots L with
      | none => .tuple #[.string (strOfNums L), .string (strOfNums []), .bool false]
      | some i => .tuple #[.string (strOfNums (L.take i)), .string (strOfNums (L.drop (i + 2))), .bool true]) ∧ Below w.heap.size w w' := by
  obtain ⟨⟨m, hm⟩, _⟩ := hE
  refine (Any.strings_Cut Tryd.lays145 (strOfNums L) ⟨#[46, 46]⟩ m w (by rw [size_str]; omega) hm).mono ?_
  rintro e w' ⟨rfl, n, rfl⟩
  refine ⟨?_, pw_below_drewN (Below.refl _ _) n⟩
  have hi := index_dots ho
  rw [show (⟨#[46, 46]⟩ : ByteArray).data.toList = [46, 46] from rfl, str_data]
  unfold Lib.cut
  cases hd : dots L with
  | none =>
    rw [hd] at hi
    rw [if_neg (by rw [hi]; decide)]
    simp only [str_of_bytes]
    rfl
  | some i =>
    rw [hd] at hi
    rw [if_pos (by rw [hi]; simp), hi]
    simp only [Int.toNat_natCast]
    have e1 : (⟨((Lib.bytesOf L).take i).toArray⟩ : ByteArray) = strOfNums (L.take i) := by rw [← str_of_bytes, Lib.bytesOf_take]
    have e2 : (⟨((Lib.bytesOf L).drop (i + ([46, 46] : List UInt8).length)).toArray⟩ : ByteArray) = strOfNums (L.drop (i + 2)) := by rw [← str_of_bytes]; simp [Lib.bytesOf, List.map_drop]
    rw [e1, e2]
set_option maxHeartbeats 1000000 in
set_option maxRecDepth 100000 in
theorem range_bad (s s1 s2 : ByteArray) (w : World) (HE : Aside0 (EnvF w)) (two : Bool) (HCUT : Aside0 (Calls Tryd.prog 66 #[.string s, .string ⟨#[46, 46]⟩] w fun e w' => e = .returned (.tuple #[.string s1, .string s2, .bool two]) ∧ Below w.heap.size w w')) (HPT : Aside0 (∀ w : World, EnvF w → Calls Tryd.prog 35 #[.string s1] w fun e w' => e = .returned (.tuple #[.int .i64 (pointR none).1, .int .i64 (pointR none).2]) ∧ Below w.heap.size w w')) :
    Calls Tryd.prog 37 #[.string s] w fun e w' => e = .returned (.tuple #[.int .i64 0, .int .i64 0, .int .i64 13]) ∧ Below w.heap.size w w' := by
  go_enter Tryd.func37, Tryd.ntmps37
  go_wp2_with (first
    | (go_at_call 66; refine HCUT.out.mono ?_; rintro e w1 ⟨rfl, hb⟩; have HB := Aside0.mk hb; clear hb)
    | (go_at_call 35; (with_reducible refine (HPT.out _ (HE.out.below HB.out)).mono ?_); rintro e w2 ⟨rfl, hb⟩; have HB2 := Aside0.mk hb; clear hb; dsimp only [pointR]))
  go_ret3
  exact ⟨rfl, HB.out.trans (HB2.out.mono HB.out.size)⟩
set_option maxHeartbeats 1000000 in
set_option maxRecDepth 100000 in
theorem range_one (s s1 s2 : ByteArray) (w : World) (HE : Aside0 (EnvF w)) (c : Nat) (HCUT : Aside0 (Calls Tryd.prog 66 #[.string s, .string ⟨#[46, 46]⟩] w fun e w' => e = .returned (.tuple #[.string s1, .string s2, .bool false]) ∧ Below w.heap.size w w')) (HPT : Aside0 (∀ w : World, EnvF w → Calls Tryd.prog 35 #[.string s1] w fun e w' => e = .returned (.tuple #[.int .i64 (pointR (some c)).1, .int .i64 (pointR (some c)).2]) ∧ Below w.heap.size w w')) :
    Calls Tryd.prog 37 #[.string s] w fun e w' => e = .returned (.tuple #[.int .i64 (c : Int), .int .i64 (c : Int), .int .i64 0]) ∧ Below w.heap.size w w' := by
  go_enter Tryd.func37, Tryd.ntmps37
  go_wp2_with (first
    | (go_at_call 66; refine HCUT.out.mono ?_; rintro e w1 ⟨rfl, hb⟩; have HB := Aside0.mk hb; clear hb)
    | (go_at_call 35; (with_reducible refine (HPT.out _ (HE.out.below HB.out)).mono ?_); rintro e w2 ⟨rfl, hb⟩; have HB2 := Aside0.mk hb; clear hb; dsimp only [pointR]))
  go_ret3
  exact ⟨rfl, HB.out.trans (HB2.out.mono HB.out.size)⟩
set_option maxHeartbeats 1000000 in
set_option maxRecDepth 100000 in
theorem range_bad2 (s s1 s2 : ByteArray) (w : World) (HE : Aside0 (EnvF w)) (a : Nat) (HCUT : Aside0 (Calls Tryd.prog 66 #[.string s, .string ⟨#[46, 46]⟩] w fun e w' => e = .returned (.tuple #[.string s1, .string s2, .bool true]) ∧ Below w.heap.size w w')) (HPT : Aside0 (∀ w : World, EnvF w → Calls Tryd.prog 35 #[.string s1] w fun e w' => e = .returned (.tuple #[.int .i64 (pointR (some a)).1, .int .i64 (pointR (some a)).2]) ∧ Below w.heap.size w w')) (HPT2 : Aside0 (∀ w : World, EnvF w → Calls Tryd.prog 35 #[.string s2] w fun e w' => e = .returned (.tuple #[.int .i64 (pointR none).1, .int .i64 (pointR none).2]) ∧ Below w.heap.size w w')) :
    Calls Tryd.prog 37 #[.string s] w fun e w' => e = .returned (.tuple #[.int .i64 0, .int .i64 0, .int .i64 13]) ∧ Below w.heap.size w w' := by
  go_enter Tryd.func37, Tryd.ntmps37
  go_wp2_with (first
    | (go_at_call 66; refine HCUT.out.mono ?_; rintro e w1 ⟨rfl, hb⟩; have HB := Aside0.mk hb; clear hb)
    | (go_at_call 35; (with_reducible refine (HPT.out _ (HE.out.below HB.out)).mono ?_); rintro e w2 ⟨rfl, hb⟩; have HB2 := Aside0.mk hb; clear hb; dsimp only [pointR])
    | (go_at_call 35; (with_reducible refine (HPT2.out _ ((HE.out.below HB.out).below HB2.out)).mono ?_); rintro e w3 ⟨rfl, hb⟩; have HB3 := Aside0.mk hb; clear hb; dsimp only [pointR]))
  go_ret3
  exact ⟨rfl, HB.out.trans ((HB2.out.mono HB.out.size).trans (HB3.out.mono (Nat.le_trans HB.out.size HB2.out.size)))⟩
set_option maxHeartbeats 1000000 in
set_option maxRecDepth 100000 in
theorem range_down (s s1 s2 : ByteArray) (w : World) (HE : Aside0 (EnvF w)) (a b : Nat) (h : b ≤ a) (HCUT : Aside0 (Calls Tryd.prog 66 #[.string s, .string ⟨#[46, 46]⟩] w fun e w' => e = .returned (.tuple #[.string s1, .string s2, .bool true]) ∧ Below w.heap.size w w')) (HPT : Aside0 (∀ w : World, EnvF w → Calls Tryd.prog 35 #[.string s1] w fun e w' => e = .returned (.tuple #[.int .i64 (pointR (some a)).1, .int .i64 (pointR (some a)).2]) ∧ Below w.heap.size w w')) (HPT2 : Aside0 (∀ w : World, EnvF w → Calls Tryd.prog 35 #[.string s2] w fun e w' => e = .returned (.tuple #[.int .i64 (pointR (some b)).1, .int .i64 (pointR (some b)).2]) ∧ Below w.heap.size w w')) :
    Calls Tryd.prog 37 #[.string s] w fun e w' => e = .returned (.tuple #[.int .i64 0, .int .i64 0, .int .i64 14]) ∧ Below w.heap.size w w' := by
  have e0 : ((b : Int) ≤ (a : Int)) = True := eq_true (by omega)
  have e1 : decide ((b : Int) ≤ (a : Int)) = true := decide_eq_true (by omega)
  have e2 : (b ≤ a) = True := eq_true h
  clear h
  go_enter Tryd.func37, Tryd.ntmps37
  go_wp2_with (first
    | (go_at_call 66; refine HCUT.out.mono ?_; rintro e w1 ⟨rfl, hb⟩; have HB := Aside0.mk hb; clear hb)
    | (go_at_call 35; (with_reducible refine (HPT.out _ (HE.out.below HB.out)).mono ?_); rintro e w2 ⟨rfl, hb⟩; have HB2 := Aside0.mk hb; clear hb; dsimp only [pointR])
    | (go_at_call 35; (with_reducible refine (HPT2.out _ ((HE.out.below HB.out).below HB2.out)).mono ?_); rintro e w3 ⟨rfl, hb⟩; have HB3 := Aside0.mk hb; clear hb; dsimp only [pointR]))
  go_ret3
  exact ⟨rfl, HB.out.trans ((HB2.out.mono HB.out.size).trans (HB3.out.mono (Nat.le_trans HB.out.size HB2.out.size)))⟩
set_option maxHeartbeats 1000000 in
set_option maxRecDepth 100000 in
theorem range_two (s s1 s2 : ByteArray) (w : World) (HE : Aside0 (EnvF w)) (a b : Nat) (h : ¬ b ≤ a) (HCUT : Aside0 (Calls Tryd.prog 66 #[.string s, .string ⟨#[46, 46]⟩] w fun e w' => e = .returned (.tuple #[.string s1, .string s2, .bool true]) ∧ Below w.heap.size w w')) (HPT : Aside0 (∀ w : World, EnvF w → Calls Tryd.prog 35 #[.string s1] w fun e w' => e = .returned (.tuple #[.int .i64 (pointR (some a)).1, .int .i64 (pointR (some a)).2]) ∧ Below w.heap.size w w')) (HPT2 : Aside0 (∀ w : World, EnvF w → Calls Tryd.prog 35 #[.string s2] w fun e w' => e = .returned (.tuple #[.int .i64 (pointR (some b)).1, .int .i64 (pointR (some b)).2]) ∧ Below w.heap.size w w')) :
    Calls Tryd.prog 37 #[.string s] w fun e w' => e = .returned (.tuple #[.int .i64 (a : Int), .int .i64 (b : Int), .int .i64 0]) ∧ Below w.heap.size w w' := by
  have e0 : ((b : Int) ≤ (a : Int)) = False := eq_false (by omega)
  have e1 : decide ((b : Int) ≤ (a : Int)) = false := decide_eq_false (by omega)
  have e2 : (b ≤ a) = False := eq_false h
  clear h
  go_enter Tryd.func37, Tryd.ntmps37
  go_wp2_with (first
    | (go_at_call 66; refine HCUT.out.mono ?_; rintro e w1 ⟨rfl, hb⟩; have HB := Aside0.mk hb; clear hb)
    | (go_at_call 35; (with_reducible refine (HPT.out _ (HE.out.below HB.out)).mono ?_); rintro e w2 ⟨rfl, hb⟩; have HB2 := Aside0.mk hb; clear hb; dsimp only [pointR])
    | (go_at_call 35; (with_reducible refine (HPT2.out _ ((HE.out.below HB.out).below HB2.out)).mono ?_); rintro e w3 ⟨rfl, hb⟩; have HB3 := Aside0.mk hb; clear hb; dsimp only [pointR]))
  go_ret3
  exact ⟨rfl, HB.out.trans ((HB2.out.mono HB.out.size).trans (HB3.out.mono (Nat.le_trans HB.out.size HB2.out.size)))⟩
theorem field_Range.calls (L : List Int) (ho : Oct L) (hl : L.length ≤ 1000000) (w : World) (hE : EnvF w) :
    Calls Tryd.prog 37 #[.string (strOfNums L)] w fun e w' => e = .returned (.tuple #[.int .i64 (rangeL L).1, .int .i64 (rangeL L).2.1, .int .i64 (rangeL L).2.2]) ∧ Below w.heap.size w w' := by
  have hcut := sCut2.calls L ho hl w hE
  unfold rangeL
  cases hd : dots L with
  | none =>
    rw [hd] at hcut
    have hpt := fun w hE => field_Point.calls L ho hl w hE
    cases hp : pointL L with
    | none => rw [hp] at hpt; exact range_bad _ _ _ w ⟨hE⟩ false ⟨hcut⟩ ⟨hpt⟩
    | some c => rw [hp] at hpt; exact range_one _ _ _ w ⟨hE⟩ c ⟨hcut⟩ ⟨hpt⟩
  | some i =>
    rw [hd] at hcut
    have hpt := fun w hE => field_Point.calls (L.take i) (ho.take i) (by rw [List.length_take]; omega) w hE
    have hpt2 := fun w hE => field_Point.calls (L.drop (i + 2)) (ho.drop (i + 2)) (by rw [List.length_drop]; omega) w hE
    show Calls _ _ _ _ fun e w' => e = .returned (.tuple #[.int .i64 (rangeE (pointL (L.take i)) (pointL (L.drop (i + 2)))).1, .int .i64 (rangeE (pointL (L.take i)) (pointL (L.drop (i + 2)))).2.1, .int .i64 (rangeE (pointL (L.take i)) (pointL (L.drop (i + 2)))).2.2]) ∧ _
    cases hp : pointL (L.take i) with
    | none =>
      rw [hp] at hpt
      have e : rangeE none (pointL (L.drop (i + 2))) = (0, 0, 13) := by cases pointL (L.drop (i + 2)) <;> rfl
      rw [e]
      exact range_bad _ _ _ w ⟨hE⟩ true ⟨hcut⟩ ⟨hpt⟩
    | some a =>
      rw [hp] at hpt
      cases hq : pointL (L.drop (i + 2)) with
      | none => rw [hq] at hpt2; exact range_bad2 _ _ _ w ⟨hE⟩ a ⟨hcut⟩ ⟨hpt⟩ ⟨hpt2⟩
      | some b =>
        rw [hq] at hpt2
        by_cases hab : b ≤ a
        · have e : rangeE (some a) (some b) = (0, 0, 14) := by show (if b ≤ a then _ else _) = _; rw [if_pos hab]
          rw [e]
          exact range_down _ _ _ w ⟨hE⟩ a b hab ⟨hcut⟩ ⟨hpt⟩ ⟨hpt2⟩
        · have e : rangeE (some a) (some b) = ((a : Int), (b : Int), 0) := by show (if b ≤ a then _ else _) = _; rw [if_neg hab]
          rw [e]
          exact range_two _ _ _ w ⟨hE⟩ a b hab ⟨hcut⟩ ⟨hpt⟩ ⟨hpt2⟩
end Go.Proofs.YtdnfmilnkoocdaaDoor.Q

-- from Hrrg
/- A region that draws its order, inside a round of a range over a function: the laws for regions outside of a fence serve there too. -/
namespace Go.Proofs.YtdnfmilnkoocdaaDoor.Q
open Go.RowKit Go.Shelf Go.Proofs.YtdnfmilnkoocdaaDoorW.PrintWords Go.Proofs.YtdnfmilnkoocdaaDoorW.PrintLast Go.Proofs.YtdnfmilnkoocdaaDoorW.PrintMore
set_option linter.unusedVariables false
set_option linter.unusedSimpArgs false

theorem rowsIn_wide {n : Nat} {P : Program} {row : String} {args : Array Value} {w : World} {R : Value → World → Prop} (h : Rows P row args w R) : RowsIn Fence.wide n P row args w R :=
  fun c cs _ => let ⟨v, w', r, s⟩ := h c cs; ⟨v, w', r, stepsIn_wide.2 s⟩
theorem wpOpIn_of_any {n : Nat} {P : Program} {ops : Array Oper} {Q : Exit → Act → World → Prop} (hQ : ¬ LetsOut Q) {i : Nat} {K K' : Act → World → Prop} (hK : ∀ a w, K a w → K' a w) {a : Act} {w : World} (h : wpOp P ops Q i K a w) : wpOpIn Fence.wide n P ops Q i K' a w := by
  unfold Go.wpOp at h
  unfold Go.wpOpIn
  cases ho : ops[i]? with
  | none => rw [ho] at h; exact hK _ _ h
  | some o =>
    rw [ho] at h
    simp only at h ⊢
    by_cases hw : Region.wanted o (yielded ops a.tmps) = true
    · rw [if_pos hw] at h ⊢
      rcases h with h | ⟨_, h⟩
      · refine ⟨fun _ _ => trivial, ?_⟩
        unfold Oper.wp at h
        rw [show Fence.wide.round = none from rfl, Oper.semAt_none]
        generalize (execOp a.eval o).run P w = r at h ⊢
        cases r with
        | ok nx w1 =>
          cases nx with
          | value v => exact hK _ _ h
          | skip => exact hK _ _ h
          | defer d => exact hK _ _ h
          | enter f args =>
            refine ⟨(fun e => by cases e), callsIn_wide.2 (Calls.mono h ?_)⟩
            intro e w2 he
            cases e with
            | returned v => exact hK _ _ he
            | panicked c => exact he
            | outgrown => exact he
          | row rw_ args => exact ⟨(fun e => by cases e), rowsIn_wide (Rows.mono h (fun v w2 hv => hK _ _ hv))⟩
          | _ => exact h.elim
        | halt x w1 =>
          cases x <;> first | exact h | exact h.elim
      · exact absurd h hQ
    · rw [if_neg hw] at h ⊢
      exact ⟨fun _ _ => trivial, hK _ _ h⟩
theorem wpAnyIn_of_any {n : Nat} {P : Program} {md : Region.Mode} {ops : Array Oper} {Q : Exit → Act → World → Prop} (hQ : ¬ LetsOut Q) : ∀ (fuel : Nat) (listed : Array Bool) (a : Act) (w : World), wpAny P md ops Q fuel listed a w → wpAnyIn Fence.wide n P md ops Q fuel listed a w
  | 0, _, _, _, h => h
  | fuel + 1, _, _, _, h => ⟨h.1, fun i hi => wpOpIn_of_any hQ (fun a' w' h' => wpAnyIn_of_any hQ fuel _ a' w' h') (h.2 i hi)⟩
/-- Behind the region nothing but what comes next, in the state that K tells. -/
def onlyK (K : Act → World → Prop) : Exit → Act → World → Prop
  | .normal, a, w => K a w
  | _, _, _ => False
/-- In a round: a region that draws. -/
theorem wpIn_region_round {n l id : Nat} {P : Program} {ops : Array Oper} {Q : Exit → Act → World → Prop} {a : Act} {w : World} (hm : P.follows .mixedOrders = true) (hno : noDefer ops = true)
    (h : wpAny P .any ops (onlyK (Q .normal)) ops.size (Array.replicate ops.size false) a w.drew) : (Code.region id ops true).wpIn (Fence.wide.inRound l) n P Q a w := by
  refine wpIn_mono (Q := onlyK (Q .normal)) ?_ (fun e a w he => by cases e <;> first | exact he | exact he.elim)
  exact wpIn_region_any hm (wpAnyIn_round rfl hno _ _ _ _ (wpAnyIn_of_any (fun ⟨_, _, h⟩ => h) _ _ _ _ h))
/-- The same by the held laws. -/
theorem wpIn_region_round_held {n l id : Nat} {P : Program} {ops : Array Oper} {Q : Exit → Act → World → Prop} {a : Act} {w : World} (S : World → Prop) (hm : P.follows .mixedOrders = true) (hno : noDefer ops = true)
    (h : wpAnyH P .any ops (onlyK (Q .normal)) S ops.size (Array.replicate ops.size false) a w.drew) : (Code.region id ops true).wpIn (Fence.wide.inRound l) n P Q a w :=
  wpIn_region_round hm hno (wpAny_of_held _ _ _ _ h)
end Go.Proofs.YtdnfmilnkoocdaaDoor.Q

-- from Hlit
namespace Go.Proofs.YtdnfmilnkoocdaaDoor.Q
open Go.RowKit Go.Proofs.YtdnfmilnkoocdaaDoorW.PrintWords Go.Proofs.YtdnfmilnkoocdaaDoorW.PrintLast Go.Proofs.YtdnfmilnkoocdaaDoorW.PrintMore
set_option linter.unusedVariables false

/-- A literal of octets, '[]byte("..")'. -/
def bytesLit.f (l : List Int) : Option (List Int) := some l

theorem bytesLit.cells {W : World} {e : Nat} {xs : List Int} {C : Array Value} {p : Nat × Nat} {g : Nat} (hC : C = (xs.map (Value.int .u8)).toArray) (hl : xs.length ≤ 9223372036854775807) (h : W.heap[g]? = some (.cells C e p)) :
    Kd.C (Kd.int .u8) W (some ⟨g, 0, none⟩) xs.length xs := by
  refine Kd.C_of_reads (d := (0 : Int)) ⟨rfl, hl, fun _ => ⟨_, rfl, fun j hj => ?_⟩⟩
  rw [add_plain, cell_of_row W g j C e p h, hC]
  simp [List.getD_eq_getElem?_getD, List.getElem?_eq_getElem hj]

theorem bytesLit.step {P : Program} {W : World} {ops : Array Oper} {rest : List Oper} {o : Oper} {a : Act} {Q : Exit → Act → World → Prop} {C : Array Value} {n c : Nat} (t e : TypeId) (s : Operand) (xs r : List Int) (h : bytesLit.f xs = some r)
    (hgd : o.guard = none) (hop : o.op = .convert t t s) (hs : a.eval s = .slice (some ⟨W.heap.size, 0, none⟩) n c) (ht : P.underlying t = some (.slice e)) (he : P.underlying e = some (.int .u8))
    (hC : C = (xs.map (Value.int .u8)).toArray) (hn : n = xs.length) (hc : n ≤ c) (hl : xs.length ≤ 9223372036854775807)
    (hk : ∀ v w1, Kd.V (Kd.int .u8) e w1 W.heap.size (fun k => W.heap.size ≤ k) v r → Below W.heap.size W w1 → wpList P ops Q rest (a.put o.dst v) w1) :
    wpList P ops Q (o :: rest) a (W.alloc (.cells C e)) := by
  obtain rfl := Option.some.inj h
  have hr := Lib.run_convert_bytes_const (P := P) W t e C n c ht he
  refine wpList_plain hgd fun K hK => ?_
  unfold Oper.wp execOp
  simp only [hop, hs]
  have hr2 : (do let v ← convert t t (.slice (some ⟨W.heap.size, 0, none⟩) n c); pure (Next.value v) : Sem Next).run P (W.alloc (.cells C e)) = .ok (.value (.slice (some ⟨W.heap.size, 0, none⟩) n c)) (W.alloc (.cells C e (C.size, C.size + 1))) := by
    rw [Sem.run_bind, hr]; rfl
  first | rw [hr2] | (simp only [Sem.run_bind, hr, Sem.run_pure, Result.andThen_ok]) 
  refine hK _ _ (hk _ _ ?_ ((Below.refl _ W).alloc (Nat.le_refl _) _))
  subst hn
  refine Kd.V_mk hc (fun W' hW => ?_)
  refine bytesLit.cells hC hl (e := e) (p := (C.size, C.size + 1)) ?_
  rw [hW W.heap.size (Nat.le_refl _) (by simp)]
  exact heap_alloc_new W _

end Go.Proofs.YtdnfmilnkoocdaaDoor.Q

-- from Hfaw
/- Layer 2's law: awake. -/
namespace Go.Proofs.YtdnfmilnkoocdaaDoor.Q
open Go.RowKit Go.Shelf Go.Proofs.YtdnfmilnkoocdaaDoorW.PrintWords Go.Proofs.YtdnfmilnkoocdaaDoorW.PrintLast Go.Proofs.YtdnfmilnkoocdaaDoorW.PrintMore Go.Proofs.YtdnfmilnkoocdaaDoor.K
set_option linter.unusedVariables false
set_option linter.unusedSimpArgs false
attribute [local go_sem] Oper.semAt_some

def aw2R : List Int := [48, 48, 52, 49, 46, 46, 48, 48, 53, 65]
def aw2L : List Int := [48, 48, 52, 49, 46, 46, 48, 48, 53, 65, 32, 59, 32, 80, 86, 65, 76, 73, 68, 32, 35, 32, 108, 101, 116, 116, 101, 114, 115, 10]
theorem aw2R_oct : Oct aw2R := fun x hx => by simp only [aw2R, List.mem_cons, List.not_mem_nil, or_false] at hx; omega
theorem aw2L_oct : Oct aw2L := fun x hx => by simp only [aw2L, List.mem_cons, List.not_mem_nil, or_false] at hx; omega
theorem hexT65 : hexT 65 = [48, 48, 52, 49] := by
  unfold hexT
  rw [hexL_step (by omega), hexL_one (by omega)]
  decide
theorem hexT90 : hexT 90 = [48, 48, 53, 65] := by
  unfold hexT
  rw [hexL_step (by omega), hexL_one (by omega)]
  decide
theorem aw2_range : rangeL aw2R = (65, 90, 0) := by
  have hd : dots aw2R = some 4 := by decide
  have h1 : pointL (aw2R.take 4) = some 65 := by
    rw [pointL_is, if_neg (by decide), show valF 0 (aw2R.take 4) = some 65 from by decide]
    unfold endP
    simp only
    rw [if_neg (by decide), if_pos (by rw [hexT65]; decide)]
  have h2 : pointL (aw2R.drop (4 + 2)) = some 90 := by
    rw [pointL_is, if_neg (by decide), show valF 0 (aw2R.drop (4 + 2)) = some 90 from by decide]
    unfold endP
    simp only
    rw [if_neg (by decide), if_pos (by rw [hexT90]; decide)]
  unfold rangeL
  rw [hd]
  simp only
  rw [h1, h2]
  decide
def aw2F : List (List Int) := [aw2R, [80, 86, 65, 76, 73, 68]]
theorem aw2_lines : linesI 0 (spl 10 aw2L) = [(1, aw2F)] := by decide +kernel
set_option maxHeartbeats 4000000 in
set_option maxRecDepth 100000 in
theorem paronymlaw02_awake.calls0 (w : World) (hE : EnvF w) : Calls Tryd.prog 32 #[] w fun e w' => e = .returned (.bool true) ∧ Below w.heap.size w w' := by
  have HE := Aside0.mk hE
  have hr := fun w hE => field_Range.calls aw2R aw2R_oct (by decide) w hE
  rw [aw2_range] at hr
  have HR := Aside0.mk hr
  have hcv : ∀ (W : World) (C : Array Value) (n c : Nat), (convert 22 22 (.slice (some ⟨W.heap.size, 0, none⟩) n c)).run Tryd.prog (W.alloc (.cells C 5)) = _ := fun W C n c => Lib.run_convert_bytes_const (P := Tryd.prog) W 22 5 C n c Tryd.underlying22 Tryd.underlying5
  clear hE hr
  refine (callsIn_wide (n := 20)).1 ?_
  refine callsIn_of_wp_marks Tryd.func32 rfl trivial ?_ rfl
  simp only [Tryd.ntmps32, List.size_toArray, List.length_cons, List.length_nil, Nat.reduceAdd, Nat.reduceSub, Array.replicate_succ, Array.replicate_zero, List.push_toArray, List.append_toArray, List.nil_append, List.cons_append]
  refine wpIn_wide.2 ?_
  go_wp2_with (first
    | (go_at_call 37; refine (HR.out _ HE.out).mono ?_; rintro e w1 ⟨rfl, hb⟩; have HB := Aside0.mk hb; clear hb)
    | ((with_reducible refine gate_dst (N := 22) rfl ?_); (try (refine gate_guard (by rfl) ?_; dsimp only)); refine bytesLit.step 22 5 _ aw2L aw2L rfl rfl rfl (by rw [World.size_alloc]; rfl) Tryd.underlying22 Tryd.underlying5 rfl rfl (by decide) (by decide) ?_; intro v1 w2 hv1 hb2; have HV1 := Aside0.mk hv1; have HB2 := Aside0.mk hb2; clear hv1 hb2)
    | (go_at_call 34
       obtain ⟨A1, c1, rfl⟩ := Kd.V_slice HV1.out
       obtain ⟨-, hc1, hC1⟩ := Kd.V_reads' HV1.out
       have hE1 : EnvF w1 := HE.out.below HB.out
       have hb1 : Below w1.heap.size w1 w2 := ((Below.refl _ w1).alloc (Nat.le_refl _) _).trans (HB2.out.mono (by simp))
       have hn1 : Boxed w2 w1.heap.size 3 (.int .i64 0) := (HB2.out.block _ (by simp)).trans (Boxed.new w1 3 (.int .i64 0))
       refine (field_Lines.calls A1 c1 aw2L aw2L_oct (by decide) w2 (hE1.below hb1) hC1 hc1).mono ?_
       rintro e w3 ⟨g, gb, rfl, hg0, hgb0, hg, hgb, hb3⟩
       have hb : Below w1.heap.size w1 w3 := hb1.trans (hb3.mono hb1.size)
       have hlt1 : w1.heap.size < w2.heap.size := hn1.lt
       have hn3 : Boxed w3 w1.heap.size 3 (.int .i64 0) := (hb3.block _ hlt1).trans hn1
       have HG := Aside0.mk (And.intro hg0 hgb0)
       have HLT := Aside0.mk hlt1
       have HS3 := Aside0.mk hg
       have HX3 := Aside0.mk hgb
       have HB3 := Aside0.mk hb
       have HN3 := Aside0.mk hn3
       have HE3 := Aside0.mk (hE1.below hb)
       clear hg0 hgb0 hg hgb hb3 hb hn3 hn1 hb1 hE1 hc1 hC1 hlt1 HV1))
  have hsz := HB.out.size
  have HB0 := Aside0.mk HB.out
  have hE0 := HE.out
  obtain ⟨⟨m0, hm0⟩, hm6⟩ := hE0
  have lt_of : ∀ (b i : Nat) (v : Value), w.cell? ⟨b, i, none⟩ = some v → b < w.heap.size := fun b i v h => by
    unfold World.cell? at h
    by_cases hb : b < w.heap.size
    · exact hb
    · simp only [Array.getElem?_eq_none (Nat.le_of_not_lt hb)] at h; cases h
  have h0 := lt_of _ _ _ hm0
  have h6 := lt_of _ _ _ hm6
  have hst := field_Lines.stops aw2L aw2L_oct (by decide) g gb w3 (fun k => k = w1.heap.size) HE3.out (fun e => by omega) (fun e => by omega) (fun e => by have := HG.out.1; have := HLT.out; omega) HS3.out HX3.out 19 (by omega)
  have HST := Aside0.mk hst
  clear hst hcv hm0 hm6 lt_of h0 h6 hsz
  refine (wpIn_wide (n := 20)).1 ?_
  refine wpIn_range_as rfl (by omega) (gf := 61) (lb := #[.pointer (some ⟨gb, 0, none⟩)]) rfl trivial (enters_of Tryd.func61 (by kernel_rfl) rfl)
    HST.out KeepC.trans keepC_put (Below.refl _ _) (fun _ => rfl)
    (fun pre W => Boxed W w1.heap.size 3 (.int .i64 pre.length) ∧ Below w1.heap.size w1 W ∧ w3.heap.size ≤ W.heap.size) (fun c xs W => False)
    (OwnFrom.and (Own.from (boxed_own w1.heap.size 3 (fun pre : List LItem => .int .i64 pre.length)) _) (OwnFrom.and (ownFrom_below (Nat.le_refl _) HB3.out.size) (fun s W W' row hs hg hr => Nat.le_trans hs hg.size)))
    (fun c s W W' row hs hg hr => hs) ⟨HN3.out, HB3.out, Nat.le_refl _⟩
    (fun pre x a1 W => (∃ vb, a1 = { tmps := #[Value.bool false, Value.int IntKind.i64 65, Value.int IntKind.i64 90, Value.int IntKind.i64 0, Value.pointer (some { block := w1.heap.size, off := 0 }), Value.pointer (some { block := vb, off := 0 }), Value.tuple #[Value.int IntKind.i64 65, Value.int IntKind.i64 90, Value.int IntKind.i64 0], Value.tuple #[Value.int IntKind.i64 65, Value.int IntKind.i64 90, Value.int IntKind.i64 0], Value.int IntKind.i64 65, Value.int IntKind.i64 90, Value.int IntKind.i64 0, Value.int IntKind.i64 65, Value.bool false, Value.bool false, Value.int IntKind.i64 90, Value.bool false, Value.bool false, Value.bool false, Value.int IntKind.i64 0, Value.bool false, Value.bool false, Value.slice (some { block := w1.heap.size + 1, off := 0 }) 30 30, Value.slice A1 aw2L.length c1, Value.func (Fn.func 61) #[] #[Value.pointer (some { block := gb, off := 0 })], Value.agg #[Value.int IntKind.i64 x.1, Value.slice (some { block := x.2.1, off := 0 }) x.2.2.length x.2.2.length], undef, undef, undef, undef, undef, undef, undef, undef, undef, undef, undef, undef, undef, undef, undef, undef, undef, undef, undef, undef], defers := [] } ∧ w3.heap.size ≤ vb ∧ W.heap[vb]? = some (.cells #[.int .i64 x.1, .slice (some ⟨x.2.1, 0, none⟩) x.2.2.length x.2.2.length] 59 (0, 0))) ∧ x.at_ W ∧ Boxed W w1.heap.size 3 (.int .i64 pre.length) ∧ Below w1.heap.size w1 W ∧ w3.heap.size ≤ W.heap.size)
    (fun pre x a1 s W W' row hs hg hr => by
      obtain ⟨⟨vb, h1, h2, h3⟩, h4, h5, h6, h7⟩ := hs
      have key : ∀ (b : Nat) (C : Array Value) (t : TypeId) (p : Nat × Nat), W.heap[b]? = some (.cells C t p) → W'.heap[b]? = some (.cells C t p) := fun b C t p h => (hg.block b (Array.getElem?_eq_some_iff.1 h).1 (fun e => by
        obtain ⟨_, o, ho, hc⟩ := hr b e.symm
        rw [h] at ho
        cases ho
        cases hc)).trans h
      exact ⟨⟨vb, h1, h2, key _ _ _ _ h3⟩, key _ _ _ _ h4, key _ _ _ _ h5, h6.grown hg (Nat.le_trans HB3.out.size h7) (fun k e => Nat.le_trans HB3.out.size (hr k e).1), Nat.le_trans h7 hg.size⟩) ?assign ?body ?done ?stop
  case assign =>
    rintro l pre x W K hI hat hK
    have HI := Aside0.mk hI
    have HK := Aside0.mk hK
    have HAT := Aside0.mk hat
    clear hI hK hat
    simp only [LItem.enc]
    gi_wp2
    obtain ⟨hN, hB, hS⟩ := HI.out
    refine HK.out _ _ ((KeepsOthers.alloc W _).from _) (KeepC.of_below ((Below.refl _ W).alloc (Nat.le_refl _) _)) ⟨⟨W.heap.size, rfl, hS, heap_alloc_new W _⟩, ?_, hN.alloc _, hB.alloc (Nat.le_trans HB3.out.size hS) _, by simp; omega⟩
    exact (Below.heap_alloc _ _ _ (Array.getElem?_eq_some_iff.1 HAT.out).1).trans HAT.out
  case body =>
    rintro l pre x a1 W ⟨⟨vb, rfl, hvl, hvb⟩, hat, hN, hB, hS⟩ hsp
    have hx : pre = [] ∧ LItem.pr x = (1, aw2F) := by
      rw [aw2_lines] at hsp
      cases pre with
      | nil => exact ⟨rfl, by obtain ⟨t, ht⟩ := hsp; simp only [List.nil_append, List.map_cons, List.map_nil, List.cons_append, List.cons.injEq] at ht; exact ht.1⟩
      | cons y ys =>
        exfalso
        have := hsp.length_le
        simp at this
    obtain ⟨rfl, hx⟩ := hx
    obtain ⟨x1, xg, xf⟩ := x
    simp only [LItem.pr, Prod.mk.injEq] at hx
    obtain ⟨rfl, rfl⟩ := hx
    have hx0 : W.cell? ⟨vb, 0, none⟩ = some (.int .i64 1) := by simp only [World.cell?]; rw [hvb]; rfl
    have hx1 : W.cell? ⟨vb, 1, none⟩ = some (.slice (some ⟨xg, 0, none⟩) 2 2) := by simp only [World.cell?]; rw [hvb]; rfl
    have hx2 : W.cell? ⟨xg, 1, none⟩ = some (.string ⟨#[80, 86, 65, 76, 73, 68]⟩) := row_cell (W := W) (g := xg) (i := 1) (X := aw2F) hat (by decide)
    have hcN := hN.cell
    have hfN := hN.frozen
    have HN := Aside0.mk hN
    have HB := Aside0.mk hB
    have HS := Aside0.mk hS
    simp only [show aw2F.length = 2 from rfl, List.length_nil, Int.ofNat_zero] at *
    clear hvb hat hN hB hS hsp
    gi_wp2
    exact ⟨(KeepsOthers.setCell _ _ _).from _, KeepC.of_set rfl, Boxed.set _ HN.out, HB.out.setCell (p := ⟨w1.heap.size, 0, none⟩) (Nat.le_refl _) _, by show w3.heap.size ≤ (World.setCell _ _ _).heap.size; simp; exact HS.out⟩
  case stop => rintro D c pre W hD hSp hI hK; exact hI.elim
  case done =>
    rintro D ys W hD hys ⟨hN, hB, hS⟩ hK
    have hy1 : ys.length = 1 := by rw [← List.length_map (f := LItem.pr), hys, aw2_lines]; rfl
    rw [hy1] at hN
    have hcN := hN.cell
    have HB := Aside0.mk hB
    have HS := Aside0.mk hS
    have HK := Aside0.mk hK
    clear hN hB hS hK hys
    go_wp2
    refine ⟨by simp, .inl ⟨_, _, rfl, run_takeDeferred (w := W) HK.out, ?_⟩⟩
    exact ⟨_, by simp [results, Tryd.results32, go_sem], rfl, (HB0.out.trans (HB.out.mono HB0.out.size)).grown (grownBy_putObj' W D _) (HB0.out.trans (HB.out.mono HB0.out.size)).size (fun k e => by cases e; have := HB3.out.size; have := HB0.out.size; omega)⟩
end Go.Proofs.YtdnfmilnkoocdaaDoor.Q

-- from Qf16
-- Made by hp.py, a program of this session, with the kit's printer. Not trusted: Lean checks it.
namespace Go.Proofs.YtdnfmilnkoocdaaDoor.Q
open Go.RowKit Go.Proofs.YtdnfmilnkoocdaaDoorW.PrintWords Go.Proofs.YtdnfmilnkoocdaaDoorW.PrintLast Go.Proofs.YtdnfmilnkoocdaaDoorW.PrintMore
attribute [local go_sem] max2_int min2_int max_two min_two max_three min_three max_four min_four   -- for this text's walks alone
set_option linter.unusedVariables false
set_option linter.unusedSimpArgs false

/-! ### paronymref02_Same: function 16 -/
def paronymref02_Same.l0 : Nat → List ByteArray → List ByteArray → Int → Option (Bool)
  | 0, _, _, _ => none
  | k + 1, x0, x1, x5 => if x5 < (x0.length : Int) then (if 0 ≤ x5 then (if x5 < (x1.length : Int) then (if (rdOf ByteArray.empty x0 x5).toList = (rdOf ByteArray.empty x1 x5).toList then (paronymref02_Same.l0 k x0 x1 (wrap64 (x5 + 1))) else (some false)) else (none)) else (none)) else (some true)
def paronymref02_Same.f (k : Nat) (l0 : List ByteArray) (l1 : List ByteArray) : Option (Bool) := if (l0.length : Int) = (l1.length : Int) then (paronymref02_Same.l0 k l0 l1 0) else (some false)
theorem paronymref02_Same.mono_l : ∀ k, (∀ y0 y1 y2, LeO (paronymref02_Same.l0 k y0 y1 y2) (paronymref02_Same.l0 (k + 1) y0 y1 y2))
  | 0 => fun _ _ _ r h => by simp [paronymref02_Same.l0] at h
  | k + 1 => by
    have ih0 := paronymref02_Same.mono_l k
    · intro y0 y1 y2
      unfold paronymref02_Same.l0
      repeat' first
      | (with_reducible exact ih0 _ _ _)
      | (with_reducible exact LeO.refl _)
      | (with_reducible exact LeO.none _)
      | (with_reducible refine LeO.ite ?_ ?_)
      | (with_reducible refine LeO.bind ?_ (fun _ => ?_))
      | exact ih0 _ _ _
      | exact LeO.none _
      | refine LeO.ite ?_ ?_
      | refine LeO.bind ?_ (fun _ => ?_)
theorem paronymref02_Same.mono : ∀ a0 a1 k, LeO (paronymref02_Same.f k a0 a1) (paronymref02_Same.f (k + 1) a0 a1) := by
  intro a0 a1 k
  have ih0 := paronymref02_Same.mono_l k
  unfold paronymref02_Same.f
  repeat' first
      | (with_reducible exact ih0 _ _ _)
      | (with_reducible exact LeO.refl _)
      | (with_reducible exact LeO.none _)
      | (with_reducible refine LeO.ite ?_ ?_)
      | (with_reducible refine LeO.bind ?_ (fun _ => ?_))
      | exact ih0 _ _ _
      | exact LeO.none _
      | refine LeO.ite ?_ ?_
      | refine LeO.bind ?_ (fun _ => ?_)
set_option maxHeartbeats 8000000 in
set_option maxRecDepth 100000 in
theorem paronymref02_Same.calls (k : Nat) (A0 : Option Addr) (c0 : Nat) (l0 : List ByteArray) (A1 : Option Addr) (c1 : Nat) (l1 : List ByteArray) (r : Bool) (w : World) (hr0 : Kd.C Kd.string w A0 l0.length l0) (hc0 : l0.length ≤ c0) (hr1 : Kd.C Kd.string w A1 l1.length l1) (hc1 : l1.length ≤ c1) (h : paronymref02_Same.f k l0 l1 = some r) :
    Calls Tryd.prog 16 #[.slice A0 l0.length c0, .slice A1 l1.length c1] w fun e w' => e = .returned (.bool r) ∧ Drawn0 w w' := by
  have HR0 := Aside0.mk hr0
  have HC0 := Aside0.mk hc0
  clear hr0 hc0
  have HR1 := Aside0.mk hr1
  have HC1 := Aside0.mk hc1
  clear hr1 hc1
  have H : (if (l0.length : Int) = (l1.length : Int) then (paronymref02_Same.l0 k l0 l1 0) else (some false)) = some r := h
  clear h
  by_cases c3 : (l0.length : Int) = (l1.length : Int)
  · rw [if_pos c3] at H
    have c3b0 : ((l0.length : Int) == (l1.length : Int)) = true := beq_iff_eq.mpr c3
    have c3b1 : ((l0.length : Int) != (l1.length : Int)) = false := bne_eq_false_iff_eq.mpr c3
    have c3b2 : (l0.length == l1.length) = true := by first | simpa using c3 | (simp at c3 ⊢; omega)
    clear c3
    have H' := Aside0.mk H
    clear H
    go_enter Tryd.func16, Tryd.ntmps16
    go_wp2
    repeat (go_quiet (fail); try go_wp2)
    go_loopg [5] k (fun kq v5 w' => ∃ (x5_1 : Int), v5 = .int .i64 x5_1 ∧ Aside0 (paronymref02_Same.l0 kq l0 l1 x5_1 = some r) ∧ Aside0 (kq ≤ k) ∧ Drawn0 w w')
    case atStart => exact ⟨(0), (by first | rfl | (simp; done) | (simp [*]; done)), H', ⟨Nat.le_refl _⟩, by repeat (first | exact Drawn0.refl _ | apply Drawn0.step)⟩
    case round =>
      clear H'
      try clear c1
      try clear p2
      try clear c3
      try clear c3b0
      try clear c3b1
      try clear c3b2
      obtain ⟨x5_1, rfl, HA, HK1, ⟨m1, rfl⟩⟩ := hrel
      cases gk with
      | zero => exact absurd HA.out (by simp [paronymref02_Same.l0])
      | succ k1 =>
        have H := HA.out
        clear HA
        simp only [paronymref02_Same.l0] at H
        by_cases c4 : x5_1 < (l0.length : Int)
        · rw [if_pos c4] at H
          have c4b0 : decide (x5_1 < (l0.length : Int)) = true := decide_eq_true c4
          clear c4
          by_cases c5 : 0 ≤ x5_1
          · rw [if_pos c5] at H
            have c5b0 : decide (0 ≤ x5_1) = true := decide_eq_true c5
            clear c5
            by_cases c6 : x5_1 < (l1.length : Int)
            · rw [if_pos c6] at H
              have c6b0 : decide (x5_1 < (l1.length : Int)) = true := decide_eq_true c6
              clear c6
              by_cases c7 : (rdOf ByteArray.empty l0 x5_1).toList = (rdOf ByteArray.empty l1 x5_1).toList
              · rw [if_pos c7] at H
                have c7b0 : ((rdOf ByteArray.empty l0 x5_1).toList == (rdOf ByteArray.empty l1 x5_1).toList) = true := beq_iff_eq.mpr c7
                have c7b1 : ((rdOf ByteArray.empty l0 x5_1).toList != (rdOf ByteArray.empty l1 x5_1).toList) = false := bne_eq_false_iff_eq.mpr c7
                clear c7
                have H' := Aside0.mk H
                clear H
                have p101 : 0 ≤ (x5_1 : Int) := of_decide_eq_true (by first | (with_reducible assumption) | assumption)
                have q101 : x5_1 < (l0.length : Int) := of_decide_eq_true (by first | (with_reducible assumption) | assumption)
                obtain ⟨ad101, e101, hx101_0⟩ := Kd.at_string HR0.out x5_1 p101 q101
                cases e101
                replace p101 := eq_true p101
                replace q101 := eq_true q101
                have p102 : 0 ≤ (x5_1 : Int) := of_decide_eq_true (by first | (with_reducible assumption) | assumption)
                have q102 : x5_1 < (l1.length : Int) := of_decide_eq_true (by first | (with_reducible assumption) | assumption)
                obtain ⟨ad102, e102, hx102_0⟩ := Kd.at_string HR1.out x5_1 p102 q102
                cases e102
                replace p102 := eq_true p102
                replace q102 := eq_true q102
                go_wp2
                repeat (go_quiet (fail); try go_wp2)
                go_roundg k1
                case measure => have := HK1.out; omega
                case rel => exact ⟨(wrap64 (x5_1 + 1)), (by first | rfl | (simp; done) | (simp [*]; done)), H', ⟨by have := HK1.out; omega⟩, by repeat (first | exact Drawn0.refl _ | apply Drawn0.step)⟩
              · rw [if_neg c7] at H
                have c7b0 : ((rdOf ByteArray.empty l0 x5_1).toList == (rdOf ByteArray.empty l1 x5_1).toList) = false := beq_eq_false_iff_ne.mpr c7
                have c7b1 : ((rdOf ByteArray.empty l0 x5_1).toList != (rdOf ByteArray.empty l1 x5_1).toList) = true := bne_iff_ne.mpr c7
                obtain rfl := Option.some.inj H
                have p101 : 0 ≤ (x5_1 : Int) := of_decide_eq_true (by first | (with_reducible assumption) | assumption)
                have q101 : x5_1 < (l0.length : Int) := of_decide_eq_true (by first | (with_reducible assumption) | assumption)
                obtain ⟨ad101, e101, hx101_0⟩ := Kd.at_string HR0.out x5_1 p101 q101
                cases e101
                replace p101 := eq_true p101
                replace q101 := eq_true q101
                have p102 : 0 ≤ (x5_1 : Int) := of_decide_eq_true (by first | (with_reducible assumption) | assumption)
                have q102 : x5_1 < (l1.length : Int) := of_decide_eq_true (by first | (with_reducible assumption) | assumption)
                obtain ⟨ad102, e102, hx102_0⟩ := Kd.at_string HR1.out x5_1 p102 q102
                cases e102
                replace p102 := eq_true p102
                replace q102 := eq_true q102
                go_wp2
                repeat (go_quiet (fail); try go_wp2)
                go_ret
                exact ⟨by first | rfl | (simp; done) | (simp [*]; done), by repeat (first | exact Drawn0.refl _ | apply Drawn0.step)⟩
            · rw [if_neg c6] at H
              exact absurd H (by simp)
          · rw [if_neg c5] at H
            exact absurd H (by simp)
        · rw [if_neg c4] at H
          have c4b0 : decide (x5_1 < (l0.length : Int)) = false := decide_eq_false c4
          clear c4
          obtain rfl := Option.some.inj H
          go_wp2
          repeat (go_quiet (fail); try go_wp2)
          go_ret
          exact ⟨by first | rfl | (simp; done) | (simp [*]; done), by repeat (first | exact Drawn0.refl _ | apply Drawn0.step)⟩
  · rw [if_neg c3] at H
    have c3b0 : ((l0.length : Int) == (l1.length : Int)) = false := beq_eq_false_iff_ne.mpr c3
    have c3b1 : ((l0.length : Int) != (l1.length : Int)) = true := bne_iff_ne.mpr c3
    have c3b2 : (l0.length == l1.length) = false := by first | simpa using c3 | (simp at c3 ⊢; omega)
    obtain rfl := Option.some.inj H
    go_enter Tryd.func16, Tryd.ntmps16
    go_wp2
    repeat (go_quiet (fail); try go_wp2)
    go_ret
    exact ⟨by first | rfl | (simp; done) | (simp [*]; done), by repeat (first | exact Drawn0.refl _ | apply Drawn0.step)⟩

end Go.Proofs.YtdnfmilnkoocdaaDoor.Q

-- from Psm2
/- Layer 2: the reference's Same of equal rows; the lines' two forms. -/
namespace Go.Proofs.YtdnfmilnkoocdaaDoor.Q
open Go.RowKit Go.Shelf Go.Proofs.YtdnfmilnkoocdaaDoorW.PrintWords Go.Proofs.YtdnfmilnkoocdaaDoorW.PrintLast Go.Proofs.YtdnfmilnkoocdaaDoorW.PrintMore Go.Proofs.YtdnfmilnkoocdaaDoor.K
set_option linter.unusedVariables false
set_option linter.unusedSimpArgs false

theorem same2_self_ev (X : List ByteArray) (hX : X.length ≤ 1000000000) : Ev (fun k => paronymref02_Same.f k X X) true := by
  have loop : ∀ (d i : Nat), X.length - i = d → i ≤ X.length → Ev (fun k => paronymref02_Same.l0 k X X (i : Int)) true := by
    intro d
    induction d with
    | zero =>
      intro i h1 h2
      exact Ev.step (fun k => rfl) (Ev.neg (by omega) (Ev.ret rfl))
    | succ d ih =>
      intro i h1 h2
      refine Ev.step (fun k => rfl) (Ev.pos (by omega) (Ev.pos (by omega) (Ev.pos (by omega) (Ev.pos rfl ?_))))
      have e : wrap64 ((i : Int) + 1) = ((i + 1 : Nat) : Int) := by rw [w64 (by omega) (by omega)]; omega
      rw [e]
      exact ih (i + 1) (by omega) (by omega)
  unfold paronymref02_Same.f
  exact Ev.pos rfl (loop _ 0 rfl (Nat.zero_le _))
def toS (p : Int × List (List Int)) : S60 := ⟨p.1, p.2.map strOfNums⟩
theorem linesS_is : ∀ (X : List (List Int)) (i : Nat), linesS i X = (linesI i X).map toS
  | [], i => rfl
  | x :: X, i => by
    rw [linesI_cons]
    unfold linesS
    cases fieldsL (stripCR x) with
    | none => exact linesS_is X (i + 1)
    | some f => simp only [List.map_cons, linesS_is X (i + 1)]; rfl
theorem linesI_len : ∀ (X : List (List Int)) (i : Nat), (linesI i X).length ≤ X.length
  | [], i => Nat.le_refl _
  | x :: X, i => by
    rw [linesI_cons]
    have := linesI_len X (i + 1)
    cases fieldsL (stripCR x) with
    | none => simp only [List.length_cons]; omega
    | some f => simp only [List.length_cons]; omega
theorem linesI_pos : ∀ (X : List (List Int)) (i : Nat) (p : Int × List (List Int)), p ∈ linesI i X → 0 ≤ p.1 ∧ p.1 ≤ i + X.length
  | [], i, p, h => by cases h
  | x :: X, i, p, h => by
    rw [linesI_cons] at h
    have ih := linesI_pos X (i + 1)
    cases hf : fieldsL (stripCR x) with
    | none => rw [hf] at h; have := ih p h; simp only [List.length_cons]; omega
    | some f =>
      rw [hf] at h
      rcases List.mem_cons.1 h with rfl | h
      · simp only [List.length_cons]; omega
      · have := ih p h; simp only [List.length_cons]; omega
end Go.Proofs.YtdnfmilnkoocdaaDoor.Q

-- from Hfl1
/- Layer 2's law: FieldLines. -/
namespace Go.Proofs.YtdnfmilnkoocdaaDoor.Q
open Go.RowKit Go.Shelf Go.Proofs.YtdnfmilnkoocdaaDoorW.PrintWords Go.Proofs.YtdnfmilnkoocdaaDoorW.PrintLast Go.Proofs.YtdnfmilnkoocdaaDoorW.PrintMore Go.Proofs.YtdnfmilnkoocdaaDoor.K
set_option linter.unusedVariables false
set_option linter.unusedSimpArgs false
attribute [local go_sem] Oper.semAt_some

/-- The world's two facts, from the elder world. -/
theorem EnvF.lt {w : World} (h : EnvF w) : 0 < w.heap.size ∧ 6 < w.heap.size := by
  obtain ⟨⟨m0, hm0⟩, hm6⟩ := h
  have lt_of : ∀ (b i : Nat) (v : Value), w.cell? ⟨b, i, none⟩ = some v → b < w.heap.size := fun b i v h => by
    unfold World.cell? at h
    by_cases hb : b < w.heap.size
    · exact hb
    · simp only [Array.getElem?_eq_none (Nat.le_of_not_lt hb)] at h; cases h
  exact ⟨lt_of _ _ _ hm0, lt_of _ _ _ hm6⟩
theorem strs_row {W : World} {g : Nat} {X : List (List Int)} (h : W.heap[g]? = some (.cells (rowC X) 9 (0, 0))) (hl : X.length ≤ 1000000) : Kd.C Kd.string W (some ⟨g, 0, none⟩) X.length (X.map strOfNums) := by
  refine ⟨by first | rfl | rw [List.length_map], by first | omega | (rw [List.length_map]; omega), fun _ => ⟨⟨g, 0, none⟩, rfl, fun j q hj => ⟨_, rfl, rfl, fun i u hu => ?_⟩⟩⟩
  have hi : i = 0 := by
    cases i with
    | zero => rfl
    | succ i => simp at hu
  subst hi
  simp only [List.getElem?_cons_zero, Option.some.injEq] at hu
  subst hu
  rw [List.getElem?_map, Option.map_eq_some_iff] at hj
  obtain ⟨y, hy, rfl⟩ := hj
  rw [Addr.add_lit]
  simp only [World.cell?]
  rw [h]
  show (rowC X)[0 + (j * 1 + 0)]? = _
  unfold rowC
  simp [hy]
theorem same2.calls (A A' : Option Addr) (c c' : Nat) (X : List (List Int)) (w : World) (hC : Kd.C Kd.string w A X.length (X.map strOfNums)) (hc : X.length ≤ c) (hC' : Kd.C Kd.string w A' X.length (X.map strOfNums)) (hc' : X.length ≤ c') (hX : X.length ≤ 1000000) :
    Calls Tryd.prog 16 #[.slice A X.length c, .slice A' X.length c'] w fun e w' => e = .returned (.bool true) ∧ Below w.heap.size w w' := by
  obtain ⟨k, hk⟩ := (same2_self_ev (X.map strOfNums) (by rw [List.length_map]; omega)).rounds
  have hl : (X.map strOfNums).length = X.length := List.length_map ..
  have h := paronymref02_Same.calls k A c (X.map strOfNums) A' c' (X.map strOfNums) true w (by rw [hl]; exact hC) (by rw [hl]; exact hc) (by rw [hl]; exact hC') (by rw [hl]; exact hc') hk
  rw [hl] at h
  exact h.mono (fun e w' ⟨h1, h2⟩ => ⟨h1, by obtain ⟨m, rfl⟩ := h2; exact pw_below_drewN (Below.refl _ _) _⟩)
theorem linesI_fl : ∀ (X : List (List Int)) (i : Nat) (n : Nat), (∀ l ∈ X, l.length ≤ n) → ∀ p ∈ linesI i X, p.2.length ≤ n + 1
  | [], i, n, hX, p, h => by cases h
  | x :: X, i, n, hX, p, h => by
    rw [linesI_cons] at h
    have ih := linesI_fl X (i + 1) n (fun l hl => hX l (List.mem_cons_of_mem _ hl))
    cases hf : fieldsL (stripCR x) with
    | none => rw [hf] at h; exact ih p h
    | some f =>
      rw [hf] at h
      rcases List.mem_cons.1 h with rfl | h
      · unfold fieldsL at hf
        split at hf
        · cases hf
        · obtain rfl := Option.some.inj hf
          have h1 := splP_count (fun x => decide (x = (59 : Int))) (bodyL (stripCR x))
          have h2 := len_spl (body_mem (stripCR x))
          have h3 := len_strip x
          have h4 := hX x (List.mem_cons_self ..)
          simp only [List.length_map]
          unfold spl
          omega
      · exact ih p h
theorem keepsFrom_below2 {B : Nat} {V V' : World} (hb : Below V.heap.size V V') : KeepsFrom B V V' := ⟨hb.size, fun k o _ hk _ => (hb.block k (Array.getElem?_eq_some_iff.1 hk).1).trans hk⟩
/-- The end of a function with its result in a cell and one mark among the deferred calls. -/
theorem mark_end {w W : World} {D b : Nat} {t : TypeId} {v : Value} (u : Value) (hb : Below w.heap.size w W) (hbk : Boxed W b t v) (hD : W.heap[D]? = some (.deferred (some []))) (h1 : w.heap.size ≤ b) (h2 : w.heap.size ≤ D) :
    (W.setCell ⟨b, 0, none⟩ u).heap[D]? = some (.deferred (some [])) ∧ (∀ o, ((W.setCell ⟨b, 0, none⟩ u).putObj D o).cell? ⟨b, 0, none⟩ = some u) ∧ (∀ o, Below w.heap.size w ((W.setCell ⟨b, 0, none⟩ u).putObj D o)) := by
  have hne : D ≠ b := fun e => by subst e; rw [show W.heap[D]? = _ from hbk] at hD; cases hD
  have hB := hb.setCell (p := ⟨b, 0, none⟩) h1 u
  refine ⟨(Below.heap_setCell W ⟨b, 0, none⟩ u D hne).trans hD, fun o => ?_, fun o => hB.grown (grownBy_putObj' _ D o) hB.size (fun k e => by cases e; exact h2)⟩
  have hs : Boxed ((W.setCell ⟨b, 0, none⟩ u).putObj D o) b t u := (World.putObj_heap_other (Ne.symm hne)).trans (Boxed.set u hbk)
  exact hs.cell
set_option maxHeartbeats 4000000 in
set_option maxRecDepth 100000 in
theorem paronymlaw02_FieldLines.long (A : Option Addr) (c : Nat) (L : List Int) (st : Int) (w : World) (hE : EnvF w) (hl : ¬ L.length ≤ 800) :
    Calls Tryd.prog 9 #[.slice A L.length c, .int .u8 st] w fun e w' => e = .returned (.bool true) ∧ Below w.heap.size w w' := by
  have HE := Aside0.mk hE
  have hh : ((800 : Int) < (L.length : Int)) := by omega
  have e0 := eq_true hh
  have e1 : decide ((L.length : Int) > 800) = true := decide_eq_true hh
  clear hE hl
  have hb0 : Below w.heap.size w ((w.alloc (.cells #[.int .u8 st] 5)).alloc (.cells #[.bool false] 4)) := ((Below.refl _ w).alloc (Nat.le_refl _) _).alloc (by simp) _
  have hc0 : Boxed ((w.alloc (.cells #[.int .u8 st] 5)).alloc (.cells #[.bool false] 4)) (w.heap.size + 1) 4 (.bool false) := by
    have := Boxed.new (w.alloc (.cells #[.int .u8 st] 5)) 4 (.bool false)
    rwa [World.size_alloc] at this
  have HB0 := Aside0.mk hb0
  have HC0 := Aside0.mk hc0
  clear hh hb0 hc0
  go_enter Tryd.func9, Tryd.ntmps9
  go_wp2_with (first
    | (go_at_call 32; refine (paronymlaw02_awake.calls0 _ (HE.out.below HB0.out)).mono ?_; rintro e w1 ⟨rfl, hb⟩; have hc1 : Boxed w1 (w.heap.size + 1) 4 (.bool false) := ((hb.block _ HC0.out.lt).trans HC0.out); have hcc := Boxed.cell hc1; have hcf := Boxed.frozen hc1; have HC1 := Aside0.mk hc1; have HB1 := Aside0.mk (HB0.out.trans (hb.mono HB0.out.size)); clear hb hc1)
    | (go_at_call 32; refine (paronymlaw02_awake.calls0 _ (HE.out.below HB1.out)).mono ?_; rintro e w2 ⟨rfl, hb⟩; have hc2 : Boxed w2 (w.heap.size + 1) 4 (.bool false) := ((hb.block _ HC1.out.lt).trans HC1.out); have hcc2 := Boxed.cell hc2; have hcf2 := Boxed.frozen hc2; have HC2 := Aside0.mk hc2; have HB2 := Aside0.mk (HB1.out.trans (hb.mono HB1.out.size)); clear hb hc2))
  have hcq := (Boxed.set (.bool true) HC2.out).cell
  refine bodyPost_ret (v := .bool true) (by simp [results, Tryd.results9, go_sem, hcq]) rfl ?_
  exact ⟨rfl, HB2.out.setCell (p := ⟨w.heap.size + 1, 0, none⟩) (by simp) _⟩
set_option maxHeartbeats 4000000 in
set_option maxRecDepth 100000 in
theorem paronymlaw02_FieldLines.main (A : Option Addr) (c : Nat) (L : List Int) (ho : Oct L) (st : Nat) (hst : st ≤ 255) (w : World) (hE : EnvF w) (hl : L.length ≤ 800) (hr : Kd.C (Kd.int .u8) w A L.length L) (hc : L.length ≤ c) :
    Calls Tryd.prog 9 #[.slice A L.length c, .int .u8 (st : Int)] w fun e w' => e = .returned (.bool true) ∧ Below w.heap.size w w' := by
  obtain ⟨k1, hk1⟩ := (lines_ev ho (by omega)).rounds
  obtain ⟨X, hX⟩ : ∃ X, X = linesI 0 (spl 10 L) := ⟨_, rfl⟩
  have hXn : X.length ≤ 1000 := by
    rw [hX]
    have h1 := linesI_len (spl 10 L) 0
    have h2 := splP_count (fun x => decide (x = (10 : Int))) L
    unfold spl at h1 ⊢; omega
  rw [linesS_is, ← hX] at hk1
  have HX := Aside0.mk hX
  have HXN := Aside0.mk hXn
  have HK1 := Aside0.mk hk1
  have HE := Aside0.mk hE
  have HO := Aside0.mk ho
  have HR := Aside0.mk hr
  have HC := Aside0.mk hc
  have HL := Aside0.mk hl
  have HST0 := Aside0.mk hst
  have hh : ¬ ((800 : Int) < (L.length : Int)) := by omega
  have e0 := eq_false hh
  have e1 : decide ((L.length : Int) > 800) = false := decide_eq_false hh
  clear hE hl hh hX hXn hk1 ho hr hc hst
  have hb0 : Below w.heap.size w ((w.alloc (.cells #[.int .u8 (st : Int)] 5)).alloc (.cells #[.bool false] 4)) := ((Below.refl _ w).alloc (Nat.le_refl _) _).alloc (by simp) _
  have hs0 : ((w.alloc (.cells #[.int .u8 (st : Int)] 5)).alloc (.cells #[.bool false] 4)).heap.size = w.heap.size + 2 := by simp
  have hc0 : Boxed ((w.alloc (.cells #[.int .u8 (st : Int)] 5)).alloc (.cells #[.bool false] 4)) (w.heap.size + 1) 4 (.bool false) := by
    have := Boxed.new (w.alloc (.cells #[.int .u8 (st : Int)] 5)) 4 (.bool false)
    rwa [World.size_alloc] at this
  have ht0 : Boxed ((w.alloc (.cells #[.int .u8 (st : Int)] 5)).alloc (.cells #[.bool false] 4)) w.heap.size 5 (.int .u8 (st : Int)) := (Boxed.new w 5 _).alloc _
  have HB0 := Aside0.mk hb0
  have HC0 := Aside0.mk hc0
  have HT0 := Aside0.mk ht0
  have HS0 := Aside0.mk hs0
  clear hb0 hc0 ht0 hs0
  refine (callsIn_wide (n := 20)).1 ?_
  refine callsIn_of_wp_marks Tryd.func9 rfl trivial ?_ rfl
  simp only [Tryd.ntmps9, List.size_toArray, List.length_cons, List.length_nil, Nat.reduceAdd, Nat.reduceSub, Array.replicate_succ, Array.replicate_zero, List.push_toArray, List.append_toArray, List.nil_append, List.cons_append]
  refine wpIn_wide.2 ?_
  go_wp2_with (first
    | (go_at_call 32; refine (paronymlaw02_awake.calls0 _ (HE.out.below HB0.out)).mono ?_; rintro e w1 ⟨rfl, hb⟩
       have HB1 := Aside0.mk (HB0.out.trans (hb.mono HB0.out.size))
       have HS1 : Aside0 (w.heap.size + 2 ≤ w1.heap.size) := ⟨by rw [← HS0.out]; exact hb.size⟩
       have HC1 : Aside0 (Boxed w1 (w.heap.size + 1) 4 (.bool false)) := ⟨(hb.block _ HC0.out.lt).trans HC0.out⟩
       have HT1 : Aside0 (Boxed w1 w.heap.size 5 (.int .u8 (st : Int))) := ⟨(hb.block _ HT0.out.lt).trans HT0.out⟩
       have hcv := Kd.C_string (P := Tryd.prog) (c := c) Tryd.underlying22 Tryd.underlying5 Tryd.underlying9 (Kd.C_below HR.out HB1.out)
       clear hb)
    | (go_at_call 33; refine (paronymref02_Lines.calls k1 _ _ _ HK1.out).mono ?_; rintro e w2 ⟨v2, rfl, hs, hb⟩
       obtain ⟨Aw, cw, e, hcw, hCw⟩ := Kd.R_reads (Kd.S_R hs)
       subst e
       have HCW := Aside0.mk hcw
       have HW := Aside0.mk hCw
       have HB2 := Aside0.mk hb
       clear hs hb hcw hCw)
    | (go_at_call 34
       have hs1 := HB1.out.size
       have hs2 := HB2.out.size
       have hs0 := HS1.out
       have hnn : (w2.alloc (.cells #[.slice Aw X.length cw] 53)).heap.size = w2.heap.size + 1 := World.size_alloc ..
       have hbn : Below w.heap.size w (w2.alloc (.cells #[.slice Aw X.length cw] 53)) := (HB1.out.trans (HB2.out.mono hs1)).alloc (by omega) _
       have htn : Boxed (w2.alloc (.cells #[.slice Aw X.length cw] 53)) w.heap.size 5 (.int .u8 (st : Int)) := Boxed.alloc ((HB2.out.block _ HT1.out.lt).trans HT1.out) _
       have hcn : Boxed (w2.alloc (.cells #[.slice Aw X.length cw] 53)) (w.heap.size + 1) 4 (.bool false) := Boxed.alloc ((HB2.out.block _ HC1.out.lt).trans HC1.out) _
       have hwn : Boxed (w2.alloc (.cells #[.slice Aw X.length cw] 53)) w2.heap.size 53 (.slice Aw X.length cw) := Boxed.new w2 _ _
       have hrn : Kd.C k60 (w2.alloc (.cells #[.slice Aw X.length cw] 53)) Aw X.length (X.map toS) := by
         have := Kd.C_alloc HW.out (.cells #[.slice Aw X.length cw] 53)
         rwa [List.length_map] at this
       have hsn : w.heap.size + 2 ≤ w2.heap.size := by omega
       generalize w2.alloc (.cells #[.slice Aw X.length cw] 53) = wn at *
       have hn3 : Boxed (wn.alloc (.cells #[.int .i64 0] 3)) (w2.heap.size + 1) 3 (.int .i64 0) := hnn ▸ Boxed.new wn 3 (.int .i64 0)
       have hs3 : (wn.alloc (.cells #[.int .i64 0] 3)).heap.size = w2.heap.size + 2 := by rw [World.size_alloc, hnn]
       have hb3 : Below wn.heap.size wn (wn.alloc (.cells #[.int .i64 0] 3)) := (Below.refl _ wn).alloc (Nat.le_refl _) _
       generalize wn.alloc (.cells #[.int .i64 0] 3) = w3 at *
       have hbw3 := hbn.trans (hb3.mono hbn.size)
       refine (field_Lines.calls A c L HO.out (by have := HL.out; omega) w3 (HE.out.below hbw3) (Kd.C_below HR.out hbw3) HC.out).mono ?_
       rintro e w4 ⟨g, gb, rfl, hg0, hgb0, hg, hgb, hb4⟩
       have hb : Below wn.heap.size wn w4 := hb3.trans (hb4.mono hb3.size)
       have hs4 := hb4.size
       have hn4 : Boxed w4 (w2.heap.size + 1) 3 (.int .i64 0) := (hb4.block _ hn3.lt).trans hn3
       have HG := Aside0.mk (And.intro hg0 hgb0)
       have HS3 := Aside0.mk hg
       have HX3 := Aside0.mk hgb
       have HB4 := Aside0.mk hb
       have HN4 := Aside0.mk hn4
       have HS34 := Aside0.mk (And.intro hs3 (And.intro hs4 (And.intro hnn hsn)))
       have HE4 := Aside0.mk (HE.out.below (hbw3.trans (hb4.mono hbw3.size)))
       have HBN := Aside0.mk hbn
       have HTN := Aside0.mk htn
       have HCN := Aside0.mk hcn
       have HWN := Aside0.mk hwn
       have HRN := Aside0.mk hrn
       clear hg0 hgb0 hg hgb hb4 hb hn4 hn3 hs3 hb3 hbw3 hs4 hnn hsn hbn htn hcn hwn hrn hs0 hs1 hs2 HW HB2 HT1 HC1 HS1 hcv))
  have h1 := HE.out.lt
  have h2 := HS34.out
  have hst := field_Lines.stops L HO.out (by have := HL.out; omega) g gb w4 (fun k => k = w2.heap.size + 1) HE4.out (fun e => by omega) (fun e => by omega) (fun e => by have := HG.out.1; omega) HS3.out HX3.out 19 (by omega)
  rw [← HX.out] at hst
  have HST := Aside0.mk hst
  clear hst h1 h2
  refine (wpIn_wide (n := 20)).1 ?_
  refine wpIn_range_as rfl (by omega) (gf := 61) (lb := #[.pointer (some ⟨gb, 0, none⟩)]) rfl trivial (enters_of Tryd.func61 (by kernel_rfl) rfl)
    HST.out KeepC.trans keepC_put (Below.refl _ _) (fun _ => rfl)
    (fun pre W => Boxed W (w2.heap.size + 1) 3 (.int .i64 pre.length) ∧ Below wn.heap.size wn W ∧ w4.heap.size ≤ W.heap.size ∧ pre.length ≤ st)
    (fun c pre W => c = .exit 0 ∧ (∃ m, m + 1 = pre.length ∧ m = st ∧ Boxed W (w2.heap.size + 1) 3 (.int .i64 (m : Int))) ∧ Below wn.heap.size wn W ∧ w4.heap.size ≤ W.heap.size)
    (fun pre W W' row hs hg hr => ⟨boxed_own (w2.heap.size + 1) 3 (fun pre : List LItem => .int .i64 pre.length) pre W W' row hs.1 hg (fun r e => (hr r e).2), hs.2.1.grown hg (Nat.le_trans HB4.out.size hs.2.2.1) (fun k e => Nat.le_trans HB4.out.size (hr k e).1), Nat.le_trans hs.2.2.1 hg.size, hs.2.2.2⟩)
    (fun c s W W' row hs hg hr => ⟨hs.1, by obtain ⟨m, h1, h2, h3⟩ := hs.2.1; exact ⟨m, h1, h2, boxed_own (w2.heap.size + 1) 3 (fun m : Nat => .int .i64 (m : Int)) m W W' row h3 hg (fun r e => (hr r e).2)⟩, hs.2.2.1.grown hg (Nat.le_trans HB4.out.size hs.2.2.2) (fun k e => Nat.le_trans HB4.out.size (hr k e).1), Nat.le_trans hs.2.2.2 hg.size⟩) ⟨HN4.out, HB4.out, Nat.le_refl _, Nat.zero_le _⟩
    (fun pre x a1 W => (∃ vb, a1 = { tmps := #[Value.slice A L.length c, Value.int IntKind.u8 ↑st, undef, Value.pointer (some { block := w.heap.size, off := 0 }), Value.pointer (some { block := w.heap.size + 1, off := 0 }), Value.pointer (some { block := w2.heap.size, off := 0 }), Value.pointer (some { block := w2.heap.size + 1, off := 0 }), Value.pointer (some { block := vb, off := 0 }), Value.bool true, Value.bool false, Value.bool false, Value.slice A L.length c, Value.int IntKind.i64 ↑L.length, Value.bool false, Value.bool false, undef, Value.slice A L.length c, Value.string (strOfNums L), Value.slice Aw X.length cw, Value.slice A L.length c, Value.func (Fn.func 61) #[] #[Value.pointer (some { block := gb, off := 0 })], Value.agg #[Value.int IntKind.i64 x.1, Value.slice (some { block := x.2.1, off := 0 }) x.2.2.length x.2.2.length], undef, undef, undef, undef, undef, undef, undef, undef, undef, undef, undef, undef, undef, undef, undef, undef, undef, undef, undef, undef, undef, undef, undef, undef, undef, undef, undef, undef, undef, undef, undef, undef, undef, undef, undef, undef, undef, undef], defers := [] } ∧ w4.heap.size ≤ vb ∧ W.heap[vb]? = some (.cells #[.int .i64 x.1, .slice (some ⟨x.2.1, 0, none⟩) x.2.2.length x.2.2.length] 59 (0, 0))) ∧ x.at_ W ∧ Boxed W (w2.heap.size + 1) 3 (.int .i64 pre.length) ∧ Below wn.heap.size wn W ∧ w4.heap.size ≤ W.heap.size ∧ pre.length ≤ st)
    (fun pre x a1 s W W' row hs hg hr => by
      obtain ⟨⟨vb, h1, h2, h3⟩, h4, h5, h6, h7, h8⟩ := hs
      have key : ∀ (b : Nat) (C : Array Value) (t : TypeId) (p : Nat × Nat), W.heap[b]? = some (.cells C t p) → W'.heap[b]? = some (.cells C t p) := fun b C t p h => (hg.block b (Array.getElem?_eq_some_iff.1 h).1 (fun e => by
        obtain ⟨_, o, ho, hc⟩ := hr b e.symm
        rw [h] at ho
        cases ho
        cases hc)).trans h
      exact ⟨⟨vb, h1, h2, key _ _ _ _ h3⟩, key _ _ _ _ h4, key _ _ _ _ h5, h6.grown hg (Nat.le_trans HB4.out.size h7) (fun k e => Nat.le_trans HB4.out.size (hr k e).1), Nat.le_trans h7 hg.size, h8⟩) ?assign ?body ?done ?stop
  case assign =>
    rintro l pre x W K hI hat hK
    have HI := Aside0.mk hI
    have HK := Aside0.mk hK
    have HAT := Aside0.mk hat
    clear hI hK hat
    simp only [LItem.enc]
    gi_wp2
    obtain ⟨hN, hB, hS, hP⟩ := HI.out
    refine HK.out _ _ ((KeepsOthers.alloc W _).from _) (KeepC.of_below ((Below.refl _ W).alloc (Nat.le_refl _) _)) ⟨⟨W.heap.size, rfl, hS, heap_alloc_new W _⟩, ?_, hN.alloc _, hB.alloc (Nat.le_trans HB4.out.size hS) _, by simp; omega, hP⟩
    exact (Below.heap_alloc _ _ _ (Array.getElem?_eq_some_iff.1 HAT.out).1).trans HAT.out
  case body =>
    rintro l pre x a1 W ⟨⟨vb, rfl, hvl, hvb⟩, hat, hN, hB, hS, hP⟩ hsp
    have hlen : pre.length < X.length := by have := hsp.length_le; simp at this; omega
    have hx : LItem.pr x = X[pre.length] := by
      obtain ⟨t, ht⟩ := hsp
      have : X[pre.length]? = some (LItem.pr x) := by rw [← ht, List.map_append, List.append_assoc, List.getElem?_append_right (by simp)]; simp
      rw [List.getElem?_eq_getElem hlen] at this
      exact (Option.some.inj this).symm
    obtain ⟨x1, xg, xf⟩ := x
    have hx0 : W.cell? ⟨vb, 0, none⟩ = some (.int .i64 x1) := by simp only [World.cell?]; rw [hvb]; rfl
    have hx1 : W.cell? ⟨vb, 1, none⟩ = some (.slice (some ⟨xg, 0, none⟩) xf.length xf.length) := by simp only [World.cell?]; rw [hvb]; rfl
    have hcN := hN.cell
    have hfN := hN.frozen
    have hszn := HS34.out
    have hbt : Boxed W w.heap.size 5 (.int .u8 (st : Int)) := (hB.block _ HTN.out.lt).trans HTN.out
    have hst1 := hbt.cell
    have hbw : Boxed W w2.heap.size 53 (.slice Aw X.length cw) := (hB.block _ HWN.out.lt).trans HWN.out
    have hwt1 := hbw.cell
    have hbk : Boxed W (w.heap.size + 1) 4 (.bool false) := (hB.block _ HCN.out.lt).trans HCN.out
    have hRW := Kd.C_below HRN.out hB
    obtain ⟨ad, A1, c1, hAw, hr0, hr1, hc1, hC1⟩ := at_T60 (by rw [← @List.length_map _ _ X toS] at hRW; exact hRW) (pre.length : Int) (by omega) (by rw [List.length_map]; omega)
    have hrd : rd_T60 (X.map toS) (pre.length : Int) = toS (x1, xf) := by
      unfold rd_T60
      rw [Int.toNat_natCast, List.getD_eq_getElem?_getD, List.getElem?_map, List.getElem?_eq_getElem hlen, ← hx]; rfl
    rw [hrd] at hr0 hr1 hc1 hC1
    have hr0' : W.cell? (ad.add (pre.length * 2)) = some (.int .i64 x1) := by rw [Int.toNat_natCast] at hr0; exact hr0
    have hl1 : (toS (x1, xf)).f1.length = xf.length := List.length_map ..
    rw [hl1] at hr1 hc1 hC1
    have hC1 : Kd.C Kd.string W A1 xf.length (xf.map strOfNums) := hC1
    have hr1' : W.cell? ⟨(ad.add (pre.length * 2)).block, (ad.add (pre.length * 2)).off + 1, none⟩ = some (.slice A1 xf.length c1) := by rw [Int.toNat_natCast] at hr1; exact hr1
    have hxl : xf.length ≤ 1000000 := by
      have h1 : (x1, xf) ∈ linesI 0 (spl 10 L) := by rw [← HX.out, show (x1, xf) = X[pre.length] from hx]; exact List.getElem_mem hlen
      have := linesI_fl (spl 10 L) 0 800 (fun l hl => by have := len_spl hl; have := HL.out; omega) _ h1
      simp only at this
      omega
    have HXL := Aside0.mk hxl
    have hCx := strs_row hat hxl
    have HCX := Aside0.mk hCx
    have hpl : ((pre.length : Int) < (X.length : Int)) := by omega
    have e5 := eq_true hpl
    have e6 : decide ((pre.length : Int) ≥ (X.length : Int)) = false := decide_eq_false (by omega)
    have e7 : (pre.length < X.length) = True := eq_true hlen
    have e8 : decide ((X.length : Int) ≤ (pre.length : Int)) = false := decide_eq_false (by omega)
    clear hr0 hr1 hl1 hCx hxl hpl
    subst hAw
    have HN := Aside0.mk hN
    have HB := Aside0.mk hB
    have HS := Aside0.mk hS
    have HP := Aside0.mk hP
    have HLN := Aside0.mk hlen
    have HC1 := Aside0.mk hC1
    have HAT := Aside0.mk hat
    have HLC := Aside0.mk hc1
    clear hbt hbw hbk hvb hat hN hB hS hsp hRW hx hrd hszn hP hlen hC1 hc1
    have hws : wrap64 (st : Int) = (st : Int) := w64 (by omega) (by have := HST0.out; omega)
    by_cases c1 : (st : Int) ≤ (pre.length : Int)
    · have e2 := eq_true c1
      have e3 : decide ((pre.length : Int) ≥ (st : Int)) = true := decide_eq_true c1
      have HE1 : Aside0 (pre.length = st) := ⟨by have := HP.out; omega⟩
      clear c1
      gi_wp2
      exact ⟨KeepsFrom.refl _ _, rfl, ⟨pre.length, by simp, HE1.out, HN.out⟩, HB.out, HS.out⟩
    · have e2 := eq_false c1
      have e3 : decide ((pre.length : Int) ≥ (st : Int)) = false := decide_eq_false c1
      have HLT : Aside0 (pre.length < st) := ⟨by omega⟩
      clear c1
      gi_wp2
      refine wpIn_region_round_held (fun w' => Below W.heap.size W w') (by kernel_rfl) (by kernel_rfl) ?_
      have hS : Below W.heap.size W W.drew := (Below.refl _ W).drew
      show wpAnyH _ _ _ _ _ _ _ _ W.drew
      refine wpAnyH_take (i := 0) (v := .int .i64 (pre.length : Int)) rfl (by kernel_rfl) (by kernel_rfl) (by kernel_rfl) (fun _ _ _ h => h) (.inl ⟨by kernel_rfl, fun w' hS => by have q_ := (hS.cell (World.block_lt_of_cell? W _ hcN)).trans hcN; first | (go_simp; done) | (go_simp; simp [*]; done)⟩) hS ?_
      try simp only [List.getElem_toArray, List.getElem_cons_succ, List.getElem_cons_zero, Act.put, List.setIfInBounds_toArray, List.set_cons_zero, List.set_cons_succ]
      refine wpAnyH_take (i := 1) (v := .slice (some ad) X.length cw) rfl (by kernel_rfl) (by kernel_rfl) (by kernel_rfl) (fun _ _ _ h => h) (.inl ⟨by kernel_rfl, fun w' hS => by have q_ := (hS.cell (World.block_lt_of_cell? W _ hwt1)).trans hwt1; first | (go_simp; done) | (go_simp; simp [*]; done)⟩) hS ?_
      try simp only [List.getElem_toArray, List.getElem_cons_succ, List.getElem_cons_zero, Act.put, List.setIfInBounds_toArray, List.set_cons_zero, List.set_cons_succ]
      refine wpAnyH_take (i := 2) (v := .int .i64 (X.length : Int)) rfl (by kernel_rfl) (by kernel_rfl) (by kernel_rfl) (fun _ _ _ h => h) (.inl ⟨by kernel_rfl, fun w' hS => by first | (go_simp; done) | (go_simp; simp [*]; done)⟩) hS ?_
      try simp only [List.getElem_toArray, List.getElem_cons_succ, List.getElem_cons_zero, Act.put, List.setIfInBounds_toArray, List.set_cons_zero, List.set_cons_succ]
      refine wpAnyH_take (i := 3) (v := .bool false) rfl (by kernel_rfl) (by kernel_rfl) (by kernel_rfl) (fun _ _ _ h => h) (.inl ⟨by kernel_rfl, fun w' hS => by first | (go_simp; done) | (go_simp; simp [*]; done)⟩) hS ?_
      try simp only [List.getElem_toArray, List.getElem_cons_succ, List.getElem_cons_zero, Act.put, List.setIfInBounds_toArray, List.set_cons_zero, List.set_cons_succ]
      refine wpAnyH_take (i := 4) (v := .bool false) rfl (by kernel_rfl) (by kernel_rfl) (by kernel_rfl) (fun _ _ _ h => h) (.inl ⟨by kernel_rfl, fun w' hS => by first | (go_simp; done) | (go_simp; simp [*]; done)⟩) hS ?_
      try simp only [List.getElem_toArray, List.getElem_cons_succ, List.getElem_cons_zero, Act.put, List.setIfInBounds_toArray, List.set_cons_zero, List.set_cons_succ]
      refine wpAnyH_take (i := 5) (v := .pointer (some ⟨vb, 0, none⟩)) rfl (by kernel_rfl) (by kernel_rfl) (by kernel_rfl) (fun _ _ _ h => h) (.inl ⟨by kernel_rfl, fun w' hS => by first | (go_simp; done) | (go_simp; simp [*]; done)⟩) hS ?_
      try simp only [List.getElem_toArray, List.getElem_cons_succ, List.getElem_cons_zero, Act.put, List.setIfInBounds_toArray, List.set_cons_zero, List.set_cons_succ]
      refine wpAnyH_take (i := 6) (v := .int .i64 x1) rfl (by kernel_rfl) (by kernel_rfl) (by kernel_rfl) (fun _ _ _ h => h) (.inl ⟨by kernel_rfl, fun w' hS => by have q_ := (hS.cell (World.block_lt_of_cell? W _ hx0)).trans hx0; first | (go_simp; done) | (go_simp; simp [*]; done)⟩) hS ?_
      try simp only [List.getElem_toArray, List.getElem_cons_succ, List.getElem_cons_zero, Act.put, List.setIfInBounds_toArray, List.set_cons_zero, List.set_cons_succ]
      refine wpAnyH_take (i := 7) (v := .slice (some ad) X.length cw) rfl (by kernel_rfl) (by kernel_rfl) (by kernel_rfl) (fun _ _ _ h => h) (.inl ⟨by kernel_rfl, fun w' hS => by have q_ := (hS.cell (World.block_lt_of_cell? W _ hwt1)).trans hwt1; first | (go_simp; done) | (go_simp; simp [*]; done)⟩) hS ?_
      try simp only [List.getElem_toArray, List.getElem_cons_succ, List.getElem_cons_zero, Act.put, List.setIfInBounds_toArray, List.set_cons_zero, List.set_cons_succ]
      refine wpAnyH_take (i := 8) (v := .int .i64 (pre.length : Int)) rfl (by kernel_rfl) (by kernel_rfl) (by kernel_rfl) (fun _ _ _ h => h) (.inl ⟨by kernel_rfl, fun w' hS => by have q_ := (hS.cell (World.block_lt_of_cell? W _ hcN)).trans hcN; first | (go_simp; done) | (go_simp; simp [*]; done)⟩) hS ?_
      try simp only [List.getElem_toArray, List.getElem_cons_succ, List.getElem_cons_zero, Act.put, List.setIfInBounds_toArray, List.set_cons_zero, List.set_cons_succ]
      refine wpAnyH_take (i := 9) (v := .pointer (some (ad.add (pre.length * 2)))) rfl (by kernel_rfl) (by kernel_rfl) (by kernel_rfl) (fun _ _ _ h => h) (.inl ⟨by kernel_rfl, fun w' hS => by first | (go_simp; done) | (go_simp; simp [*]; done)⟩) hS ?_
      try simp only [List.getElem_toArray, List.getElem_cons_succ, List.getElem_cons_zero, Act.put, List.setIfInBounds_toArray, List.set_cons_zero, List.set_cons_succ]
      refine wpAnyH_take (i := 10) (v := .pointer (some (ad.add (pre.length * 2)))) rfl (by kernel_rfl) (by kernel_rfl) (by kernel_rfl) (fun _ _ _ h => h) (.inl ⟨by kernel_rfl, fun w' hS => by first | (go_simp; done) | (go_simp; simp [*]; done)⟩) hS ?_
      try simp only [List.getElem_toArray, List.getElem_cons_succ, List.getElem_cons_zero, Act.put, List.setIfInBounds_toArray, List.set_cons_zero, List.set_cons_succ]
      refine wpAnyH_take (i := 11) (v := .int .i64 x1) rfl (by kernel_rfl) (by kernel_rfl) (by kernel_rfl) (fun _ _ _ h => h) (.inl ⟨by kernel_rfl, fun w' hS => by have q_ := (hS.cell (World.block_lt_of_cell? W _ hr0')).trans hr0'; first | (go_simp; done) | (go_simp; simp [*]; done)⟩) hS ?_
      try simp only [List.getElem_toArray, List.getElem_cons_succ, List.getElem_cons_zero, Act.put, List.setIfInBounds_toArray, List.set_cons_zero, List.set_cons_succ]
      refine wpAnyH_take (i := 12) (v := .bool false) rfl (by kernel_rfl) (by kernel_rfl) (by kernel_rfl) (fun _ _ _ h => h) (.inl ⟨by kernel_rfl, fun w' hS => by first | (go_simp; done) | (go_simp; simp [*]; done)⟩) hS ?_
      try simp only [List.getElem_toArray, List.getElem_cons_succ, List.getElem_cons_zero, Act.put, List.setIfInBounds_toArray, List.set_cons_zero, List.set_cons_succ]
      refine wpAnyH_take (i := 13) (v := .bool false) rfl (by kernel_rfl) (by kernel_rfl) (by kernel_rfl) (fun _ _ _ h => h) (.inl ⟨by kernel_rfl, fun w' hS => by first | (go_simp; done) | (go_simp; simp [*]; done)⟩) hS ?_
      try simp only [List.getElem_toArray, List.getElem_cons_succ, List.getElem_cons_zero, Act.put, List.setIfInBounds_toArray, List.set_cons_zero, List.set_cons_succ]
      refine wpAnyH_take (i := 14) (v := .bool false) rfl (by kernel_rfl) (by kernel_rfl) (by kernel_rfl) (fun _ _ _ h => h) (.inl ⟨by kernel_rfl, fun w' hS => by first | (go_simp; done) | (go_simp; simp [*]; done)⟩) hS ?_
      try simp only [List.getElem_toArray, List.getElem_cons_succ, List.getElem_cons_zero, Act.put, List.setIfInBounds_toArray, List.set_cons_zero, List.set_cons_succ]
      refine wpAnyH_take (i := 15) (v := .pointer (some ⟨vb, 1, none⟩)) rfl (by kernel_rfl) (by kernel_rfl) (by kernel_rfl) (fun _ _ _ h => h) (.inl ⟨by kernel_rfl, fun w' hS => by first | (go_simp; done) | (go_simp; simp [*]; done)⟩) hS ?_
      try simp only [List.getElem_toArray, List.getElem_cons_succ, List.getElem_cons_zero, Act.put, List.setIfInBounds_toArray, List.set_cons_zero, List.set_cons_succ]
      refine wpAnyH_take (i := 16) (v := .slice (some ⟨xg, 0, none⟩) xf.length xf.length) rfl (by kernel_rfl) (by kernel_rfl) (by kernel_rfl) (fun _ _ _ h => h) (.inl ⟨by kernel_rfl, fun w' hS => by have q_ := (hS.cell (World.block_lt_of_cell? W _ hx1)).trans hx1; first | (go_simp; done) | (go_simp; simp [*]; done)⟩) hS ?_
      try simp only [List.getElem_toArray, List.getElem_cons_succ, List.getElem_cons_zero, Act.put, List.setIfInBounds_toArray, List.set_cons_zero, List.set_cons_succ]
      refine wpAnyH_take (i := 17) (v := .slice (some ad) X.length cw) rfl (by kernel_rfl) (by kernel_rfl) (by kernel_rfl) (fun _ _ _ h => h) (.inl ⟨by kernel_rfl, fun w' hS => by have q_ := (hS.cell (World.block_lt_of_cell? W _ hwt1)).trans hwt1; first | (go_simp; done) | (go_simp; simp [*]; done)⟩) hS ?_
      try simp only [List.getElem_toArray, List.getElem_cons_succ, List.getElem_cons_zero, Act.put, List.setIfInBounds_toArray, List.set_cons_zero, List.set_cons_succ]
      refine wpAnyH_take (i := 18) (v := .int .i64 (pre.length : Int)) rfl (by kernel_rfl) (by kernel_rfl) (by kernel_rfl) (fun _ _ _ h => h) (.inl ⟨by kernel_rfl, fun w' hS => by have q_ := (hS.cell (World.block_lt_of_cell? W _ hcN)).trans hcN; first | (go_simp; done) | (go_simp; simp [*]; done)⟩) hS ?_
      try simp only [List.getElem_toArray, List.getElem_cons_succ, List.getElem_cons_zero, Act.put, List.setIfInBounds_toArray, List.set_cons_zero, List.set_cons_succ]
      refine wpAnyH_take (i := 19) (v := .pointer (some (ad.add (pre.length * 2)))) rfl (by kernel_rfl) (by kernel_rfl) (by kernel_rfl) (fun _ _ _ h => h) (.inl ⟨by kernel_rfl, fun w' hS => by first | (go_simp; done) | (go_simp; simp [*]; done)⟩) hS ?_
      try simp only [List.getElem_toArray, List.getElem_cons_succ, List.getElem_cons_zero, Act.put, List.setIfInBounds_toArray, List.set_cons_zero, List.set_cons_succ]
      refine wpAnyH_take (i := 20) (v := .pointer (some ⟨(ad.add (pre.length * 2)).block, (ad.add (pre.length * 2)).off + 1, none⟩)) rfl (by kernel_rfl) (by kernel_rfl) (by kernel_rfl) (fun _ _ _ h => h) (.inl ⟨by kernel_rfl, fun w' hS => by first | (go_simp; done) | (go_simp; simp [*]; done)⟩) hS ?_
      try simp only [List.getElem_toArray, List.getElem_cons_succ, List.getElem_cons_zero, Act.put, List.setIfInBounds_toArray, List.set_cons_zero, List.set_cons_succ]
      refine wpAnyH_take (i := 21) (v := .slice A1 xf.length c1) rfl (by kernel_rfl) (by kernel_rfl) (by kernel_rfl) (fun _ _ _ h => h) (.inl ⟨by kernel_rfl, fun w' hS => by have q_ := (hS.cell (World.block_lt_of_cell? W _ hr1')).trans hr1'; first | (go_simp; done) | (go_simp; simp [*]; done)⟩) hS ?_
      try simp only [List.getElem_toArray, List.getElem_cons_succ, List.getElem_cons_zero, Act.put, List.setIfInBounds_toArray, List.set_cons_zero, List.set_cons_succ]
      refine wpAnyH_ready (rs := [22]) (by kernel_rfl) (by simp) (AllReadyH.cons rfl (fun K' hK => ?_) AllReadyH.nil)
      rw [if_pos (by kernel_rfl)]
      go_simp
      go_at_call 16
      (with_reducible refine (same2.calls (some ⟨xg, 0, none⟩) A1 xf.length c1 xf _ (Kd.C_below HCX.out hS) (Nat.le_refl _) (Kd.C_below HC1.out hS) HLC.out HXL.out).mono ?_)
      rintro e w9 ⟨rfl, hb⟩
      have hS' := hS.trans (hb.mono hS.size)
      refine hK.out _ _ hS' (fun _ => ?_)
      clear hK hS hb
      have hS := hS'
      clear hS'
      try simp only [List.getElem_toArray, List.getElem_cons_succ, List.getElem_cons_zero, Act.put, List.setIfInBounds_toArray, List.set_cons_zero, List.set_cons_succ]
      refine wpAnyH_take (i := 23) (v := .bool false) rfl (by kernel_rfl) (by kernel_rfl) (by kernel_rfl) (fun _ _ _ h => h) (.inl ⟨by kernel_rfl, fun w' hS => by first | (go_simp; done) | (go_simp; simp [*]; done)⟩) hS ?_
      try simp only [List.getElem_toArray, List.getElem_cons_succ, List.getElem_cons_zero, Act.put, List.setIfInBounds_toArray, List.set_cons_zero, List.set_cons_succ]
      refine wpAnyH_take (i := 24) (v := .bool false) rfl (by kernel_rfl) (by kernel_rfl) (by kernel_rfl) (fun _ _ _ h => h) (.inl ⟨by kernel_rfl, fun w' hS => by first | (go_simp; done) | (go_simp; simp [*]; done)⟩) hS ?_
      try simp only [List.getElem_toArray, List.getElem_cons_succ, List.getElem_cons_zero, Act.put, List.setIfInBounds_toArray, List.set_cons_zero, List.set_cons_succ]
      refine wpAnyH_done (by kernel_rfl) ?_ _
      refine NoPanic.normal ?_
      have hn9 : Boxed w9 (w2.heap.size + 1) 3 (.int .i64 pre.length) := (hS.block _ HN.out.lt).trans HN.out
      have hcN9 := hn9.cell
      have hfN9 := hn9.frozen
      have hw1 : wrap64 ((pre.length : Int) + 1) = ((pre.length + 1 : Nat) : Int) := by rw [w64 (by omega) (by have := HXN.out; have := HLN.out; omega)]; omega
      have HN9 := Aside0.mk hn9
      have HS9 := Aside0.mk hS
      clear hn9 hS
      gi_wp2
      exact ⟨(keepsFrom_below2 HS9.out).trans ((KeepsOthers.setCell _ _ _).from _), (KeepC.of_below HS9.out).trans (KeepC.of_set rfl), by rw [List.length_append]; first | exact Boxed.set _ HN9.out | (rw [← hw1]; exact Boxed.set _ HN9.out), (HB.out.trans (HS9.out.mono HB.out.size)).setCell (p := ⟨w2.heap.size + 1, 0, none⟩) (by have := HS34.out; show wn.heap.size ≤ w2.heap.size + 1; omega) _, by show w4.heap.size ≤ (World.setCell _ _ _).heap.size; simp; exact Nat.le_trans HS.out HS9.out.size, by rw [List.length_append]; exact HLT.out⟩
  case stop =>
    rintro D c pre W hD hSp ⟨rfl, ⟨m, hm1, rfl, hN⟩, hB, hS⟩ hK
    have hlen : pre.length ≤ X.length := by have := hSp.length_le; simpa using this
    have hbt : Boxed W w.heap.size 5 (.int .u8 (m : Int)) := (hB.block _ HTN.out.lt).trans HTN.out
    have hbw : Boxed W w2.heap.size 53 (.slice Aw X.length cw) := (hB.block _ HWN.out.lt).trans HWN.out
    have hbk : Boxed W (w.heap.size + 1) 4 (.bool false) := (hB.block _ HCN.out.lt).trans HCN.out
    have hc1 := hbt.cell
    have hc2 := hbw.cell
    have hc3 := hbk.cell
    have hf3 := hbk.frozen
    have hc4 := hN.cell
    have hmin : min (m : Int) (X.length : Int) = (m : Int) := by omega
    have hws : wrap64 (m : Int) = (m : Int) := w64 (by omega) (by have := HST0.out; omega)
    have HBK := Aside0.mk hbk
    have HB := Aside0.mk hB
    have HS := Aside0.mk hS
    have HK := Aside0.mk hK
    have HD := Aside0.mk hD
    clear hm1 hlen hbt hbw hbk hN hB hS hK hSp hD
    refine wpIn_wide.2 ?_
    go_wp2
    have hsz := HS34.out
    have hs4 := HB4.out.size
    have hd := HD.out
    obtain ⟨m1, m2, m3⟩ := mark_end (.bool true) (HBN.out.trans (HB.out.mono HBN.out.size)) HBK.out HK.out (by omega) (by have := HBN.out.size; omega)
    refine ⟨by simp, .inl ⟨_, _, rfl, run_takeDeferred m1, ?_⟩⟩
    exact ⟨_, by simp [results, Tryd.results9, go_sem, m2], rfl, m3 _⟩
  case done =>
    rintro D ys W hD hys ⟨hN, hB, hS, hP⟩ hK
    have hy : ys.length = X.length := by rw [← hys, List.length_map]
    rw [hy] at hN hP
    have hbt : Boxed W w.heap.size 5 (.int .u8 (st : Int)) := (hB.block _ HTN.out.lt).trans HTN.out
    have hbw : Boxed W w2.heap.size 53 (.slice Aw X.length cw) := (hB.block _ HWN.out.lt).trans HWN.out
    have hbk : Boxed W (w.heap.size + 1) 4 (.bool false) := (hB.block _ HCN.out.lt).trans HCN.out
    have hc1 := hbt.cell
    have hc2 := hbw.cell
    have hc3 := hbk.cell
    have hf3 := hbk.frozen
    have hc4 := hN.cell
    have hmin : min (st : Int) (X.length : Int) = (X.length : Int) := by omega
    have hws : wrap64 (st : Int) = (st : Int) := w64 (by omega) (by have := HST0.out; omega)
    have HBK := Aside0.mk hbk
    have HB := Aside0.mk hB
    have HS := Aside0.mk hS
    have HK := Aside0.mk hK
    have HD := Aside0.mk hD
    clear hbt hbw hbk hN hB hS hK hP hys hy hD
    go_wp2
    have hsz := HS34.out
    have hs4 := HB4.out.size
    have hd := HD.out
    obtain ⟨m1, m2, m3⟩ := mark_end (.bool true) (HBN.out.trans (HB.out.mono HBN.out.size)) HBK.out HK.out (by omega) (by have := HBN.out.size; omega)
    refine ⟨by simp, .inl ⟨_, _, rfl, run_takeDeferred m1, ?_⟩⟩
    exact ⟨_, by simp [results, Tryd.results9, go_sem, m2], rfl, m3 _⟩
theorem u8_wf {x : Int} (h : (Lit.int .u8 x).wf = true) : 0 ≤ x ∧ x < 256 := by
  have := K.u8_of_wf h
  omega
theorem paronymlaw02_FieldLines.walk (a0 : Option Addr) (cap0 : Nat) (l0 : List Int) (a1 : Int) (w : World) (hE : EnvF w) (hC0 : Kd.C (Kd.int .u8) w a0 l0.length l0) (hcap0 : l0.length ≤ cap0) (ho : Oct l0) (w1 : (Lit.int .u8 a1).wf = true) :
    Calls Tryd.prog 9 #[.slice a0 l0.length cap0, .int .u8 a1] w fun e w' => e = .returned (.bool true) ∧ Below w.heap.size w w' := by
  obtain ⟨h0, h9⟩ := u8_wf w1
  obtain ⟨m, rfl⟩ := Int.eq_ofNat_of_zero_le h0
  by_cases hl : l0.length ≤ 800
  · exact paronymlaw02_FieldLines.main a0 cap0 l0 ho m (by omega) w hE hl hC0 hcap0
  · exact paronymlaw02_FieldLines.long a0 cap0 l0 m w hE hl
end Go.Proofs.YtdnfmilnkoocdaaDoor.Q

-- from Hbof
namespace Go.Proofs.YtdnfmilnkoocdaaDoor.Q
open Go.RowKit Go.Proofs.YtdnfmilnkoocdaaDoorW.PrintWords Go.Proofs.YtdnfmilnkoocdaaDoorW.PrintLast Go.Proofs.YtdnfmilnkoocdaaDoorW.PrintMore
set_option linter.unusedVariables false

/-- The octets of a string. -/
def octs (s : ByteArray) : List Int := s.data.toList.map fun b => (b.toNat : Int)
theorem octs_length (s : ByteArray) : (octs s).length = s.size := by simp [octs]
/-- '[]byte(s)' of a string that is no literal. -/
def bytesOf.f (s : ByteArray) : Option (List Int) := if s.size ≤ 4294967296 then some (octs s) else none

theorem bytesOf.step {P : Program} {W : World} {ops : Array Oper} {rest : List Oper} {o : Oper} {a : Act} {Q : Exit → Act → World → Prop} {u : TypeDesc} (t0 t e : TypeId) (s : Operand) (x : ByteArray) (r : List Int) (h : bytesOf.f x = some r)
    (hgd : o.guard = none) (hop : o.op = .convert t0 t s) (hs : a.eval s = .string x) (h0 : P.underlying t0 = some u) (ht : P.underlying t = some (.slice e)) (he : P.underlying e = some (.int .u8))
    (hk : ∀ v w1, Kd.V (Kd.int .u8) e w1 W.heap.size (fun k => W.heap.size ≤ k) v r → Below W.heap.size W w1 → wpList P ops Q rest (a.put o.dst v) w1) :
    wpList P ops Q (o :: rest) a W := by
  unfold bytesOf.f at h
  split at h
  case isFalse => cases h
  case isTrue hsz =>
  obtain rfl := Option.some.inj h
  have hr := Lib.run_convert_string_bytes (P := P) W t0 t e x h0 ht he
  have hB : Below W.heap.size W (Lib.bytesWorld W e x) := by
    have h1 : Below W.heap.size W (W.drew.alloc (.cells (Lib.bytesCells W e x) e)) := (Below.refl _ W).drew.alloc (Nat.le_refl _) _
    exact ⟨h1.os, h1.tape, h1.output, by rw [Lib.bytesWorld_size]; omega, fun k hk => Lib.bytesWorld_at_old W e x k hk⟩
  have hv : Kd.V (Kd.int .u8) e (Lib.bytesWorld W e x) W.heap.size (fun k => W.heap.size ≤ k) (.slice (some ⟨W.heap.size, 0, none⟩) (octs x).length (grownCap W x.size 0 e)) (octs x) := by
    have hcap := grownCap_ge W x.size 0 e
    refine Kd.V_mk (by rw [octs_length]; exact hcap) (fun W' hW => ?_)
    refine Kd.C_of_reads (d := (0 : Int)) ⟨rfl, by rw [octs_length]; omega, fun _ => ⟨_, rfl, fun j hj => ?_⟩⟩
    rw [octs_length] at hj
    have hnew := Lib.bytesWorld_at_new W e x
    have hW' := (hW W.heap.size (Nat.le_refl _) (by rw [Lib.bytesWorld_size]; omega)).trans hnew
    rw [add_plain, cell_of_row W' _ j _ e _ hW', Lib.bytesCells]
    have hj2 : j < x.data.size := hj
    rw [Array.getElem?_append_left (by simpa using hj2)]
    simp [octs, List.getD_eq_getElem?_getD, Array.getElem?_eq_getElem hj2]
  refine wpList_plain hgd fun K hK => ?_
  unfold Oper.wp execOp
  simp only [hop, hs]
  have hr2 : (do let v ← convert t0 t (.string x); pure (Next.value v) : Sem Next).run P W = .ok (.value (.slice (some ⟨W.heap.size, 0, none⟩) x.size (grownCap W x.size 0 e))) (Lib.bytesWorld W e x) := by
    rw [Sem.run_bind, hr]; rfl
  first | rw [hr2] | (simp only [Sem.run_bind, hr, Sem.run_pure, Result.andThen_ok])
  refine hK _ _ (hk _ _ ?_ hB)
  rw [octs_length] at hv
  exact hv

end Go.Proofs.YtdnfmilnkoocdaaDoor.Q

-- from Prmk
/- Layer 2: remarks behind lines' bodies change no fields. -/
namespace Go.Proofs.YtdnfmilnkoocdaaDoor.K
set_option linter.unusedVariables false
set_option linter.unusedSimpArgs false
open Go.RowKit Go.Proofs.YtdnfmilnkoocdaaDoorW.PrintWords Go.Proofs.YtdnfmilnkoocdaaDoorW.PrintMore Go.Proofs.YtdnfmilnkoocdaaDoor.Q

/-- A line with a remark, and byte 0D at its end. -/
def rmkL (R l : List Int) : List Int := l ++ 35 :: (R ++ [13])
/-- The lines with remarks, one text. -/
def rmkS (R : List Int) : List (List Int) → List Int
  | [] => []
  | l :: X => (rmkL R l ++ [10]) ++ rmkS R X
theorem splP_free {α : Type} (p : α → Bool) : ∀ (l q : List α), q ∈ splP p l → ∀ x ∈ q, p x = false
  | [], q, h, x, hx => by
    simp only [splP, List.mem_singleton] at h
    subst h
    cases hx
  | y :: l, q, h, x, hx => by
    rw [splP_cons] at h
    by_cases hy : p y = true
    · rw [if_pos hy] at h
      rcases List.mem_cons.1 h with rfl | h
      · cases hx
      · exact splP_free p l q h x hx
    · rw [if_neg hy] at h
      have ih := splP_free p l
      cases hs : splP p l with
      | nil => exact absurd hs (splP_ne p l)
      | cons a r =>
        rw [hs] at h ih
        rcases List.mem_cons.1 h with rfl | h
        · rcases List.mem_cons.1 hx with rfl | hx
          · simpa using hy
          · exact ih a (List.mem_cons_self ..) x hx
        · exact ih q (List.mem_cons_of_mem _ h) x hx
theorem spl_free {c : Int} {l q : List Int} (h : q ∈ spl c l) : ∀ x ∈ q, x ≠ c := fun x hx e => by
  have := splP_free _ l q h x hx
  simp [e] at this
theorem rmkS_spl {R : List Int} (hR : ∀ x ∈ R, x ≠ 10) : ∀ (X : List (List Int)), (∀ l ∈ X, ∀ x ∈ l, x ≠ 10) → spl 10 (rmkS R X) = X.map (rmkL R) ++ [[]]
  | [], h => rfl
  | l :: X, h => by
    have ih := rmkS_spl hR X (fun l hl => h l (List.mem_cons_of_mem _ hl))
    unfold spl at ih ⊢
    rw [splP_hit (a := rmkL R l) (b := rmkS R X) (x := 10) (by simp [rmkS]) (fun y hy => ?_) (by simp), ih]
    · rfl
    · have h1 := h l (List.mem_cons_self ..)
      unfold rmkL at hy
      simp only [List.mem_append, List.mem_cons, List.not_mem_nil, or_false] at hy
      rcases hy with hy | rfl | hy | rfl
      · simpa using h1 y hy
      · decide
      · simpa using hR y hy
      · decide
theorem body_head {c : Int} {r : List Int} : ∀ (l : List Int), (spl c (l ++ c :: r)).headD [] = (spl c l).headD []
  | [] => by unfold spl; rw [List.nil_append, splP_cons]; simp [splP]
  | x :: l => by
    have ih := body_head (c := c) (r := r) l
    unfold spl at ih ⊢
    rw [List.cons_append, splP_cons, splP_cons]
    by_cases hx : decide (x = c) = true
    · rw [if_pos hx, if_pos hx]; rfl
    · rw [if_neg hx, if_neg hx]
      cases h1 : splP (fun x => decide (x = c)) (l ++ c :: r) with
      | nil => exact absurd h1 (splP_ne _ _)
      | cons a s =>
        cases h2 : splP (fun x => decide (x = c)) l with
        | nil => exact absurd h2 (splP_ne _ _)
        | cons b t =>
          rw [h1, h2] at ih
          simp only [List.headD_cons] at ih ⊢
          rw [ih]
theorem strip_rmk (R l : List Int) : stripCR (rmkL R l) = l ++ 35 :: R := by
  have h : rmkL R l = (l ++ 35 :: R) ++ [13] := by simp [rmkL]
  unfold stripCR
  rw [h, List.getLast?_append, if_pos (by rfl), List.dropLast_concat]
theorem fields_rmk (R l : List Int) (hl : l.getLast? ≠ some 13) : fieldsL (stripCR (rmkL R l)) = fieldsL (stripCR l) := by
  rw [strip_rmk, show stripCR l = l by unfold stripCR; rw [if_neg hl]]
  have hb : bodyL (l ++ 35 :: R) = bodyL l := body_head l
  unfold fieldsL
  rw [hb]
theorem lines_rmk (R : List Int) : ∀ (X : List (List Int)) (i : Nat), (∀ l ∈ X, l.getLast? ≠ some 13) → linesI i (X.map (rmkL R)) = linesI i X
  | [], i, h => rfl
  | l :: X, i, h => by
    rw [List.map_cons, linesI_cons, linesI_cons, fields_rmk R l (h l (List.mem_cons_self ..)), lines_rmk R X (i + 1) (fun l hl => h l (List.mem_cons_of_mem _ hl))]
/-- The lines of the text with remarks are the lines. -/
theorem remarks_lines {R L : List Int} (hR : ∀ x ∈ R, x ≠ 10) (hL : ∀ l ∈ spl 10 L, l.getLast? ≠ some 13) : linesI 0 (spl 10 (rmkS R (spl 10 L))) = linesI 0 (spl 10 L) := by
  rw [rmkS_spl hR _ (fun l hl => spl_free hl), linesI_app, lines_rmk R _ 0 hL]
  have : fieldsL (stripCR []) = none := by decide
  rw [this, List.append_nil]
theorem rmkS_app (R : List Int) : ∀ (X Y : List (List Int)), rmkS R (X ++ Y) = rmkS R X ++ rmkS R Y
  | [], Y => rfl
  | l :: X, Y => by rw [List.cons_append, show rmkS R (l :: (X ++ Y)) = (rmkL R l ++ [10]) ++ rmkS R (X ++ Y) from rfl, rmkS_app R X Y, ← List.append_assoc]; rfl
theorem rmkS_len (R : List Int) (n : Nat) (hR : R.length ≤ n) : ∀ (X : List (List Int)), (rmkS R X).length ≤ (X.map List.length).sum + X.length * (n + 3)
  | [] => by simp [rmkS]
  | l :: X => by
    have ih := rmkS_len R n hR X
    have : (rmkS R (l :: X)).length = l.length + (R.length + 3) + (rmkS R X).length := by rw [show rmkS R (l :: X) = (rmkL R l ++ [10]) ++ rmkS R X from rfl]; unfold rmkL; simp only [List.length_append, List.length_cons, List.length_nil]; omega
    rw [this, List.map_cons, List.sum_cons, List.length_cons, Nat.add_mul]
    omega
theorem rmkS_oct {R : List Int} (hR : Oct R) : ∀ (X : List (List Int)), (∀ l ∈ X, Oct l) → Oct (rmkS R X)
  | [], h => fun x hx => by cases hx
  | l :: X, h => by
    have ih := rmkS_oct hR X (fun l hl => h l (List.mem_cons_of_mem _ hl))
    have h1 := h l (List.mem_cons_self ..)
    unfold rmkS rmkL
    refine Oct.append (Oct.append (Oct.append h1 ?_) ?_) ih
    · intro x hx
      simp only [List.mem_cons, List.mem_append, List.not_mem_nil, or_false] at hx
      rcases hx with rfl | hx | rfl
      · omega
      · exact hR x hx
      · omega
    · intro x hx
      simp only [List.mem_cons, List.not_mem_nil, or_false] at hx
      omega
end Go.Proofs.YtdnfmilnkoocdaaDoor.K

-- from Hfr1
/- Layer 2's law: FieldRemarks. -/
namespace Go.Proofs.YtdnfmilnkoocdaaDoor.Q
open Go.RowKit Go.Shelf Go.Proofs.YtdnfmilnkoocdaaDoorW.PrintWords Go.Proofs.YtdnfmilnkoocdaaDoorW.PrintLast Go.Proofs.YtdnfmilnkoocdaaDoorW.PrintMore Go.Proofs.YtdnfmilnkoocdaaDoor.K
set_option linter.unusedVariables false
set_option linter.unusedSimpArgs false
attribute [local go_sem] Oper.semAt_some

/-- The octets of a text of octets. -/
theorem octs_str {l : List Int} (h : Oct l) : octs (strOfNums l) = l := by
  have := bytesOf_str h
  unfold Go.Proofs.YtdnfmilnkoocdaaDoorW.PrintWords.bytesOf at this
  unfold octs
  exact this
theorem bytesOf_f_str {l : List Int} (h : Oct l) (hl : l.length ≤ 1000000) : bytesOf.f (strOfNums l) = some l := by
  unfold bytesOf.f
  rw [if_pos (by rw [size_str]; omega), octs_str h]
theorem no13 {l : List Int} (h : l.getLast? = some 13) : ∃ hn : l ≠ [], l.getLast hn = 13 := by
  have hn : l ≠ [] := fun e => by rw [e] at h; cases h
  exact ⟨hn, by rw [List.getLast?_eq_some_getLast hn] at h; exact Option.some.inj h⟩
set_option maxHeartbeats 4000000 in
set_option maxRecDepth 100000 in
theorem paronymlaw02_FieldRemarks.out (A : Option Addr) (c : Nat) (L : List Int) (s : ByteArray) (w : World) (hE : EnvF w) (h : 400 < L.length ∨ 30 < s.size) :
    Calls Tryd.prog 10 #[.slice A L.length c, .string s] w fun e w' => e = .returned (.bool true) ∧ Below w.heap.size w w' := by
  have HE := Aside0.mk hE
  have hb0 : Below w.heap.size w (w.alloc (.cells #[.bool false] 4)) := (Below.refl _ w).alloc (Nat.le_refl _) _
  have HB0 := Aside0.mk hb0
  have HC0 := Aside0.mk (Boxed.new w 4 (.bool false))
  clear hb0 hE
  go_enter Tryd.func10, Tryd.ntmps10
  by_cases hh : ((400 : Int) < (L.length : Int))
  · have e0 := eq_true hh
    have e1 : decide ((L.length : Int) > 400) = true := decide_eq_true hh
    clear hh h
    go_wp2_with (first
    | (go_at_call 32; refine (paronymlaw02_awake.calls0 _ (HE.out.below HB0.out)).mono ?_; rintro e w1 ⟨rfl, hb⟩; have hc1 : Boxed w1 w.heap.size 4 (.bool false) := ((hb.block _ HC0.out.lt).trans HC0.out); have hcc := Boxed.cell hc1; have hcf := Boxed.frozen hc1; have HC1 := Aside0.mk hc1; have HB1 := Aside0.mk (HB0.out.trans (hb.mono HB0.out.size)); clear hb hc1)
    | (go_at_call 32; refine (paronymlaw02_awake.calls0 _ (HE.out.below HB1.out)).mono ?_; rintro e w2 ⟨rfl, hb⟩; have hc2 : Boxed w2 w.heap.size 4 (.bool false) := ((hb.block _ HC1.out.lt).trans HC1.out); have hcc2 := Boxed.cell hc2; have hcf2 := Boxed.frozen hc2; have HC2 := Aside0.mk hc2; have HB2 := Aside0.mk (HB1.out.trans (hb.mono HB1.out.size)); clear hb hc2))
    have hcq := (Boxed.set (.bool true) HC2.out).cell
    refine bodyPost_ret (v := .bool true) (by simp [results, Tryd.results10, go_sem, hcq]) rfl ?_
    exact ⟨rfl, HB2.out.setCell (p := ⟨w.heap.size, 0, none⟩) (by simp) _⟩
  · have e0 := eq_false hh
    have e1 : decide ((L.length : Int) > 400) = false := decide_eq_false hh
    have hz : (30 : Int) < (s.size : Int) := by omega
    have e2 := eq_true hz
    have e3 : decide ((s.size : Int) > 30) = true := decide_eq_true hz
    clear hh h hz
    go_wp2_with (first
    | (go_at_call 32; refine (paronymlaw02_awake.calls0 _ (HE.out.below HB0.out)).mono ?_; rintro e w1 ⟨rfl, hb⟩; have hc1 : Boxed w1 w.heap.size 4 (.bool false) := ((hb.block _ HC0.out.lt).trans HC0.out); have hcc := Boxed.cell hc1; have hcf := Boxed.frozen hc1; have HC1 := Aside0.mk hc1; have HB1 := Aside0.mk (HB0.out.trans (hb.mono HB0.out.size)); clear hb hc1)
    | (go_at_call 32; refine (paronymlaw02_awake.calls0 _ (HE.out.below HB1.out)).mono ?_; rintro e w2 ⟨rfl, hb⟩; have hc2 : Boxed w2 w.heap.size 4 (.bool false) := ((hb.block _ HC1.out.lt).trans HC1.out); have hcc2 := Boxed.cell hc2; have hcf2 := Boxed.frozen hc2; have HC2 := Aside0.mk hc2; have HB2 := Aside0.mk (HB1.out.trans (hb.mono HB1.out.size)); clear hb hc2))
    have hcq := (Boxed.set (.bool true) HC2.out).cell
    refine bodyPost_ret (v := .bool true) (by simp [results, Tryd.results10, go_sem, hcq]) rfl ?_
    exact ⟨rfl, HB2.out.setCell (p := ⟨w.heap.size, 0, none⟩) (by simp) _⟩
set_option maxHeartbeats 4000000 in
set_option maxRecDepth 100000 in
theorem paronymlaw02_FieldRemarks.main (A : Option Addr) (c : Nat) (L : List Int) (ho : Oct L) (R : List Int) (hoR : Oct R) (w : World) (hE : EnvF w) (hl : L.length ≤ 400) (hlR : R.length ≤ 30) (hr : Kd.C (Kd.int .u8) w A L.length L) (hc : L.length ≤ c) :
    Calls Tryd.prog 10 #[.slice A L.length c, .string (strOfNums R)] w fun e w' => e = .returned (.bool true) ∧ Below w.heap.size w w' := by
  obtain ⟨k1, hk1⟩ := (lines_ev ho (by omega)).rounds
  obtain ⟨k2, hk2⟩ := (cut_ev ho (by omega) 10).rounds
  obtain ⟨X, hX⟩ : ∃ X, X = linesI 0 (spl 10 L) := ⟨_, rfl⟩
  obtain ⟨Y, hY⟩ : ∃ Y, Y = spl 10 L := ⟨_, rfl⟩
  have hYn : Y.length ≤ 401 := by
    rw [hY]
    have h2 := splP_count (fun x => decide (x = (10 : Int))) L
    unfold spl; omega
  have hXn : X.length ≤ 401 := by
    have h1 := linesI_len (spl 10 L) 0
    rw [← hX, ← hY] at h1
    omega
  have hYo : ∀ l ∈ Y, Oct l := fun l h => by rw [hY] at h; exact oct_spl ho h
  have hYl : ∀ l ∈ Y, l.length ≤ 400 := fun l h => by rw [hY] at h; have := len_spl h; omega
  have hSl : ∀ i, (rmkS R (Y.take i)).length ≤ 20000 := fun i => by
    have h1 := rmkS_len R 30 hlR (Y.take i)
    have h2 : ((Y.take i).map List.length).sum ≤ (Y.map List.length).sum := by
      rw [List.map_take]
      conv => rhs; rw [← List.take_append_drop i (Y.map List.length), List.sum_append]
      omega
    have h3 := splP_sum (fun x => decide (x = (10 : Int))) L
    have h4 : (Y.map List.length).sum ≤ 401 := by rw [hY]; unfold spl; omega
    have h5 : (Y.take i).length ≤ 401 := by rw [List.length_take]; omega
    omega
  rw [linesS_is, ← hX] at hk1
  rw [← hY] at hk2
  have HX := Aside0.mk hX
  have HY := Aside0.mk hY
  have HYN := Aside0.mk hYn
  have HXN := Aside0.mk hXn
  have HYO := Aside0.mk hYo
  have HYL := Aside0.mk hYl
  have HSL := Aside0.mk hSl
  have HK1 := Aside0.mk hk1
  have HK2 := Aside0.mk hk2
  have HE := Aside0.mk hE
  have HO := Aside0.mk ho
  have HOR := Aside0.mk hoR
  have HR := Aside0.mk hr
  have HC := Aside0.mk hc
  have HL := Aside0.mk hl
  have HLR := Aside0.mk hlR
  have hh : ¬ ((400 : Int) < (L.length : Int)) := by omega
  have e0 := eq_false hh
  have e1 : decide ((L.length : Int) > 400) = false := decide_eq_false hh
  have hsz : (strOfNums R).size = R.length := size_str R
  have hh2 : ¬ ((30 : Int) < (R.length : Int)) := by omega
  have e2 := eq_false hh2
  have e3 : decide ((R.length : Int) > 30) = false := decide_eq_false hh2
  have hix : ∀ (i : Nat) (hi : i < R.length) (h : (i : Int).toNat < (strOfNums R).size), (((strOfNums R)[(i : Int).toNat]'h).toNat : Int) = R[i] := fun i hi h => by
    rw [bt_at (strOfNums R) (i : Int) h, bt_str hoR (by omega) (by omega), rd_nat R i hi]
  obtain ⟨sR, hsR⟩ : ∃ s, s = strOfNums R := ⟨_, rfl⟩
  rw [← hsR] at hsz hix ⊢
  have HSR := Aside0.mk hsR
  have HIX := Aside0.mk hix
  clear hE hl hh hX hXn hk1 hk2 ho hr hc hY hYn hYo hYl hSl hoR hlR hh2 hsR hix
  have hb0 : Below w.heap.size w (w.alloc (.cells #[.bool false] 4)) := (Below.refl _ w).alloc (Nat.le_refl _) _
  have hs0 : (w.alloc (.cells #[.bool false] 4)).heap.size = w.heap.size + 1 := by simp
  have HB0 := Aside0.mk hb0
  have HC0 := Aside0.mk (Boxed.new w 4 (.bool false))
  have HS0 := Aside0.mk hs0
  clear hb0 hs0
  refine (callsIn_wide (n := 20)).1 ?_
  refine callsIn_of_wp_marks Tryd.func10 rfl trivial ?_ rfl
  simp only [Tryd.ntmps10, List.size_toArray, List.length_cons, List.length_nil, Nat.reduceAdd, Nat.reduceSub, Array.replicate_succ, Array.replicate_zero, List.push_toArray, List.append_toArray, List.nil_append, List.cons_append]
  refine wpIn_wide.2 ?_
  go_wp2_with (
    (go_at_call 32; refine (paronymlaw02_awake.calls0 _ (HE.out.below HB0.out)).mono ?_; rintro e w1 ⟨rfl, hb⟩
     have HB1 := Aside0.mk (HB0.out.trans (hb.mono HB0.out.size))
     have HS1 : Aside0 (w.heap.size + 1 ≤ w1.heap.size) := ⟨by rw [← HS0.out]; exact hb.size⟩
     have HC1 : Aside0 (Boxed w1 w.heap.size 4 (.bool false)) := ⟨(hb.block _ HC0.out.lt).trans HC0.out⟩
     clear hb))
  have hc1 := HC1.out.cell
  have hf1 := HC1.out.frozen
  clear e0 e1 e2 e3
  go_loopg [5] (R.length + 1) (fun kq s5 wr => ∃ i : Nat, s5 = .int .i64 (i : Int) ∧ Aside0 (i + kq = R.length + 1 ∧ i ≤ R.length) ∧ Aside0 (∀ x ∈ R.take i, x ≠ 10 ∧ x ≠ 13) ∧ wr = w1)
  case atStart => exact ⟨0, rfl, ⟨by omega, by omega⟩, ⟨fun x hx => by simp at hx⟩, rfl⟩
  case round =>
    obtain ⟨i, rfl, HI, HN, rfl⟩ := hrel
    cases gk with
    | zero => exact absurd HI.out (by omega)
    | succ kq =>
    by_cases c1 : (i : Int) < (R.length : Int)
    · have hi : i < R.length := by omega
      obtain ⟨x, hx⟩ : ∃ x, x = R[i] := ⟨_, rfl⟩
      have hx12 : ∀ h : (i : Int).toNat < sR.size, ((sR[(i : Int).toNat]'h).toNat : Int) = x := fun h => by rw [HIX.out i hi h, hx]
      have hx13 : ∀ h : i < sR.size, ((sR[i]'h).toNat : Int) = x := fun h => hx12 h
      have htk : R.take (i + 1) = R.take i ++ [x] := by rw [hx, List.take_append_getElem]
      have HTK := Aside0.mk htk
      have e0 := eq_true c1
      have e1 : decide ((i : Int) < (R.length : Int)) = true := decide_eq_true c1
      have e2 : (i < R.length) = True := eq_true hi
      have m2 : wrap64 ((i : Int) + 1) = (i : Int) + 1 := w64 (by omega) (by have := HLR.out; omega)
      have HII := Aside0.mk hi
      clear c1 hi hx htk
      by_cases c2 : x = 10
      · subst c2
        go_wp2
        have hcq := (Boxed.set (.bool true) HC1.out).cell
        exact ⟨_, by simp [results, Tryd.results10, go_sem, hcq], rfl, HB1.out.setCell (p := ⟨w.heap.size, 0, none⟩) (by simp) _⟩
      · by_cases c3 : x = 13
        · subst c3
          go_wp2
          have hcq := (Boxed.set (.bool true) HC1.out).cell
          exact ⟨_, by simp [results, Tryd.results10, go_sem, hcq], rfl, HB1.out.setCell (p := ⟨w.heap.size, 0, none⟩) (by simp) _⟩
        · have f4 : (x == 10) = false := beq_eq_false_iff_ne.mpr c2
          have f5 : (x == 13) = false := beq_eq_false_iff_ne.mpr c3
          have f0 := eq_false c2
          have f1 : decide (x = 10) = false := decide_eq_false c2
          have f2 := eq_false c3
          have f3 : decide (x = 13) = false := decide_eq_false c3
          have HNX : Aside0 (x ≠ 10 ∧ x ≠ 13) := ⟨c2, c3⟩
          clear c2 c3
          go_wp2
          go_roundg kq
          case measure => omega
          case rel =>
            exact ⟨i + 1, by first | rfl | (rw [m2]; rfl), ⟨by have := HI.out; omega, by have := HII.out; omega⟩, ⟨fun y hy => by
              rw [HTK.out] at hy
              rcases List.mem_append.1 hy with hy | hy
              · exact HN.out y hy
              · obtain rfl : y = x := by simpa using hy
                exact HNX.out⟩, rfl⟩
    · have e0 := eq_false c1
      have e1 : decide ((i : Int) < (R.length : Int)) = false := decide_eq_false c1
      have hin : i = R.length := by have := HI.out; omega
      subst hin
      have HN' : Aside0 (∀ x ∈ R, x ≠ 10 ∧ x ≠ 13) := ⟨fun x hx => HN.out x (by rw [List.take_length]; exact hx)⟩
      clear c1 HN HI
      have hcv := Kd.C_string (P := Tryd.prog) (c := c) Tryd.underlying22 Tryd.underlying5 Tryd.underlying9 (Kd.C_below HR.out HB1.out)
      go_wp2_with (
        (go_at_call 29; refine (paronymref02_Cut.calls k2 _ _ _ _ HK2.out).mono ?_; rintro e w2 ⟨v2, rfl, hs, hb⟩
         obtain ⟨Ay, cy, e, hcy, hCy⟩ := Kd.R_reads hs
         subst e
         have HCY := Aside0.mk hcy
         have HYC := Aside0.mk hCy
         have HB2 := Aside0.mk hb
         clear hs hb hcy hCy))
      have hs1 := HB1.out.size
      have hc2 : Boxed w2 w.heap.size 4 (.bool false) := (HB2.out.block _ HC1.out.lt).trans HC1.out
      have HC2 := Aside0.mk hc2
      have HB12 := Aside0.mk (HB1.out.trans (HB2.out.mono hs1))
      have hcy : Y.length ≤ cy := by have := HCY.out; rwa [List.length_map] at this
      have hyc : Kd.C Kd.string w2 Ay Y.length (Y.map strOfNums) := by have := HYC.out; rwa [List.length_map] at this
      have HYC2 := Aside0.mk hyc
      have HCY2 := Aside0.mk hcy
      have HR2 := Aside0.mk (Kd.C_below HR.out HB12.out)
      clear hs1 hc2 hcy hyc hcv hc1 hf1 HYC HCY HB0 HC0 HS0 HB2
      go_loopg [7, 8] (Y.length + 1) (fun kq s7 s8 wr => ∃ i : Nat, s8 = .int .i64 (i : Int) ∧ s7 = .string (strOfNums (rmkS R (Y.take i))) ∧ Aside0 (i + kq = Y.length + 1 ∧ i ≤ Y.length) ∧ Aside0 (∀ l ∈ Y.take i, l.getLast? ≠ some 13) ∧ Aside0 (Below w2.heap.size w2 wr))
      case atStart => exact ⟨0, rfl, by simp [rmkS]; rfl, ⟨by omega, by omega⟩, ⟨fun x hx => by simp at hx⟩, ⟨Below.refl _ _⟩⟩
      case round =>
        obtain ⟨i, rfl, rfl, HI, HN, HB⟩ := hrel
        have hcw : Boxed wr w.heap.size 4 (.bool false) := (HB.out.block _ HC2.out.lt).trans HC2.out
        have hc1 := hcw.cell
        have hf1 := hcw.frozen
        have HCW := Aside0.mk hcw
        clear hcw
        cases gk with
        | zero => exact absurd HI.out (by omega)
        | succ kq =>
        by_cases c1 : (i : Int) < (Y.length : Int)
        · have hi : i < Y.length := by omega
          obtain ⟨l, hlx⟩ : ∃ l, l = Y[i] := ⟨_, rfl⟩
          have hrd := rdOf_map2 Y i hi
          rw [← hlx] at hrd
          have hlm : l ∈ Y := hlx ▸ List.getElem_mem hi
          have hol := HYO.out l hlm
          have hll := HYL.out l hlm
          obtain ⟨ad, hAd, hx0⟩ := Kd.at_string (Kd.C_below HYC2.out HB.out) (i : Int) (by omega) c1
          rw [hrd, Int.toNat_natCast] at hx0
          subst hAd
          have htk : Y.take (i + 1) = Y.take i ++ [l] := by rw [hlx, List.take_append_getElem]
          have HTK := Aside0.mk htk
          have e0 := eq_true c1
          have e1 : decide ((i : Int) < (Y.length : Int)) = true := decide_eq_true c1
          have e2 : (i < Y.length) = True := eq_true hi
          have m2 : wrap64 ((i : Int) + 1) = (i : Int) + 1 := w64 (by omega) (by have := HYN.out; omega)
          have HII := Aside0.mk hi
          obtain ⟨sl, hsl⟩ : ∃ s, s = strOfNums l := ⟨_, rfl⟩
          have hszl : sl.size = l.length := by rw [hsl]; exact size_str l
          rw [← hsl] at hx0
          have HSLL := Aside0.mk hsl
          have hP := HSL.out i
          obtain ⟨P, hPd⟩ : ∃ P, P = rmkS R (Y.take i) := ⟨_, rfl⟩
          rw [← hPd] at hP ⊢
          have HPD := Aside0.mk hPd
          obtain ⟨sP, hsP⟩ : ∃ s, s = strOfNums P := ⟨_, rfl⟩
          have hszP : sP.size = P.length := by rw [hsP]; exact size_str P
          rw [← hsP]
          have HSP := Aside0.mk hsP
          have hlr := HLR.out
          have n1 : (9223372036854775807 < P.length + l.length) = False := eq_false (by omega)
          have n2 : (9223372036854775807 < P.length + l.length + 1) = False := eq_false (by omega)
          have n3 : (9223372036854775807 < P.length + l.length + 1 + R.length) = False := eq_false (by omega)
          have n4 : (9223372036854775807 < P.length + l.length + 1 + R.length + 2) = False := eq_false (by omega)
          clear hlr
          have key : sP ++ sl ++ (⟨#[35]⟩ : ByteArray) ++ sR ++ (⟨#[13, 10]⟩ : ByteArray) = strOfNums (rmkS R (Y.take (i + 1))) := by
            rw [htk, rmkS_app, ← hPd, hsP, hsl, HSR.out, show (⟨#[35]⟩ : ByteArray) = strOfNums [35] from rfl, show (⟨#[13, 10]⟩ : ByteArray) = strOfNums [13, 10] from rfl, str_append, str_append, str_append, str_append]
            simp [rmkS, rmkL]
          have HKEY := Aside0.mk key
          clear key
          have HOL := Aside0.mk hol
          have HLL := Aside0.mk hll
          have HLM := Aside0.mk hlm
          clear hi hlx hrd htk hsl hsP hPd hlm
          by_cases c2 : l.length = 0
          · have d0 : decide ((l.length : Int) > 0) = false := decide_eq_false (by omega)
            have d1 : decide (0 < (l.length : Int)) = false := decide_eq_false (by omega)
            have d2 : decide (0 < l.length) = false := decide_eq_false (by omega)
            have hne : l.getLast? ≠ some 13 := by obtain rfl := List.length_eq_zero_iff.1 c2; simp
            have HNE := Aside0.mk hne
            clear c1 c2 hne hol hll hP
            go_wp2
            go_quiet (fail)
            go_wp2
            go_roundg kq
            case measure => omega
            case rel =>
              exact ⟨i + 1, by first | rfl | (rw [m2]; rfl), by rw [HKEY.out], ⟨by have := HI.out; omega, by have := HII.out; omega⟩, ⟨fun y hy => by
                rw [HTK.out] at hy
                rcases List.mem_append.1 hy with hy | hy
                · exact HN.out y hy
                · obtain rfl : y = l := by simpa using hy
                  exact HNE.out⟩, ⟨pw_below_drewN HB.out _⟩⟩
          · obtain ⟨n, hn⟩ : ∃ n, n = l.length := ⟨_, rfl⟩
            have hln : l ≠ [] := fun e => c2 (by rw [e]; rfl)
            obtain ⟨x, hx⟩ : ∃ x, x = l.getLast hln := ⟨_, rfl⟩
            have hbt : bt sl ((n - 1 : Nat) : Int) = x := by
              rw [HSLL.out, bt_str hol (by omega) (by omega), rd_nat l (n - 1) (by omega), hx, List.getLast_eq_getElem]
              simp only [hn]
            have hix : ∀ h : n - 1 < sl.size, ((sl[n - 1]'h).toNat : Int) = x := fun h => (bt_at sl ((n - 1 : Nat) : Int) (by rw [Int.toNat_natCast]; exact h)).trans hbt
            have hix2 : ∀ h : (((n - 1 : Nat) : Int)).toNat < sl.size, ((sl[(((n - 1 : Nat) : Int)).toNat]'h).toNat : Int) = x := fun h => hix (by rwa [Int.toNat_natCast] at h)
            have d0 : decide ((n : Int) > 0) = true := decide_eq_true (by omega)
            have d1 : decide (0 < (n : Int)) = true := decide_eq_true (by omega)
            have d2 : decide (0 < n) = true := decide_eq_true (by omega)
            have d3 : (0 < n) = True := eq_true (by omega)
            have d4 : (n - 1 < n) = True := eq_true (by omega)
            have d5 : wrap64 ((n : Int) - 1) = ((n - 1 : Nat) : Int) := by rw [w64 (by omega) (by omega)]; omega
            have d6 : (((n - 1 : Nat) : Int) < (n : Int)) = True := eq_true (by omega)
            have hlast : l.getLast? = some x := by rw [List.getLast?_eq_some_getLast hln, hx]
            rw [← hn] at hszl n1 n2 n3 n4
            have HLAST := Aside0.mk hlast
            clear c1 c2 hol hll hP hx hlast hn hln hbt
            by_cases c3 : x = 13
            · subst c3
              go_wp2
              go_quiet (fail)
              go_wp2
              have hcq : ∀ m : Nat, ((wr.drewN m).setCell ⟨w.heap.size, 0, none⟩ (.bool true)).cell? ⟨w.heap.size, 0, none⟩ = some (.bool true) := fun m => (Boxed.set (.bool true) (((pw_below_drewN (Below.refl wr.heap.size wr) m).block _ HCW.out.lt).trans HCW.out)).cell
              exact ⟨_, by simp [results, Tryd.results10, go_sem, hcq], rfl, (HB12.out.trans ((pw_below_drewN HB.out _).mono HB12.out.size)).setCell (p := ⟨w.heap.size, 0, none⟩) (by simp) _⟩
            · have f5 : (x == 13) = false := beq_eq_false_iff_ne.mpr c3
              have f6 : decide (x = 13) = false := decide_eq_false c3
              have HNE : Aside0 (l.getLast? ≠ some 13) := ⟨by rw [HLAST.out]; simpa using c3⟩
              clear c3
              go_wp2
              go_quiet (fail)
              go_wp2
              go_roundg kq
              case measure => omega
              case rel =>
                exact ⟨i + 1, by first | rfl | (rw [m2]; rfl), by rw [HKEY.out], ⟨by have := HI.out; omega, by have := HII.out; omega⟩, ⟨fun y hy => by
                  rw [HTK.out] at hy
                  rcases List.mem_append.1 hy with hy | hy
                  · exact HN.out y hy
                  · obtain rfl : y = l := by simpa using hy
                    exact HNE.out⟩, ⟨pw_below_drewN HB.out _⟩⟩
        · have e0 := eq_false c1
          have e1 : decide ((i : Int) < (Y.length : Int)) = false := decide_eq_false c1
          have hin : i = Y.length := by have := HI.out; omega
          subst hin
          rw [List.take_length] at HN ⊢
          clear c1 HI
          obtain ⟨Z, hZ⟩ : ∃ Z, Z = rmkS R Y := ⟨_, rfl⟩
          have hZl : Z.length ≤ 20000 := by have := HSL.out Y.length; rw [List.take_length] at this; rw [hZ]; exact this
          have hZo : Oct Z := by rw [hZ]; exact rmkS_oct HOR.out _ HYO.out
          have hZx : linesI 0 (spl 10 Z) = X := by
            rw [hZ, HX.out, HY.out]
            exact remarks_lines (fun x hx => (HN'.out x hx).1) (fun l hl => HN.out l (by rw [HY.out]; exact hl))
          have hbf := bytesOf_f_str hZo (by omega)
          rw [← hZ]
          obtain ⟨sZ, hsZ⟩ : ∃ s, s = strOfNums Z := ⟨_, rfl⟩
          rw [← hsZ] at hbf ⊢
          have HZL := Aside0.mk hZl
          have HZO := Aside0.mk hZo
          have HZX := Aside0.mk hZx
          have HBF := Aside0.mk hbf
          have hBw : Below w.heap.size w wr := HB12.out.trans (HB.out.mono HB12.out.size)
          have HBW := Aside0.mk hBw
          have hcv := Kd.C_string (P := Tryd.prog) (c := c) Tryd.underlying22 Tryd.underlying5 Tryd.underlying9 (Kd.C_below HR.out hBw)
          clear hZ hZl hZo hZx hbf hsZ hBw hc1 hf1 HN
          go_wp2_with (first
            | (go_at_call 33; refine (paronymref02_Lines.calls k1 _ _ _ HK1.out).mono ?_; rintro e w3 ⟨v2, rfl, hs, hb⟩
               obtain ⟨Aw, cw, e, hcw, hCw⟩ := Kd.R_reads (Kd.S_R hs)
               subst e
               have HCW2 := Aside0.mk hcw
               have HW := Aside0.mk hCw
               have HB3 := Aside0.mk hb
               clear hs hb hcw hCw)
            | ((with_reducible refine gate_dst (N := 84) rfl ?_); (try (refine gate_guard (by rfl) ?_; dsimp only)); refine bytesOf.step 9 22 5 _ sZ Z HBF.out rfl rfl rfl Tryd.underlying9 Tryd.underlying22 Tryd.underlying5 ?_; intro v5 w5 hv5 hb5; have HV5 := Aside0.mk hv5; have HB5 := Aside0.mk hb5; clear hv5 hb5)
            | (go_at_call 34
               obtain ⟨A1, c1, rfl⟩ := Kd.V_slice HV5.out
               obtain ⟨-, hc1, hC1⟩ := Kd.V_reads' HV5.out
               have hs3 := HB3.out.size
               have hsw := HBW.out.size
               have hbw3 : Below w.heap.size w w3 := HBW.out.trans (HB3.out.mono hsw)
               have hnn : (w3.alloc (.cells #[.slice Aw X.length cw] 53)).heap.size = w3.heap.size + 1 := World.size_alloc ..
               have hbn : Below w.heap.size w (w3.alloc (.cells #[.slice Aw X.length cw] 53)) := hbw3.alloc (by omega) _
               have hcn : Boxed (w3.alloc (.cells #[.slice Aw X.length cw] 53)) w.heap.size 4 (.bool false) := Boxed.alloc ((HB3.out.block _ HCW.out.lt).trans HCW.out) _
               have hwn : Boxed (w3.alloc (.cells #[.slice Aw X.length cw] 53)) w3.heap.size 53 (.slice Aw X.length cw) := Boxed.new w3 _ _
               have hrn : Kd.C k60 (w3.alloc (.cells #[.slice Aw X.length cw] 53)) Aw X.length (X.map toS) := by
                 have := Kd.C_alloc HW.out (.cells #[.slice Aw X.length cw] 53)
                 rwa [List.length_map] at this
               have hsn : w.heap.size + 1 ≤ w3.heap.size := by have := HCW.out.lt; omega
               generalize w3.alloc (.cells #[.slice Aw X.length cw] 53) = wn at *
               have hn3 : Boxed (wn.alloc (.cells #[.int .i64 0] 3)) (w3.heap.size + 1) 3 (.int .i64 0) := hnn ▸ Boxed.new wn 3 (.int .i64 0)
               have hsz3 : (wn.alloc (.cells #[.int .i64 0] 3)).heap.size = w3.heap.size + 2 := by rw [World.size_alloc, hnn]
               have hb3 : Below wn.heap.size wn (wn.alloc (.cells #[.int .i64 0] 3)) := (Below.refl _ wn).alloc (Nat.le_refl _) _
               generalize wn.alloc (.cells #[.int .i64 0] 3) = wm at *
               have hb35 : Below wn.heap.size wn w5 := hb3.trans (HB5.out.mono hb3.size)
               have hbw5 := hbn.trans (hb35.mono hbn.size)
               refine (field_Lines.calls A1 c1 Z HZO.out (by have := HZL.out; omega) w5 (HE.out.below hbw5) hC1 hc1).mono ?_
               rintro e w6 ⟨g, gb, rfl, hg0, hgb0, hg, hgb, hb4⟩
               have hb : Below wn.heap.size wn w6 := hb35.trans (hb4.mono hb35.size)
               have hs4 := hb4.size
               have hs5 := HB5.out.size
               have hn5 : Boxed w5 (w3.heap.size + 1) 3 (.int .i64 0) := (HB5.out.block _ hn3.lt).trans hn3
               have hn4 : Boxed w6 (w3.heap.size + 1) 3 (.int .i64 0) := (hb4.block _ hn5.lt).trans hn5
               have HG : Aside0 (w3.heap.size + 2 ≤ g ∧ w3.heap.size + 2 ≤ gb) := ⟨by omega, by omega⟩
               have HS3 := Aside0.mk hg
               have HX3 := Aside0.mk hgb
               have HB4 := Aside0.mk hb
               have HN4 := Aside0.mk hn4
               have HS34 : Aside0 (wn.heap.size = w3.heap.size + 1 ∧ w.heap.size + 1 ≤ w3.heap.size ∧ w3.heap.size + 2 ≤ w6.heap.size) := ⟨by omega, by omega, by omega⟩
               have HE4 := Aside0.mk (HE.out.below (hbw5.trans (hb4.mono hbw5.size)))
               have HBN := Aside0.mk hbn
               have HCN := Aside0.mk hcn
               have HWN := Aside0.mk hwn
               have HRN := Aside0.mk hrn
               clear hg0 hgb0 hg hgb hb4 hb hn4 hn5 hn3 hsz3 hb3 hbw3 hs4 hs5 hnn hsn hbn hcn hwn hrn hs3 hsw hb35 hbw5 HW HB3 HCW HB5 HV5 hc1 hC1 hcv))
          have h1 := HE.out.lt
          have h2 := HS34.out
          have hst := field_Lines.stops Z HZO.out (by have := HZL.out; omega) g gb w6 (fun k => k = w3.heap.size + 1) HE4.out (fun e => by omega) (fun e => by omega) (fun e => by have := HG.out.1; omega) HS3.out HX3.out 19 (by omega)
          rw [HZX.out] at hst
          have HST := Aside0.mk hst
          clear hst h1 h2
          refine (wpIn_wide (n := 20)).1 ?_
          refine wpIn_range_as rfl (by omega) (gf := 61) (lb := #[.pointer (some ⟨gb, 0, none⟩)]) rfl trivial (enters_of Tryd.func61 (by kernel_rfl) rfl)
            HST.out KeepC.trans keepC_put (Below.refl _ _) (fun _ => rfl)
            (fun pre W => Boxed W (w3.heap.size + 1) 3 (.int .i64 pre.length) ∧ Below wn.heap.size wn W ∧ w6.heap.size ≤ W.heap.size)
            (fun c pre W => False)
            (fun pre W W' row hs hg hr => ⟨boxed_own (w3.heap.size + 1) 3 (fun pre : List LItem => .int .i64 pre.length) pre W W' row hs.1 hg (fun r e => (hr r e).2), hs.2.1.grown hg (Nat.le_trans HB4.out.size hs.2.2) (fun k e => Nat.le_trans HB4.out.size (hr k e).1), Nat.le_trans hs.2.2 hg.size⟩)
            (fun c s W W' row hs hg hr => hs) ⟨HN4.out, HB4.out, Nat.le_refl _⟩
            (fun pre x a1 W => (∃ vb, a1 = { tmps := #[Value.slice A L.length c, Value.string sR, undef, undef, Value.pointer (some ⟨w.heap.size, 0, none⟩), Value.int IntKind.i64 ↑R.length, Value.slice Ay Y.length cy, Value.string sZ, Value.int IntKind.i64 ↑Y.length, Value.pointer (some ⟨w3.heap.size, 0, none⟩), Value.pointer (some ⟨w3.heap.size + 1, 0, none⟩), Value.pointer (some ⟨vb, 0, none⟩), Value.bool true, Value.bool false, Value.bool false, Value.slice A L.length c, Value.int IntKind.i64 ↑L.length, Value.bool false, Value.bool false, Value.bool false, Value.string sR, Value.int IntKind.i64 ↑R.length, Value.bool false, Value.bool false, undef, Value.int IntKind.i64 ↑R.length, Value.string sR, Value.int IntKind.i64 ↑R.length, Value.bool false, u29, u30, u31, u32, u33, u34, u35, u36, u37, u38, u39, u40, Value.slice A L.length c, Value.string (strOfNums L), Value.slice Ay Y.length cy, Value.int IntKind.i64 ↑Y.length, Value.slice Ay Y.length cy, Value.int IntKind.i64 ↑Y.length, Value.bool false, u48, u49, u50, u51, u52, u53, u54, u55, u56, u57, u58, u59, u60, u61, u62, u63, u64, u65, u66, u67, u68, u69, u70, u71, u72, u73, u74, u75, u76, u77, u78, u79, Value.slice A L.length c, Value.string (strOfNums L), Value.slice Aw X.length cw, Value.string sZ, Value.slice A1 Z.length c1, Value.func (Fn.func 61) #[] #[Value.pointer (some ⟨gb, 0, none⟩)], Value.agg #[Value.int IntKind.i64 x.1, Value.slice (some ⟨x.2.1, 0, none⟩) x.2.2.length x.2.2.length], undef, undef, undef, undef, undef, undef, undef, undef, undef, undef, undef, undef, undef, undef, undef, undef, undef, undef, undef, undef, undef, undef, undef, undef, undef, undef, undef, undef, undef, undef, undef], defers := [] } ∧ w6.heap.size ≤ vb ∧ W.heap[vb]? = some (.cells #[.int .i64 x.1, .slice (some ⟨x.2.1, 0, none⟩) x.2.2.length x.2.2.length] 59 (0, 0))) ∧ x.at_ W ∧ Boxed W (w3.heap.size + 1) 3 (.int .i64 pre.length) ∧ Below wn.heap.size wn W ∧ w6.heap.size ≤ W.heap.size)
            (fun pre x a1 s W W' row hs hg hr => by
              obtain ⟨⟨vb, h1, h2, h3⟩, h4, h5, h6, h7⟩ := hs
              have key : ∀ (b : Nat) (C : Array Value) (t : TypeId) (p : Nat × Nat), W.heap[b]? = some (.cells C t p) → W'.heap[b]? = some (.cells C t p) := fun b C t p h => (hg.block b (Array.getElem?_eq_some_iff.1 h).1 (fun e => by
                obtain ⟨_, o, ho, hc⟩ := hr b e.symm
                rw [h] at ho
                cases ho
                cases hc)).trans h
              exact ⟨⟨vb, h1, h2, key _ _ _ _ h3⟩, key _ _ _ _ h4, key _ _ _ _ h5, h6.grown hg (Nat.le_trans HB4.out.size h7) (fun k e => Nat.le_trans HB4.out.size (hr k e).1), Nat.le_trans h7 hg.size⟩) ?assign ?body ?done ?stop
          case assign =>
            rintro l pre x W K hI hat hK
            have HI := Aside0.mk hI
            have HK := Aside0.mk hK
            have HAT := Aside0.mk hat
            clear hI hK hat
            simp only [LItem.enc]
            gi_wp2
            obtain ⟨hN, hB, hS⟩ := HI.out
            refine HK.out _ _ ((KeepsOthers.alloc W _).from _) (KeepC.of_below ((Below.refl _ W).alloc (Nat.le_refl _) _)) ⟨⟨W.heap.size, rfl, hS, heap_alloc_new W _⟩, ?_, hN.alloc _, hB.alloc (Nat.le_trans HB4.out.size hS) _, by simp; omega⟩
            exact (Below.heap_alloc _ _ _ (Array.getElem?_eq_some_iff.1 HAT.out).1).trans HAT.out
          case body =>
            rintro l pre x a1 W ⟨⟨vb, rfl, hvl, hvb⟩, hat, hN, hB, hS⟩ hsp
            have hlen : pre.length < X.length := by have := hsp.length_le; simp at this; omega
            have hx : LItem.pr x = X[pre.length] := by
              obtain ⟨t, ht⟩ := hsp
              have : X[pre.length]? = some (LItem.pr x) := by rw [← ht, List.map_append, List.append_assoc, List.getElem?_append_right (by simp)]; simp
              rw [List.getElem?_eq_getElem hlen] at this
              exact (Option.some.inj this).symm
            obtain ⟨x1, xg, xf⟩ := x
            have hx0 : W.cell? ⟨vb, 0, none⟩ = some (.int .i64 x1) := by simp only [World.cell?]; rw [hvb]; rfl
            have hx1 : W.cell? ⟨vb, 1, none⟩ = some (.slice (some ⟨xg, 0, none⟩) xf.length xf.length) := by simp only [World.cell?]; rw [hvb]; rfl
            have hcN := hN.cell
            have hfN := hN.frozen
            have hszn := HS34.out
            have hbw : Boxed W w3.heap.size 53 (.slice Aw X.length cw) := (hB.block _ HWN.out.lt).trans HWN.out
            have hwt1 := hbw.cell
            have hbk : Boxed W w.heap.size 4 (.bool false) := (hB.block _ HCN.out.lt).trans HCN.out
            have hRW := Kd.C_below HRN.out hB
            obtain ⟨ad, A1, c1, hAw, hr0, hr1, hc1, hC1⟩ := at_T60 (by rw [← @List.length_map _ _ X toS] at hRW; exact hRW) (pre.length : Int) (by omega) (by rw [List.length_map]; omega)
            have hrd : rd_T60 (X.map toS) (pre.length : Int) = toS (x1, xf) := by
              unfold rd_T60
              rw [Int.toNat_natCast, List.getD_eq_getElem?_getD, List.getElem?_map, List.getElem?_eq_getElem hlen, ← hx]; rfl
            rw [hrd] at hr0 hr1 hc1 hC1
            have hr0' : W.cell? (ad.add (pre.length * 2)) = some (.int .i64 x1) := by rw [Int.toNat_natCast] at hr0; exact hr0
            have hl1 : (toS (x1, xf)).f1.length = xf.length := List.length_map ..
            rw [hl1] at hr1 hc1 hC1
            have hC1 : Kd.C Kd.string W A1 xf.length (xf.map strOfNums) := hC1
            have hr1' : W.cell? ⟨(ad.add (pre.length * 2)).block, (ad.add (pre.length * 2)).off + 1, none⟩ = some (.slice A1 xf.length c1) := by rw [Int.toNat_natCast] at hr1; exact hr1
            have hxl : xf.length ≤ 1000000 := by
              have h1 : (x1, xf) ∈ linesI 0 (spl 10 L) := by rw [← HX.out, show (x1, xf) = X[pre.length] from hx]; exact List.getElem_mem hlen
              have := linesI_fl (spl 10 L) 0 400 (fun l hl => by have := len_spl hl; have := HL.out; omega) _ h1
              simp only at this
              omega
            have HXL := Aside0.mk hxl
            have hCx := strs_row hat hxl
            have HCX := Aside0.mk hCx
            have hpl : ((pre.length : Int) < (X.length : Int)) := by omega
            have e5 := eq_true hpl
            have e6 : decide ((pre.length : Int) ≥ (X.length : Int)) = false := decide_eq_false (by omega)
            have e7 : (pre.length < X.length) = True := eq_true hlen
            have e8 : decide ((X.length : Int) ≤ (pre.length : Int)) = false := decide_eq_false (by omega)
            clear hr0 hr1 hl1 hCx hxl hpl
            subst hAw
            have HN := Aside0.mk hN
            have HB := Aside0.mk hB
            have HS := Aside0.mk hS
            have HLN := Aside0.mk hlen
            have HC1 := Aside0.mk hC1
            have HAT := Aside0.mk hat
            have HLC := Aside0.mk hc1
            clear hbw hbk hvb hat hN hB hS hsp hRW hx hrd hszn hlen hC1 hc1
            gi_wp2
            refine wpIn_region_round_held (fun w' => Below W.heap.size W w') (by kernel_rfl) (by kernel_rfl) ?_
            have hS : Below W.heap.size W W.drew := (Below.refl _ W).drew
            show wpAnyH _ _ _ _ _ _ _ _ W.drew
            refine wpAnyH_take (i := 0) (v := .int .i64 (pre.length : Int)) rfl (by kernel_rfl) (by kernel_rfl) (by kernel_rfl) (fun _ _ _ h => h) (.inl ⟨by kernel_rfl, fun w' hS => by have q_ := (hS.cell (World.block_lt_of_cell? W _ hcN)).trans hcN; first | (go_simp; done) | (go_simp; simp [*]; done)⟩) hS ?_
            try simp only [List.getElem_toArray, List.getElem_cons_succ, List.getElem_cons_zero, Act.put, List.setIfInBounds_toArray, List.set_cons_zero, List.set_cons_succ]
            refine wpAnyH_take (i := 1) (v := .slice (some ad) X.length cw) rfl (by kernel_rfl) (by kernel_rfl) (by kernel_rfl) (fun _ _ _ h => h) (.inl ⟨by kernel_rfl, fun w' hS => by have q_ := (hS.cell (World.block_lt_of_cell? W _ hwt1)).trans hwt1; first | (go_simp; done) | (go_simp; simp [*]; done)⟩) hS ?_
            try simp only [List.getElem_toArray, List.getElem_cons_succ, List.getElem_cons_zero, Act.put, List.setIfInBounds_toArray, List.set_cons_zero, List.set_cons_succ]
            refine wpAnyH_take (i := 2) (v := .int .i64 (X.length : Int)) rfl (by kernel_rfl) (by kernel_rfl) (by kernel_rfl) (fun _ _ _ h => h) (.inl ⟨by kernel_rfl, fun w' hS => by first | (go_simp; done) | (go_simp; simp [*]; done)⟩) hS ?_
            try simp only [List.getElem_toArray, List.getElem_cons_succ, List.getElem_cons_zero, Act.put, List.setIfInBounds_toArray, List.set_cons_zero, List.set_cons_succ]
            refine wpAnyH_take (i := 3) (v := .bool false) rfl (by kernel_rfl) (by kernel_rfl) (by kernel_rfl) (fun _ _ _ h => h) (.inl ⟨by kernel_rfl, fun w' hS => by first | (go_simp; done) | (go_simp; simp [*]; done)⟩) hS ?_
            try simp only [List.getElem_toArray, List.getElem_cons_succ, List.getElem_cons_zero, Act.put, List.setIfInBounds_toArray, List.set_cons_zero, List.set_cons_succ]
            refine wpAnyH_take (i := 4) (v := .bool false) rfl (by kernel_rfl) (by kernel_rfl) (by kernel_rfl) (fun _ _ _ h => h) (.inl ⟨by kernel_rfl, fun w' hS => by first | (go_simp; done) | (go_simp; simp [*]; done)⟩) hS ?_
            try simp only [List.getElem_toArray, List.getElem_cons_succ, List.getElem_cons_zero, Act.put, List.setIfInBounds_toArray, List.set_cons_zero, List.set_cons_succ]
            refine wpAnyH_take (i := 5) (v := .pointer (some ⟨vb, 0, none⟩)) rfl (by kernel_rfl) (by kernel_rfl) (by kernel_rfl) (fun _ _ _ h => h) (.inl ⟨by kernel_rfl, fun w' hS => by first | (go_simp; done) | (go_simp; simp [*]; done)⟩) hS ?_
            try simp only [List.getElem_toArray, List.getElem_cons_succ, List.getElem_cons_zero, Act.put, List.setIfInBounds_toArray, List.set_cons_zero, List.set_cons_succ]
            refine wpAnyH_take (i := 6) (v := .int .i64 x1) rfl (by kernel_rfl) (by kernel_rfl) (by kernel_rfl) (fun _ _ _ h => h) (.inl ⟨by kernel_rfl, fun w' hS => by have q_ := (hS.cell (World.block_lt_of_cell? W _ hx0)).trans hx0; first | (go_simp; done) | (go_simp; simp [*]; done)⟩) hS ?_
            try simp only [List.getElem_toArray, List.getElem_cons_succ, List.getElem_cons_zero, Act.put, List.setIfInBounds_toArray, List.set_cons_zero, List.set_cons_succ]
            refine wpAnyH_take (i := 7) (v := .slice (some ad) X.length cw) rfl (by kernel_rfl) (by kernel_rfl) (by kernel_rfl) (fun _ _ _ h => h) (.inl ⟨by kernel_rfl, fun w' hS => by have q_ := (hS.cell (World.block_lt_of_cell? W _ hwt1)).trans hwt1; first | (go_simp; done) | (go_simp; simp [*]; done)⟩) hS ?_
            try simp only [List.getElem_toArray, List.getElem_cons_succ, List.getElem_cons_zero, Act.put, List.setIfInBounds_toArray, List.set_cons_zero, List.set_cons_succ]
            refine wpAnyH_take (i := 8) (v := .int .i64 (pre.length : Int)) rfl (by kernel_rfl) (by kernel_rfl) (by kernel_rfl) (fun _ _ _ h => h) (.inl ⟨by kernel_rfl, fun w' hS => by have q_ := (hS.cell (World.block_lt_of_cell? W _ hcN)).trans hcN; first | (go_simp; done) | (go_simp; simp [*]; done)⟩) hS ?_
            try simp only [List.getElem_toArray, List.getElem_cons_succ, List.getElem_cons_zero, Act.put, List.setIfInBounds_toArray, List.set_cons_zero, List.set_cons_succ]
            refine wpAnyH_take (i := 9) (v := .pointer (some (ad.add (pre.length * 2)))) rfl (by kernel_rfl) (by kernel_rfl) (by kernel_rfl) (fun _ _ _ h => h) (.inl ⟨by kernel_rfl, fun w' hS => by first | (go_simp; done) | (go_simp; simp [*]; done)⟩) hS ?_
            try simp only [List.getElem_toArray, List.getElem_cons_succ, List.getElem_cons_zero, Act.put, List.setIfInBounds_toArray, List.set_cons_zero, List.set_cons_succ]
            refine wpAnyH_take (i := 10) (v := .pointer (some (ad.add (pre.length * 2)))) rfl (by kernel_rfl) (by kernel_rfl) (by kernel_rfl) (fun _ _ _ h => h) (.inl ⟨by kernel_rfl, fun w' hS => by first | (go_simp; done) | (go_simp; simp [*]; done)⟩) hS ?_
            try simp only [List.getElem_toArray, List.getElem_cons_succ, List.getElem_cons_zero, Act.put, List.setIfInBounds_toArray, List.set_cons_zero, List.set_cons_succ]
            refine wpAnyH_take (i := 11) (v := .int .i64 x1) rfl (by kernel_rfl) (by kernel_rfl) (by kernel_rfl) (fun _ _ _ h => h) (.inl ⟨by kernel_rfl, fun w' hS => by have q_ := (hS.cell (World.block_lt_of_cell? W _ hr0')).trans hr0'; first | (go_simp; done) | (go_simp; simp [*]; done)⟩) hS ?_
            try simp only [List.getElem_toArray, List.getElem_cons_succ, List.getElem_cons_zero, Act.put, List.setIfInBounds_toArray, List.set_cons_zero, List.set_cons_succ]
            refine wpAnyH_take (i := 12) (v := .bool false) rfl (by kernel_rfl) (by kernel_rfl) (by kernel_rfl) (fun _ _ _ h => h) (.inl ⟨by kernel_rfl, fun w' hS => by first | (go_simp; done) | (go_simp; simp [*]; done)⟩) hS ?_
            try simp only [List.getElem_toArray, List.getElem_cons_succ, List.getElem_cons_zero, Act.put, List.setIfInBounds_toArray, List.set_cons_zero, List.set_cons_succ]
            refine wpAnyH_take (i := 13) (v := .bool false) rfl (by kernel_rfl) (by kernel_rfl) (by kernel_rfl) (fun _ _ _ h => h) (.inl ⟨by kernel_rfl, fun w' hS => by first | (go_simp; done) | (go_simp; simp [*]; done)⟩) hS ?_
            try simp only [List.getElem_toArray, List.getElem_cons_succ, List.getElem_cons_zero, Act.put, List.setIfInBounds_toArray, List.set_cons_zero, List.set_cons_succ]
            refine wpAnyH_take (i := 14) (v := .bool false) rfl (by kernel_rfl) (by kernel_rfl) (by kernel_rfl) (fun _ _ _ h => h) (.inl ⟨by kernel_rfl, fun w' hS => by first | (go_simp; done) | (go_simp; simp [*]; done)⟩) hS ?_
            try simp only [List.getElem_toArray, List.getElem_cons_succ, List.getElem_cons_zero, Act.put, List.setIfInBounds_toArray, List.set_cons_zero, List.set_cons_succ]
            refine wpAnyH_take (i := 15) (v := .pointer (some ⟨vb, 1, none⟩)) rfl (by kernel_rfl) (by kernel_rfl) (by kernel_rfl) (fun _ _ _ h => h) (.inl ⟨by kernel_rfl, fun w' hS => by first | (go_simp; done) | (go_simp; simp [*]; done)⟩) hS ?_
            try simp only [List.getElem_toArray, List.getElem_cons_succ, List.getElem_cons_zero, Act.put, List.setIfInBounds_toArray, List.set_cons_zero, List.set_cons_succ]
            refine wpAnyH_take (i := 16) (v := .slice (some ⟨xg, 0, none⟩) xf.length xf.length) rfl (by kernel_rfl) (by kernel_rfl) (by kernel_rfl) (fun _ _ _ h => h) (.inl ⟨by kernel_rfl, fun w' hS => by have q_ := (hS.cell (World.block_lt_of_cell? W _ hx1)).trans hx1; first | (go_simp; done) | (go_simp; simp [*]; done)⟩) hS ?_
            try simp only [List.getElem_toArray, List.getElem_cons_succ, List.getElem_cons_zero, Act.put, List.setIfInBounds_toArray, List.set_cons_zero, List.set_cons_succ]
            refine wpAnyH_take (i := 17) (v := .slice (some ad) X.length cw) rfl (by kernel_rfl) (by kernel_rfl) (by kernel_rfl) (fun _ _ _ h => h) (.inl ⟨by kernel_rfl, fun w' hS => by have q_ := (hS.cell (World.block_lt_of_cell? W _ hwt1)).trans hwt1; first | (go_simp; done) | (go_simp; simp [*]; done)⟩) hS ?_
            try simp only [List.getElem_toArray, List.getElem_cons_succ, List.getElem_cons_zero, Act.put, List.setIfInBounds_toArray, List.set_cons_zero, List.set_cons_succ]
            refine wpAnyH_take (i := 18) (v := .int .i64 (pre.length : Int)) rfl (by kernel_rfl) (by kernel_rfl) (by kernel_rfl) (fun _ _ _ h => h) (.inl ⟨by kernel_rfl, fun w' hS => by have q_ := (hS.cell (World.block_lt_of_cell? W _ hcN)).trans hcN; first | (go_simp; done) | (go_simp; simp [*]; done)⟩) hS ?_
            try simp only [List.getElem_toArray, List.getElem_cons_succ, List.getElem_cons_zero, Act.put, List.setIfInBounds_toArray, List.set_cons_zero, List.set_cons_succ]
            refine wpAnyH_take (i := 19) (v := .pointer (some (ad.add (pre.length * 2)))) rfl (by kernel_rfl) (by kernel_rfl) (by kernel_rfl) (fun _ _ _ h => h) (.inl ⟨by kernel_rfl, fun w' hS => by first | (go_simp; done) | (go_simp; simp [*]; done)⟩) hS ?_
            try simp only [List.getElem_toArray, List.getElem_cons_succ, List.getElem_cons_zero, Act.put, List.setIfInBounds_toArray, List.set_cons_zero, List.set_cons_succ]
            refine wpAnyH_take (i := 20) (v := .pointer (some ⟨(ad.add (pre.length * 2)).block, (ad.add (pre.length * 2)).off + 1, none⟩)) rfl (by kernel_rfl) (by kernel_rfl) (by kernel_rfl) (fun _ _ _ h => h) (.inl ⟨by kernel_rfl, fun w' hS => by first | (go_simp; done) | (go_simp; simp [*]; done)⟩) hS ?_
            try simp only [List.getElem_toArray, List.getElem_cons_succ, List.getElem_cons_zero, Act.put, List.setIfInBounds_toArray, List.set_cons_zero, List.set_cons_succ]
            refine wpAnyH_take (i := 21) (v := .slice A1 xf.length c1) rfl (by kernel_rfl) (by kernel_rfl) (by kernel_rfl) (fun _ _ _ h => h) (.inl ⟨by kernel_rfl, fun w' hS => by have q_ := (hS.cell (World.block_lt_of_cell? W _ hr1')).trans hr1'; first | (go_simp; done) | (go_simp; simp [*]; done)⟩) hS ?_
            try simp only [List.getElem_toArray, List.getElem_cons_succ, List.getElem_cons_zero, Act.put, List.setIfInBounds_toArray, List.set_cons_zero, List.set_cons_succ]
            refine wpAnyH_ready (rs := [22]) (by kernel_rfl) (by simp) (AllReadyH.cons rfl (fun K' hK => ?_) AllReadyH.nil)
            rw [if_pos (by kernel_rfl)]
            go_simp
            go_at_call 16
            (with_reducible refine (same2.calls (some ⟨xg, 0, none⟩) A1 xf.length c1 xf _ (Kd.C_below HCX.out hS) (Nat.le_refl _) (Kd.C_below HC1.out hS) HLC.out HXL.out).mono ?_)
            rintro e w9 ⟨rfl, hb⟩
            have hS' := hS.trans (hb.mono hS.size)
            refine hK.out _ _ hS' (fun _ => ?_)
            clear hK hS hb
            have hS := hS'
            clear hS'
            try simp only [List.getElem_toArray, List.getElem_cons_succ, List.getElem_cons_zero, Act.put, List.setIfInBounds_toArray, List.set_cons_zero, List.set_cons_succ]
            refine wpAnyH_take (i := 23) (v := .bool false) rfl (by kernel_rfl) (by kernel_rfl) (by kernel_rfl) (fun _ _ _ h => h) (.inl ⟨by kernel_rfl, fun w' hS => by first | (go_simp; done) | (go_simp; simp [*]; done)⟩) hS ?_
            try simp only [List.getElem_toArray, List.getElem_cons_succ, List.getElem_cons_zero, Act.put, List.setIfInBounds_toArray, List.set_cons_zero, List.set_cons_succ]
            refine wpAnyH_take (i := 24) (v := .bool false) rfl (by kernel_rfl) (by kernel_rfl) (by kernel_rfl) (fun _ _ _ h => h) (.inl ⟨by kernel_rfl, fun w' hS => by first | (go_simp; done) | (go_simp; simp [*]; done)⟩) hS ?_
            try simp only [List.getElem_toArray, List.getElem_cons_succ, List.getElem_cons_zero, Act.put, List.setIfInBounds_toArray, List.set_cons_zero, List.set_cons_succ]
            refine wpAnyH_done (by kernel_rfl) ?_ _
            refine NoPanic.normal ?_
            have hn9 : Boxed w9 (w3.heap.size + 1) 3 (.int .i64 pre.length) := (hS.block _ HN.out.lt).trans HN.out
            have hcN9 := hn9.cell
            have hfN9 := hn9.frozen
            have hw1 : wrap64 ((pre.length : Int) + 1) = ((pre.length + 1 : Nat) : Int) := by rw [w64 (by omega) (by have := HXN.out; have := HLN.out; omega)]; omega
            have HN9 := Aside0.mk hn9
            have HS9 := Aside0.mk hS
            clear hn9 hS
            gi_wp2
            exact ⟨(keepsFrom_below2 HS9.out).trans ((KeepsOthers.setCell _ _ _).from _), (KeepC.of_below HS9.out).trans (KeepC.of_set rfl), by rw [List.length_append]; first | exact Boxed.set _ HN9.out | (rw [← hw1]; exact Boxed.set _ HN9.out), (HB.out.trans (HS9.out.mono HB.out.size)).setCell (p := ⟨w3.heap.size + 1, 0, none⟩) (by have := HS34.out; show wn.heap.size ≤ w3.heap.size + 1; omega) _, by show w6.heap.size ≤ (World.setCell _ _ _).heap.size; simp; exact Nat.le_trans HS.out HS9.out.size⟩
          case stop => rintro D c pre W hD hSp hI hK; exact hI.elim
          case done =>
            rintro D ys W hD hys ⟨hN, hB, hS⟩ hK
            have hy : ys.length = X.length := by rw [← hys, List.length_map]
            rw [hy] at hN
            have hbw : Boxed W w3.heap.size 53 (.slice Aw X.length cw) := (hB.block _ HWN.out.lt).trans HWN.out
            have hbk : Boxed W w.heap.size 4 (.bool false) := (hB.block _ HCN.out.lt).trans HCN.out
            have hc2 := hbw.cell
            have hc3 := hbk.cell
            have hf3 := hbk.frozen
            have hc4 := hN.cell
            have HBK := Aside0.mk hbk
            have HB := Aside0.mk hB
            have HS := Aside0.mk hS
            have HK := Aside0.mk hK
            have HD := Aside0.mk hD
            clear hbw hbk hN hB hS hK hys hy hD
            go_wp2
            have hsz := HS34.out
            have hs4 := HB4.out.size
            have hd := HD.out
            obtain ⟨m1, m2, m3⟩ := mark_end (.bool true) (HBN.out.trans (HB.out.mono HBN.out.size)) HBK.out HK.out (by omega) (by have := HBN.out.size; omega)
            refine ⟨by simp, .inl ⟨_, _, rfl, run_takeDeferred m1, ?_⟩⟩
            exact ⟨_, by simp [results, Tryd.results10, go_sem, m2], rfl, m3 _⟩
theorem paronymlaw02_FieldRemarks.walk (a0 : Option Addr) (cap0 : Nat) (l0 : List Int) (a1 : ByteArray) (w : World) (hE : EnvF w) (hC0 : Kd.C (Kd.int .u8) w a0 l0.length l0) (hcap0 : l0.length ≤ cap0) (ho : Oct l0) :
    Calls Tryd.prog 10 #[.slice a0 l0.length cap0, .string a1] w fun e w' => e = .returned (.bool true) ∧ Below w.heap.size w w' := by
  by_cases hl : 400 < l0.length ∨ 30 < a1.size
  · exact paronymlaw02_FieldRemarks.out a0 cap0 l0 a1 w hE hl
  · obtain ⟨R, hR, hoR⟩ : ∃ R, strOfNums R = a1 ∧ Oct R := ⟨_, str_bytesOf a1, oct_bytesOf a1⟩
    subst hR
    rw [size_str] at hl
    exact paronymlaw02_FieldRemarks.main a0 cap0 l0 ho R hoR w hE (by omega) (by omega) hC0 hcap0
end Go.Proofs.YtdnfmilnkoocdaaDoor.Q

-- from LawFieldRemarks
-- Made by envrow.py, a program of this session, after the kit's rows: the world's shape handed on. Not trusted: Lean checks it.
namespace Go.Proofs.YtdnfmilnkoocdaaDoor.fieldRemarks
open Go.ChangeShapes Go.WideShapes Go.ChangeAt Go.RowKit
open Go.ChangeMaps (open_string shut_string)
set_option linter.unusedVariables false
theorem own : ownKnob Tryd.prog.godebug = none := by kernel_rfl
theorem laidOut : laidOutB Tryd.prog = true := by kernel_rfl
set_option maxRecDepth 100000 in
theorem lifted (os : Os) (started : os.Started) (H : Type) (enc : TypeId × Value → H) :
    ReturnsInHanded {} Tryd.checked os 10 .any (fun w args => (Rows.fieldRemarksSpec.pre enc Tryd.prog Tryd.f10 Rows.fieldRemarksRow.domain false w args ∧ laidMetH Tryd.prog Rows.fieldRemarksRow.laid w) ∧ sizedMet enc Tryd.prog Tryd.f10 (OpenSpec.ofChange Rows.fieldRemarksSpec) false w args) (Rows.fieldRemarksSpec.post enc Tryd.prog Tryd.f10 false true false false) := by
  refine Q.returns_shaped_and (C := Tryd.checked) (X := fun w => laidMetH Tryd.prog Rows.fieldRemarksRow.laid w) (fun _ _ hh h => h.of_heap hh) own started (by kernel_rfl) Tryd.func10
    (ChangeSpec.witness_shaped (enc := enc) (C := Tryd.checked) (os := os) (X := fun w _ => laidMetH Tryd.prog Rows.fieldRemarksRow.laid w) false (World.laidAll Tryd.prog os Rows.fieldRemarksRow.laid) #[.slice none 0 0, .string ByteArray.empty] 8 (World.laidAll_os _ _ _)
      (World.shaped_of_ZipB (by kernel_rfl) (by kernel_rfl)) (by kernel_rfl) (by kernel_rfl) (by kernel_rfl)
      (by rw [MakeChecks.laidMetH_plain _ _ _ (by kernel_rfl)]; exact laidMet_laidAll _ (by kernel_rfl) (by kernel_rfl))) ?_
  intro W base args ds gs before hsh hL hval0 hW hsz0
  have hsz : (DataW.weightsEach Tryd.prog (Tryd.f10.params.toList ++ Rows.fieldRemarksSpec.plain.varTypes Tryd.prog) (ds ++ gs)).all (· ≤ reachBytes) = true := hsz0
  have hval : ∀ (j : Nat) t v, Tryd.f10.params[j]? = some t → args[j]? = some v → Value.okWide Tryd.prog W .any base t v := hval0
  have hW' := hW
  obtain ⟨p, q, hA0, hV, rfl, hfz, hnd⟩ := hW
  have hA : DataW.TrodAll enc Tryd.prog W 0 (fun _ => true) true Tryd.f10.params.toList args.toList ds p := hA0
  rw [Tryd.params10] at hA hval hsz
  obtain ⟨v0, vs0, d0, ds0, p0, q0, hargs, rfl, rfl, h0, r0⟩ := trodAll_cons hA
  obtain ⟨v1, vs1, d1, ds1, p1, q1, rfl, rfl, rfl, h1, r1⟩ := trodAll_cons r0
  obtain ⟨rfl, rfl, rfl⟩ := trodAll_nil r1
  obtain rfl : args = #[v0, v1] := by cases args; simp_all
  obtain ⟨rfl, rfl⟩ := trodVars_none hV
  obtain ⟨a0, len0, cap0, rfl⟩ := okWide_slice Tryd.underlying22 (hval 0 22 v0 rfl rfl)
  have k0 := h0
  have lt0 : ∀ x ∈ p0, x.block < W.heap.size := by obtain ⟨m, hm⟩ := k0; exact DataW.trod_lt m _ _ _ hm
  obtain ⟨l0, hn0, hcap0, hC0, hwf0⟩ : ∃ l : List Int, l.length = len0 ∧ len0 ≤ cap0 ∧ Go.Proofs.YtdnfmilnkoocdaaDoorW.PrintWords.Kd.C (Go.Proofs.YtdnfmilnkoocdaaDoorW.PrintWords.Kd.int .u8) W a0 len0 l ∧ ∀ z ∈ l, (Lit.int .u8 z).wf = true := by
    obtain ⟨fuel, hf⟩ := h0
    have hf' : DataW.trod enc Tryd.prog W 0 (fun _ => true) true fuel 22 [.slice a0 len0 cap0] = some (d0, p0) := hf
    obtain ⟨A, c, l, e, q1, q2, q3⟩ := Q.ints_of_trod1 Tryd.underlying22 Tryd.underlying5 (by kernel_rfl) hf'
    simp only [List.cons.injEq, Value.slice.injEq, and_true] at e
    obtain ⟨rfl, rfl, rfl⟩ := e
    exact ⟨l, rfl, q1, q2, q3⟩
  subst hn0
  obtain ⟨a1, rfl, rfl, rfl, w1⟩ := open_string Tryd.underlying9 (hval 1 9 v1 rfl rfl) h1
  clear hA0 hval0 hsz0 hsz
  refine (Q.paronymlaw02_FieldRemarks.walk a0 cap0 l0 a1 W (Q.env_of_row hsh hL) hC0 hcap0 (K.oct_of_wf hwf0)).mono fun e W' ⟨he, bel⟩ => ?_
  subst he
  exact ⟨_, rfl, _, _, _, [], _, [], hW', trodAll_mk1 (shut_bool Tryd.underlying4 _), (trodAll_cons_mk (Below.trod laidOut (by kernel_rfl) (of_decide_eq_true (by kernel_rfl)) k0 bel lt0) (trodAll_cons_mk (shut_string Tryd.underlying9 w1) trodAll_mk0)), rfl, bel.frame _, fun h => by cases h⟩
theorem over : Rows.fieldRemarksRow.holds Tryd.pinned (OpenSpec.ofChange Rows.fieldRemarksSpec) :=
  OpenClaim.holds_of_wide 10 Tryd.f10 rfl rfl rfl rfl rfl rfl rfl ⟨rfl, rfl, rfl, rfl, rfl⟩ rfl rfl rfl rfl rfl (by kernel_rfl) Tryd.func10 (by kernel_rfl)
    (of_decide_eq_true (by kernel_rfl)) (by unfold Func.isWrapper; first | (rw [if_pos (by decide +kernel)]; kernel_rfl) | (rw [if_neg (by decide +kernel)]; exact ⟨rfl, rfl⟩))
    (fun os started H enc _ => lifted os started H enc)
theorem card : Rows.FieldRemarksCardSaid :=
  Claim7.holds_tied_plain_at .later [] [.data, .data, .data, .data, .pinned, .pinned] true (true, "c8db116255ca7d8a9a063ea87309dbd31f94f59187fe20dbf876020a6bd752c6") false over (fun _ h => by cases h) (by kernel_rfl) (fun _ h => by cases h) fieldRemarks_row_tie rfl ⟨rfl, rfl⟩ (by kernel_rfl) rfl
    (fun f fn hf hfn => by
      obtain rfl : f = 10 := Option.some.inj ((show Tryd.prog.funcNamed "paronym/paronymlaw02.FieldRemarks" = some 10 by kernel_rfl).symm.trans hf) |>.symm
      obtain rfl : fn = Tryd.f10 := (Option.some.inj (Tryd.func10.symm.trans hfn)).symm
      exact ⟨by kernel_rfl, fun j t ht => by
        rw [Tryd.params10] at ht
        have hm : t ∈ ([22, 9] : List Nat) := by have := Array.mem_of_getElem? ht; simp at this ⊢; omega
        have hall : (([22, 9] : List Nat).all fun u => !Tryd.prog.wantsStandIn u) = true := by kernel_rfl
        exact (show Tryd.prog.wantsStandIn t = false by simpa using List.all_eq_true.1 hall t hm)⟩)
    (by kernel_rfl)
#print axioms card
end Go.Proofs.YtdnfmilnkoocdaaDoor.fieldRemarks
namespace Go.Proofs.YtdnfmilnkoocdaaDoor
/-- The row, under a short name, for the claim. -/
theorem fieldRemarks_holds : Rows.FieldRemarksCardSaid := fieldRemarks.card
end Go.Proofs.YtdnfmilnkoocdaaDoor
