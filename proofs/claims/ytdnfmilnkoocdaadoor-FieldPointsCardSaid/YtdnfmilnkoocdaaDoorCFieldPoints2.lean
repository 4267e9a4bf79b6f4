/- Part 2 of 2 of the proof of FieldPoints: which code point, range and sequence any text is of, or why of none For every input; no condition. -/
import Derived.Test.YtdnfmilnkoocdaaDoorCFieldPoints1
import Derived.Laws.Bits64b
import Derived.RangeFuncCalls
import Derived.Laws.AppendOwn
import Derived.Deep.LoopGhost
import Derived.IntWalk
import Derived.Ground.NamesProg
import Derived.Ground.SlbSplitProg
import Derived.Ground.SlbCloneProg
import Derived.Shelf.Lay
import Derived.Shelf.Bytes.SlClone
import Derived.Shelf.Bytes.SlSplit
import Derived.Shelf.Bytes.SlSplitNil
import Derived.Shelf.Bytes.SlSmallAll
import Derived.RangeFuncLeaves
import Derived.RangeFuncBox
import Derived.Sort.LoopGhostIn
import Derived.Laws.Cover3
import Derived.Deep.RegionHeld3
import Derived.Lib.SlBytesConst
import Derived.Test.YtdnfmilnkoocdaaDoorRows
import Derived.Test.YtdnfmilnkoocdaaDoorCards
import Derived.Test.YtdnfmilnkoocdaaDoorTie
import Derived.LaidMore
import Derived.Lay
import Derived.SevenTiedAt
import Derived.Stop.Joined
import Derived.WalkKit
import Derived.ProofKit
import Derived.OpenShut
import Derived.ShutString
import Derived.ChangeOld
import Derived.ChangeMaps5
import Derived.Below
import Derived.SizedLaws
import Derived.Test.YtdnfmilnkoocdaaDoorWSized

-- from Phex
/- Layer 2 on lists: a code point's text, and back. -/
namespace Go.Proofs.YtdnfmilnkoocdaaDoor.K
set_option linter.unusedVariables false
set_option linter.unusedSimpArgs false
open Go.RowKit Go.Proofs.YtdnfmilnkoocdaaDoorW.PrintWords Go.Proofs.YtdnfmilnkoocdaaDoorW.PrintMore Go.Proofs.YtdnfmilnkoocdaaDoor.Q

/-- A digit's value. -/
def hexV (x : Int) : Option Nat := if 48 ≤ x ∧ x ≤ 57 then some (x - 48).toNat else if 65 ≤ x ∧ x ≤ 70 then some (x - 55).toNat else none
def valF : Nat → List Int → Option Nat
  | v, [] => some v
  | v, x :: r => match hexV x with
    | none => none
    | some d => valF (v * 16 + d) r
/-- The code point of a text. -/
def pointL (L : List Int) : Option Nat := if L.length < 4 ∨ 6 < L.length then none else match valF 0 L with
  | none => none
  | some v => if 1114111 < v then none else if hexT v = L then some v else none
theorem hexV_lt {x : Int} {d : Nat} (h : hexV x = some d) : d < 16 := by
  unfold hexV at h
  split at h
  · cases h; omega
  · split at h
    · cases h; omega
    · cases h
def dcap (d : Nat) : Int := if d < 10 then 48 + (d : Int) else 55 + (d : Int)
theorem up_hexD {d : Nat} (h : d < 16) : upI (hexD d) = dcap d := by
  unfold upI hexD dcap
  split <;> split <;> omega
theorem hexT_oct (c : Nat) (hc : c ≤ 1114111) : Oct (hexT c) := fun x hx => by
  unfold hexT at hx
  rcases List.mem_append.1 hx with hx | hx
  · obtain ⟨_, rfl⟩ := List.mem_replicate.1 hx; omega
  · obtain ⟨y, hy, rfl⟩ := List.mem_map.1 hx
    have := (hexL_small 6 c (by omega) (by omega)).2.2 y hy
    unfold upI
    split <;> omega
theorem hexT_len (c : Nat) (hc : c ≤ 1114111) : 4 ≤ (hexT c).length ∧ (hexT c).length ≤ 6 := by
  have := hexL_small 6 c (by omega) (by omega)
  unfold hexT
  rw [List.length_append, List.length_replicate, List.length_map]
  omega
/-- What the reference's rounds lay ahead. -/
def hexW (n : Nat) (acc : List Int) : List Int := if n = 0 then List.replicate (4 - acc.length) 48 ++ acc else List.replicate (4 - (hexL n).length - acc.length) 48 ++ ((hexL n).map upI ++ acc)
theorem hexW_step (n : Nat) (acc : List Int) (h : 0 < n ∨ acc.length < 4) : hexW n acc = hexW (n / 16) (dcap (n % 16) :: acc) := by
  unfold hexW
  by_cases h0 : n = 0
  · subst h0
    rw [if_pos rfl, if_pos (by omega), List.length_cons, show 4 - acc.length = 4 - (acc.length + 1) + 1 by omega, List.replicate_succ']
    simp [dcap]
  · rw [if_neg h0]
    by_cases h1 : n < 16
    · rw [if_pos (by omega), hexL_one h1, Nat.mod_eq_of_lt h1]
      simp only [List.map_cons, List.map_nil, List.length_cons, List.length_nil, List.singleton_append, up_hexD h1]
      congr 2
      omega
    · rw [if_neg (by omega), hexL_step (by omega), List.map_append, List.length_append]
      simp only [List.map_cons, List.map_nil, List.length_cons, List.length_nil, List.append_assoc, List.singleton_append, up_hexD (Nat.mod_lt n (by omega : 16 > 0))]
      congr 2
      omega
theorem hexW_done (acc : List Int) (h : 4 ≤ acc.length) : hexW 0 acc = acc := by
  unfold hexW
  rw [if_pos rfl, show 4 - acc.length = 0 by omega]; rfl
theorem hexW_all (v : Nat) : hexW v [] = hexT v := by
  unfold hexW hexT
  by_cases h : v = 0
  · subst h
    rw [if_pos rfl, hexL_one (by omega)]
    rfl
  · rw [if_neg h]; simp
theorem refHex_loop : ∀ (m n : Nat) (acc : List Int), n + (4 - acc.length) ≤ m → n ≤ 1114111 → acc.length ≤ 100 → n < 16 ^ (100 - acc.length) → Ev (fun k => paronymref02_Hex.l0 k (strOfNums acc) (n : Int)) (strOfNums (hexW n acc)) := by
  intro m
  induction m with
  | zero =>
    intro n acc hm hn ha hb
    have h0 : n = 0 := by omega
    rw [show hexW n acc = acc from by rw [h0]; exact hexW_done acc (by omega)]
    have hz := size_str acc
    refine Ev.step (fun k => rfl) (Ev.neg (by omega) ?_)
    rw [show decide (((strOfNums acc).size : Int) < 4) = false from decide_eq_false (by omega)]
    exact Ev.step (f := fun k => some (strOfNums acc)) (fun k => rfl) (Ev.ret rfl)
  | succ m ih =>
    intro n acc hm hn ha hb
    have hz := size_str acc
    by_cases hgo : 0 < n ∨ acc.length < 4
    · have next := ih (n / 16) (dcap (n % 16) :: acc) (by rw [List.length_cons]; omega) (by omega) (by
        rw [List.length_cons]
        rcases Nat.lt_or_ge acc.length 100 with h | h
        · omega
        · have : acc.length = 100 := by omega
          rw [this] at hb
          simp at hb
          omega) (by
        rw [List.length_cons]
        rcases Nat.lt_or_ge acc.length 100 with h | h
        · rw [show 100 - acc.length = (100 - (acc.length + 1)) + 1 by omega, Nat.pow_succ] at hb
          omega
        · have h1 : acc.length = 100 := by omega
          rw [h1] at hb
          simp at hb
          omega)
      rw [hexW_step n acc hgo]
      have hm16 : Int.tmod (n : Int) 16 = ((n % 16 : Nat) : Int) := by rw [Int.tmod_eq_emod_of_nonneg (by omega)]; omega
      have hd16 : Int.tdiv (n : Int) 16 = ((n / 16 : Nat) : Int) := by rw [Int.tdiv_eq_ediv_of_nonneg (by omega)]; omega
      have go : Ev (fun k => paronymref02_Hex.j1 k (strOfNums acc) (n : Int) true) (strOfNums (hexW (n / 16) (dcap (n % 16) :: acc))) := by
        have hlt : n % 16 < 16 := Nat.mod_lt _ (by omega)
        obtain ⟨d, hd⟩ : ∃ d, d = n % 16 := ⟨_, rfl⟩
        rw [← hd] at hm16 hlt next ⊢
        by_cases h10 : d < 10
        · refine Ev.step (f := fun k => if (Int.tmod (n : Int) 16) < 10 then ((some (([(wrap64 (48 + (Int.tmod (n : Int) 16))) % 256] : List Int) : List Int)).bind fun y101 => (if (strOfNums y101).size + (strOfNums acc).size ≤ 9223372036854775807 then (paronymref02_Hex.l0 k ((strOfNums y101) ++ (strOfNums acc)) (wrap64 (Int.tdiv (n : Int) 16))) else (none))) else ((some (([(wrap64 (55 + (Int.tmod (n : Int) 16))) % 256] : List Int) : List Int)).bind fun y104 => (if (strOfNums y104).size + (strOfNums acc).size ≤ 9223372036854775807 then (paronymref02_Hex.l0 k ((strOfNums y104) ++ (strOfNums acc)) (wrap64 (Int.tdiv (n : Int) 16))) else (none)))) (fun k => rfl) (Ev.pos (by rw [hm16]; omega) (Ev.bindS rfl (Ev.pos (by rw [size_str, hz]; simp; omega) ?_)))
          rw [hm16, hd16, w64 (n := 48 + (d : Int)) (by omega) (by omega), w64 (by omega) (by omega), str_append]
          have : ([(48 + (d : Int)) % 256] ++ acc : List Int) = dcap d :: acc := by
            unfold dcap
            rw [if_pos h10, Int.emod_eq_of_lt (by omega) (by omega)]; rfl
          rw [this]
          exact next
        · refine Ev.step (f := fun k => if (Int.tmod (n : Int) 16) < 10 then ((some (([(wrap64 (48 + (Int.tmod (n : Int) 16))) % 256] : List Int) : List Int)).bind fun y101 => (if (strOfNums y101).size + (strOfNums acc).size ≤ 9223372036854775807 then (paronymref02_Hex.l0 k ((strOfNums y101) ++ (strOfNums acc)) (wrap64 (Int.tdiv (n : Int) 16))) else (none))) else ((some (([(wrap64 (55 + (Int.tmod (n : Int) 16))) % 256] : List Int) : List Int)).bind fun y104 => (if (strOfNums y104).size + (strOfNums acc).size ≤ 9223372036854775807 then (paronymref02_Hex.l0 k ((strOfNums y104) ++ (strOfNums acc)) (wrap64 (Int.tdiv (n : Int) 16))) else (none)))) (fun k => rfl) (Ev.neg (by rw [hm16]; omega) (Ev.bindS rfl (Ev.pos (by rw [size_str, hz]; simp; omega) ?_)))
          rw [hm16, hd16, w64 (n := 55 + (d : Int)) (by omega) (by omega), w64 (by omega) (by omega), str_append]
          have : ([(55 + (d : Int)) % 256] ++ acc : List Int) = dcap d :: acc := by
            unfold dcap
            rw [if_neg h10, Int.emod_eq_of_lt (by omega) (by omega)]; rfl
          rw [this]
          exact next
      by_cases hn0 : 0 < n
      · exact Ev.step (fun k => rfl) (Ev.pos (by omega) go)
      · refine Ev.step (fun k => rfl) (Ev.neg (by omega) ?_)
        rw [show decide (((strOfNums acc).size : Int) < 4) = true from decide_eq_true (by omega)]
        exact go
    · have h0 : n = 0 := by omega
      rw [show hexW n acc = acc from by rw [h0]; exact hexW_done acc (by omega)]
      refine Ev.step (fun k => rfl) (Ev.neg (by omega) ?_)
      rw [show decide (((strOfNums acc).size : Int) < 4) = false from decide_eq_false (by omega)]
      exact Ev.step (f := fun k => some (strOfNums acc)) (fun k => rfl) (Ev.ret rfl)
theorem refHex_ev (v : Nat) (hv : v ≤ 1114111) : Ev (fun k => paronymref02_Hex.f k (v : Int)) (strOfNums (hexT v)) := by
  have := refHex_loop (v + 4) v [] (by simp) hv (by simp) (Nat.lt_of_le_of_lt hv (by decide))
  rw [hexW_all] at this
  exact this
end Go.Proofs.YtdnfmilnkoocdaaDoor.K

-- from Ppnt
/- Layer 2's reference on lists: Point. -/
namespace Go.Proofs.YtdnfmilnkoocdaaDoor.K
set_option linter.unusedVariables false
set_option linter.unusedSimpArgs false
open Go.RowKit Go.Proofs.YtdnfmilnkoocdaaDoorW.PrintWords Go.Proofs.YtdnfmilnkoocdaaDoorW.PrintMore Go.Proofs.YtdnfmilnkoocdaaDoor.Q

/-- -1: there is none. -/
def orNone : Option Nat → Int
  | none => -1
  | some v => (v : Int)
/-- Behind the digits. -/
def endP (L : List Int) : Option Nat → Option Nat
  | none => none
  | some v => if 1114111 < v then none else if hexT v = L then some v else none
theorem pointL_is (L : List Int) : pointL L = if L.length < 4 ∨ 6 < L.length then none else endP L (valF 0 L) := by
  unfold pointL endP
  cases valF 0 L <;> rfl
theorem pnt_step {L : List Int} (ho : Oct L) {v i : Nat} (hi : i < L.length) (hL : L.length ≤ 6) (hv : v < 16 ^ i) {r : Int}
    (h : match hexV L[i] with
      | none => r = -1
      | some d => Ev (fun k => paronymref02_Point.l0 k (strOfNums L) ((v * 16 + d : Nat) : Int) ((i + 1 : Nat) : Int)) r) : Ev (fun k => paronymref02_Point.l0 k (strOfNums L) (v : Int) (i : Int)) r := by
  have hz := size_str L
  have hb : bt (strOfNums L) (i : Int) = L[i] := by rw [bt_str ho (by omega) (by omega), rd_nat L i hi]
  have hx := ho _ (List.getElem_mem hi)
  obtain ⟨x, hxx⟩ : ∃ x, x = L[i] := ⟨_, rfl⟩
  rw [← hxx] at hb hx h
  have hw : wrap64 (bt (strOfNums L) (i : Int)) = x := by rw [hb, w64 (by omega) (by omega)]
  have hv6 : v < 16777216 := Nat.lt_of_lt_of_le hv (Nat.pow_le_pow_right (n := 16) (by omega) (show i ≤ 6 by omega))
  have j2f : ∀ (fl : Bool) , (fl = decide (48 ≤ x ∧ x ≤ 57)) → Ev (fun k => paronymref02_Point.j2 k (strOfNums L) (v : Int) (i : Int) x fl) r := by
    intro fl hfl
    cases fl with
    | true =>
      have h2 : 48 ≤ x ∧ x ≤ 57 := of_decide_eq_true hfl.symm
      unfold hexV at h
      rw [if_pos h2] at h
      refine Ev.step (f := fun k => paronymref02_Point.l0 k (strOfNums L) (wrap64 ((wrap64 ((wrap64 ((v : Int) * 16)) + x)) - 48)) (wrap64 ((i : Int) + 1))) (fun k => rfl) ?_
      rw [w64 (n := (v : Int) * 16) (by omega) (by omega), w64 (n := (v : Int) * 16 + x) (by omega) (by omega), w64 (by omega) (by omega), w64 (by omega) (by omega)]
      have e : (v : Int) * 16 + x - 48 = ((v * 16 + (x - 48).toNat : Nat) : Int) := by omega
      rw [e]
      exact h
    | false =>
      have h2 : ¬ (48 ≤ x ∧ x ≤ 57) := of_decide_eq_false hfl.symm
      unfold hexV at h
      rw [if_neg h2] at h
      refine Ev.step (f := fun k => if x ≥ 65 then (if x ≤ 70 then (paronymref02_Point.l0 k (strOfNums L) (wrap64 ((wrap64 ((wrap64 ((v : Int) * 16)) + x)) - 55)) (wrap64 ((i : Int) + 1))) else (some (-1))) else (some (-1))) (fun k => rfl) ?_
      by_cases h65 : x ≥ 65
      · refine Ev.pos h65 ?_
        by_cases h70 : x ≤ 70
        · rw [if_pos ⟨h65, h70⟩] at h
          refine Ev.pos h70 ?_
          rw [w64 (n := (v : Int) * 16) (by omega) (by omega), w64 (n := (v : Int) * 16 + x) (by omega) (by omega), w64 (by omega) (by omega), w64 (by omega) (by omega)]
          have e : (v : Int) * 16 + x - 55 = ((v * 16 + (x - 55).toNat : Nat) : Int) := by omega
          rw [e]
          exact h
        · rw [if_neg (by omega)] at h
          exact Ev.neg h70 (Ev.ret h.symm)
      · rw [if_neg (by omega)] at h
        exact Ev.neg h65 (Ev.ret h.symm)
  refine Ev.step (fun k => rfl) (Ev.pos (by omega) (Ev.pos (by omega) ?_))
  rw [hw]
  by_cases h48 : x ≥ 48
  · exact Ev.pos h48 (j2f _ (by rw [Bool.eq_iff_iff, decide_eq_true_iff, decide_eq_true_iff]; omega))
  · exact Ev.neg h48 (j2f _ (by symm; exact decide_eq_false (by omega)))
theorem pnt_loop {L : List Int} (ho : Oct L) (hL : L.length ≤ 6) : ∀ (d i v : Nat), L.length - i = d → i ≤ L.length → v < 16 ^ i → Ev (fun k => paronymref02_Point.l0 k (strOfNums L) (v : Int) (i : Int)) (orNone (endP L (valF v (L.drop i)))) := by
  intro d
  induction d with
  | zero =>
    intro i v h1 h2 h3
    have hz := size_str L
    rw [List.drop_eq_nil_iff.2 (by omega)]
    show Ev _ (orNone (if 1114111 < v then none else if hexT v = L then some v else none))
    refine Ev.step (fun k => rfl) (Ev.neg (by omega) ?_)
    by_cases h4 : 1114111 < v
    · rw [if_pos h4]
      exact Ev.pos (by omega) (Ev.ret rfl)
    · rw [if_neg h4]
      refine Ev.neg (by omega) (Ev.bind (refHex_ev v (by omega)) ?_)
      by_cases h5 : hexT v = L
      · rw [if_pos h5]
        exact Ev.pos (by rw [h5]) (Ev.ret rfl)
      · rw [if_neg h5]
        exact Ev.neg (fun e => h5 (str_inj (hexT_oct v (by omega)) ho (toList_inj e))) (Ev.ret rfl)
  | succ d ih =>
    intro i v h1 h2 h3
    have hi : i < L.length := by omega
    refine pnt_step ho hi hL h3 ?_
    rw [List.drop_eq_getElem_cons hi]
    show match hexV L[i] with
      | none => orNone (endP L (valF v (L[i] :: L.drop (i + 1)))) = -1
      | some d => Ev (fun k => paronymref02_Point.l0 k (strOfNums L) ((v * 16 + d : Nat) : Int) ((i + 1 : Nat) : Int)) (orNone (endP L (valF v (L[i] :: L.drop (i + 1)))))
    unfold valF
    cases hd : hexV L[i] with
    | none => rfl
    | some dd =>
      have hlt := hexV_lt hd
      exact ih (i + 1) (v * 16 + dd) (by omega) (by omega) (by rw [Nat.pow_succ]; omega)
theorem refPoint_ev {L : List Int} (ho : Oct L) (hl : L.length ≤ 1000000) : Ev (fun k => paronymref02_Point.f k (strOfNums L)) (orNone (pointL L)) := by
  have hz := size_str L
  rw [pointL_is]
  have j0f : ∀ fl : Bool, fl = decide (L.length < 4 ∨ 6 < L.length) → Ev (fun k => paronymref02_Point.j0 k (strOfNums L) fl) (orNone (if L.length < 4 ∨ 6 < L.length then none else endP L (valF 0 L))) := by
    intro fl h
    cases fl with
    | true =>
      rw [if_pos (of_decide_eq_true h.symm)]
      exact Ev.step (f := fun k => some (-1)) (fun k => rfl) (Ev.ret rfl)
    | false =>
      have hn := of_decide_eq_false h.symm
      rw [if_neg hn]
      have := pnt_loop ho (by omega) L.length 0 0 (by omega) (Nat.zero_le _) (by simp)
      rw [List.drop_zero] at this
      exact Ev.step (f := fun k => paronymref02_Point.l0 k (strOfNums L) ((0 : Nat) : Int) ((0 : Nat) : Int)) (fun k => rfl) this
  by_cases h4 : L.length < 4
  · exact Ev.pos (by omega) (j0f true (by symm; exact decide_eq_true (.inl h4)))
  · refine Ev.neg (by omega) (j0f _ ?_)
    rw [Bool.eq_iff_iff, decide_eq_true_iff, decide_eq_true_iff]
    omega
end Go.Proofs.YtdnfmilnkoocdaaDoor.K

-- from Hfpt
/- field.Point: the walk. -/
namespace Go.Proofs.YtdnfmilnkoocdaaDoor.Q
open Go.RowKit Go.Shelf Go.Proofs.YtdnfmilnkoocdaaDoorW.PrintWords Go.Proofs.YtdnfmilnkoocdaaDoorW.PrintLast Go.Proofs.YtdnfmilnkoocdaaDoorW.PrintMore Go.Proofs.YtdnfmilnkoocdaaDoor.K
set_option linter.unusedVariables false
set_option linter.unusedSimpArgs false

def orNo : Option Nat → Int
  | none => -1
  | some d => (d : Int)
theorem dIdx {x : Int} (h : 0 ≤ x ∧ x ≤ 255) : strings_IndexByte.f ⟨#[48, 49, 50, 51, 52, 53, 54, 55, 56, 57, 65, 66, 67, 68, 69, 70]⟩ x = some (orNo (hexV x)) := by
  obtain ⟨n, rfl⟩ := Int.eq_ofNat_of_zero_le h.1
  have hn : n < 256 := by omega
  have key : ∀ k : Fin 256, strings_IndexByte.f ⟨#[48, 49, 50, 51, 52, 53, 54, 55, 56, 57, 65, 66, 67, 68, 69, 70]⟩ (k.val : Int) = some (orNo (hexV (k.val : Int))) := by decide +kernel
  exact key ⟨n, hn⟩
theorem bits_or_i64_nat (a b : Nat) (ha : a < 9223372036854775808) (hb : b < 9223372036854775808) : bits .or .i64 (a : Int) (b : Int) = ((a ||| b : Nat) : Int) := by
  have hx : a ||| b < 2 ^ 63 := Nat.or_lt_two_pow (by omega) (by omega)
  have h1 : (BitVec.ofInt 64 (a : Int)).toNat = a := by
    rw [BitVec.ofInt_natCast, BitVec.toNat_ofNat]; exact Nat.mod_eq_of_lt (by omega)
  have h2 : (BitVec.ofInt 64 (b : Int)).toNat = b := by
    rw [BitVec.ofInt_natCast, BitVec.toNat_ofNat]; exact Nat.mod_eq_of_lt (by omega)
  show IntKind.i64.wrap ((BitVec.ofInt 64 (a : Int) ||| BitVec.ofInt 64 (b : Int)).toNat : Int) = _
  rw [BitVec.toNat_or, h1, h2]
  exact Go.IntWalk.i64_in _ (by omega)
theorem or_add (v d : Nat) (hd : d < 16) : (v * 16) ||| d = v * 16 + d := by
  have := Nat.two_pow_add_eq_or_of_lt (i := 4) (b := d) (by simpa using hd) v
  rw [Nat.mul_comm]
  exact this.symm
/-- What Point tells. -/
def pointR : Option Nat → Int × Int
  | none => (0, 13)
  | some v => ((v : Int), 0)
set_option maxHeartbeats 4000000 in
set_option maxRecDepth 100000 in
theorem field_Point.calls (L : List Int) (ho : Oct L) (hl : L.length ≤ 1000000) (w : World) (hE : EnvF w) :
    Calls Tryd.prog 35 #[.string (strOfNums L)] w fun e w' => e = .returned (.tuple #[.int .i64 (pointR (pointL L)).1, .int .i64 (pointR (pointL L)).2]) ∧ Below w.heap.size w w' := by
  have hz := size_str L
  obtain ⟨n, hn⟩ : ∃ n, n = L.length := ⟨_, rfl⟩
  rw [← hn] at hz
  obtain ⟨R, hR⟩ : ∃ R, R = pointL L := ⟨_, rfl⟩
  rw [← hR]
  rw [pointL_is] at hR
  have HO := Aside0.mk ho
  have HL := Aside0.mk hl
  have HE := Aside0.mk hE
  have HN := Aside0.mk hn
  by_cases h46 : L.length < 4 ∨ 6 < L.length
  · rw [if_pos h46] at hR
    subst hR
    have e0 : decide ((n : Int) < 4) = true ∨ (decide ((n : Int) < 4) = false ∧ decide ((6 : Int) < (n : Int)) = true) := by
      by_cases h4 : n < 4
      · exact .inl (decide_eq_true (by omega))
      · exact .inr ⟨decide_eq_false (by omega), decide_eq_true (by omega)⟩
    clear ho hl hE hn h46
    rcases e0 with e0 | ⟨e0, e1⟩
    · have e2 : ((n : Int) < 4) = True := eq_true (of_decide_eq_true e0)
      have e3 : (n < 4) = True := eq_true (by have := of_decide_eq_true e0; omega)
      go_enter Tryd.func35, Tryd.ntmps35
      go_wp2
      go_ret2
      exact ⟨rfl, Below.refl _ _⟩
    · have e2 : ((n : Int) < 4) = False := eq_false (of_decide_eq_false e0)
      have e3 : (n < 4) = False := eq_false (by have := of_decide_eq_false e0; omega)
      have e4 : ((6 : Int) < (n : Int)) = True := eq_true (of_decide_eq_true e1)
      have e5 : (6 < n) = True := eq_true (by have := of_decide_eq_true e1; omega)
      go_enter Tryd.func35, Tryd.ntmps35
      go_wp2
      go_ret2
      exact ⟨rfl, Below.refl _ _⟩
  · rw [if_neg h46] at hR
    have HR := Aside0.mk hR
    have HH := Aside0.mk h46
    have e0 : decide ((n : Int) < 4) = false := decide_eq_false (by omega)
    have e1 : decide ((6 : Int) < (n : Int)) = false := decide_eq_false (by omega)
    have e2 : ((n : Int) < 4) = False := eq_false (by omega)
    have e3 : (n < 4) = False := eq_false (by omega)
    have e4 : ((6 : Int) < (n : Int)) = False := eq_false (by omega)
    have e5 : (6 < n) = False := eq_false (by omega)
    clear ho hl hE hn h46 hR
    go_enter Tryd.func35, Tryd.ntmps35
    go_wp2
    clear e0 e1 e2 e3 e4 e5
    go_loopg [4, 17] (n + 1) (fun kq s4 s17 wr => ∃ i v : Nat, s17 = .int .i64 (i : Int) ∧ s4 = .int .i64 (v : Int) ∧ Aside0 (i + kq = n + 1 ∧ i ≤ n ∧ v < 16 ^ i ∧ valF 0 L = valF v (L.drop i)) ∧ Aside0 (Below w.heap.size w wr))
    case atStart => exact ⟨0, 0, rfl, rfl, ⟨by omega, by omega, by simp, by simp⟩, ⟨Below.refl _ _⟩⟩
    case round =>
      obtain ⟨i, v, rfl, rfl, HI, HB⟩ := hrel
      cases gk with
      | zero => exact absurd HI.out (by omega)
      | succ kq =>
      by_cases c1 : (i : Int) < (n : Int)
      · have hi : i < L.length := by have := HN.out; omega
        obtain ⟨x, hx⟩ : ∃ x, x = L[i] := ⟨_, rfl⟩
        have hox : 0 ≤ x ∧ x ≤ 255 := by rw [hx]; exact HO.out _ (List.getElem_mem hi)
        have hx12 : ∀ h : (i : Int).toNat < (strOfNums L).size, (((strOfNums L)[(i : Int).toNat]'h).toNat : Int) = x := fun h => by
          rw [bt_at (strOfNums L) (i : Int) h, bt_str HO.out (by omega) (by omega), rd_nat L i hi, hx]
        have hx13 : ∀ h : i < (strOfNums L).size, (((strOfNums L)[i]'h).toNat : Int) = x := fun h => hx12 h
        have e0 := eq_true c1
        have e1 : decide ((i : Int) < (n : Int)) = true := decide_eq_true c1
        have e2 : (i < n) = True := eq_true (by omega)
        have hstep : valF v (L.drop i) = (match hexV x with | none => none | some d => valF (v * 16 + d) (L.drop (i + 1))) := by
          rw [List.drop_eq_getElem_cons hi, hx]; rfl
        have HS := Aside0.mk hstep
        have HX := Aside0.mk hox
        have HV := Aside0.mk (dIdx hox)
        have hv6 : v < 16777216 := Nat.lt_of_lt_of_le HI.out.2.2.1 (Nat.pow_le_pow_right (n := 16) (by omega) (show i ≤ 6 by have := HH.out; have := HN.out; have := HI.out; omega))
        have HV6 := Aside0.mk hv6
        have HC1 := Aside0.mk hi
        clear c1 hi hx hox hstep hv6
        cases hv : hexV x with
        | none =>
          have HVN := Aside0.mk hv
          rw [hv] at HV
          have HV' : Aside0 (strings_IndexByte.f { data := #[48, 49, 50, 51, 52, 53, 54, 55, 56, 57, 65, 66, 67, 68, 69, 70] } x = some (-1)) := ⟨HV.out⟩
          have HRN : Aside0 (R = none) := ⟨by rw [HR.out, HI.out.2.2.2, HS.out, hv]; rfl⟩
          clear hv HV
          go_wp2_with (go_at_call 46; refine (strings_IndexByte.calls _ _ _ _ HV'.out).mono ?_; rintro e w2 ⟨rfl, ⟨m2, rfl⟩⟩)
          go_ret2
          rw [HRN.out]
          exact ⟨rfl, pw_below_drewN HB.out _⟩
        | some d =>
          have hd16 := hexV_lt hv
          rw [hv] at HV
          have HV' : Aside0 (strings_IndexByte.f { data := #[48, 49, 50, 51, 52, 53, 54, 55, 56, 57, 65, 66, 67, 68, 69, 70] } x = some (d : Int)) := ⟨HV.out⟩
          have HSN : Aside0 (valF v (L.drop i) = valF (v * 16 + d) (L.drop (i + 1))) := ⟨by rw [HS.out, hv]⟩
          have m1 : ((d : Int) < 0) = False := eq_false (by omega)
          have m2 : decide ((d : Int) < 0) = false := decide_eq_false (by omega)
          have hv6 := HV6.out
          have m3 : bits BinOp.or IntKind.i64 ((v : Int) * 16) (d : Int) = ((v * 16 + d : Nat) : Int) := by
            have := bits_or_i64_nat (v * 16) d (by omega) (by omega)
            rw [or_add v d hd16] at this
            rw [← this]; rfl
          have HD16 := Aside0.mk hd16
          have m4 : wrap64 ((v : Int) * 16) = (v : Int) * 16 := w64 (by omega) (by omega)
          have m5 : wrap64 ((i : Int) + 1) = (i : Int) + 1 := w64 (by omega) (by have := HI.out; have := HN.out; have := HH.out; omega)
          clear hv HV hd16 hv6
          go_wp2_with (go_at_call 46; refine (strings_IndexByte.calls _ _ _ _ HV'.out).mono ?_; rintro e w2 ⟨rfl, ⟨m2, rfl⟩⟩)
          go_roundg kq
          case measure => omega
          case rel =>
            have h1 := HI.out
            have h2 := HD16.out
            exact ⟨i + 1, v * 16 + d, by first | rfl | (rw [m5]; rfl), rfl, ⟨by omega, by have := HC1.out; have := HN.out; omega, by rw [Nat.pow_succ]; omega, by rw [h1.2.2.2]; exact HSN.out⟩, ⟨pw_below_drewN HB.out _⟩⟩
      · have hin : i = n := by have := HI.out; omega
        have e0 := eq_false c1
        have e1 : decide ((i : Int) < (n : Int)) = false := decide_eq_false c1
        have e2 : (i < n) = False := eq_false (by omega)
        have hRv : R = endP L (some v) := by
          rw [HR.out, HI.out.2.2.2, List.drop_eq_nil_iff.2 (by have := HN.out; omega)]; rfl
        by_cases c2 : 1114111 < v
        · have d0 : ((1114111 : Int) < (v : Int)) = True := eq_true (by omega)
          have d1 : decide ((1114111 : Int) < (v : Int)) = true := decide_eq_true (by omega)
          have d2 : (1114111 < v) = True := eq_true c2
          have HRN : Aside0 (R = none) := ⟨by rw [hRv]; unfold endP; simp only; rw [if_pos c2]⟩
          clear c1 hin hRv c2
          go_wp2
          go_ret2
          rw [HRN.out]
          exact ⟨rfl, HB.out⟩
        · have d0 : ((1114111 : Int) < (v : Int)) = False := eq_false (by omega)
          have d1 : decide ((1114111 : Int) < (v : Int)) = false := decide_eq_false (by omega)
          have d2 : (1114111 < v) = False := eq_false c2
          have HV := Aside0.mk (show v ≤ 1114111 by omega)
          have hEw : EnvF wr := HE.out.below HB.out
          have HEW := Aside0.mk hEw
          by_cases c3 : hexT v = L
          · have f2 : decide (strOfNums (hexT v) = strOfNums L) = true := decide_eq_true (by rw [c3])
            have f3 : ((strOfNums (hexT v)).toList == (strOfNums L).toList) = true := beq_iff_eq.mpr (by rw [c3])
            have f4 : ((strOfNums (hexT v)).toList != (strOfNums L).toList) = false := by rw [bne, f3]; rfl
            have HRN : Aside0 (R = some v) := ⟨by rw [hRv]; unfold endP; simp only; rw [if_neg c2, if_pos c3]⟩
            clear c1 hin hRv c2 hEw c3
            go_wp2_with (go_at_call 64; refine (text.calls v HV.out _ HEW.out).mono ?_; rintro e w2 ⟨rfl, hb⟩; have HB2 := Aside0.mk hb; clear hb)
            go_ret2
            rw [HRN.out]
            exact ⟨rfl, HB.out.trans (HB2.out.mono HB.out.size)⟩
          · have hne : strOfNums (hexT v) ≠ strOfNums L := fun e => c3 (str_inj (hexT_oct v HV.out) HO.out e)
            have hne2 : (strOfNums (hexT v)).toList ≠ (strOfNums L).toList := fun e => hne (toList_inj e)
            have f2 : decide (strOfNums (hexT v) = strOfNums L) = false := decide_eq_false hne
            have f3 : ((strOfNums (hexT v)).toList == (strOfNums L).toList) = false := beq_eq_false_iff_ne.mpr hne2
            have f4 : ((strOfNums (hexT v)).toList != (strOfNums L).toList) = true := by rw [bne, f3]; rfl
            have HRN : Aside0 (R = none) := ⟨by rw [hRv]; unfold endP; simp only; rw [if_neg c2, if_neg c3]⟩
            clear c1 hin hRv c2 hEw c3 hne hne2
            go_wp2_with (go_at_call 64; refine (text.calls v HV.out _ HEW.out).mono ?_; rintro e w2 ⟨rfl, hb⟩; have HB2 := Aside0.mk hb; clear hb)
            go_ret2
            rw [HRN.out]
            exact ⟨rfl, HB.out.trans (HB2.out.mono HB.out.size)⟩
end Go.Proofs.YtdnfmilnkoocdaaDoor.Q

-- from Qf38
-- Made by hp.py, a program of this session, with the kit's printer. Not trusted: Lean checks it.
namespace Go.Proofs.YtdnfmilnkoocdaaDoor.Q
open Go.RowKit Go.Proofs.YtdnfmilnkoocdaaDoorW.PrintWords Go.Proofs.YtdnfmilnkoocdaaDoorW.PrintLast Go.Proofs.YtdnfmilnkoocdaaDoorW.PrintMore
attribute [local go_sem] max2_int min2_int max_two min_two max_three min_three max_four min_four   -- for this text's walks alone
set_option linter.unusedVariables false
set_option linter.unusedSimpArgs false

/-! ### paronymref02_Range: function 38 -/
mutual
def paronymref02_Range.j1 : Nat → ByteArray → Int → Option (Int × Int × Int)
  | 0, _, _ => none
  | k + 1, x0, x5 => if x5 < 0 then ((paronymref02_Point.f k x0).bind fun t101 => (if t101 < 0 then (some (0, 0, 13)) else (some (t101, t101, 0)))) else (if 0 ≤ x5 then (if x5 ≤ (x0.size : Int) then ((paronymref02_Point.f k (x0.extract 0 (x5 : Int).toNat)).bind fun t102 => (if 0 ≤ (wrap64 (x5 + 2)) then (if (wrap64 (x5 + 2)) ≤ (x0.size : Int) then ((paronymref02_Point.f k (x0.extract ((wrap64 (x5 + 2)) : Int).toNat x0.size)).bind fun t103 => (if t102 < 0 then (paronymref02_Range.j2 k t102 t103 true) else (paronymref02_Range.j2 k t102 t103 (decide (t103 < 0))))) else (none)) else (none))) else (none)) else (none))
def paronymref02_Range.j2 : Nat → Int → Int → Bool → Option (Int × Int × Int)
  | 0, _, _, _ => none
  | k + 1, x8, x9, x51 => if x51 = true then (some (0, 0, 13)) else (if x9 ≤ x8 then (some (0, 0, 14)) else (some (x8, x9, 0)))
def paronymref02_Range.l0 : Nat → ByteArray → Int → Int → Option (Int × Int × Int)
  | 0, _, _, _ => none
  | k + 1, x0, x5, x6 => if (wrap64 (x6 + 2)) ≤ (x0.size : Int) then (if 0 ≤ x6 then (if x6 < (x0.size : Int) then (if (bt x0 x6) = 46 then (if 0 ≤ (wrap64 (x6 + 1)) then (if (wrap64 (x6 + 1)) < (x0.size : Int) then (if (bt x0 (wrap64 (x6 + 1))) = 46 then (paronymref02_Range.j1 k x0 x6) else (paronymref02_Range.l0 k x0 x5 (wrap64 (x6 + 1)))) else (none)) else (none)) else (paronymref02_Range.l0 k x0 x5 (wrap64 (x6 + 1)))) else (none)) else (none)) else (paronymref02_Range.j1 k x0 x5)
end
def paronymref02_Range.f (k : Nat) (a0 : ByteArray) : Option (Int × Int × Int) := paronymref02_Range.l0 k a0 (-1) 0
theorem paronymref02_Range.mono_l : ∀ k, (∀ y0 y1, LeO (paronymref02_Range.j1 k y0 y1) (paronymref02_Range.j1 (k + 1) y0 y1)) ∧ (∀ y0 y1 y2, LeO (paronymref02_Range.j2 k y0 y1 y2) (paronymref02_Range.j2 (k + 1) y0 y1 y2)) ∧ (∀ y0 y1 y2, LeO (paronymref02_Range.l0 k y0 y1 y2) (paronymref02_Range.l0 (k + 1) y0 y1 y2))
  | 0 => ⟨fun _ _ r h => by simp [paronymref02_Range.j1] at h, fun _ _ _ r h => by simp [paronymref02_Range.j2] at h, fun _ _ _ r h => by simp [paronymref02_Range.l0] at h⟩
  | k + 1 => by
    obtain ⟨ih0, ih1, ih2⟩ := paronymref02_Range.mono_l k
    refine ⟨?_, ?_, ?_⟩
    · intro y0 y1
      unfold paronymref02_Range.j1
      repeat' first
      | (with_reducible exact ih0 _ _)
      | (with_reducible exact ih1 _ _ _)
      | (with_reducible exact ih2 _ _ _)
      | (with_reducible exact paronymref02_Point.mono _ _)
      | (with_reducible exact LeO.refl _)
      | (with_reducible exact LeO.none _)
      | (with_reducible refine LeO.ite ?_ ?_)
      | (with_reducible refine LeO.bind ?_ (fun _ => ?_))
      | exact ih0 _ _
      | exact ih1 _ _ _
      | exact ih2 _ _ _
      | exact paronymref02_Point.mono _ _
      | exact LeO.none _
      | refine LeO.ite ?_ ?_
      | refine LeO.bind ?_ (fun _ => ?_)
    · intro y0 y1 y2
      unfold paronymref02_Range.j2
      repeat' first
      | (with_reducible exact ih0 _ _)
      | (with_reducible exact ih1 _ _ _)
      | (with_reducible exact ih2 _ _ _)
      | (with_reducible exact paronymref02_Point.mono _ _)
      | (with_reducible exact LeO.refl _)
      | (with_reducible exact LeO.none _)
      | (with_reducible refine LeO.ite ?_ ?_)
      | (with_reducible refine LeO.bind ?_ (fun _ => ?_))
      | exact ih0 _ _
      | exact ih1 _ _ _
      | exact ih2 _ _ _
      | exact paronymref02_Point.mono _ _
      | exact LeO.none _
      | refine LeO.ite ?_ ?_
      | refine LeO.bind ?_ (fun _ => ?_)
    · intro y0 y1 y2
      unfold paronymref02_Range.l0
      repeat' first
      | (with_reducible exact ih0 _ _)
      | (with_reducible exact ih1 _ _ _)
      | (with_reducible exact ih2 _ _ _)
      | (with_reducible exact paronymref02_Point.mono _ _)
      | (with_reducible exact LeO.refl _)
      | (with_reducible exact LeO.none _)
      | (with_reducible refine LeO.ite ?_ ?_)
      | (with_reducible refine LeO.bind ?_ (fun _ => ?_))
      | exact ih0 _ _
      | exact ih1 _ _ _
      | exact ih2 _ _ _
      | exact paronymref02_Point.mono _ _
      | exact LeO.none _
      | refine LeO.ite ?_ ?_
      | refine LeO.bind ?_ (fun _ => ?_)
theorem paronymref02_Range.mono : ∀ a0 k, LeO (paronymref02_Range.f k a0) (paronymref02_Range.f (k + 1) a0) := by
  intro a0 k
  obtain ⟨ih0, ih1, ih2⟩ := paronymref02_Range.mono_l k
  unfold paronymref02_Range.f
  repeat' first
      | (with_reducible exact ih0 _ _)
      | (with_reducible exact ih1 _ _ _)
      | (with_reducible exact ih2 _ _ _)
      | (with_reducible exact paronymref02_Point.mono _ _)
      | (with_reducible exact LeO.refl _)
      | (with_reducible exact LeO.none _)
      | (with_reducible refine LeO.ite ?_ ?_)
      | (with_reducible refine LeO.bind ?_ (fun _ => ?_))
      | exact ih0 _ _
      | exact ih1 _ _ _
      | exact ih2 _ _ _
      | exact paronymref02_Point.mono _ _
      | exact LeO.none _
      | refine LeO.ite ?_ ?_
      | refine LeO.bind ?_ (fun _ => ?_)
def paronymref02_Range.T12 : Bool × List (List Nat × List Nat) := (true, [([], []), ([], []), ([0, 1], [0, 1]), ([2], [2]), ([], []), ([], []), ([5], [5]), ([4, 6], [4, 6]), ([7, 3], [7]), ([3, 8, 0, 1, 2, 3], [3]), ([8, 9, 0, 1, 2, 3, 4, 5, 6, 7, 8, 9], [8])])
def paronymref02_Range.B12 : List Nat := [0, 0, 3, 7, 0, 0, 32, 112, 255, 511, 1023]
theorem paronymref02_Range.tab12 : rtab .any (opsOf Tryd.f38 12) = paronymref02_Range.T12 := by kernel_rfl
theorem paronymref02_Range.bits12 : waitsOk paronymref02_Range.T12.2 paronymref02_Range.B12 = true := by kernel_rfl
set_option maxHeartbeats 8000000 in
set_option maxRecDepth 100000 in
theorem paronymref02_Range.calls (k : Nat) (a0 : ByteArray) (r1 : Int) (r2 : Int) (r3 : Int) (w : World) (h : paronymref02_Range.f k a0 = some (r1, r2, r3)) :
    Calls Tryd.prog 38 #[.string a0] w fun e w' => e = .returned (.tuple #[.int .i64 r1, .int .i64 r2, .int .i64 r3]) ∧ Below w.heap.size w w' := by
  have HB := Aside0.mk (Below.refl w.heap.size w)
  have H : (paronymref02_Range.l0 k a0 (-1) 0) = some (r1, r2, r3) := h
  clear h
  have HC2 := Aside0.mk H
  clear H
  go_enter Tryd.func38, Tryd.ntmps38
  go_upto_block 0 with (fail)
  go_cut [5] (fun v5 wc => ∃ (kq : Nat) (x5_1 : Int), v5 = .int .i64 x5_1 ∧ Aside0 (paronymref02_Range.j1 kq a0 x5_1 = some (r1, r2, r3)) ∧ Aside0 (kq ≤ k) ∧ Aside0 (Below w.heap.size w wc))
  case first =>
    have H := HC2.out
    clear HC2
    have H' := Aside0.mk H
    clear H
    go_wp2
    go_loopg [5, 6] k (fun kq v5 v6 w' => ∃ (x5_1 : Int) (x6_1 : Int), v5 = .int .i64 x5_1 ∧ v6 = .int .i64 x6_1 ∧ Aside0 (paronymref02_Range.l0 kq a0 x5_1 x6_1 = some (r1, r2, r3)) ∧ Aside0 (kq ≤ k) ∧ Aside0 (Below w.heap.size w w'))
    case atStart => exact ⟨((-1)), (0), (by first | rfl | (simp; done) | (simp [*]; done)), (by first | rfl | (simp; done) | (simp [*]; done)), H', ⟨Nat.le_refl _⟩, ⟨by repeat (first | (with_reducible first | exact HB.out | apply below_alloc | apply pw_below_drewN | apply below_drew1) | exact HB.out)⟩⟩
    case round =>
      clear H'
      try clear p2
      obtain ⟨x5_1, x6_1, rfl, rfl, HA, HK1, HB⟩ := hrel
      cases gk with
      | zero => exact absurd HA.out (by simp [paronymref02_Range.l0])
      | succ k1 =>
        have H := HA.out
        clear HA
        simp only [paronymref02_Range.l0] at H
        by_cases c3 : (wrap64 (x6_1 + 2)) ≤ (a0.size : Int)
        · rw [if_pos c3] at H
          have c3b0 : decide ((wrap64 (x6_1 + 2)) ≤ (a0.size : Int)) = true := decide_eq_true c3
          clear c3
          (first | rw [c3b0] | (simp only [i64_w, i32_w]; rw [c3b0]) | rw [c3b1] | (simp only [i64_w, i32_w]; rw [c3b1]) | skip)
          by_cases c4 : 0 ≤ x6_1
          · rw [if_pos c4] at H
            have c4b0 : decide (0 ≤ x6_1) = true := decide_eq_true c4
            clear c4
            by_cases c5 : x6_1 < (a0.size : Int)
            · rw [if_pos c5] at H
              have c5b0 : decide (x6_1 < (a0.size : Int)) = true := decide_eq_true c5
              clear c5
              by_cases c7 : (bt a0 x6_1) = 46
              · rw [if_pos c7] at H
                have c7b0 : ((bt a0 x6_1) == 46) = true := beq_iff_eq.mpr c7
                have c7b1 : ((bt a0 x6_1) != 46) = false := bne_eq_false_iff_eq.mpr c7
                clear c7
                obtain ⟨ji8, hji8⟩ : ∃ j_ : Int, (wrap64 (x6_1 + 1)) = j_ := ⟨_, rfl⟩
                replace H : (if 0 ≤ (ji8) then (if (ji8) < (a0.size : Int) then (if (bt a0 (ji8)) = 46 then (paronymref02_Range.j1 k1 a0 x6_1) else (paronymref02_Range.l0 k1 a0 x5_1 ji8)) else (none)) else (none)) = some (r1, r2, r3) := by first | (rw [hji8] at H; exact H) | (simp only [hji8] at H ⊢; exact H)
                have hji8w : (IntKind.i64.wrap (x6_1 + 1)) = ji8 := (i64_w _).trans hji8
                by_cases c9 : 0 ≤ (ji8)
                · rw [if_pos c9] at H
                  have c9b0 : decide (0 ≤ (ji8)) = true := decide_eq_true c9
                  clear c9
                  by_cases c10 : (ji8) < (a0.size : Int)
                  · rw [if_pos c10] at H
                    have c10b0 : decide ((ji8) < (a0.size : Int)) = true := decide_eq_true c10
                    clear c10
                    by_cases c12 : (bt a0 (ji8)) = 46
                    · rw [if_pos c12] at H
                      have c12b0 : ((bt a0 (ji8)) == 46) = true := beq_iff_eq.mpr c12
                      have c12b1 : ((bt a0 (ji8)) != 46) = false := bne_eq_false_iff_eq.mpr c12
                      clear c12
                      have H' := Aside0.mk H
                      clear H
                      have p6 : 0 ≤ (x6_1 : Int) := of_decide_eq_true (by first | (with_reducible assumption) | assumption)
                      have q6 : x6_1 < (a0.size : Int) := of_decide_eq_true (by first | (with_reducible assumption) | assumption)
                      have hx6 := bt_at a0 x6_1
                      replace p6 := eq_true p6
                      replace q6 := eq_true q6
                      have p11 : 0 ≤ ((ji8) : Int) := of_decide_eq_true (by first | (with_reducible assumption) | assumption)
                      have q11 : (ji8) < (a0.size : Int) := of_decide_eq_true (by first | (with_reducible assumption) | assumption)
                      have hx11 := bt_at a0 (ji8)
                      replace p11 := eq_true p11
                      replace q11 := eq_true q11
                      go_wp2
                      go_meet
                      case rel => exact ⟨_, (x6_1), (by first | rfl | (simp; done) | (simp [*]; done)), H', ⟨by have := HK1.out; first | omega | exact Nat.le_refl _⟩, ⟨by repeat (first | (with_reducible first | exact HB.out | apply below_alloc | apply pw_below_drewN | apply below_drew1) | exact HB.out)⟩⟩
                    · rw [if_neg c12] at H
                      have c12b0 : ((bt a0 (ji8)) == 46) = false := beq_eq_false_iff_ne.mpr c12
                      have c12b1 : ((bt a0 (ji8)) != 46) = true := bne_iff_ne.mpr c12
                      have H' := Aside0.mk H
                      clear H
                      have p6 : 0 ≤ (x6_1 : Int) := of_decide_eq_true (by first | (with_reducible assumption) | assumption)
                      have q6 : x6_1 < (a0.size : Int) := of_decide_eq_true (by first | (with_reducible assumption) | assumption)
                      have hx6 := bt_at a0 x6_1
                      replace p6 := eq_true p6
                      replace q6 := eq_true q6
                      have p11 : 0 ≤ ((ji8) : Int) := of_decide_eq_true (by first | (with_reducible assumption) | assumption)
                      have q11 : (ji8) < (a0.size : Int) := of_decide_eq_true (by first | (with_reducible assumption) | assumption)
                      have hx11 := bt_at a0 (ji8)
                      replace p11 := eq_true p11
                      replace q11 := eq_true q11
                      go_wp2
                      go_roundg k1
                      case measure => have := HK1.out; omega
                      case rel => exact ⟨(x5_1), (ji8), (by first | rfl | (simp; done) | (simp [*]; done)), (by first | rfl | (simp; done) | (simp only [← hji8] <;> (first | rfl | simp)) | (simp [*]; done)), H', ⟨by have := HK1.out; omega⟩, ⟨by repeat (first | (with_reducible first | exact HB.out | apply below_alloc | apply pw_below_drewN | apply below_drew1) | exact HB.out)⟩⟩
                  · rw [if_neg c10] at H
                    exact absurd H (by simp)
                · rw [if_neg c9] at H
                  exact absurd H (by simp)
              · rw [if_neg c7] at H
                have c7b0 : ((bt a0 x6_1) == 46) = false := beq_eq_false_iff_ne.mpr c7
                have c7b1 : ((bt a0 x6_1) != 46) = true := bne_iff_ne.mpr c7
                have H' := Aside0.mk H
                clear H
                have p6 : 0 ≤ (x6_1 : Int) := of_decide_eq_true (by first | (with_reducible assumption) | assumption)
                have q6 : x6_1 < (a0.size : Int) := of_decide_eq_true (by first | (with_reducible assumption) | assumption)
                have hx6 := bt_at a0 x6_1
                replace p6 := eq_true p6
                replace q6 := eq_true q6
                go_wp2
                go_roundg k1
                case measure => have := HK1.out; omega
                case rel => exact ⟨(x5_1), (wrap64 (x6_1 + 1)), (by first | rfl | (simp; done) | (simp [*]; done)), (by first | rfl | (simp; done) | (simp [*]; done)), H', ⟨by have := HK1.out; omega⟩, ⟨by repeat (first | (with_reducible first | exact HB.out | apply below_alloc | apply pw_below_drewN | apply below_drew1) | exact HB.out)⟩⟩
            · rw [if_neg c5] at H
              exact absurd H (by simp)
          · rw [if_neg c4] at H
            exact absurd H (by simp)
        · rw [if_neg c3] at H
          have c3b0 : decide ((wrap64 (x6_1 + 2)) ≤ (a0.size : Int)) = false := decide_eq_false c3
          clear c3
          (first | rw [c3b0] | (simp only [i64_w, i32_w]; rw [c3b0]) | rw [c3b1] | (simp only [i64_w, i32_w]; rw [c3b1]) | skip)
          have H' := Aside0.mk H
          clear H
          go_wp2
          go_meet
          case rel => exact ⟨_, (x5_1), (by first | rfl | (simp; done) | (simp [*]; done)), H', ⟨by have := HK1.out; first | omega | exact Nat.le_refl _⟩, ⟨by repeat (first | (with_reducible first | exact HB.out | apply below_alloc | apply pw_below_drewN | apply below_drew1) | exact HB.out)⟩⟩
  case rest =>
    clear HC2
    try clear c1
    try clear p1
    try clear q1
    try clear hx1
    try clear p2
    try clear c3
    try clear c3b0
    try clear c3b1
    try clear c4
    try clear c4b0
    try clear c5
    try clear c5b0
    try clear p6
    try clear q6
    try clear hx6
    try clear c7
    try clear c7b0
    try clear c7b1
    try clear c9
    try clear c9b0
    try clear c10
    try clear c10b0
    try clear p11
    try clear q11
    try clear hx11
    try clear c12
    try clear c12b0
    try clear c12b1
    try clear p11
    try clear p2
    try clear p6
    try clear q11
    try clear q6
    obtain ⟨kq, x5_1, rfl, HA, HJ1, HB⟩ := hcut
    cases kq with
    | zero => exact absurd HA.out (by simp [paronymref02_Range.j1])
    | succ kj1 =>
      have H := HA.out
      clear HA
      simp only [paronymref02_Range.j1] at H
      by_cases c13 : x5_1 < 0
      · rw [if_pos c13] at H
        have c13b0 : decide (x5_1 < 0) = true := decide_eq_true c13
        clear c13
        replace H := Option.bind_eq_some_iff.mp H
        obtain ⟨t101, A140, H⟩ := H
        replace H : (if t101 < 0 then (some (0, 0, 13)) else (some (t101, t101, 0))) = some (r1, r2, r3) := H
        have A14 := Aside0.mk A140
        clear A140
        by_cases c15 : t101 < 0
        · rw [if_pos c15] at H
          have c15b0 : decide (t101 < 0) = true := decide_eq_true c15
          clear c15
          simp only [Option.some.injEq, Prod.mk.injEq] at H
          obtain ⟨rfl, rfl, rfl⟩ := H
          go_wp2_with (first | ((with_reducible refine gate_callee (f := 36) rfl ?_); refine goesL_ (some 32) rfl rfl Tryd.func36 (by kernel_rfl) rfl #[.string a0] rfl (by (try simp only [List.map_toArray, List.map_cons, List.map_nil]); first | done | rfl | (simp only [List.length_drop, List.length_take]; rfl)) ?_; (with_reducible refine (paronymref02_Point.calls kj1 a0 t101 _ A14.out).mono ?_); rintro e w16 ⟨rfl, hb⟩; refine ⟨_, rfl, ?_⟩; have n0_ := Aside0.mk (below_step (by repeat (first | (with_reducible first | exact HB.out | apply below_alloc | apply pw_below_drewN | apply below_drew1) | exact HB.out)) hb); clear HB; have HB := n0_; clear n0_; (try clear hb); (try clear hb2); (try clear hk); (try clear hi)))
          go_ret3
          exact ⟨by first | rfl | (simp [errW_none, errW_some] <;> rfl) | (simp [*, errW_none, errW_some] <;> rfl), by repeat (first | (with_reducible first | exact HB.out | apply below_alloc | apply pw_below_drewN | apply below_drew1) | exact HB.out)⟩
        · rw [if_neg c15] at H
          have c15b0 : decide (t101 < 0) = false := decide_eq_false c15
          clear c15
          simp only [Option.some.injEq, Prod.mk.injEq] at H
          obtain ⟨rfl, rfl, rfl⟩ := H
          go_wp2_with (first | ((with_reducible refine gate_callee (f := 36) rfl ?_); refine goesL_ (some 32) rfl rfl Tryd.func36 (by kernel_rfl) rfl #[.string a0] rfl (by (try simp only [List.map_toArray, List.map_cons, List.map_nil]); first | done | rfl | (simp only [List.length_drop, List.length_take]; rfl)) ?_; (with_reducible refine (paronymref02_Point.calls kj1 a0 t101 _ A14.out).mono ?_); rintro e w17 ⟨rfl, hb⟩; refine ⟨_, rfl, ?_⟩; have n0_ := Aside0.mk (below_step (by repeat (first | (with_reducible first | exact HB.out | apply below_alloc | apply pw_below_drewN | apply below_drew1) | exact HB.out)) hb); clear HB; have HB := n0_; clear n0_; (try clear hb); (try clear hb2); (try clear hk); (try clear hi)))
          go_ret3
          exact ⟨by first | rfl | (simp [errW_none, errW_some] <;> rfl) | (simp [*, errW_none, errW_some] <;> rfl), by repeat (first | (with_reducible first | exact HB.out | apply below_alloc | apply pw_below_drewN | apply below_drew1) | exact HB.out)⟩
      · rw [if_neg c13] at H
        have c13b0 : decide (x5_1 < 0) = false := decide_eq_false c13
        clear c13
        by_cases c18 : 0 ≤ x5_1
        · rw [if_pos c18] at H
          have c18b0 := eq_true c18
          have c18b1 : decide (0 ≤ x5_1) = true := decide_eq_true c18
          clear c18
          by_cases c19 : x5_1 ≤ (a0.size : Int)
          · rw [if_pos c19] at H
            have c19b0 := eq_true c19
            have c19b1 : decide (x5_1 ≤ (a0.size : Int)) = true := decide_eq_true c19
            clear c19
            replace H := Option.bind_eq_some_iff.mp H
            obtain ⟨t102, A200, H⟩ := H
            replace H : (if 0 ≤ (wrap64 (x5_1 + 2)) then (if (wrap64 (x5_1 + 2)) ≤ (a0.size : Int) then ((paronymref02_Point.f kj1 (a0.extract ((wrap64 (x5_1 + 2)) : Int).toNat a0.size)).bind fun t103 => (if t102 < 0 then (paronymref02_Range.j2 kj1 t102 t103 true) else (paronymref02_Range.j2 kj1 t102 t103 (decide (t103 < 0))))) else (none)) else (none)) = some (r1, r2, r3) := H
            have A20 := Aside0.mk A200
            clear A200
            obtain ⟨ji21, hji21⟩ : ∃ j_ : Int, (wrap64 (x5_1 + 2)) = j_ := ⟨_, rfl⟩
            replace H : (if 0 ≤ (ji21) then (if (ji21) ≤ (a0.size : Int) then ((paronymref02_Point.f kj1 (a0.extract ((ji21) : Int).toNat a0.size)).bind fun t103 => (if t102 < 0 then (paronymref02_Range.j2 kj1 t102 t103 true) else (paronymref02_Range.j2 kj1 t102 t103 (decide (t103 < 0))))) else (none)) else (none)) = some (r1, r2, r3) := by first | (rw [hji21] at H; exact H) | (simp only [hji21] at H ⊢; exact H)
            (try rw [hji21] at A20)
            have hji21w : (IntKind.i64.wrap (x5_1 + 2)) = ji21 := (i64_w _).trans hji21
            by_cases c22 : 0 ≤ (ji21)
            · rw [if_pos c22] at H
              have c22b0 := eq_true c22
              have c22b1 : decide (0 ≤ (ji21)) = true := decide_eq_true c22
              clear c22
              by_cases c23 : (ji21) ≤ (a0.size : Int)
              · rw [if_pos c23] at H
                have c23b0 := eq_true c23
                have c23b1 : decide ((ji21) ≤ (a0.size : Int)) = true := decide_eq_true c23
                clear c23
                replace H := Option.bind_eq_some_iff.mp H
                obtain ⟨t103, A240, H⟩ := H
                replace H : (if t102 < 0 then (paronymref02_Range.j2 kj1 t102 t103 true) else (paronymref02_Range.j2 kj1 t102 t103 (decide (t103 < 0)))) = some (r1, r2, r3) := H
                have A24 := Aside0.mk A240
                clear A240
                have HC25 := Aside0.mk H
                clear H
                try go_wp2
                have n0_ := Aside0.mk (below_drew1 HB.out)
                clear HB
                have HB := n0_
                clear n0_
                refine start_ (n := 11) (S := fun w' => True) (ds := []) #[false, false, false, false, false, false, false, false, false, false, false] (by kernel_rfl) rfl rfl trivial (fun hHeld => ?_); refine with_tabW paronymref02_Range.tab12 paronymref02_Range.bits12 (fun HT_ HW_ => ?_)
                generalize wc.drew = w26 at HB hHeld ⊢
                refine pure_ (i := 0) (N := some 37) (v := ?_) (a' := ?_) #[true, false, false, false, false, false, false, false, false, false, false] rfl rfl (any_of HT_.out (by kernel_rfl)) (fun _ _ _ h => h) (Or.inl ⟨by rfl, ?_⟩) ?_ ?_
                rotate_left
                · intro w'
                  go_simp
                  with_reducible rfl
                rotate_left
                · simp only [Act.put, List.setIfInBounds_toArray, List.set_cons_zero, List.set_cons_succ, i64_w, i32_w]
                  rfl
                refine pure_ (i := 1) (N := some 38) (v := ?_) (a' := ?_) #[true, true, false, false, false, false, false, false, false, false, false] rfl rfl (any_of HT_.out (by kernel_rfl)) (fun _ _ _ h => h) (Or.inl ⟨by rfl, ?_⟩) ?_ ?_
                rotate_left
                · intro w'
                  go_simp
                  with_reducible rfl
                rotate_left
                · simp only [Act.put, List.setIfInBounds_toArray, List.set_cons_zero, List.set_cons_succ, i64_w, i32_w]
                  rfl
                refine pure_ (i := 2) (N := some 39) (v := ?_) (a' := ?_) #[true, true, true, false, false, false, false, false, false, false, false] rfl rfl (any_of HT_.out (by kernel_rfl)) (fun _ _ _ h => h) (Or.inl ⟨by rfl, ?_⟩) ?_ ?_
                rotate_left
                · intro w'
                  go_simp
                  with_reducible rfl
                rotate_left
                · simp only [Act.put, List.setIfInBounds_toArray, List.set_cons_zero, List.set_cons_succ, i64_w, i32_w]
                  rfl
                refine pure_ (i := 4) (N := some 41) (v := ?_) (a' := ?_) #[true, true, true, false, true, false, false, false, false, false, false] rfl rfl (any_of HT_.out (by kernel_rfl)) (fun _ _ _ h => h) (Or.inl ⟨by rfl, ?_⟩) ?_ ?_
                rotate_left
                · intro w'
                  go_simp
                  with_reducible rfl
                rotate_left
                · simp only [Act.put, List.setIfInBounds_toArray, List.set_cons_zero, List.set_cons_succ, i64_w, i32_w]
                  rfl
                refine pure_ (i := 5) (N := some 42) (v := ?_) (a' := ?_) #[true, true, true, false, true, true, false, false, false, false, false] rfl rfl (any_of HT_.out (by kernel_rfl)) (fun _ _ _ h => h) (Or.inl ⟨by rfl, ?_⟩) ?_ ?_
                rotate_left
                · intro w'
                  go_simp
                  with_reducible rfl
                rotate_left
                · simp only [Act.put, List.setIfInBounds_toArray, List.set_cons_zero, List.set_cons_succ, i64_w, i32_w]
                  rfl
                refine pure_ (i := 6) (N := some 43) (v := ?_) (a' := ?_) #[true, true, true, false, true, true, true, false, false, false, false] rfl rfl (any_of HT_.out (by kernel_rfl)) (fun _ _ _ h => h) (Or.inl ⟨by rfl, ?_⟩) ?_ ?_
                rotate_left
                · intro w'
                  go_simp
                  with_reducible rfl
                rotate_left
                · simp only [Act.put, List.setIfInBounds_toArray, List.set_cons_zero, List.set_cons_succ, i64_w, i32_w]
                  rfl
                refine pure_ (i := 7) (N := some 44) (v := ?_) (a' := ?_) #[true, true, true, false, true, true, true, true, false, false, false] rfl rfl (any_of HT_.out (by kernel_rfl)) (fun _ _ _ h => h) (Or.inl ⟨by rfl, ?_⟩) ?_ ?_
                rotate_left
                · intro w'
                  go_simp
                  with_reducible rfl
                rotate_left
                · simp only [Act.put, List.setIfInBounds_toArray, List.set_cons_zero, List.set_cons_succ, i64_w, i32_w]
                  rfl
                refine one_ (i := 3) (N := some 40) #[true, true, true, true, true, true, true, true, false, false, false] rfl rfl (one_of HT_.out (by kernel_rfl)) (by decide) (fun K hK => ?_)
                refine goes_ Tryd.func36 (by kernel_rfl) rfl #[.string (a0.extract 0 (x5_1 : Int).toNat)] (by rfl) rfl rfl (by (try simp only [List.map_toArray, List.map_cons, List.map_nil]); first | done | rfl | (simp only [List.length_drop, List.length_take]; rfl)) ?_
                with_reducible refine (paronymref02_Point.calls kj1 (a0.extract 0 (x5_1 : Int).toNat) t102 _ A20.out).mono ?_
                rintro e w27 ⟨rfl, hb⟩
                refine ⟨_, rfl, ?_⟩
                have n0_ := Aside0.mk (below_step (by repeat (first | (with_reducible first | exact HB.out | apply below_alloc | apply pw_below_drewN | apply below_drew1) | exact HB.out)) hb)
                clear HB
                have HB := n0_
                clear n0_
                (try clear hb)
                (try clear hb2)
                (try clear hk)
                (try clear hi)
                refine hK.out _ _ trivial (fun hHeld => ?_)
                clear hK K
                refine norm_ (a' := ?_) ?_ ?_
                rotate_left
                · show Act.put _ (some 40) _ = _
                  simp only [Act.put, List.setIfInBounds_toArray, List.set_cons_zero, List.set_cons_succ, i64_w, i32_w]
                  rfl
                refine one_ (i := 8) (N := some 45) #[true, true, true, true, true, true, true, true, true, false, false] rfl rfl (one_of HT_.out (by kernel_rfl)) (by decide) (fun K hK => ?_)
                refine goes_ Tryd.func36 (by kernel_rfl) rfl #[.string (a0.extract ((ji21) : Int).toNat a0.size)] (by rfl) rfl rfl (by (try simp only [List.map_toArray, List.map_cons, List.map_nil]); first | done | (simp only [hji21]; rfl) | rfl | (simp only [List.length_drop, List.length_take]; rfl)) ?_
                with_reducible refine (paronymref02_Point.calls kj1 (a0.extract ((ji21) : Int).toNat a0.size) t103 _ A24.out).mono ?_
                rintro e w28 ⟨rfl, hb⟩
                refine ⟨_, rfl, ?_⟩
                have n0_ := Aside0.mk (below_step (by repeat (first | (with_reducible first | exact HB.out | apply below_alloc | apply pw_below_drewN | apply below_drew1) | exact HB.out)) hb)
                clear HB
                have HB := n0_
                clear n0_
                (try clear hb)
                (try clear hb2)
                (try clear hk)
                (try clear hi)
                refine hK.out _ _ trivial (fun hHeld => ?_)
                clear hK K
                refine norm_ (a' := ?_) ?_ ?_
                rotate_left
                · show Act.put _ (some 45) _ = _
                  simp only [Act.put, List.setIfInBounds_toArray, List.set_cons_zero, List.set_cons_succ, i64_w, i32_w]
                  rfl
                refine pure_ (i := 9) (N := some 8) (v := ?_) (a' := ?_) #[true, true, true, true, true, true, true, true, true, true, false] rfl rfl (any_of HT_.out (by kernel_rfl)) (fun _ _ _ h => h) (Or.inl ⟨by rfl, ?_⟩) ?_ ?_
                rotate_left
                · intro w'
                  go_simp
                  with_reducible rfl
                rotate_left
                · simp only [Act.put, List.setIfInBounds_toArray, List.set_cons_zero, List.set_cons_succ, i64_w, i32_w]
                  rfl
                refine pure_ (i := 10) (N := some 9) (v := ?_) (a' := ?_) #[true, true, true, true, true, true, true, true, true, true, true] rfl rfl (any_of HT_.out (by kernel_rfl)) (fun _ _ _ h => h) (Or.inl ⟨by rfl, ?_⟩) ?_ ?_
                rotate_left
                · intro w'
                  go_simp
                  with_reducible rfl
                rotate_left
                · simp only [Act.put, List.setIfInBounds_toArray, List.set_cons_zero, List.set_cons_succ, i64_w, i32_w]
                  rfl
                refine done_ (done_of HT_.out (by kernel_rfl)) ?_
                go_upto_region 13 with (fail)
                go_cut [51] (fun v51 wc => ∃ (kq : Nat) (x51_24 : Bool), v51 = .bool x51_24 ∧ Aside0 (paronymref02_Range.j2 kq t102 t103 x51_24 = some (r1, r2, r3)) ∧ Aside0 (kq ≤ kj1) ∧ Aside0 (Below w.heap.size w wc))
                case first =>
                  have H := HC25.out
                  clear HC25
                  by_cases c29 : t102 < 0
                  · rw [if_pos c29] at H
                    have c29b0 : decide (t102 < 0) = true := decide_eq_true c29
                    clear c29
                    (first | rw [c29b0] | (simp only [i64_w, i32_w]; rw [c29b0]) | rw [c29b1] | (simp only [i64_w, i32_w]; rw [c29b1]) | skip)
                    have H' := Aside0.mk H
                    clear H
                    go_wp2
                    go_meet
                    case rel => exact ⟨_, (true), (by first | rfl | (simp; done) | (simp [*]; done)), H', ⟨by have := HJ1.out; first | omega | exact Nat.le_refl _⟩, ⟨by repeat (first | (with_reducible first | exact HB.out | apply below_alloc | apply pw_below_drewN | apply below_drew1) | exact HB.out)⟩⟩
                  · rw [if_neg c29] at H
                    have c29b0 : decide (t102 < 0) = false := decide_eq_false c29
                    clear c29
                    (first | rw [c29b0] | (simp only [i64_w, i32_w]; rw [c29b0]) | rw [c29b1] | (simp only [i64_w, i32_w]; rw [c29b1]) | skip)
                    have H' := Aside0.mk H
                    clear H
                    go_wp2
                    go_meet
                    case rel => exact ⟨_, (decide (t103 < 0)), (by first | rfl | (simp; done) | (simp [*]; done)), H', ⟨by have := HJ1.out; first | omega | exact Nat.le_refl _⟩, ⟨by repeat (first | (with_reducible first | exact HB.out | apply below_alloc | apply pw_below_drewN | apply below_drew1) | exact HB.out)⟩⟩
                case rest =>
                  clear HC25
                  try clear c1
                  try clear p1
                  try clear q1
                  try clear hx1
                  try clear c2
                  try clear p2
                  try clear c3
                  try clear c3b0
                  try clear c3b1
                  try clear c4
                  try clear c4b0
                  try clear c5
                  try clear c5b0
                  try clear p6
                  try clear q6
                  try clear hx6
                  try clear c7
                  try clear c7b0
                  try clear c7b1
                  try clear c9
                  try clear c9b0
                  try clear c10
                  try clear c10b0
                  try clear p11
                  try clear q11
                  try clear hx11
                  try clear c12
                  try clear c12b0
                  try clear c12b1
                  try clear c13
                  try clear c13b0
                  try clear c15
                  try clear c15b0
                  try clear c18
                  try clear c18b0
                  try clear c18b1
                  try clear c19
                  try clear c19b0
                  try clear c19b1
                  try clear c22
                  try clear c22b0
                  try clear c22b1
                  try clear c23
                  try clear c23b0
                  try clear c23b1
                  try clear c29
                  try clear c29b0
                  try clear c29b1
                  try clear p1
                  try clear p11
                  try clear p2
                  try clear p6
                  try clear q1
                  try clear q11
                  try clear q6
                  obtain ⟨kq, x51_24, rfl, HA, HJ24, HB⟩ := hcut
                  cases kq with
                  | zero => exact absurd HA.out (by simp [paronymref02_Range.j2])
                  | succ kj24 =>
                    have H := HA.out
                    clear HA
                    simp only [paronymref02_Range.j2] at H
                    by_cases c30 : x51_24 = true
                    · subst c30
                      have H1 : (some (0, 0, 13)) = some (r1, r2, r3) := by rw [if_pos rfl] at H; exact H
                      clear H
                      have H := H1
                      clear H1
                      simp only [Option.some.injEq, Prod.mk.injEq] at H
                      obtain ⟨rfl, rfl, rfl⟩ := H
                      go_wp2
                      go_ret3
                      exact ⟨by first | rfl | (simp [errW_none, errW_some] <;> rfl) | (simp only [← hji21]; first | rfl | (simp [errW_none, errW_some] <;> rfl)) | (simp [*, errW_none, errW_some] <;> rfl), by repeat (first | (with_reducible first | exact HB.out | apply below_alloc | apply pw_below_drewN | apply below_drew1) | exact HB.out)⟩
                    · replace c30 := Bool.eq_false_iff.mpr c30
                      subst c30
                      have H1 : (if t103 ≤ t102 then (some (0, 0, 14)) else (some (t102, t103, 0))) = some (r1, r2, r3) := by rw [if_neg (show ¬ (false = true) by decide)] at H; exact H
                      clear H
                      have H := H1
                      clear H1
                      by_cases c31 : t103 ≤ t102
                      · rw [if_pos c31] at H
                        have c31b0 : decide (t103 ≤ t102) = true := decide_eq_true c31
                        clear c31
                        simp only [Option.some.injEq, Prod.mk.injEq] at H
                        obtain ⟨rfl, rfl, rfl⟩ := H
                        go_wp2
                        go_ret3
                        exact ⟨by first | rfl | (simp [errW_none, errW_some] <;> rfl) | (simp only [← hji21]; first | rfl | (simp [errW_none, errW_some] <;> rfl)) | (simp [*, errW_none, errW_some] <;> rfl), by repeat (first | (with_reducible first | exact HB.out | apply below_alloc | apply pw_below_drewN | apply below_drew1) | exact HB.out)⟩
                      · rw [if_neg c31] at H
                        have c31b0 : decide (t103 ≤ t102) = false := decide_eq_false c31
                        clear c31
                        simp only [Option.some.injEq, Prod.mk.injEq] at H
                        obtain ⟨rfl, rfl, rfl⟩ := H
                        go_wp2
                        go_ret3
                        exact ⟨by first | rfl | (simp [errW_none, errW_some] <;> rfl) | (simp only [← hji21]; first | rfl | (simp [errW_none, errW_some] <;> rfl)) | (simp [*, errW_none, errW_some] <;> rfl), by repeat (first | (with_reducible first | exact HB.out | apply below_alloc | apply pw_below_drewN | apply below_drew1) | exact HB.out)⟩
              · rw [if_neg c23] at H
                exact absurd H (by simp)
            · rw [if_neg c22] at H
              exact absurd H (by simp)
          · rw [if_neg c19] at H
            exact absurd H (by simp)
        · rw [if_neg c18] at H
          exact absurd H (by simp)

end Go.Proofs.YtdnfmilnkoocdaaDoor.Q

-- from Qf40
-- Made by hp.py, a program of this session, with the kit's printer. Not trusted: Lean checks it.
namespace Go.Proofs.YtdnfmilnkoocdaaDoor.Q
open Go.RowKit Go.Proofs.YtdnfmilnkoocdaaDoorW.PrintWords Go.Proofs.YtdnfmilnkoocdaaDoorW.PrintLast Go.Proofs.YtdnfmilnkoocdaaDoorW.PrintMore
attribute [local go_sem] max2_int min2_int max_two min_two max_three min_three max_four min_four   -- for this text's walks alone
set_option linter.unusedVariables false
set_option linter.unusedSimpArgs false

/-! ### paronymref02_Sequence: function 40 -/
def paronymref02_Sequence.l0 : Nat → List ByteArray → List Int → Int → Option (List Int × Int)
  | 0, _, _, _ => none
  | k + 1, x4, x5, x6 => if x6 < (x4.length : Int) then (if 0 ≤ x6 then ((paronymref02_Point.f k (rdOf ByteArray.empty x4 x6)).bind fun t105 => (if t105 < 0 then (some (([] : List Int), 13)) else (if x5.length < 17592186044416 then (paronymref02_Sequence.l0 k x4 (x5 ++ [t105]) (wrap64 (x6 + 1))) else (none)))) else (none)) else (some (x5, 0))
def paronymref02_Sequence.f (k : Nat) (a0 : ByteArray) : Option (List Int × Int) := if a0.toList = ([] : List UInt8) then (some (([] : List Int), 0)) else ((paronymref02_Cut.f k a0 32).bind fun t101 => (paronymref02_Sequence.l0 k t101 ([] : List Int) 0))
theorem paronymref02_Sequence.mono_l : ∀ k, (∀ y0 y1 y2, LeO (paronymref02_Sequence.l0 k y0 y1 y2) (paronymref02_Sequence.l0 (k + 1) y0 y1 y2))
  | 0 => fun _ _ _ r h => by simp [paronymref02_Sequence.l0] at h
  | k + 1 => by
    have ih0 := paronymref02_Sequence.mono_l k
    · intro y0 y1 y2
      unfold paronymref02_Sequence.l0
      repeat' first
      | (with_reducible exact ih0 _ _ _)
      | (with_reducible exact paronymref02_Cut.mono _ _ _)
      | (with_reducible exact paronymref02_Point.mono _ _)
      | (with_reducible exact LeO.refl _)
      | (with_reducible exact LeO.none _)
      | (with_reducible refine LeO.ite ?_ ?_)
      | (with_reducible refine LeO.bind ?_ (fun _ => ?_))
      | exact ih0 _ _ _
      | exact paronymref02_Cut.mono _ _ _
      | exact paronymref02_Point.mono _ _
      | exact LeO.none _
      | refine LeO.ite ?_ ?_
      | refine LeO.bind ?_ (fun _ => ?_)
theorem paronymref02_Sequence.mono : ∀ a0 k, LeO (paronymref02_Sequence.f k a0) (paronymref02_Sequence.f (k + 1) a0) := by
  intro a0 k
  have ih0 := paronymref02_Sequence.mono_l k
  unfold paronymref02_Sequence.f
  repeat' first
      | (with_reducible exact ih0 _ _ _)
      | (with_reducible exact paronymref02_Cut.mono _ _ _)
      | (with_reducible exact paronymref02_Point.mono _ _)
      | (with_reducible exact LeO.refl _)
      | (with_reducible exact LeO.none _)
      | (with_reducible refine LeO.ite ?_ ?_)
      | (with_reducible refine LeO.bind ?_ (fun _ => ?_))
      | exact ih0 _ _ _
      | exact paronymref02_Cut.mono _ _ _
      | exact paronymref02_Point.mono _ _
      | exact LeO.none _
      | refine LeO.ite ?_ ?_
      | refine LeO.bind ?_ (fun _ => ?_)
set_option maxHeartbeats 8000000 in
set_option maxRecDepth 100000 in
theorem paronymref02_Sequence.calls (k : Nat) (a0 : ByteArray) (r1 : List Int) (r2 : Int) (w : World) (h : paronymref02_Sequence.f k a0 = some (r1, r2)) :
    Calls Tryd.prog 40 #[.string a0] w fun e w' => ∃ v0_ : Value, e = .returned (.tuple #[v0_, .int .i64 r2]) ∧ Kd.R (Kd.int .i64) 3 w' w.heap.size (fun _ => True) v0_ r1 ∧ Below w.heap.size w w' := by
  have HB := Aside0.mk (Below.refl w.heap.size w)
  have H : (if a0.toList = ([] : List UInt8) then (some (([] : List Int), 0)) else ((paronymref02_Cut.f k a0 32).bind fun t101 => (paronymref02_Sequence.l0 k t101 ([] : List Int) 0))) = some (r1, r2) := h
  clear h
  by_cases c2 : a0.toList = ([] : List UInt8)
  · rw [if_pos c2] at H
    have c2b0 : (a0.toList == ([] : List UInt8)) = true := beq_iff_eq.mpr c2
    have c2b1 : (a0.toList != ([] : List UInt8)) = false := bne_eq_false_iff_eq.mpr c2
    clear c2
    simp only [Option.some.injEq, Prod.mk.injEq] at H
    obtain ⟨rfl, rfl⟩ := H
    go_enter Tryd.func40, Tryd.ntmps40
    go_wp2
    go_ret2
    exact ⟨_, by first | rfl | (simp [errW_none, errW_some] <;> rfl) | (simp [*, errW_none, errW_some] <;> rfl), by first | exact Kd.R_nil _ _ _ _ _ | exact Kd.N_nil _ _ _ _ _ | exact Kd.V_nil _ _ _ _ _ | exact Kd.Q_nil _ _ _ _ _ | exact Kd.S_nil _ _ _ _ _, by repeat (first | (with_reducible first | exact HB.out | apply below_alloc | apply pw_below_drewN | apply below_drew1) | exact HB.out)⟩
  · rw [if_neg c2] at H
    have c2b0 : (a0.toList == ([] : List UInt8)) = false := beq_eq_false_iff_ne.mpr c2
    have c2b1 : (a0.toList != ([] : List UInt8)) = true := bne_iff_ne.mpr c2
    replace H := Option.bind_eq_some_iff.mp H
    obtain ⟨t101, A30, H⟩ := H
    replace H : (paronymref02_Sequence.l0 k t101 ([] : List Int) 0) = some (r1, r2) := H
    have A3 := Aside0.mk A30
    clear A30
    have H' := Aside0.mk H
    clear H
    go_enter Tryd.func40, Tryd.ntmps40
    go_wp2_with (first | ((with_reducible refine gate_callee (f := 29) rfl ?_); refine goesL_ (some 11) rfl rfl Tryd.func29 (by kernel_rfl) rfl #[.string a0, .int .u8 32] rfl (by (try simp only [List.map_toArray, List.map_cons, List.map_nil]); first | done | rfl | (simp only [List.length_drop, List.length_take]; rfl)) ?_; (with_reducible refine (paronymref02_Cut.calls k a0 32 t101 _ A3.out).mono ?_); rintro e w4 ⟨v102, rfl, ho0, hb⟩; refine ⟨_, rfl, ?_⟩; have n0_ := Aside0.mk (Kd.R_lower ho0 (below_size (by repeat (first | (with_reducible first | exact HB.out | apply below_alloc | apply pw_below_drewN | apply below_drew1) | exact HB.out)))); have n1_ := Aside0.mk (below_step (by repeat (first | (with_reducible first | exact HB.out | apply below_alloc | apply pw_below_drewN | apply below_drew1) | exact HB.out)) hb); clear HB; have HO103 := n0_; have HB := n1_; clear n0_ n1_; (try clear hb); (try clear hb2); (try clear hk); (try clear hi); (try clear ho0)))
    go_loopg [5, 6] k (fun kq v5 v6 w' => ∃ (x5_1 : List Int) (x6_1 : Int), v6 = .int .i64 x6_1 ∧ Aside0 (paronymref02_Sequence.l0 kq t101 x5_1 x6_1 = some (r1, r2)) ∧ Aside0 (kq ≤ k) ∧ Aside0 (Kd.R Kd.string 9 w' w.heap.size (fun _ => True) v102 t101) ∧ Aside0 (Kd.R (Kd.int .i64) 3 w' w.heap.size (fun _ => True) v5 x5_1) ∧ Aside0 (Below w.heap.size w w'))
    case atStart => exact ⟨(([] : List Int)), (0), (by first | rfl | (simp; done) | (simp [*]; done)), H', ⟨Nat.le_refl _⟩, ⟨by (with_reducible repeat (first | apply Kd.R_alloc | apply Kd.R_drewN | apply Kd.R_drew)); exact HO103.out⟩, ⟨by first | exact Kd.R_nil _ _ _ _ _ | exact Kd.N_nil _ _ _ _ _ | exact Kd.V_nil _ _ _ _ _ | exact Kd.Q_nil _ _ _ _ _ | exact Kd.S_nil _ _ _ _ _⟩, ⟨by repeat (first | (with_reducible first | exact HB.out | apply below_alloc | apply pw_below_drewN | apply below_drew1) | exact HB.out)⟩⟩
    case round =>
      clear H'
      try clear c2
      try clear c2b0
      try clear c2b1
      try clear p2
      try clear c4
      obtain ⟨x5_1, x6_1, rfl, HA, HK1, HO_4, HO_5, HB⟩ := hrel
      cases gk with
      | zero => exact absurd HA.out (by simp [paronymref02_Sequence.l0])
      | succ k1 =>
        have H := HA.out
        clear HA
        simp only [paronymref02_Sequence.l0] at H
        by_cases c5 : x6_1 < (t101.length : Int)
        · rw [if_pos c5] at H
          have c5b0 : decide (x6_1 < (t101.length : Int)) = true := decide_eq_true c5
          clear c5
          by_cases c6 : 0 ≤ x6_1
          · rw [if_pos c6] at H
            have c6b0 : decide (0 ≤ x6_1) = true := decide_eq_true c6
            clear c6
            replace H := Option.bind_eq_some_iff.mp H
            obtain ⟨t105, A70, H⟩ := H
            replace H : (if t105 < 0 then (some (([] : List Int), 13)) else (if x5_1.length < 17592186044416 then (paronymref02_Sequence.l0 k1 t101 (x5_1 ++ [t105]) (wrap64 (x6_1 + 1))) else (none))) = some (r1, r2) := H
            have A7 := Aside0.mk A70
            clear A70
            by_cases c8 : t105 < 0
            · rw [if_pos c8] at H
              have c8b0 : decide (t105 < 0) = true := decide_eq_true c8
              clear c8
              simp only [Option.some.injEq, Prod.mk.injEq] at H
              obtain ⟨rfl, rfl⟩ := H
              obtain ⟨Ao9, co9, eo9⟩ := Kd.R_slice HO_4.out
              subst eo9
              have p104 : 0 ≤ (x6_1 : Int) := of_decide_eq_true (by first | (with_reducible assumption) | assumption)
              have q104 : x6_1 < (t101.length : Int) := of_decide_eq_true (by first | (with_reducible assumption) | assumption)
              obtain ⟨ad104, e104, hx104_0⟩ := Kd.at_string (Kd.R_reads' HO_4.out).2.2 x6_1 p104 q104
              cases e104
              replace p104 := eq_true p104
              replace q104 := eq_true q104
              go_wp2_with (first | ((with_reducible refine gate_callee (f := 36) rfl ?_); refine goesL_ (some 22) rfl rfl Tryd.func36 (by kernel_rfl) rfl #[.string (rdOf ByteArray.empty t101 x6_1)] rfl (by (try simp only [List.map_toArray, List.map_cons, List.map_nil]); first | done | rfl | (simp only [List.length_drop, List.length_take]; rfl)) ?_; (with_reducible refine (paronymref02_Point.calls k1 (rdOf ByteArray.empty t101 x6_1) t105 _ A7.out).mono ?_); rintro e w10 ⟨rfl, hb⟩; refine ⟨_, rfl, ?_⟩; have n0_ := Aside0.mk (Kd.R_below (by (with_reducible repeat (first | apply Kd.R_alloc | apply Kd.R_drewN | apply Kd.R_drew)); exact HO_4.out) hb); have n1_ := Aside0.mk (Kd.R_below (by (with_reducible repeat (first | apply Kd.R_alloc | apply Kd.R_drewN | apply Kd.R_drew)); exact HO_5.out) hb); have n2_ := Aside0.mk (below_step (by repeat (first | (with_reducible first | exact HB.out | apply below_alloc | apply pw_below_drewN | apply below_drew1) | exact HB.out)) hb); clear HO_4; clear HO_5; clear HB; have HO_4 := n0_; have HO_5 := n1_; have HB := n2_; clear n0_ n1_ n2_; (try clear hb); (try clear hb2); (try clear hk); (try clear hi)))
              go_ret2
              exact ⟨_, by first | rfl | (simp [errW_none, errW_some] <;> rfl) | (simp [*, errW_none, errW_some] <;> rfl), by first | exact Kd.R_nil _ _ _ _ _ | exact Kd.N_nil _ _ _ _ _ | exact Kd.V_nil _ _ _ _ _ | exact Kd.Q_nil _ _ _ _ _ | exact Kd.S_nil _ _ _ _ _, by repeat (first | (with_reducible first | exact HB.out | apply below_alloc | apply pw_below_drewN | apply below_drew1) | exact HB.out)⟩
            · rw [if_neg c8] at H
              have c8b0 : decide (t105 < 0) = false := decide_eq_false c8
              clear c8
              by_cases c11 : x5_1.length < 17592186044416
              · rw [if_pos c11] at H
                have LMc11 := Aside0.mk c11
                clear c11
                obtain ⟨y106, hy106⟩ : ∃ y_ : List Int, y_ = (x5_1 ++ [t105]) := ⟨_, rfl⟩
                replace H : (paronymref02_Sequence.l0 k1 t101 y106 (wrap64 (x6_1 + 1))) = some (r1, r2) := by first | (rw [hy106]; with_reducible exact H) | (have H2_ := (Option.bind_some _ _).symm.trans H; rw [hy106]; with_reducible exact H2_) | (have H2_ := (Option.bind_some _ _).symm.trans H; with_reducible exact H2_) | with_reducible exact H | (rw [hy106]; exact H) | exact H
                have Ny106 := Aside0.mk hy106
                clear hy106
                have H' := Aside0.mk H
                clear H
                obtain ⟨Ao12, co12, eo12⟩ := Kd.R_slice HO_4.out
                subst eo12
                have p104 : 0 ≤ (x6_1 : Int) := of_decide_eq_true (by first | (with_reducible assumption) | assumption)
                have q104 : x6_1 < (t101.length : Int) := of_decide_eq_true (by first | (with_reducible assumption) | assumption)
                obtain ⟨ad104, e104, hx104_0⟩ := Kd.at_string (Kd.R_reads' HO_4.out).2.2 x6_1 p104 q104
                cases e104
                replace p104 := eq_true p104
                replace q104 := eq_true q104
                go_wp2_with (first | ((with_reducible refine gate_callee (f := 36) rfl ?_); refine goesL_ (some 22) rfl rfl Tryd.func36 (by kernel_rfl) rfl #[.string (rdOf ByteArray.empty t101 x6_1)] rfl (by (try simp only [List.map_toArray, List.map_cons, List.map_nil]); first | done | rfl | (simp only [List.length_drop, List.length_take]; rfl)) ?_; (with_reducible refine (paronymref02_Point.calls k1 (rdOf ByteArray.empty t101 x6_1) t105 _ A7.out).mono ?_); rintro e w13 ⟨rfl, hb⟩; refine ⟨_, rfl, ?_⟩; have n0_ := Aside0.mk (Kd.R_below (by (with_reducible repeat (first | apply Kd.R_alloc | apply Kd.R_drewN | apply Kd.R_drew)); exact HO_4.out) hb); have n1_ := Aside0.mk (Kd.R_below (by (with_reducible repeat (first | apply Kd.R_alloc | apply Kd.R_drewN | apply Kd.R_drew)); exact HO_5.out) hb); have n2_ := Aside0.mk (below_step (by repeat (first | (with_reducible first | exact HB.out | apply below_alloc | apply pw_below_drewN | apply below_drew1) | exact HB.out)) hb); clear HO_4; clear HO_5; clear HB; have HO_4 := n0_; have HO_5 := n1_; have HB := n2_; clear n0_ n1_ n2_; (try clear hb); (try clear hb2); (try clear hk); (try clear hi)) | ((with_reducible refine gate_builtin (b := .append) (xs := #[.tmp 25, .tmp 27]) rfl ?_); at_builtin; refine Kd.R_append (Kd.int .i64) (w0 := w) w.heap.size rfl (.tmp 25) (.tmp 27) 70 3 (.int .i64 0) 8 rfl Tryd.underlying70 info3 rfl (by decide) (by omega) u5 x5_1 t105 [.int .i64 t105] (fun _ => True) (fun _ => False) rfl rfl ?aP (fun _ hk => hk.elim) ?aF ?aO ?aB ?aS ?aL ?_; (case aP => exact rfl); (case aB => exact (by repeat (first | (with_reducible first | exact HB.out | apply below_alloc | apply pw_below_drewN | apply below_drew1) | exact HB.out))); (case aF => exact (fun _ _ => trivial)); (case aO => exact (by (with_reducible repeat (first | apply Kd.R_alloc | apply Kd.R_drewN | apply Kd.R_drew)); exact HO_5.out)); (case aS => exact (below_size (by repeat (first | (with_reducible first | exact HB.out | apply below_alloc | apply pw_below_drewN | apply below_drew1) | exact HB.out)))); (case aL => have := LMc11.out; omega); intro v107 w14 ho hb hg hat; rw [← Ny106.out] at ho; have n0_ := Aside0.mk (Kd.R_over' (by (with_reducible repeat (first | apply Kd.R_alloc | apply Kd.R_drewN | apply Kd.R_drew)); exact HO_4.out) (Kd.R_typed (by (with_reducible repeat (first | apply Kd.R_alloc | apply Kd.R_drewN | apply Kd.R_drew)); exact HO_5.out)) (by decide) hg); have n1_ := Aside0.mk (hb); have n2_ := Aside0.mk (ho); clear HO_4; clear HB; clear HO_5; have HO_4 := n0_; have HB := n1_; have HO108 := n2_; clear n0_ n1_ n2_; clear ho hb hg hat))
                go_roundg k1
                case measure => have := HK1.out; omega
                case rel => exact ⟨(y106), (wrap64 (x6_1 + 1)), (by first | rfl | (simp; done) | (simp [*]; done)), H', ⟨by have := HK1.out; omega⟩, ⟨by (with_reducible repeat (first | apply Kd.R_alloc | apply Kd.R_drewN | apply Kd.R_drew)); exact HO_4.out⟩, ⟨by (with_reducible repeat (first | apply Kd.R_alloc | apply Kd.R_drewN | apply Kd.R_drew)); exact HO108.out⟩, ⟨by repeat (first | (with_reducible first | exact HB.out | apply below_alloc | apply pw_below_drewN | apply below_drew1) | exact HB.out)⟩⟩
              · rw [if_neg c11] at H
                exact absurd H (by simp)
          · rw [if_neg c6] at H
            exact absurd H (by simp)
        · rw [if_neg c5] at H
          have c5b0 : decide (x6_1 < (t101.length : Int)) = false := decide_eq_false c5
          clear c5
          simp only [Option.some.injEq, Prod.mk.injEq] at H
          obtain ⟨rfl, rfl⟩ := H
          obtain ⟨Ao15, co15, eo15⟩ := Kd.R_slice HO_4.out
          subst eo15
          go_wp2
          go_ret2
          exact ⟨_, by first | rfl | (simp [errW_none, errW_some] <;> rfl) | (simp [*, errW_none, errW_some] <;> rfl), by (with_reducible repeat (first | apply Kd.R_alloc | apply Kd.R_drewN | apply Kd.R_drew)); exact HO_5.out, by repeat (first | (with_reducible first | exact HB.out | apply below_alloc | apply pw_below_drewN | apply below_drew1) | exact HB.out)⟩

end Go.Proofs.YtdnfmilnkoocdaaDoor.Q

-- from Prng
/- Layer 2's reference on lists: Range, Sequence. -/
namespace Go.Proofs.YtdnfmilnkoocdaaDoor.K
set_option linter.unusedVariables false
set_option linter.unusedSimpArgs false
open Go.RowKit Go.Proofs.YtdnfmilnkoocdaaDoorW.PrintWords Go.Proofs.YtdnfmilnkoocdaaDoorW.PrintMore Go.Proofs.YtdnfmilnkoocdaaDoor.Q

/-- Where the first two dots stand. -/
def dots : List Int → Option Nat
  | x :: y :: l => if x = 46 ∧ y = 46 then some 0 else (dots (y :: l)).map (· + 1)
  | _ => none
theorem dots_lt : ∀ {L : List Int} {i : Nat}, dots L = some i → i + 2 ≤ L.length
  | [], i, h => by cases h
  | [x], i, h => by cases h
  | x :: y :: l, i, h => by
    unfold dots at h
    split at h
    · cases h; simp
    · obtain ⟨j, hj, rfl⟩ := Option.map_eq_some_iff.1 h
      have := dots_lt hj
      simp at this ⊢
      omega
def rangeE : Option Nat → Option Nat → Int × Int × Int
  | some a, some b => if b ≤ a then (0, 0, 14) else ((a : Int), (b : Int), 0)
  | _, _ => (0, 0, 13)
def rangeL (L : List Int) : Int × Int × Int :=
  match dots L with
  | none => (match pointL L with
    | none => (0, 0, 13)
    | some c => ((c : Int), (c : Int), 0))
  | some i => rangeE (pointL (L.take i)) (pointL (L.drop (i + 2)))
theorem index_dots : ∀ {L : List Int}, Oct L → Lib.index (Lib.bytesOf L) [46, 46] = (match dots L with | none => -1 | some i => (i : Int))
  | [], _ => rfl
  | [x], ho => by
    have hp : ([46, 46] : List UInt8).isPrefixOf (Lib.bytesOf [x]) = false := by simp [Lib.bytesOf, List.isPrefixOf]
    show Lib.index (_ :: []) _ = -1
    unfold Lib.index
    have hp' : ([46, 46] : List UInt8).isPrefixOf [UInt8.ofNat x.toNat] = false := hp
    rw [hp']
    rfl
  | x :: y :: l, ho => by
    have hx := u8_eq (ho x (by simp)) (y := 46) (by decide)
    have hy := u8_eq (ho y (by simp)) (y := 46) (by decide)
    rw [show UInt8.ofNat (46 : Int).toNat = 46 from rfl] at hx hy
    have ih := index_dots (L := y :: l) (fun z hz => ho z (by simp at hz ⊢; right; exact hz))
    show Lib.index (UInt8.ofNat x.toNat :: Lib.bytesOf (y :: l)) _ = _
    have hp : ([46, 46] : List UInt8).isPrefixOf (UInt8.ofNat x.toNat :: Lib.bytesOf (y :: l)) = decide (x = 46 ∧ y = 46) := by
      show ([46, 46] : List UInt8).isPrefixOf (UInt8.ofNat x.toNat :: UInt8.ofNat y.toNat :: Lib.bytesOf l) = _
      have hx' : ((46 : UInt8) == UInt8.ofNat x.toNat) = decide (x = 46) := by rw [← hx]; exact Bool.beq_comm
      have hy' : ((46 : UInt8) == UInt8.ofNat y.toNat) = decide (y = 46) := by rw [← hy]; exact Bool.beq_comm
      simp only [List.isPrefixOf, hx', hy', Bool.and_true]
      rw [Bool.eq_iff_iff]
      simp
    unfold Lib.index dots
    rw [hp, ih]
    by_cases h : x = 46 ∧ y = 46
    · rw [if_pos (decide_eq_true h), if_pos h]; rfl
    · rw [if_neg (by simpa using h), if_neg h]
      cases hd : dots (y :: l) with
      | none => rfl
      | some i =>
        have : ((i : Int) == -1) = false := beq_eq_false_iff_ne.mpr (by omega)
        simp [this]
theorem dots_step {L : List Int} {i : Nat} (h : i + 2 ≤ L.length) : dots (L.drop i) = if L[i] = 46 ∧ L[i + 1] = 46 then some 0 else (dots (L.drop (i + 1))).map (· + 1) := by
  rw [List.drop_eq_getElem_cons (by omega : i < L.length), List.drop_eq_getElem_cons (by omega : i + 1 < L.length)]
  rfl
theorem dots_short {L : List Int} (h : L.length < 2) : dots L = none := by
  match L, h with
  | [], _ => rfl
  | [x], _ => rfl
  | _ :: _ :: _, h => simp at h; omega
theorem refRange_end {L : List Int} (ho : Oct L) (hl : L.length ≤ 1000000) (at_ : Option Nat) (hat : ∀ i, at_ = some i → i + 2 ≤ L.length) (hd : dots L = at_) (m : Int) (hm : m = orNone at_) : Ev (fun k => paronymref02_Range.j1 k (strOfNums L) m) (rangeL L) := by
  have hz := size_str L
  unfold rangeL
  rw [hd]
  cases at_ with
  | none =>
    have hm' : m < 0 := by rw [hm]; decide
    refine Ev.step (fun k => rfl) (Ev.pos hm' (Ev.bind (refPoint_ev ho hl) ?_))
    cases hp : pointL L with
    | none => exact Ev.pos (by decide) (Ev.ret rfl)
    | some c => exact Ev.neg (by show ¬ (c : Int) < 0; omega) (Ev.ret rfl)
  | some i =>
    have hi := hat i rfl
    replace hm : m = (i : Int) := hm
    show Ev _ (rangeE (pointL (L.take i)) (pointL (L.drop (i + 2))))
    have e1 : (strOfNums L).extract 0 m.toNat = strOfNums (L.take i) := by rw [hm, Int.toNat_natCast, extract_str, List.drop_zero]
    have hw : wrap64 (m + 2) = ((i + 2 : Nat) : Int) := by rw [hm, w64 (by omega) (by omega)]; rfl
    have e2 : (strOfNums L).extract (((i + 2 : Nat) : Int)).toNat (strOfNums L).size = strOfNums (L.drop (i + 2)) := by rw [Int.toNat_natCast, extract_str, hz, List.take_length]
    have p1 := refPoint_ev (ho.take i) (by rw [List.length_take]; omega)
    have p2 := refPoint_ev (ho.drop (i + 2)) (by rw [List.length_drop]; omega)
    refine Ev.step (fun k => rfl) (Ev.neg (by omega) (Ev.pos (by omega) (Ev.pos (by omega) ?_)))
    rw [e1]
    refine Ev.bind p1 ?_
    rw [hw]
    refine Ev.pos (by omega) (Ev.pos (by omega) ?_)
    rw [e2]
    refine Ev.bind p2 ?_
    cases ha : pointL (L.take i) with
    | none => exact Ev.pos (by decide) (Ev.step (f := fun k => some ((0 : Int), (0 : Int), (13 : Int))) (fun k => rfl) (Ev.ret rfl))
    | some a =>
      refine Ev.neg (by show ¬ (a : Int) < 0; omega) ?_
      cases hb : pointL (L.drop (i + 2)) with
      | none => exact Ev.step (f := fun k => some ((0 : Int), (0 : Int), (13 : Int))) (fun k => rfl) (Ev.ret rfl)
      | some b =>
        rw [show decide (orNone (some b) < 0) = false from decide_eq_false (by show ¬ (b : Int) < 0; omega)]
        refine Ev.step (f := fun k => if orNone (some b) ≤ orNone (some a) then some ((0 : Int), (0 : Int), (14 : Int)) else some (orNone (some a), orNone (some b), 0)) (fun k => rfl) ?_
        by_cases hab : b ≤ a
        · exact Ev.pos (by show (b : Int) ≤ (a : Int); omega) (Ev.ret (by show _ = if b ≤ a then ((0 : Int), (0 : Int), (14 : Int)) else ((a : Int), (b : Int), 0); rw [if_pos hab]))
        · exact Ev.neg (by show ¬ (b : Int) ≤ (a : Int); omega) (Ev.ret (by show _ = if b ≤ a then ((0 : Int), (0 : Int), (14 : Int)) else ((a : Int), (b : Int), 0); rw [if_neg hab]; rfl))
theorem refRange_loop {L : List Int} (ho : Oct L) (hl : L.length ≤ 1000000) : ∀ (d i : Nat), L.length - i = d → i ≤ L.length → (dots L = (dots (L.drop i)).map (· + i)) → Ev (fun k => paronymref02_Range.l0 k (strOfNums L) (-1) (i : Int)) (rangeL L) := by
  intro d
  induction d with
  | zero =>
    intro i h1 h2 h3
    have hz := size_str L
    rw [List.drop_eq_nil_iff.2 (by omega)] at h3
    refine Ev.step (fun k => rfl) (Ev.neg (by rw [w64 (by omega) (by omega)]; omega) ?_)
    exact refRange_end ho hl none (fun i h => by cases h) h3 (-1) rfl
  | succ d ih =>
    intro i h1 h2 h3
    have hz := size_str L
    by_cases h4 : i + 2 ≤ L.length
    · have hb : bt (strOfNums L) (i : Int) = L[i] := by rw [bt_str ho (by omega) (by omega), rd_nat L i (by omega)]
      have hb2 : bt (strOfNums L) ((i + 1 : Nat) : Int) = L[i + 1] := by rw [bt_str ho (by omega) (by omega), rd_nat L (i + 1) (by omega)]
      have hw : wrap64 ((i : Int) + 1) = ((i + 1 : Nat) : Int) := by rw [w64 (by omega) (by omega)]; rfl
      have hst := dots_step h4
      have next : ¬ (L[i] = 46 ∧ L[i + 1] = 46) → Ev (fun k => paronymref02_Range.l0 k (strOfNums L) (-1) (wrap64 ((i : Int) + 1))) (rangeL L) := fun hn => by
        rw [hw]
        refine ih (i + 1) (by omega) (by omega) ?_
        rw [h3, hst, if_neg hn, Option.map_map]
        cases dots (L.drop (i + 1)) with
        | none => rfl
        | some j => simp; omega
      refine Ev.step (fun k => rfl) (Ev.pos (by rw [w64 (by omega) (by omega)]; omega) (Ev.pos (by omega) (Ev.pos (by omega) ?_)))
      by_cases h5 : L[i] = 46
      · refine Ev.pos (by rw [hb]; exact h5) (Ev.pos (by rw [hw]; omega) (Ev.pos (by rw [hw]; omega) ?_))
        by_cases h6 : L[i + 1] = 46
        · refine Ev.pos (by rw [hw, hb2]; exact h6) ?_
          have : dots L = some i := by rw [h3, hst, if_pos ⟨h5, h6⟩]; simp
          exact refRange_end ho hl (some i) (fun j h => by cases h; exact h4) this _ rfl
        · exact Ev.neg (by rw [hw, hb2]; exact h6) (next (fun h => h6 h.2))
      · exact Ev.neg (by rw [hb]; exact h5) (next (fun h => h5 h.1))
    · rw [dots_short (L := L.drop i) (by rw [List.length_drop]; omega)] at h3
      refine Ev.step (fun k => rfl) (Ev.neg (by rw [w64 (by omega) (by omega)]; omega) ?_)
      exact refRange_end ho hl none (fun i h => by cases h) h3 (-1) rfl
theorem refRange_ev {L : List Int} (ho : Oct L) (hl : L.length ≤ 1000000) : Ev (fun k => paronymref02_Range.f k (strOfNums L)) (rangeL L) :=
  refRange_loop ho hl _ 0 rfl (Nat.zero_le _) (by rw [List.drop_zero]; cases dots L <;> rfl)
/-! ## sequences -/
def seqF : List (List Int) → List Int → List Int × Int
  | [], acc => (acc, 0)
  | p :: r, acc => match pointL p with
    | none => ([], 13)
    | some c => seqF r (acc ++ [(c : Int)])
def seqL (L : List Int) : List Int × Int := if L = [] then ([], 0) else seqF (spl 32 L) []
theorem refSeq_loop {X : List (List Int)} (ho : ∀ l ∈ X, Oct l) (hl : ∀ l ∈ X, l.length ≤ 1000000) (hX : X.length ≤ 1000001) : ∀ (d i : Nat) (acc : List Int), X.length - i = d → i ≤ X.length → acc.length ≤ i → Ev (fun k => paronymref02_Sequence.l0 k (X.map strOfNums) acc (i : Int)) (seqF (X.drop i) acc) := by
  intro d
  induction d with
  | zero =>
    intro i acc h1 h2 h3
    rw [List.drop_eq_nil_iff.2 (by omega)]
    exact Ev.step (fun k => rfl) (Ev.neg (by rw [List.length_map]; omega) (Ev.ret rfl))
  | succ d ih =>
    intro i acc h1 h2 h3
    have hi : i < X.length := by omega
    have hp := refPoint_ev (ho _ (List.getElem_mem hi)) (hl _ (List.getElem_mem hi))
    rw [List.drop_eq_getElem_cons hi]
    refine Ev.step (fun k => rfl) (Ev.pos (by rw [List.length_map]; omega) (Ev.pos (by omega) ?_))
    rw [rdOf_map2 X i hi]
    refine Ev.bind hp ?_
    unfold seqF
    cases h : pointL X[i] with
    | none => exact Ev.pos (by decide) (Ev.ret rfl)
    | some c =>
      refine Ev.neg (by show ¬ (c : Int) < 0; omega) (Ev.pos (by omega) ?_)
      rw [w64 (by omega) (by omega)]
      exact ih (i + 1) (acc ++ [(c : Int)]) (by omega) (by omega) (by simp; omega)
theorem refSeq_ev {L : List Int} (ho : Oct L) (hl : L.length ≤ 1000000) : Ev (fun k => paronymref02_Sequence.f k (strOfNums L)) (seqL L) := by
  unfold seqL
  by_cases h : L = []
  · rw [if_pos h]
    exact Ev.pos (str_nilU.2 h) (Ev.ret rfl)
  · rw [if_neg h]
    refine Ev.neg (fun e => h (str_nilU.1 e)) (Ev.bind (cut_ev ho hl 32) ?_)
    have hc := splP_count (fun x => decide (x = (32 : Int))) L
    exact refSeq_loop (X := spl 32 L) (fun l hm => oct_spl ho hm) (fun l hm => by have := len_spl hm; omega) (by unfold spl; omega) _ 0 [] rfl (Nat.zero_le _) (Nat.zero_le _)
end Go.Proofs.YtdnfmilnkoocdaaDoor.K

-- from Hfsq
/- field.Sequence: the walk. -/
namespace Go.Proofs.YtdnfmilnkoocdaaDoor.Q
open Go.RowKit Go.Shelf Go.Proofs.YtdnfmilnkoocdaaDoorW.PrintWords Go.Proofs.YtdnfmilnkoocdaaDoorW.PrintLast Go.Proofs.YtdnfmilnkoocdaaDoorW.PrintMore Go.Proofs.YtdnfmilnkoocdaaDoor.K
set_option linter.unusedVariables false
set_option linter.unusedSimpArgs false
attribute [local go_sem] Oper.semAt_some

theorem rowK_own {α : Type} {d : Kd α} {e B base : Nat} {T : Nat → Prop} {v : Value} {s : List α} : OwnFrom B (fun (_ : Unit) W => Kd.R d e W base T v s) := fun _ W W' row hs hg hr =>
  Kd.R_mono (Kd.R_grown (Kd.R_bound hs) hg (fun k hk e => by
    obtain ⟨_, o, ho, hc⟩ := hr k e.symm
    obtain ⟨_, _, _, q, _, cells, hcell⟩ := hk
    rw [hcell] at ho
    cases ho
    cases hc)) (fun k hk => hk.1)
theorem own_some {w : World} {base : Nat} {e : TypeId} {size n : Nat} {v : Value} {xs : List Value} (h : w.ownsRow base e size v (n + 1) xs) : ∃ A c, v = .slice A (n + 1) c := by
  rcases h.2 with ⟨_, h0⟩ | ⟨g, c, _, rfl, _⟩
  · omega
  · exact ⟨_, _, rfl⟩
theorem seqF_app : ∀ (pre rest : List (List Int)) (cs : List Nat) (acc : List Int), pre.map pointL = cs.map some → seqF (pre ++ rest) acc = seqF rest (acc ++ cs.map (fun (n : Nat) => (n : Int)))
  | [], rest, cs, acc, h => by
    cases cs with
    | nil => simp
    | cons c cs => simp at h
  | p :: pre, rest, cs, acc, h => by
    cases cs with
    | nil => simp at h
    | cons c cs =>
      simp only [List.map_cons, List.cons.injEq] at h
      have ih := seqF_app pre rest cs (acc ++ [(c : Int)]) h.2
      rw [List.cons_append]
      show (match pointL p with | none => _ | some c => _) = _
      rw [h.1]
      simp only
      rw [ih]
      simp
theorem seqF_bad (x : List Int) (rest : List (List Int)) (acc : List Int) (h : pointL x = none) : seqF (x :: rest) acc = ([], 13) := by
  show (match pointL x with | none => _ | some c => _) = _
  rw [h]
/-- The points so far. -/
def sqI (w : World) (pre : List (List Int)) (W : World) : Prop := ∃ (v : Value) (cs : List Nat), Boxed W (w.heap.size + 2) 70 v ∧ Kd.R (Kd.int .i64) 3 W (w.heap.size + 6) (fun _ => True) v (cs.map (fun (n : Nat) => (n : Int))) ∧ pre.map pointL = cs.map some ∧
  Boxed W w.heap.size 70 (.slice none 0 0) ∧ Boxed W (w.heap.size + 1) 25 (.int .i64 0) ∧ Below w.heap.size w W ∧ w.heap.size + 6 ≤ W.heap.size ∧ pre.length ≤ 1000001
def sqX (w : World) (c : Code) (pre : List (List Int)) (W : World) : Prop := c = .ret ∧ (∃ pre0 x cs, pre = pre0 ++ [x] ∧ pre0.map pointL = (cs : List Nat).map some ∧ pointL x = none) ∧
  Boxed W w.heap.size 70 (.slice none 0 0) ∧ Boxed W (w.heap.size + 1) 25 (.int .i64 13) ∧ Below w.heap.size w W ∧ w.heap.size + 6 ≤ W.heap.size
theorem sqI_own (w : World) : OwnFrom (w.heap.size + 6) (sqI w) := fun s W W' row hs hg hr => by
  obtain ⟨v, cs, h1, h2, h3, h4, h5, h6, h7, h8⟩ := hs
  exact ⟨v, cs, boxed_own (w.heap.size + 2) 70 (fun _ : Unit => v) () W W' row h1 hg (fun r e => (hr r e).2), rowK_own (B := w.heap.size + 6) () W W' row h2 hg hr, h3,
    boxed_own w.heap.size 70 (fun _ : Unit => .slice none 0 0) () W W' row h4 hg (fun r e => (hr r e).2), boxed_own (w.heap.size + 1) 25 (fun _ : Unit => .int .i64 0) () W W' row h5 hg (fun r e => (hr r e).2),
    ownFrom_below (β := Unit) (Nat.le_refl _) (by omega : w.heap.size ≤ w.heap.size + 6) () W W' row h6 hg hr, Nat.le_trans h7 hg.size, h8⟩
theorem sqX_own (w : World) (c : Code) : OwnFrom (w.heap.size + 6) (sqX w c) := fun s W W' row hs hg hr => by
  obtain ⟨h0, h3, h4, h5, h6, h7⟩ := hs
  exact ⟨h0, h3, boxed_own w.heap.size 70 (fun _ : Unit => .slice none 0 0) () W W' row h4 hg (fun r e => (hr r e).2), boxed_own (w.heap.size + 1) 25 (fun _ : Unit => .int .i64 13) () W W' row h5 hg (fun r e => (hr r e).2),
    ownFrom_below (β := Unit) (Nat.le_refl _) (by omega : w.heap.size ≤ w.heap.size + 6) () W W' row h6 hg hr, Nat.le_trans h7 hg.size⟩
theorem rowI_set {W : World} {B b : Nat} {v u : Value} {l : List Int} (h : Kd.R (Kd.int .i64) 3 W B (fun _ => True) v l) (hb : b < B) : Kd.R (Kd.int .i64) 3 (W.setCell ⟨b, 0, none⟩ u) B (fun _ => True) v l := by
  have hown := Kd.own_of_R h
  exact Kd.R_of_own (own_setCell hown (fun e => by have := own_base hown _ e.symm; simp only at this; omega) u) (fun _ _ => trivial)
theorem sqI_blind (w : World) (s : List (List Int)) (V : World) (u : Value) (h : sqI w s V) : sqI w s (V.setCell ⟨w.heap.size + 3, 0, none⟩ u) := by
  obtain ⟨v, cs, h1, h2, h3, h4, h5, h6, h7, h8⟩ := h
  exact ⟨v, cs, boxed_set_o h1 (by omega), rowI_set h2 (by omega), h3, boxed_set_o h4 (by omega), boxed_set_o h5 (by omega), h6.setCell (p := ⟨w.heap.size + 3, 0, none⟩) (by simp) _, by simpa using h7, h8⟩
theorem sqX_blind (w : World) (c : Code) (s : List (List Int)) (V : World) (u : Value) (h : sqX w c s V) : sqX w c s (V.setCell ⟨w.heap.size + 3, 0, none⟩ u) := by
  obtain ⟨h0, h3, h4, h5, h6, h7⟩ := h
  exact ⟨h0, h3, boxed_set_o h4 (by omega), boxed_set_o h5 (by omega), h6.setCell (p := ⟨w.heap.size + 3, 0, none⟩) (by simp) _, by simpa using h7⟩
theorem keepsFrom_below3 {B : Nat} {V V' : World} (hb : Below V.heap.size V V') : KeepsFrom B V V' := ⟨hb.size, fun k o _ hk _ => (hb.block k (Array.getElem?_eq_some_iff.1 hk).1).trans hk⟩
theorem mark_end2 {w W : World} {D b1 b2 : Nat} {t1 t2 : TypeId} {v1 v2 : Value} (u1 u2 : Value) (hb : Below w.heap.size w W) (h1 : Boxed W b1 t1 v1) (h2 : Boxed W b2 t2 v2) (hne : b1 ≠ b2) (hD : W.heap[D]? = some (.deferred (some []))) (l1 : w.heap.size ≤ b1) (l2 : w.heap.size ≤ b2) (lD : w.heap.size ≤ D) :
    ((W.setCell ⟨b1, 0, none⟩ u1).setCell ⟨b2, 0, none⟩ u2).heap[D]? = some (.deferred (some [])) ∧ (∀ o, (((W.setCell ⟨b1, 0, none⟩ u1).setCell ⟨b2, 0, none⟩ u2).putObj D o).cell? ⟨b1, 0, none⟩ = some u1) ∧
      (∀ o, (((W.setCell ⟨b1, 0, none⟩ u1).setCell ⟨b2, 0, none⟩ u2).putObj D o).cell? ⟨b2, 0, none⟩ = some u2) ∧ (∀ o, Below w.heap.size w (((W.setCell ⟨b1, 0, none⟩ u1).setCell ⟨b2, 0, none⟩ u2).putObj D o)) := by
  have hn1 : D ≠ b1 := fun e => by subst e; rw [show W.heap[D]? = _ from h1] at hD; cases hD
  have hn2 : D ≠ b2 := fun e => by subst e; rw [show W.heap[D]? = _ from h2] at hD; cases hD
  have hB := (hb.setCell (p := ⟨b1, 0, none⟩) l1 u1).setCell (p := ⟨b2, 0, none⟩) l2 u2
  have x1 : Boxed ((W.setCell ⟨b1, 0, none⟩ u1).setCell ⟨b2, 0, none⟩ u2) b1 t1 u1 := boxed_set_o (Boxed.set u1 h1) hne
  have x2 : Boxed ((W.setCell ⟨b1, 0, none⟩ u1).setCell ⟨b2, 0, none⟩ u2) b2 t2 u2 := Boxed.set u2 (boxed_set_o h2 (Ne.symm hne))
  refine ⟨(Below.heap_setCell _ ⟨b2, 0, none⟩ u2 D hn2).trans ((Below.heap_setCell W ⟨b1, 0, none⟩ u1 D hn1).trans hD), fun o => ?_, fun o => ?_, fun o => hB.grown (grownBy_putObj' _ D o) hB.size (fun k e => by cases e; exact lD)⟩
  · have hs : Boxed (((W.setCell ⟨b1, 0, none⟩ u1).setCell ⟨b2, 0, none⟩ u2).putObj D o) b1 t1 u1 := (World.putObj_heap_other (Ne.symm hn1)).trans x1
    exact hs.cell
  · have hs : Boxed (((W.setCell ⟨b1, 0, none⟩ u1).setCell ⟨b2, 0, none⟩ u2).putObj D o) b2 t2 u2 := (World.putObj_heap_other (Ne.symm hn2)).trans x2
    exact hs.cell
theorem sq_bad {pre0 : List (List Int)} {x : List Int} {cs : List Nat} {L : List Int} (hne : L ≠ []) (hs : pre0 ++ [x] <+: spl 32 L) (hm : pre0.map pointL = cs.map some) (hx : pointL x = none) : seqL L = ([], 13) := by
  obtain ⟨r, hr⟩ := hs
  unfold seqL
  rw [if_neg hne, ← hr, List.append_assoc, seqF_app pre0 _ cs _ hm, List.singleton_append, seqF_bad _ _ _ hx]
theorem sq_good {cs : List Nat} {L : List Int} (hne : L ≠ []) (hm : (spl 32 L).map pointL = cs.map some) : seqL L = (cs.map (fun (n : Nat) => (n : Int)), 0) := by
  unfold seqL
  have := seqF_app (spl 32 L) [] cs [] hm
  rw [List.append_nil, List.nil_append] at this
  rw [if_neg hne, this]
  rfl
/-- One more point: the append, and the store. -/
theorem sqI_step {w W W9 : World} {pre : List (List Int)} {x : List Int} {v v9 : Value} {cs : List Nat} {c : Nat} (hp : pointL x = some c) (hO : Boxed W (w.heap.size + 2) 70 v) (hR : Kd.R (Kd.int .i64) 3 W (w.heap.size + 6) (fun _ => True) v (cs.map (fun (n : Nat) => (n : Int)))) (hm : pre.map pointL = cs.map some)
    (hr0 : Boxed W w.heap.size 70 (.slice none 0 0)) (hr1 : Boxed W (w.heap.size + 1) 25 (.int .i64 0)) (hb : Below w.heap.size w W) (hsz : w.heap.size + 6 ≤ W.heap.size) (hpl : (pre ++ [x]).length ≤ 1000001)
    (hg : W.grownBy W9 v.ownBlock) (hR9 : Kd.R (Kd.int .i64) 3 W9 (w.heap.size + 6) (fun _ => True) v9 ((cs ++ [c]).map (fun (n : Nat) => (n : Int)))) :
    KeepsFrom (w.heap.size + 6) W (W9.setCell ⟨w.heap.size + 2, 0, none⟩ v9) ∧ KeepC (fun k => k = w.heap.size + 2 ∨ w.heap.size + 6 ≤ k) W (W9.setCell ⟨w.heap.size + 2, 0, none⟩ v9) ∧ sqI w (pre ++ [x]) (W9.setCell ⟨w.heap.size + 2, 0, none⟩ v9) := by
  have hown := Kd.own_of_R hR
  have hrow : ∀ k, v.ownBlock = some k → w.heap.size + 6 ≤ k := fun k e => own_base hown k e
  have hne : ∀ j, j < w.heap.size + 6 → some j ≠ v.ownBlock := fun j hj e => by have := hrow _ e.symm; omega
  have k2 : KeepsOthers W W9 := KeepsOthers.of_grownBy hg (fun j ob hj hob => by
    obtain ⟨cells, hc⟩ := own_typed hown j hj
    rw [hc] at hob
    injection hob with hob
    rw [← hob]; rfl)
  refine ⟨(k2.trans (KeepsOthers.setCell _ _ _)).from _, ?_, v9, cs ++ [c], Boxed.set _ (hO.kept hg (hne _ (by omega))), rowI_set hR9 (by omega), ?_, boxed_set_o (hr0.kept hg (hne _ (by omega))) (by omega), boxed_set_o (hr1.kept hg (hne _ (by omega))) (by omega), ?_, ?_, hpl⟩
  · exact KeepC.trans (KeepC.grown hg (fun k e => .inr (hrow k e))) (KeepC.of_set (.inl rfl))
  · rw [List.map_append, List.map_append, hm]
    show _ ++ [pointL x] = _
    rw [hp]; rfl
  · exact (hb.grown hg (by omega) (fun k e => by have := hrow k e; omega)).setCell (p := ⟨w.heap.size + 2, 0, none⟩) (by simp) _
  · have := hg.size
    show _ ≤ (World.setCell _ _ _).heap.size
    simp; omega
set_option maxHeartbeats 4000000 in
set_option maxRecDepth 100000 in
theorem field_Sequence.main (L : List Int) (ho : Oct L) (hl : L.length ≤ 1000000) (hne : L ≠ []) (w : World) (hE : EnvF w) :
    Calls Tryd.prog 39 #[.string (strOfNums L)] w fun e w' => ∃ v, e = .returned (.tuple #[v, .int .i64 (seqL L).2]) ∧ Kd.R (Kd.int .i64) 3 w' w.heap.size (fun _ => True) v (seqL L).1 ∧ Below w.heap.size w w' := by
  have hb0 : Below w.heap.size w ((w.alloc (.cells #[.slice none 0 0] 70)).alloc (.cells #[.int .i64 0] 25)) := ((Below.refl _ w).alloc (Nat.le_refl _) _).alloc (by simp) _
  have hz : decide (strOfNums L = ByteArray.empty) = false := decide_eq_false (fun e => hne (by have := congrArg ByteArray.size e; rw [size_str] at this; exact List.length_eq_zero_iff.1 (by simpa using this)))
  have hz2 : ((strOfNums L).toList == ([] : List UInt8)) = false := beq_eq_false_iff_ne.mpr (fun e => hne (str_nilU.1 e))
  have hz3 : ((strOfNums L).toList = ([] : List UInt8)) = False := eq_false (fun e => hne (str_nilU.1 e))
  have HE := Aside0.mk hE
  have HO := Aside0.mk ho
  have HL := Aside0.mk hl
  have HNE := Aside0.mk hne
  obtain ⟨s, hs⟩ : ∃ s, s = strOfNums L := ⟨_, rfl⟩
  rw [← hs] at hz hz2 hz3 ⊢
  have HS := Aside0.mk hs
  clear hE ho hl hne hs hb0
  refine (callsIn_wide (n := 20)).1 ?_
  refine callsIn_of_wp_marks Tryd.func39 rfl trivial ?_ rfl
  simp only [Tryd.ntmps39, List.size_toArray, List.length_cons, List.length_nil, Nat.reduceAdd, Nat.reduceSub, Array.replicate_succ, Array.replicate_zero, List.push_toArray, List.append_toArray, List.nil_append, List.cons_append]
  refine wpIn_wide.2 ?_
  go_wp2_with (go_at_call 67; refine (SplitSeq.calls s ⟨#[32]⟩ _).mono ?_; rintro e w2 ⟨rfl, rfl⟩)
  have hst := splitSeq.stops L HO.out HL.out (w.heap.size + 3) ((((((w.alloc (.cells #[.slice none 0 0] 70)).alloc (.cells #[.int .i64 0] 25)).alloc (.cells #[.slice none 0 0] 70)).alloc (.cells #[.string s] 9)).alloc (.cells #[.string ⟨#[32]⟩] 9)).alloc (.cells #[.int .i64 0] 3))
    (fun k => k = w.heap.size + 2 ∨ w.heap.size + 6 ≤ k) (fun e => by omega) (fun e => by omega) (fun e => by omega)
    (by rw [← HS.out]; have := Boxed.new ((((w.alloc (.cells #[.slice none 0 0] 70)).alloc (.cells #[.int .i64 0] 25)).alloc (.cells #[.slice none 0 0] 70))) 9 (.string s); simp only [World.size_alloc] at this; exact (this.alloc _).alloc _)
    (by have := Boxed.new (((((w.alloc (.cells #[.slice none 0 0] 70)).alloc (.cells #[.int .i64 0] 25)).alloc (.cells #[.slice none 0 0] 70))).alloc (.cells #[.string s] 9)) 9 (.string ⟨#[32]⟩); simp only [World.size_alloc] at this; exact this.alloc _)
    (by have := Boxed.new ((((((w.alloc (.cells #[.slice none 0 0] 70)).alloc (.cells #[.int .i64 0] 25)).alloc (.cells #[.slice none 0 0] 70))).alloc (.cells #[.string s] 9)).alloc (.cells #[.string ⟨#[32]⟩] 9)) 3 (.int .i64 0); simp only [World.size_alloc] at this; exact this) 19 (by omega)
  have hb0 : Below w.heap.size w (w.alloc (.cells #[.slice none 0 0] 70)) := (Below.refl _ w).alloc (Nat.le_refl _) _
  have hI0 : sqI w [] ((((((w.alloc (.cells #[.slice none 0 0] 70)).alloc (.cells #[.int .i64 0] 25)).alloc (.cells #[.slice none 0 0] 70)).alloc (.cells #[.string s] 9)).alloc (.cells #[.string ⟨#[32]⟩] 9)).alloc (.cells #[.int .i64 0] 3)) := by
    have h2 := Boxed.new (((w.alloc (.cells #[.slice none 0 0] 70)).alloc (.cells #[.int .i64 0] 25))) 70 (.slice none 0 0)
    have h1 := Boxed.new (w.alloc (.cells #[.slice none 0 0] 70)) 25 (.int .i64 0)
    have h0 := Boxed.new w 70 (.slice none 0 0)
    simp only [World.size_alloc] at h1 h2
    exact ⟨_, [], ((h2.alloc _).alloc _).alloc _, Kd.R_nil _ _ _ _ _, rfl, ((((h0.alloc _).alloc _).alloc _).alloc _).alloc _, (((h1.alloc _).alloc _).alloc _).alloc _, ((((hb0.alloc (by simp only [World.size_alloc]; omega) _).alloc (by simp only [World.size_alloc]; omega) _).alloc (by simp only [World.size_alloc]; omega) _).alloc (by simp only [World.size_alloc]; omega) _).alloc (by simp only [World.size_alloc]; omega) _, by simp, by simp⟩
  have hsz : ((((((w.alloc (.cells #[.slice none 0 0] 70)).alloc (.cells #[.int .i64 0] 25)).alloc (.cells #[.slice none 0 0] 70)).alloc (.cells #[.string s] 9)).alloc (.cells #[.string ⟨#[32]⟩] 9)).alloc (.cells #[.int .i64 0] 3)).heap.size = w.heap.size + 6 := by simp
  generalize ((((((w.alloc (.cells #[.slice none 0 0] 70)).alloc (.cells #[.int .i64 0] 25)).alloc (.cells #[.slice none 0 0] 70)).alloc (.cells #[.string s] 9)).alloc (.cells #[.string ⟨#[32]⟩] 9)).alloc (.cells #[.int .i64 0] 3)) = w6 at *
  have HST := Aside0.mk hst
  have HI0 := Aside0.mk hI0
  have HSZ := Aside0.mk hsz
  clear hst hI0 hb0 hsz hz hz2 hz3

  refine (wpIn_wide (n := 20)).1 ?_
  refine wpIn_range_pb rfl (by omega) (gf := 115) (lb := #[.pointer (some ⟨w.heap.size + 3 + 1, 0, none⟩), .pointer (some ⟨w.heap.size + 3, 0, none⟩), .pointer (some ⟨w.heap.size + 3 + 2, 0, none⟩)]) rfl trivial (enters_of Tryd.func115 (by kernel_rfl) rfl)
    HST.out KeepC.trans keepC_put (Below.refl _ _) (fun _ => rfl)
    (sqI w) (sqX w) (HSZ.out ▸ sqI_own w) (fun c => HSZ.out ▸ sqX_own w c) HI0.out (by have := HSZ.out; omega) (sqI_blind w) (sqX_blind w)
    (fun pre x a1 W => a1 = { tmps := #[Value.string s, undef, Value.pointer (some ⟨w.heap.size, 0, none⟩), Value.pointer (some ⟨w.heap.size + 1, 0, none⟩), Value.pointer (some ⟨w.heap.size + 2, 0, none⟩), Value.string (strOfNums x), undef, undef, Value.string s, Value.bool false, Value.string s,
      Value.func (Fn.func 115) #[] #[.pointer (some ⟨w.heap.size + 3 + 1, 0, none⟩), .pointer (some ⟨w.heap.size + 3, 0, none⟩), .pointer (some ⟨w.heap.size + 3 + 2, 0, none⟩)], Value.string (strOfNums x), undef, undef, undef, undef, undef, undef, undef, undef, undef, undef, undef, undef, undef], defers := [] } ∧ sqI w pre W)
    (fun pre x a1 s W W' row hs hg hr => ⟨hs.1, (HSZ.out ▸ sqI_own w) pre W W' row hs.2 hg hr⟩) ?assign ?body ?done ?stop
  case assign =>
    rintro l' pre x W K hI - hK
    have HI := Aside0.mk hI
    have HK := Aside0.mk hK
    clear hI hK
    gi_wp2
    exact HK.out _ _ (KeepsFrom.refl _ _) (KeepC.refl _ _) ⟨rfl, HI.out⟩
  case body =>
    rintro l' pre x a1 W ⟨rfl, v, cs, hO, hR, hm, hr0, hr1, hb, hsz, hpl⟩ hsp
    have hx : x ∈ spl 32 L := by
      obtain ⟨r, hr⟩ := hsp
      rw [← hr]; simp
    have hpl2 : (pre ++ [x]).length ≤ 1000001 := by
      have h1 := hsp.length_le
      have h2 := splP_count (fun x => decide (x = (32 : Int))) L
      have h3 := HL.out
      unfold spl at h1
      omega
    have hox := oct_spl HO.out hx
    have hlx : x.length ≤ 1000000 := by have := len_spl hx; have := HL.out; omega
    obtain ⟨A5, c5, hv5⟩ := Kd.R_slice hR
    rw [List.length_map] at hv5
    subst hv5
    have HPT := Aside0.mk (fun w hE => field_Point.calls x hox hlx w hE)
    have HEW := Aside0.mk (HE.out.below hb)
    have hcO := hO.cell
    have hfO := hO.frozen
    have hc0 := hr0.cell
    have hf0 := hr0.frozen
    have hc1 := hr1.cell
    have hf1 := hr1.frozen
    have HO5 := Aside0.mk hO
    have HR5 := Aside0.mk hR
    have HM5 := Aside0.mk hm
    have HX0 := Aside0.mk hr0
    have HX1 := Aside0.mk hr1
    have HBB := Aside0.mk hb
    have HSS := Aside0.mk hsz
    have HPL := Aside0.mk hpl2
    obtain ⟨sx, hsx⟩ : ∃ s, s = strOfNums x := ⟨_, rfl⟩
    rw [← hsx] at HPT ⊢
    cases hp : pointL x with
    | none =>
      rw [hp] at HPT
      have HPN := Aside0.mk hp
      clear hO hR hm hr0 hr1 hb hsz hpl hpl2 hsp hx hox hlx hsx hp
      gi_wp2_with (refine ⟨trivial, ?_⟩; gi_at_call 35; refine (CallsIn.inRound l' (callsIn_wide.2 (HPT.out _ HEW.out))).mono ?_; rintro e w2 ⟨rfl, hb⟩; have HB := Aside0.mk hb; have HX0' : Aside0 (Boxed w2 w.heap.size 70 (.slice none 0 0)) := ⟨(hb.block _ HX0.out.lt).trans HX0.out⟩; have HX1' : Aside0 (Boxed w2 (w.heap.size + 1) 25 (.int .i64 0)) := ⟨(hb.block _ HX1.out.lt).trans HX1.out⟩; have hq0 := HX0'.out.cell; have hq1 := HX0'.out.frozen; have hq2 := HX1'.out.cell; have hq3 := HX1'.out.frozen; clear hb; dsimp only [pointR])
      refine ⟨((keepsFrom_below3 HB.out).trans ((KeepsOthers.setCell _ _ _).from _)).trans ((KeepsOthers.setCell _ _ _).from _), rfl, ⟨pre, x, cs, rfl, HM5.out, HPN.out⟩, ?_, ?_, ?_, ?_⟩
      · exact boxed_set_o (Boxed.set _ HX0'.out) (by omega)
      · exact Boxed.set _ (boxed_set_o HX1'.out (by omega))
      · exact ((HBB.out.trans (HB.out.mono HBB.out.size)).setCell (p := ⟨w.heap.size, 0, none⟩) (by simp) _).setCell (p := ⟨w.heap.size + 1, 0, none⟩) (by simp) _
      · have h1 := HB.out.size
        have h2 := HSS.out
        show _ ≤ (World.setCell (World.setCell _ _ _) _ _).heap.size
        simp; omega
    | some c =>
      rw [hp] at HPT
      have HPN := Aside0.mk hp
      obtain ⟨i0, hi0, hii⟩ := Option.map_eq_some_iff.1 info3
      simp only [Prod.mk.injEq] at hii
      clear hO hR hm hr0 hr1 hb hsz hpl hpl2 hsp hx hox hlx hsx hp
      gi_wp2_with (first
        | (refine ⟨trivial, ?_⟩; gi_at_call 35; refine (CallsIn.inRound l' (callsIn_wide.2 (HPT.out _ HEW.out))).mono ?_; rintro e w2 ⟨rfl, hb⟩
           have HB := Aside0.mk hb
           have HO2 : Aside0 (Boxed w2 (w.heap.size + 2) 70 (.slice A5 cs.length c5)) := ⟨(hb.block _ HO5.out.lt).trans HO5.out⟩
           have hq0 := HO2.out.cell
           have hq1 := HO2.out.frozen
           have HR2 : Aside0 (Kd.R (Kd.int .i64) 3 w2 (w.heap.size + 6) (fun _ => True) (.slice A5 cs.length c5) (cs.map (fun (n : Nat) => (n : Int)))) := ⟨Kd.R_below HR5.out hb⟩
           clear hb
           dsimp only [pointR])
        | (gi_at_builtin
           have hown := Kd.own_of_R HR2.out
           rw [List.length_map] at hown
           have hown1 : (w2.alloc (.cells #[.int .i64 (c : Int)] 3)).ownsRow (w.heap.size + 6) 3 1 (.slice A5 cs.length c5) cs.length (encs (Value.int .i64) (cs.map (fun (n : Nat) => (n : Int)))) := own_move hown (fun k hk => Below.heap_alloc w2 _ k (own_lt hown k hk))
           have hnc : ∀ j u, ([.int .i64 (c : Int)] : List Value)[j]? = some u → (w2.alloc (.cells #[.int .i64 (c : Int)] 3)).cell? ((⟨w2.heap.size, 0, none⟩ : Addr).add j) = some u := fun j u hj => by
             rw [Addr.add_lit]; simp only [World.cell?]; rw [World.alloc_heap_new]; simpa using hj
           have HOWN := Aside0.mk hown1
           have hlc : cs.length ≤ 1000001 := by
             have h1 := congrArg List.length HM5.out
             have h2 := HPL.out
             simp only [List.length_map, List.length_append, List.length_cons, List.length_nil] at h1 h2
             omega
           clear hown hown1
           refine wpListIn_append_own _ rfl _ _ 70 rfl (w.heap.size + 6) 3 i0 _ 1 8 Tryd.underlying70 hi0 hii.1 hii.2.1 hii.2.2 rfl (by omega) _ cs.length (encs (Value.int .i64) (cs.map (fun (n : Nat) => (n : Int)))) rfl HOWN.out ⟨w2.heap.size, 0, none⟩ 1 1 [.int .i64 (c : Int)] rfl rfl hnc (by simp [Value.oneCell']) (by simp only [maxLen]; omega) (by omega) (by simp; have := HSS.out; have := HB.out.size; omega) ?_
           intro v9 W9 ho9 hg9 _
           have hb9 := (HO2.out.alloc (.cells #[.int .i64 (c : Int)] 3)).kept hg9 (fun e => by have := own_base HOWN.out _ e.symm; omega)
           have hc9 := hb9.cell
           have hf9 := hb9.frozen
           obtain ⟨A7, c7, rfl⟩ := own_some ho9
           have HO9 := Aside0.mk ho9
           have HG9 := Aside0.mk hg9
           clear ho9 hg9 hb9 hcO hfO hnc hii hi0 hq0 hq1 hlc))
      have hg : W.grownBy W9 (Value.slice A5 cs.length c5).ownBlock := World.grownBy.trans (grown_of_below HB.out _) (World.grownBy.trans (World.grownBy_alloc w2 _ _) HG9.out)
      obtain ⟨z1, z2, z3⟩ := sqI_step HPN.out HO5.out HR5.out HM5.out HX0.out HX1.out HBB.out HSS.out HPL.out hg (Kd.R_of_own (by have := HO9.out; rw [List.length_map, List.length_append]; simpa [encs] using this) (fun _ _ => trivial))
      exact ⟨by rw [HSZ.out]; exact z1, z2, z3⟩
  case done =>
    rintro D ys W hD hys ⟨v, cs, hO, hR, hm, hr0, hr1, hb, hsz, hpl⟩ hK
    subst hys
    obtain ⟨A5, c5, hv5⟩ := Kd.R_slice hR
    rw [List.length_map] at hv5
    subst hv5
    have hsq := sq_good HNE.out hm
    have hcO := hO.cell
    have hc0 := hr0.cell
    have hf0 := hr0.frozen
    have hc1 := hr1.cell
    have hf1 := hr1.frozen
    have HR5 := Aside0.mk hR
    have HX0 := Aside0.mk hr0
    have HX1 := Aside0.mk hr1
    have HBB := Aside0.mk hb
    have HK := Aside0.mk hK
    have HSQ := Aside0.mk hsq
    have HD := Aside0.mk hD
    clear hO hR hm hr0 hr1 hb hsz hpl hK hsq hD
    go_wp2
    have hsz := HSZ.out
    have hd := HD.out
    obtain ⟨m1, m2, m3, m4⟩ := mark_end2 (.slice A5 cs.length c5) (.int .i64 0) HBB.out HX0.out HX1.out (by omega) HK.out (by omega) (by omega) (by omega)
    refine ⟨by simp, .inl ⟨_, _, rfl, run_takeDeferred m1, ?_⟩⟩
    refine ⟨.tuple #[.slice A5 cs.length c5, .int .i64 0], by simp [results, Tryd.results39, go_sem, m2, m3], .slice A5 cs.length c5, by rw [HSQ.out], ?_, m4 _⟩
    rw [HSQ.out]
    exact Kd.R_lower (rowK_own (B := w.heap.size + 6) () _ _ (some D) (rowI_set (rowI_set HR5.out (by omega)) (by omega)) (grownBy_putObj' _ D _) (fun r e => by cases e; exact ⟨by omega, _, m1, rfl⟩)) (by omega)
  case stop =>
    rintro D c pre W hD hSp ⟨rfl, ⟨pre0, x, cs, rfl, hm, hx⟩, hr0, hr1, hb, hsz⟩ hK
    have hsq := sq_bad HNE.out hSp hm hx
    have hc0 := hr0.cell
    have hc1 := hr1.cell
    have HX0 := Aside0.mk hr0
    have HX1 := Aside0.mk hr1
    have HBB := Aside0.mk hb
    have HK := Aside0.mk hK
    have HSQ := Aside0.mk hsq
    have HD := Aside0.mk hD
    clear hSp hm hx hr0 hr1 hb hsz hK hsq hD
    refine wpIn_wide.2 ?_
    go_wp2
    have hsz := HSZ.out
    have hd := HD.out
    refine ⟨by simp, .inl ⟨_, _, rfl, run_takeDeferred HK.out, ?_⟩⟩
    have hD0 : w.heap.size ≠ D := by omega
    have hD1 : w.heap.size + 1 ≠ D := by omega
    have m2 : ∀ o, (W.putObj D o).cell? ⟨w.heap.size, 0, none⟩ = some (.slice none 0 0) := fun o => (show Boxed (W.putObj D o) w.heap.size _ _ from (World.putObj_heap_other hD0).trans HX0.out).cell
    have m3 : ∀ o, (W.putObj D o).cell? ⟨w.heap.size + 1, 0, none⟩ = some (.int .i64 13) := fun o => (show Boxed (W.putObj D o) (w.heap.size + 1) _ _ from (World.putObj_heap_other hD1).trans HX1.out).cell
    refine ⟨.tuple #[.slice none 0 0, .int .i64 13], by simp [results, Tryd.results39, go_sem, m2, m3], .slice none 0 0, by rw [HSQ.out], ?_, HBB.out.grown (grownBy_putObj' _ D _) HBB.out.size (fun k e => by cases e; omega)⟩
    rw [HSQ.out]
    exact Kd.R_nil _ _ _ _ _
theorem field_Sequence.calls (L : List Int) (ho : Oct L) (hl : L.length ≤ 1000000) (w : World) (hE : EnvF w) :
    Calls Tryd.prog 39 #[.string (strOfNums L)] w fun e w' => ∃ v, e = .returned (.tuple #[v, .int .i64 (seqL L).2]) ∧ Kd.R (Kd.int .i64) 3 w' w.heap.size (fun _ => True) v (seqL L).1 ∧ Below w.heap.size w w' := by
  by_cases hne : L = []
  · subst hne
    have HB0 := Aside0.mk (((Below.refl _ w).alloc (Nat.le_refl _) (.cells #[.slice none 0 0] 70)).alloc (by simp) (.cells #[.int .i64 0] 25))
    have hb1 := Boxed.new (w.alloc (.cells #[.slice none 0 0] 70)) 25 (.int .i64 0)
    rw [World.size_alloc] at hb1
    have HX0 := Aside0.mk ((Boxed.new w 70 (.slice none 0 0)).alloc (.cells #[.int .i64 0] 25))
    have HX1 := Aside0.mk hb1
    have hz : (strOfNums ([] : List Int)).toList.isEmpty = true := by rw [ba_toList]; rfl
    have hz2 : ((strOfNums ([] : List Int)).toList == ([] : List UInt8)) = true := by rw [ba_toList]; rfl
    clear hb1 ho hl hE
    go_enter Tryd.func39, Tryd.ntmps39
    go_wp2
    have x0 : Boxed _ w.heap.size 70 (.slice none 0 0) := boxed_set_o (b := w.heap.size + 1) (u := .int .i64 0) (Boxed.set (.slice none 0 0) HX0.out) (by omega)
    have x1 := Boxed.set (.int .i64 0) (boxed_set_o (b := w.heap.size) (u := .slice none 0 0) HX1.out (by omega))
    have y0 := x0.cell
    have y1 := x1.cell
    refine bodyPost_ret (v := .tuple #[.slice none 0 0, .int .i64 0]) (by simp [results, Tryd.results39, go_sem, y0, y1]) rfl ?_
    exact ⟨_, rfl, Kd.R_nil _ _ _ _ _, HB0.out⟩
  · exact field_Sequence.main L ho hl hne w hE
end Go.Proofs.YtdnfmilnkoocdaaDoor.Q

-- from Hfld
/- field.fields: the walk. -/
namespace Go.Proofs.YtdnfmilnkoocdaaDoor.Q
open Go.RowKit Go.Shelf Go.Proofs.YtdnfmilnkoocdaaDoorW.PrintWords Go.Proofs.YtdnfmilnkoocdaaDoorW.PrintLast Go.Proofs.YtdnfmilnkoocdaaDoorW.PrintMore Go.Proofs.YtdnfmilnkoocdaaDoor.K
set_option linter.unusedVariables false
set_option linter.unusedSimpArgs false

theorem sSplit59.calls (L : List Int) (ho : Oct L) (hl : L.length ≤ 1000000) (w : World) (hE : EnvF w) : Calls Tryd.prog 59 #[.string (strOfNums L), .string ⟨#[59]⟩] w fun e w' => e = .returned (.slice (some ⟨w.heap.size, 0, none⟩) (spl 59 L).length (spl 59 L).length) ∧ w' = w.alloc (.cells ((spl 59 L).map (fun p => .string (strOfNums p))).toArray 9) := sSplit.calls 59 (by omega) L ho hl w hE
theorem sSplit10.calls (L : List Int) (ho : Oct L) (hl : L.length ≤ 1000000) (w : World) (hE : EnvF w) : Calls Tryd.prog 59 #[.string (strOfNums L), .string ⟨#[10]⟩] w fun e w' => e = .returned (.slice (some ⟨w.heap.size, 0, none⟩) (spl 10 L).length (spl 10 L).length) ∧ w' = w.alloc (.cells ((spl 10 L).map (fun p => .string (strOfNums p))).toArray 9) := sSplit.calls 10 (by omega) L ho hl w hE
/-- The pieces, the first of them trimmed. -/
def fldA (Y : List (List Int)) (i : Nat) : List (List Int) := (Y.take i).map trimL ++ Y.drop i
def fldC (Y : List (List Int)) (i : Nat) : Array Value := ((fldA Y i).map (fun p => Value.string (strOfNums p))).toArray
theorem fldA_len (Y : List (List Int)) (i : Nat) : (fldA Y i).length = Y.length := by unfold fldA; simp; omega
theorem fldC_at {Y : List (List Int)} {i : Nat} (h : i < Y.length) : (fldC Y i)[i]? = some (.string (strOfNums Y[i])) := by
  have h1 : (fldA Y i)[i]? = some Y[i] := by
    unfold fldA
    rw [List.getElem?_append_right (by simp; omega)]
    simp [Nat.min_eq_left (Nat.le_of_lt h), h]
  unfold fldC
  simp only [List.getElem?_toArray, List.getElem?_map, h1, Option.map_some]
theorem fldC_set {Y : List (List Int)} {i : Nat} (h : i < Y.length) : (fldC Y i).setIfInBounds i (.string (strOfNums (trimL Y[i]))) = fldC Y (i + 1) := by
  have h1 : (fldA Y i).set i (trimL Y[i]) = fldA Y (i + 1) := by
    unfold fldA
    have hl : ((Y.take i).map trimL).length = i := by simp; omega
    rw [List.set_append_right _ _ (by omega), hl, Nat.sub_self, List.drop_eq_getElem_cons h, List.set_cons_zero, ← List.take_append_getElem h, List.map_append, List.append_assoc]
    rfl
  unfold fldC
  rw [← h1, List.map_set]
  simp
set_option maxHeartbeats 4000000 in
set_option maxRecDepth 100000 in
theorem field_fields.callsS (Y : List (List Int)) (L : List Int) (ho : Oct L) (hl : L.length ≤ 1000000) (hn : trimL (bodyL L) ≠ []) (hY : Y = spl 59 (bodyL L)) (w : World) (hE : EnvF w) :
    Calls Tryd.prog 62 #[.string (strOfNums L)] w fun e w' => ∃ g, e = .returned (.slice (some ⟨g, 0, none⟩) Y.length Y.length) ∧ w.heap.size ≤ g ∧ w'.heap[g]? = some (.cells (fldC Y Y.length) 9 (0, 0)) ∧ Below w.heap.size w w' := by
  have hbm := body_mem L
  have hob : Oct (bodyL L) := oct_spl ho hbm
  have hlb := len_spl hbm
  obtain ⟨B, hB⟩ : ∃ B, B = bodyL L := ⟨_, rfl⟩
  rw [← hB] at hn hY hob hlb
  have HCUT := Aside0.mk (fun w hE => sCut.calls L ho hl w hE)
  rw [← hB] at HCUT
  have HTR := Aside0.mk (fun w => sTrim.calls B hob (by omega) w)
  have HSP := Aside0.mk (fun w hE => sSplit59.calls B hob (by omega) w hE)
  have hyo : ∀ p ∈ Y, Oct p := fun p hp => by rw [hY] at hp; exact oct_spl hob hp
  have hyl : ∀ p ∈ Y, p.length ≤ 1000000 := fun p hp => by rw [hY] at hp; have := len_spl hp; omega
  have hyn : Y.length ≤ 1000001 := by rw [hY]; have := splP_count (fun x => decide (x = (59 : Int))) B; unfold spl; omega
  have HYO := Aside0.mk hyo
  have HYL := Aside0.mk hyl
  have HYN := Aside0.mk hyn
  have HE := Aside0.mk hE
  have HYE := Aside0.mk hY
  obtain ⟨sl, hsl⟩ : ∃ s, s = strOfNums L := ⟨_, rfl⟩
  obtain ⟨sb, hsb⟩ : ∃ s, s = strOfNums B := ⟨_, rfl⟩
  obtain ⟨st, hst⟩ : ∃ s, s = strOfNums (trimL B) := ⟨_, rfl⟩
  rw [← hsl] at HCUT ⊢
  rw [← hsb] at HCUT HTR HSP
  rw [← hst] at HTR
  have hne : st.toList ≠ [] := fun e => hn (str_nilU.1 (by rw [← hst]; exact e))
  have f2 : decide (st = (⟨#[]⟩ : ByteArray)) = false := decide_eq_false (fun e => hne (by rw [e]; exact str_nilU.2 rfl))
  have f3 : (st.toList == ([] : List UInt8)) = false := beq_eq_false_iff_ne.mpr hne
  clear hbm hob hlb hB hyo hyl hyn hE hY ho hl hn hsl hsb hst hne
  go_enter Tryd.func62, Tryd.ntmps62
  go_wp2_with (first
    | (go_at_call 66; (with_reducible refine (HCUT.out _ HE.out).mono ?_); rintro e w1 ⟨s2, b2, rfl, hb⟩; have HB := Aside0.mk hb; clear hb)
    | (go_at_call 84; (with_reducible refine (HTR.out _).mono ?_); rintro e w2 ⟨rfl, hb⟩; have HB2 := Aside0.mk hb; clear hb)
    | (go_at_call 59; (with_reducible refine (HSP.out _ ((HE.out.below HB.out).below HB2.out)).mono ?_); rintro e w3 ⟨rfl, rfl⟩; rw [← HYE.out]))
  have hg0 := heap_alloc_new w2 (.cells (Y.map (fun p => .string (strOfNums p))).toArray 9)
  have hbb : Below w.heap.size w (w2.alloc (.cells (Y.map (fun p => .string (strOfNums p))).toArray 9)) := (HB.out.trans (HB2.out.mono HB.out.size)).alloc (Nat.le_trans HB.out.size HB2.out.size) _
  obtain ⟨g, hg⟩ : ∃ g, g = w2.heap.size := ⟨_, rfl⟩
  have HG : Aside0 (w.heap.size ≤ g) := ⟨by rw [hg]; exact Nat.le_trans HB.out.size HB2.out.size⟩
  rw [← hg] at hg0 ⊢
  have hg1 : (w2.alloc (.cells (Y.map (fun p => .string (strOfNums p))).toArray 9)).heap[g]? = some (.cells (fldC Y 0) 9 (0, 0)) := hg0
  generalize hw3 : w2.alloc (.cells (Y.map (fun p => .string (strOfNums p))).toArray 9) = w3 at *
  have H3 := Aside0.mk hg1
  have HB3 := Aside0.mk hbb
  clear hw3 hg0 hg1 hbb hg
  go_loopg [21] (Y.length + 1) (fun kq s21 wr => ∃ i : Nat, s21 = .int .i64 (i : Int) ∧ Aside0 (i + kq = Y.length + 1 ∧ i ≤ Y.length) ∧ Aside0 (wr.heap[g]? = some (.cells (fldC Y i) 9 (0, 0))) ∧ Aside0 (Below w.heap.size w wr))
  case atStart => exact ⟨0, rfl, ⟨by omega, by omega⟩, H3, HB3⟩
  case round =>
    clear H3 HB3
    obtain ⟨i, rfl, HI, HH, HBR⟩ := hrel
    cases gk with
    | zero => exact absurd HI.out (by omega)
    | succ kq =>
    by_cases c1 : (i : Int) < (Y.length : Int)
    · have hi : i < Y.length := by omega
      have HII := Aside0.mk hi
      have e0 := eq_true c1
      have e1 : decide ((i : Int) < (Y.length : Int)) = true := decide_eq_true c1
      have e2 : (i < Y.length) = True := eq_true hi
      have hsz : (fldC Y i).size = Y.length := by unfold fldC; simp [fldA_len]
      have hlt : i < (fldC Y i).size := by omega
      have hcl : wr.cell? ⟨g, i, none⟩ = some (.string (strOfNums Y[i])) := by
        unfold World.cell?
        rw [HH.out]
        exact fldC_at hi
      obtain ⟨p, hp⟩ : ∃ p, p = Y[i] := ⟨_, rfl⟩
      rw [← hp] at hcl
      have hpm : p ∈ Y := hp ▸ List.getElem_mem hi
      have HT := Aside0.mk (fun w => sTrim.calls p (HYO.out p hpm) (HYL.out p hpm) w)
      have HSET : Aside0 ((fldC Y i).setIfInBounds i (.string (strOfNums (trimL p))) = fldC Y (i + 1)) := ⟨by rw [hp]; exact fldC_set hi⟩
      have m1 : IntKind.i64.wrap ((i : Int) + 1) = (i : Int) + 1 := Go.IntWalk.i64_in _ (by have := HYN.out; omega)
      have m2 : wrap64 ((i : Int) + 1) = (i : Int) + 1 := w64 (by omega) (by have := HYN.out; omega)
      clear c1 hi hp hpm hsz hlt
      obtain ⟨sp, hsp⟩ : ∃ s, s = strOfNums p := ⟨_, rfl⟩
      rw [← hsp] at hcl HT
      clear hsp HTR HCUT HSP
      go_wp2_with (go_at_call 84; (with_reducible refine (HT.out _).mono ?_); rintro e w4 ⟨rfl, hb⟩; have HB4 := Aside0.mk hb; have hgl := (Array.getElem?_eq_some_iff.1 HH.out).1; have hh4 : w4.heap[g]? = some (.cells (fldC Y i) 9 (0, 0)) := (hb.block g hgl).trans HH.out; have HH4 := Aside0.mk hh4; have hc4 : ∃ x, w4.cell? ⟨g, i, none⟩ = some x := ⟨_, (hb.cell (World.block_lt_of_cell? wr _ hcl)).trans hcl⟩; obtain ⟨x4, hc4⟩ := hc4; have hf4 : w4.frozen? ⟨g, i, none⟩ = false := (by unfold World.frozen?; rw [hh4]; rfl); clear hb hgl hh4)
      go_roundg kq
      case measure => omega
      case rel =>
        refine ⟨i + 1, by first | rfl | (rw [m2]; rfl), ⟨by have := HI.out; omega, by have := HII.out; omega⟩, ⟨?_⟩, ⟨(HBR.out.trans (HB4.out.mono HBR.out.size)).setCell HG.out _⟩⟩
        have := heap_setCell_same w4 g i (fldC Y i) 9 (.string (strOfNums (trimL p))) HH4.out
        rw [HSET.out] at this
        exact this
    · have hin : i = Y.length := by have := HI.out; omega
      subst hin
      have e0 := eq_false c1
      have e1 : decide ((Y.length : Int) < (Y.length : Int)) = false := decide_eq_false c1
      clear c1
      go_wp2
      go_ret
      exact ⟨g, rfl, HG.out, HH.out, HBR.out⟩
set_option maxHeartbeats 2000000 in
set_option maxRecDepth 100000 in
theorem field_fields.callsN (L : List Int) (ho : Oct L) (hl : L.length ≤ 1000000) (hn : trimL (bodyL L) = []) (w : World) (hE : EnvF w) :
    Calls Tryd.prog 62 #[.string (strOfNums L)] w fun e w' => e = .returned (.slice none 0 0) ∧ Below w.heap.size w w' := by
  have hbm := body_mem L
  have hob : Oct (bodyL L) := oct_spl ho hbm
  have hlb := len_spl hbm
  obtain ⟨B, hB⟩ : ∃ B, B = bodyL L := ⟨_, rfl⟩
  rw [← hB] at hn hob hlb
  have HCUT := Aside0.mk (fun w hE => sCut.calls L ho hl w hE)
  rw [← hB] at HCUT
  have htr := fun w => sTrim.calls B hob (by omega) w
  rw [hn] at htr
  have HTR := Aside0.mk htr
  have HE := Aside0.mk hE
  obtain ⟨sl, hsl⟩ : ∃ s, s = strOfNums L := ⟨_, rfl⟩
  obtain ⟨sb, hsb⟩ : ∃ s, s = strOfNums B := ⟨_, rfl⟩
  obtain ⟨st, hst⟩ : ∃ s, s = strOfNums [] := ⟨_, rfl⟩
  rw [← hsl] at HCUT ⊢
  rw [← hsb] at HCUT HTR
  rw [← hst] at HTR
  have f2 : decide (st = (⟨#[]⟩ : ByteArray)) = true := decide_eq_true (by rw [hst]; rfl)
  have f3 : (st.toList == ([] : List UInt8)) = true := beq_iff_eq.mpr (by rw [hst]; exact str_nilU.2 rfl)
  clear hbm hob hlb hB hE ho hl hn hsl hsb hst htr
  go_enter Tryd.func62, Tryd.ntmps62
  go_wp2_with (first
    | (go_at_call 66; (with_reducible refine (HCUT.out _ HE.out).mono ?_); rintro e w1 ⟨s2, b2, rfl, hb⟩; have HB := Aside0.mk hb; clear hb)
    | (go_at_call 84; (with_reducible refine (HTR.out _).mono ?_); rintro e w2 ⟨rfl, hb⟩; have HB2 := Aside0.mk hb; clear hb))
  go_ret
  exact ⟨rfl, HB.out.trans (HB2.out.mono HB.out.size)⟩
end Go.Proofs.YtdnfmilnkoocdaaDoor.Q

-- from Hzlay
/- bytes.Clone, bytes.Split, bytes.TrimSuffix: the walks are the shelf's, laid for this program. -/
namespace Go.Proofs
open Go.Shelf
def Tryd.laysb140_ren : Go.Shelf.Ren := ⟨fun | 140 => 99 | 117 => 122 | 115 => 147 | n => n, fun | 37 => 22 | 4 => 4 | 3 => 3 | 9 => 9 | 5 => 5 | n => n, fun | n => n⟩
theorem Tryd.laysb140 : Go.Proofs.Lays.nb140 Tryd.prog Tryd.laysb140_ren := {
  mixed := by kernel_rfl
  f115 := Tryd.func147.trans (congrArg some (by kernel_rfl))
  f117 := Tryd.func122.trans (congrArg some (by kernel_rfl))
  f140 := Tryd.func99.trans (congrArg some (by kernel_rfl))
  t3 := Tryd.underlying3
  a3 := Tryd.isAgg3
  z3 := Tryd.sizeOf3
  v3 := Tryd.zeroValue3
  t4 := Tryd.underlying4
  a4 := Tryd.isAgg4
  z4 := Tryd.sizeOf4
  v4 := Tryd.zeroValue4
  t9 := Tryd.underlying9
  a9 := Tryd.isAgg9
  z9 := Tryd.sizeOf9
  v9 := Tryd.zeroValue9
  t37 := Tryd.underlying22
  a37 := Tryd.isAgg22
  z37 := Tryd.sizeOf22
  v37 := Tryd.zeroValue22
  t5 := Tryd.underlying5
  a5 := Tryd.isAgg5
  z5 := Tryd.sizeOf5
  v5 := Tryd.zeroValue5 }
def Tryd.laysk4_ren : Go.Shelf.Ren := ⟨fun | 4 => 60 | n => n, fun | 22 => 22 | 4 => 4 | 5 => 5 | n => n, fun | n => n⟩
theorem Tryd.laysk4 : Go.Proofs.SlLaysK.n4 Tryd.prog Tryd.laysk4_ren := {
  mixed := by kernel_rfl
  f4 := Tryd.func60.trans (congrArg some (by kernel_rfl))
  t4 := Tryd.underlying4
  a4 := Tryd.isAgg4
  z4 := Tryd.sizeOf4
  v4 := Tryd.zeroValue4
  t22 := Tryd.underlying22
  a22 := Tryd.isAgg22
  z22 := Tryd.sizeOf22
  v22 := Tryd.zeroValue22
  t5 := Tryd.underlying5
  i5 := by kernel_rfl }
def Tryd.laysp7_ren : Go.Shelf.Ren := ⟨fun | 7 => 80 | 11 => 98 | 14 => 119 | 15 => 120 | 16 => 121 | 17 => 143 | 19 => 144 | 20 => 145 | 21 => 146 | 22 => 147 | 23 => 148 | 24 => 139 | 25 => 149 | 26 => 159 | 29 => 125 | 30 => 160 | 31 => 161 | n => n, fun | 22 => 22 | 23 => 36 | 3 => 3 | 4 => 4 | 0 => 0 | 34 => 133 | 21 => 21 | 5 => 5 | 45 => 103 | 9 => 9 | 58 => 161 | 38 => 160 | 28 => 166 | 62 => 169 | 61 => 168 | n => n, fun | 2 => 0 | 3 => 1 | 4 => 2 | n => n⟩
theorem Tryd.laysp7 : Go.Proofs.SlLaysP.n7 Tryd.prog Tryd.laysp7_ren := {
  mixed := by kernel_rfl
  f7 := Tryd.func80.trans (congrArg some (by kernel_rfl))
  f11 := Tryd.func98.trans (congrArg some (by kernel_rfl))
  f15 := Tryd.func120.trans (congrArg some (by kernel_rfl))
  f16 := Tryd.func121.trans (congrArg some (by kernel_rfl))
  f20 := Tryd.func145.trans (congrArg some (by kernel_rfl))
  f21 := Tryd.func146.trans (congrArg some (by kernel_rfl))
  f22 := Tryd.func147.trans (congrArg some (by kernel_rfl))
  f23 := Tryd.func148.trans (congrArg some (by kernel_rfl))
  f24 := Tryd.func139.trans (congrArg some (by kernel_rfl))
  f25 := Tryd.func149.trans (congrArg some (by kernel_rfl))
  f30 := Tryd.func160.trans (congrArg some (by kernel_rfl))
  f31 := Tryd.func161.trans (congrArg some (by kernel_rfl))
  t0 := Tryd.underlying0
  a0 := Tryd.isAgg0
  z0 := Tryd.sizeOf0
  v0 := Tryd.zeroValue0
  t3 := Tryd.underlying3
  a3 := Tryd.isAgg3
  z3 := Tryd.sizeOf3
  v3 := Tryd.zeroValue3
  t4 := Tryd.underlying4
  a4 := Tryd.isAgg4
  z4 := Tryd.sizeOf4
  v4 := Tryd.zeroValue4
  t5 := Tryd.underlying5
  a5 := Tryd.isAgg5
  z5 := Tryd.sizeOf5
  v5 := Tryd.zeroValue5
  t9 := Tryd.underlying9
  a9 := Tryd.isAgg9
  z9 := Tryd.sizeOf9
  v9 := Tryd.zeroValue9
  t22 := Tryd.underlying22
  a22 := Tryd.isAgg22
  z22 := Tryd.sizeOf22
  v22 := Tryd.zeroValue22
  t23 := Tryd.underlying36
  a23 := Tryd.isAgg36
  z23 := Tryd.sizeOf36
  v23 := Tryd.zeroValue36
  t38 := Tryd.underlying160
  a38 := Tryd.isAgg160
  z38 := Tryd.sizeOf160
  v38 := Tryd.zeroValue160
  t45 := Tryd.underlying103
  a45 := Tryd.isAgg103
  z45 := Tryd.sizeOf103
  v45 := Tryd.zeroValue103
  t58 := Tryd.underlying161
  a58 := Tryd.isAgg161
  z58 := Tryd.sizeOf161
  v58 := Tryd.zeroValue161
  g2 := by kernel_rfl
  i22 := by kernel_rfl }
end Go.Proofs

-- from Hmrk
/- Marks among the deferred calls. -/
namespace Go.Proofs.YtdnfmilnkoocdaaDoor.Q
open Go.RowKit Go.Shelf Go.Proofs.YtdnfmilnkoocdaaDoorW.PrintWords Go.Proofs.YtdnfmilnkoocdaaDoorW.PrintLast Go.Proofs.YtdnfmilnkoocdaaDoorW.PrintMore
set_option linter.unusedVariables false
set_option linter.unusedSimpArgs false

/-- The marks of ranges that have ended. -/
def marks (Ds : List Nat) : List Deferred := Ds.map (fun D => { target := .collected D, args := #[] })
/-- Marks that are whole: different places from n0 on. -/
def MarksIn (n0 : Nat) (Ds : List Nat) (W : World) : Prop := Ds.Nodup ∧ ∀ D ∈ Ds, n0 ≤ D ∧ W.heap[D]? = some (.deferred (some []))
theorem MarksIn.nil (n0 : Nat) (W : World) : MarksIn n0 [] W := ⟨List.nodup_nil, fun D h => by cases h⟩
theorem MarksIn.step {n0 : Nat} {Ds : List Nat} {W W' : World} (h : MarksIn n0 Ds W) (hb : ∀ D ∈ Ds, W'.heap[D]? = W.heap[D]?) : MarksIn n0 Ds W' := ⟨h.1, fun D hD => ⟨(h.2 D hD).1, (hb D hD).trans (h.2 D hD).2⟩⟩
theorem MarksIn.lt {n0 : Nat} {Ds : List Nat} {W : World} (h : MarksIn n0 Ds W) {D : Nat} (hD : D ∈ Ds) : D < W.heap.size := (Array.getElem?_eq_some_iff.1 (h.2 D hD).2).1
theorem MarksIn.below {n0 B : Nat} {Ds : List Nat} {W W' : World} (h : MarksIn n0 Ds W) (hb : Below B W W') (hB : W.heap.size ≤ B) : MarksIn n0 Ds W' := h.step fun D hD => hb.block D (Nat.lt_of_lt_of_le (h.lt hD) hB)
theorem MarksIn.cons {n0 : Nat} {Ds : List Nat} {W : World} {D : Nat} (h : MarksIn n0 Ds W) (hn : ∀ E ∈ Ds, E < D) (hB : n0 ≤ D) (hD : W.heap[D]? = some (.deferred (some []))) : MarksIn n0 (D :: Ds) W :=
  ⟨List.nodup_cons.2 ⟨fun hm => Nat.lt_irrefl _ (hn D hm), h.1⟩, fun E hE => by
    rcases List.mem_cons.1 hE with rfl | hE
    · exact ⟨hB, hD⟩
    · exact h.2 E hE⟩
theorem leaves_marks {F : Fence} {n : Nat} {P : Program} {fn : Func} {tmps : Array Value} {R : Ending → World → Prop} {n0 : Nat} : ∀ (Ds : List Nat) (W : World), MarksIn n0 Ds W →
    (∀ W', Below n0 W W' → LeavesInM F n P fn tmps R [] .returning W') → LeavesInM F n P fn tmps R (marks Ds) .returning W
  | [], W, _, h => h W (Below.refl _ _)
  | D :: Ds, W, hn, h => by
    have hd := hn.2 D (List.mem_cons_self ..)
    have hlt : D < W.heap.size := (Array.getElem?_eq_some_iff.1 hd.2).1
    have hb : Below n0 W (W.putObj D (.deferred none)) := (Below.refl n0 W).grown (grownBy_putObj' W D _) (by omega) (fun k e => by cases e; exact hd.1)
    refine ⟨by simp, .inl ⟨_, _, rfl, run_takeDeferred hd.2, ?_⟩⟩
    refine leaves_marks Ds _ ⟨(List.nodup_cons.1 hn.1).2, fun E hE => ⟨(hn.2 E (List.mem_cons_of_mem _ hE)).1, ?_⟩⟩ (fun W' hW' => h W' (hb.trans hW'))
    have hne : E ≠ D := fun e => (List.nodup_cons.1 hn.1).1 (e ▸ hE)
    rw [World.putObj_heap_other hne]
    exact (hn.2 E (List.mem_cons_of_mem _ hE)).2
end Go.Proofs.YtdnfmilnkoocdaaDoor.Q

-- from Hfln
/- field.Lines: the call, and the iterator. -/
namespace Go.Proofs.YtdnfmilnkoocdaaDoor.Q
open Go.RowKit Go.Shelf Go.Proofs.YtdnfmilnkoocdaaDoorW.PrintWords Go.Proofs.YtdnfmilnkoocdaaDoorW.PrintLast Go.Proofs.YtdnfmilnkoocdaaDoorW.PrintMore Go.Proofs.YtdnfmilnkoocdaaDoor.K
set_option linter.unusedVariables false
set_option linter.unusedSimpArgs false
attribute [local go_sem] Oper.semAt_some

/-- Lines with their numbers. -/
def linesI : Nat → List (List Int) → List (Int × List (List Int))
  | _, [] => []
  | i, l :: r => match fieldsL (stripCR l) with
    | none => linesI (i + 1) r
    | some f => ((i : Int) + 1, f) :: linesI (i + 1) r
theorem linesI_cons (i : Nat) (x : List Int) (X : List (List Int)) : linesI i (x :: X) = match fieldsL (stripCR x) with
    | none => linesI (i + 1) X
    | some f => ((i : Int) + 1, f) :: linesI (i + 1) X := rfl
theorem linesI_app : ∀ (X : List (List Int)) (i : Nat) (l : List Int), linesI i (X ++ [l]) = linesI i X ++ (match fieldsL (stripCR l) with | none => [] | some f => [(((i + X.length : Nat) : Int) + 1, f)])
  | [], i, l => by
    rw [List.nil_append, linesI_cons]
    cases fieldsL (stripCR l) <;> simp [linesI]
  | x :: X, i, l => by
    have ih := linesI_app X (i + 1) l
    have e : i + 1 + X.length = i + (x :: X).length := by simp; omega
    rw [e] at ih
    rw [List.cons_append, linesI_cons, linesI_cons, ih]
    cases fieldsL (stripCR x) <;> rfl
theorem linesI_pre : ∀ (Z A : List (List Int)), linesI 0 A <+: linesI 0 (A ++ Z)
  | [], A => by rw [List.append_nil]; exact List.prefix_refl _
  | z :: Z, A => by
    rw [show A ++ z :: Z = (A ++ [z]) ++ Z by simp]
    exact (by rw [linesI_app]; exact List.prefix_append _ _ : linesI 0 A <+: linesI 0 (A ++ [z])).trans (linesI_pre Z _)
/-- Pieces as the cells of a row. -/
def rowC (X : List (List Int)) : Array Value := (X.map (fun p => Value.string (strOfNums p))).toArray
set_option maxHeartbeats 2000000 in
set_option maxRecDepth 100000 in
theorem bytes_Clone.calls (A : Option Addr) (c : Nat) (L : List Int) (w : World) (hr : Kd.C (Kd.int .u8) w A L.length L) (hc : L.length ≤ c) (hl : L.length ≤ 1000000) :
    Calls Tryd.prog 60 #[.slice A L.length c] w fun e w' => ∃ A' c', e = .returned (.slice A' L.length c') ∧ Kd.C (Kd.int .u8) w' A' L.length L ∧ Below w.heap.size w w' := by
  cases A with
  | none =>
    have h0 : L = [] := by
      rcases Nat.eq_zero_or_pos L.length with h | h
      · exact List.length_eq_zero_iff.1 h
      · obtain ⟨ad, e, _⟩ := hr.2.2 h; cases e
    subst h0
    refine (Any.bytes_Clone_nil Tryd.laysk4 0 c w).mono ?_
    rintro e w' ⟨rfl, rfl⟩
    exact ⟨none, _, rfl, hr, Below.refl _ _⟩
  | some a =>
    have hrd := Kd.reads_of_C (enc := Value.int .u8) (d := (0 : Int)) (h1 := fun _ => rfl) hr
    refine (Any.bytes_Clone_at Tryd.laysk4 a L.length c L w rfl (by omega) (fun i hi => ?_)).mono ?_
    · obtain ⟨ad, e, h⟩ := hrd.2.2 (by omega)
      cases e
      exact h i hi
    · rintro e w' ⟨v', rfl, ho, hne, hb⟩
      have hR : Kd.R (Kd.int .u8) 5 w' w.heap.size (fun _ => True) v' L := Kd.R_of_own ho (fun _ _ => trivial)
      obtain ⟨A', c', rfl, hc', hC⟩ := Kd.R_reads hR
      exact ⟨A', c', rfl, hC, hb⟩
set_option maxHeartbeats 2000000 in
set_option maxRecDepth 100000 in
theorem field_Lines.calls (A : Option Addr) (c : Nat) (L : List Int) (ho : Oct L) (hl : L.length ≤ 1000000) (w : World) (hE : EnvF w) (hr : Kd.C (Kd.int .u8) w A L.length L) (hc : L.length ≤ c) :
    Calls Tryd.prog 34 #[.slice A L.length c] w fun e w' => ∃ g gb, e = .returned (.func (.func 61) #[] #[.pointer (some ⟨gb, 0, none⟩)]) ∧ w.heap.size ≤ g ∧ w.heap.size ≤ gb ∧
      w'.heap[g]? = some (.cells (rowC (spl 10 L)) 9 (0, 0)) ∧ Boxed w' gb 24 (.slice (some ⟨g, 0, none⟩) (spl 10 L).length (spl 10 L).length) ∧ Below w.heap.size w w' := by
  have HR := Aside0.mk hr
  have HC := Aside0.mk hc
  have HE := Aside0.mk hE
  have HO := Aside0.mk ho
  have HL := Aside0.mk hl
  clear hr hc hE ho hl
  go_enter Tryd.func34, Tryd.ntmps34
  go_wp2_with (first
    | (go_at_call 60; refine (bytes_Clone.calls A c L _ HR.out HC.out HL.out).mono ?_; rintro e w1 ⟨A1, c1, rfl, hC1, hb⟩; have HB := Aside0.mk hb; have hcv := Kd.C_string (P := Tryd.prog) (c := c1) Tryd.underlying22 Tryd.underlying5 Tryd.underlying9 hC1; clear hb hC1)
    | (go_at_call 59; refine (sSplit10.calls L HO.out HL.out _ (HE.out.below HB.out)).mono ?_; rintro e w2 ⟨rfl, rfl⟩))
  go_ret
  exact ⟨w1.heap.size, w1.heap.size + 1, rfl, HB.out.size, by have := HB.out.size; omega, by
    have h := heap_alloc_new w1 (.cells ((spl 10 L).map (fun p => .string (strOfNums p))).toArray 9)
    exact (Below.heap_alloc _ _ _ (by simp)).trans h, by
    have := Boxed.new (w1.alloc (.cells ((spl 10 L).map (fun p => .string (strOfNums p))).toArray 9)) 24 (.slice (some ⟨w1.heap.size, 0, none⟩) (spl 10 L).length (spl 10 L).length)
    rwa [World.size_alloc] at this, (HB.out.alloc HB.out.size _).alloc (by simp; have := HB.out.size; omega) _⟩
/-- An item: the line's number, the block of its fields, the fields. -/
abbrev LItem := Int × Nat × List (List Int)
def LItem.enc (x : LItem) : Array Value := #[.agg #[.int .i64 x.1, .slice (some ⟨x.2.1, 0, none⟩) x.2.2.length x.2.2.length]]
def LItem.pr (x : LItem) : Int × List (List Int) := (x.1, x.2.2)
def LItem.at_ (x : LItem) (W : World) : Prop := W.heap[x.2.1]? = some (.cells (rowC x.2.2) 9 (0, 0))
theorem fldC_all (Y : List (List Int)) : fldC Y Y.length = rowC (Y.map trimL) := by
  unfold fldC rowC fldA
  rw [List.take_length, List.drop_length, List.append_nil]
theorem EnvF.keep {T : Nat → Prop} {A B : World} (h : EnvF A) (k : KeepC T A B) (h0 : ¬ T 0) (h6 : ¬ T 6) : EnvF B := by
  have key : ∀ (b i : Nat) (v : Value), ¬ T b → A.cell? ⟨b, i, none⟩ = some v → B.cell? ⟨b, i, none⟩ = some v := fun b i v hb hc => by
    unfold World.cell? at hc ⊢
    cases ho : A.heap[b]? with
    | none => simp only [ho] at hc; cases hc
    | some o =>
      simp only [ho] at hc
      cases o with
      | cells c t fr => simp only [k.2 b _ ho rfl hb]; exact hc
      | _ => cases hc
  obtain ⟨⟨m, h1⟩, h2⟩ := h
  exact ⟨⟨m, key _ _ _ h0 h1⟩, key _ _ _ h6 h2⟩
theorem row_cell {W : World} {g i : Nat} {X : List (List Int)} (h : W.heap[g]? = some (.cells (rowC X) 9 (0, 0))) (hi : i < X.length) : W.cell? ⟨g, i, none⟩ = some (.string (strOfNums X[i])) := by
  unfold World.cell?
  rw [h]
  show (rowC X)[i]? = _
  unfold rowC
  simp [hi]
set_option maxHeartbeats 4000000 in
set_option maxRecDepth 100000 in
/-- The iterator: every body that keeps all cells but those of T, to which neither the lines' row nor what the functions read belong. -/
theorem field_Lines.stops (L : List Int) (ho : Oct L) (hl : L.length ≤ 1000000) (g gb : Nat) (w : World) (T : Nat → Prop) (hE : EnvF w) (hT0 : ¬ T 0) (hT6 : ¬ T 6) (hTg : ¬ T g)
    (hg : w.heap[g]? = some (.cells (rowC (spl 10 L)) 9 (0, 0))) (hb : Boxed w gb 24 (.slice (some ⟨g, 0, none⟩) (spl 10 L).length (spl 10 L).length)) (n : Nat) (hn : 3 ≤ n) :
    SeqPr Fence.wide n Tryd.prog 61 #[.pointer (some ⟨gb, 0, none⟩)] LItem.enc (KeepC T) LItem.at_ (fun ys => ys.map LItem.pr = linesI 0 (spl 10 L)) (fun pre => pre.map LItem.pr <+: linesI 0 (spl 10 L)) w := fun l J Jx W hW hJ hJx hY h0 => by
  refine callsIn_of_wp Tryd.func61 rfl trivial ?_ rfl
  simp only [Tryd.ntmps61, List.size_toArray, List.length_cons, List.length_nil, Nat.reduceAdd, Nat.reduceSub, Array.replicate_succ, Array.replicate_zero, List.push_toArray, List.append_toArray, List.nil_append, List.cons_append]
  obtain ⟨X, hX⟩ : ∃ X, X = spl 10 L := ⟨_, rfl⟩
  have hXo : ∀ p ∈ X, Oct p := fun p hp => by rw [hX] at hp; exact oct_spl ho hp
  have hXl : ∀ p ∈ X, p.length ≤ 1000000 := fun p hp => by rw [hX] at hp; have := len_spl hp; omega
  have hXn : X.length ≤ 1000001 := by rw [hX]; have := splP_count (fun x => decide (x = (10 : Int))) L; unfold spl; omega
  rw [← hX] at hg hb hY ⊢
  have hbW : Boxed W gb 24 (.slice (some ⟨g, 0, none⟩) X.length X.length) := (hW.block _ hb.lt).trans hb
  have hgW : W.heap[g]? = some (.cells (rowC X) 9 (0, 0)) := (hW.block _ (Array.getElem?_eq_some_iff.1 hg).1).trans hg
  have HE := Aside0.mk (hE.below hW)
  have HG := Aside0.mk hgW
  have HJ := Aside0.mk hJ
  have HY := Aside0.mk hY
  have H0 := Aside0.mk h0
  have HXO := Aside0.mk hXo
  have HXL := Aside0.mk hXl
  have HXN := Aside0.mk hXn
  have HT := Aside0.mk (And.intro hT0 (And.intro hT6 hTg))
  have hcell := hbW.cell
  clear hX hXo hXl hXn hg hb hbW hgW hJ hJx hY h0 hE hT0 hT6 hTg hW ho hl
  gi_wp2
  clear hcell
  gi_loopg [8] (X.length + 1) (fun kq s8 wr => ∃ (i : Nat) (pre : List LItem), s8 = .int .i64 (i : Int) ∧ Aside0 (i + kq = X.length + 1 ∧ i ≤ X.length) ∧ Aside0 (pre.map LItem.pr = linesI 0 (X.take i)) ∧ Aside0 (J pre wr) ∧ Aside0 (KeepC T W wr))
  case atStart => exact ⟨0, [], rfl, ⟨by omega, by omega⟩, ⟨by simp [linesI]⟩, H0, ⟨KeepC.refl _ _⟩⟩
  case round =>
    obtain ⟨i, pre, rfl, HI, HP, HJp, KK⟩ := hrel
    cases gk with
    | zero => exact absurd HI.out (by omega)
    | succ kq =>
      by_cases c1 : (i : Int) < (X.length : Int)
      · have hi : i < X.length := by omega
        have hge : wr.heap[g]? = some (.cells (rowC X) 9 (0, 0)) := KK.out.2 g _ HG.out rfl HT.out.2.2
        have hcl := row_cell hge hi
        obtain ⟨p, hp⟩ : ∃ p, p = X[i] := ⟨_, rfl⟩
        rw [← hp] at hcl
        have hpm : p ∈ X := hp ▸ List.getElem_mem hi
        have hop := HXO.out p hpm
        have hlp := HXL.out p hpm
        have htk : X.take (i + 1) = X.take i ++ [p] := by rw [hp, List.take_append_getElem]
        have hln := linesI_app (X.take i) 0 p
        rw [← htk, List.length_take, Nat.min_eq_left (by omega), Nat.zero_add] at hln
        have HII := Aside0.mk hi
        have HLN := Aside0.mk hln
        have hEw : EnvF wr := HE.out.keep KK.out HT.out.1 HT.out.2.1
        have HEW := Aside0.mk hEw
        have HST := Aside0.mk (fun w => sStrip.calls p hop hlp w)
        have e0 := eq_true c1
        have e1 : decide ((i : Int) < (X.length : Int)) = true := decide_eq_true c1
        have e2 : (i < X.length) = True := eq_true hi
        have m2 : wrap64 ((i : Int) + 1) = (i : Int) + 1 := w64 (by omega) (by have := HXN.out; omega)
        obtain ⟨q, hq⟩ : ∃ q, q = stripCR p := ⟨_, rfl⟩
        rw [← hq] at HST HLN
        have hoq : Oct q := by rw [hq]; exact oct_strip hop
        have hlq : q.length ≤ 1000000 := by rw [hq]; have := len_strip p; omega
        obtain ⟨sp, hsp⟩ : ∃ s, s = strOfNums p := ⟨_, rfl⟩
        rw [← hsp] at hcl HST
        by_cases hn : trimL (bodyL q) = []
        · have hf : fieldsL q = none := by unfold fieldsL; rw [if_pos hn]
          rw [hf] at HLN
          have HF := Aside0.mk (fun w hE => field_fields.callsN q hoq hlq hn w hE)
          obtain ⟨sq, hsq⟩ : ∃ s, s = strOfNums q := ⟨_, rfl⟩
          rw [← hsq] at HST HF
          clear c1 hi hge hp hpm hop hlp htk hln hEw hq hoq hlq hsp hn hf hsq
          gi_wp2_with (first
            | (refine ⟨trivial, (fun h => by cases h), ?_⟩; gi_at_call 63; (refine (callsIn_wide.2 (HST.out _)).mono ?_); rintro e w1 ⟨rfl, rfl⟩)
            | (refine ⟨trivial, (fun h => by cases h), ?_⟩; gi_at_call 62; (refine (callsIn_wide.2 (HF.out _ HEW.out)).mono ?_); rintro e w2 ⟨rfl, hb⟩; have HB := Aside0.mk hb; clear hb))
          repeat (refine ⟨(fun f h => by cases h), ?_⟩; (try gi_wp2))
          gi_roundg kq
          case measure => omega
          case rel =>
            exact ⟨i + 1, pre, by first | rfl | (rw [m2]; rfl), ⟨by have := HI.out; omega, by have := HII.out; omega⟩, ⟨by rw [HP.out, HLN.out, List.append_nil]⟩, ⟨HJ.out _ _ _ none HJp.out (grownBy_none_of_below HB.out) (fun r e => by cases e)⟩, ⟨KK.out.trans (KeepC.of_below HB.out)⟩⟩
        · have hf : fieldsL q = some ((spl 59 (bodyL q)).map trimL) := by unfold fieldsL; rw [if_neg hn]
          rw [hf] at HLN
          obtain ⟨Y, hY⟩ : ∃ Y, Y = spl 59 (bodyL q) := ⟨_, rfl⟩
          rw [← hY] at HLN
          have HF := Aside0.mk (fun w hE => field_fields.callsS Y q hoq hlq hn hY w hE)
          obtain ⟨sq, hsq⟩ : ∃ s, s = strOfNums q := ⟨_, rfl⟩
          rw [← hsq] at HST HF
          have hYl : (Y.map trimL).length = Y.length := List.length_map ..
          have HYL := Aside0.mk hYl
          clear c1 hi hge hp hpm hop hlp htk hln hEw hq hoq hlq hsp hn hf hsq hY hYl
          gi_wp2_with (first
            | (refine ⟨trivial, (fun h => by cases h), ?_⟩; gi_at_call 63; (refine (callsIn_wide.2 (HST.out _)).mono ?_); rintro e w1 ⟨rfl, rfl⟩)
            | (refine ⟨trivial, (fun h => by cases h), ?_⟩; gi_at_call 62; (refine (callsIn_wide.2 (HF.out _ HEW.out)).mono ?_); rintro e w2 ⟨gf, rfl, hgl, hgf, hb⟩
               have HB := Aside0.mk hb
               rw [fldC_all] at hgf
               have hj2 := HJ.out _ _ _ none HJp.out (grownBy_none_of_below hb) (fun r e => by cases e)
               obtain ⟨fn, tmps, assign, body, hy, hRR⟩ := HY.out pre (((i : Int) + 1, gf, Y.map trimL) : LItem) w2 hj2 hgf (by
                 rw [List.map_append, HP.out]
                 have : [(((i : Int) + 1, gf, Y.map trimL) : LItem)].map LItem.pr = [((i : Int) + 1, Y.map trimL)] := rfl
                 rw [this, ← HLN.out]
                 have := linesI_pre (X.drop (i + 1)) (X.take (i + 1))
                 rwa [List.take_append_drop] at this)
               have HRR := Aside0.mk hRR
               simp only [LItem.enc, HYL.out] at hy
               clear hb hgf hj2 hRR hgl))
          refine ⟨fun _ => by omega, ?_⟩
          refine HRR.out.mono ?_
          rintro e W3 (⟨rfl, hJ3, hk3⟩ | ⟨rfl, hJx3⟩)
          · have HJ3 := Aside0.mk hJ3
            have HK3 := Aside0.mk ((KK.out.trans (KeepC.of_below HB.out)).trans hk3)
            clear hJ3 hk3 HRR hy hcl
            gi_wp2
            gi_roundg kq
            case measure => omega
            case rel =>
              exact ⟨i + 1, pre ++ [(((i : Int) + 1, gf, Y.map trimL) : LItem)], by first | rfl | (rw [m2]; rfl), ⟨by have := HI.out; omega, by have := HII.out; omega⟩, ⟨by rw [List.map_append, HP.out, HLN.out]; rfl⟩, HJ3, HK3⟩
          · have HJX := Aside0.mk hJx3
            have HSP : Aside0 ((pre ++ [(((i : Int) + 1, gf, Y.map trimL) : LItem)]).map LItem.pr <+: linesI 0 X) := ⟨by
              rw [List.map_append, HP.out]
              have h1 : [(((i : Int) + 1, gf, Y.map trimL) : LItem)].map LItem.pr = [((i : Int) + 1, Y.map trimL)] := rfl
              rw [h1, ← HLN.out]
              have := linesI_pre (X.drop (i + 1)) (X.take (i + 1))
              rwa [List.take_append_drop] at this⟩
            clear hJx3 HRR hy hcl
            gi_wp2
            refine bodyPost_ret (results_none rfl _ _ _) rfl ?_
            exact ⟨⟨_, rfl⟩, .inr ⟨_, HSP.out, HJX.out⟩⟩
      · have e0 := eq_false c1
        have e1 : decide ((i : Int) < (X.length : Int)) = false := decide_eq_false c1
        have hi : i = X.length := by have := HI.out; omega
        subst hi
        clear c1
        gi_wp2
        go_end0
        exact ⟨⟨_, rfl⟩, .inl ⟨pre, by rw [HP.out, List.take_length], HJp.out⟩⟩
end Go.Proofs.YtdnfmilnkoocdaaDoor.Q

-- from Hfrg
/- field.Range: the walk. -/
namespace Go.Proofs.YtdnfmilnkoocdaaDoor.Q
open Go.RowKit Go.Shelf Go.Proofs.YtdnfmilnkoocdaaDoorW.PrintWords Go.Proofs.YtdnfmilnkoocdaaDoorW.PrintLast Go.Proofs.YtdnfmilnkoocdaaDoorW.PrintMore Go.Proofs.YtdnfmilnkoocdaaDoor.K
set_option linter.unusedVariables false
set_option linter.unusedSimpArgs false

theorem sCut2.calls (L : List Int) (ho : Oct L) (hl : L.length ≤ 1000000) (w : World) (hE : EnvF w) : Calls Tryd.prog 66 #[.string (strOfNums L), .string ⟨#[46, 46]⟩] w fun e w' =>
    e = .returned (match dots L with
      | none => .tuple #[.string (strOfNums L), .string (strOfNums []), .bool false]
      | some i => .tuple #[.string (strOfNums (L.take i)), .string (strOfNums (L.drop (i + 2))), .bool true]) ∧ Below w.heap.size w w' := by
  obtain ⟨⟨m, hm⟩, _⟩ := hE
  refine (Any.strings_Cut Tryd.lays145 (strOfNums L) ⟨#[46, 46]⟩ m w (by rw [size_str]; omega) hm).mono ?_
  rintro e w' ⟨rfl, n, rfl⟩
  refine ⟨?_, pw_below_drewN (Below.refl _ _) n⟩
  have hi := index_dots ho
  rw [show (⟨#[46, 46]⟩ : ByteArray).data.toList = [46, 46] from rfl, str_data]
  unfold Lib.cut
  cases hd : dots L with
  | none =>
    rw [hd] at hi
    rw [if_neg (by rw [hi]; decide)]
    simp only [str_of_bytes]
    rfl
  | some i =>
    rw [hd] at hi
    rw [if_pos (by rw [hi]; simp), hi]
    simp only [Int.toNat_natCast]
    have e1 : (⟨((Lib.bytesOf L).take i).toArray⟩ : ByteArray) = strOfNums (L.take i) := by rw [← str_of_bytes, Lib.bytesOf_take]
    have e2 : (⟨((Lib.bytesOf L).drop (i + ([46, 46] : List UInt8).length)).toArray⟩ : ByteArray) = strOfNums (L.drop (i + 2)) := by rw [← str_of_bytes]; simp [Lib.bytesOf, List.map_drop]
    rw [e1, e2]
set_option maxHeartbeats 1000000 in
set_option maxRecDepth 100000 in
theorem range_bad (s s1 s2 : ByteArray) (w : World) (HE : Aside0 (EnvF w)) (two : Bool) (HCUT : Aside0 (Calls Tryd.prog 66 #[.string s, .string ⟨#[46, 46]⟩] w fun e w' => e = .returned (.tuple #[.string s1, .string s2, .bool two]) ∧ Below w.heap.size w w')) (HPT : Aside0 (∀ w : World, EnvF w → Calls Tryd.prog 35 #[.string s1] w fun e w' => e = .returned (.tuple #[.int .i64 (pointR none).1, .int .i64 (pointR none).2]) ∧ Below w.heap.size w w')) :
    Calls Tryd.prog 37 #[.string s] w fun e w' => e = .returned (.tuple #[.int .i64 0, .int .i64 0, .int .i64 13]) ∧ Below w.heap.size w w' := by
  go_enter Tryd.func37, Tryd.ntmps37
  go_wp2_with (first
    | (go_at_call 66; refine HCUT.out.mono ?_; rintro e w1 ⟨rfl, hb⟩; have HB := Aside0.mk hb; clear hb)
    | (go_at_call 35; (with_reducible refine (HPT.out _ (HE.out.below HB.out)).mono ?_); rintro e w2 ⟨rfl, hb⟩; have HB2 := Aside0.mk hb; clear hb; dsimp only [pointR]))
  go_ret3
  exact ⟨rfl, HB.out.trans (HB2.out.mono HB.out.size)⟩
set_option maxHeartbeats 1000000 in
set_option maxRecDepth 100000 in
theorem range_one (s s1 s2 : ByteArray) (w : World) (HE : Aside0 (EnvF w)) (c : Nat) (HCUT : Aside0 (Calls Tryd.prog 66 #[.string s, .string ⟨#[46, 46]⟩] w fun e w' => e = .returned (.tuple #[.string s1, .string s2, .bool false]) ∧ Below w.heap.size w w')) (HPT : Aside0 (∀ w : World, EnvF w → Calls Tryd.prog 35 #[.string s1] w fun e w' => e = .returned (.tuple #[.int .i64 (pointR (some c)).1, .int .i64 (pointR (some c)).2]) ∧ Below w.heap.size w w')) :
    Calls Tryd.prog 37 #[.string s] w fun e w' => e = .returned (.tuple #[.int .i64 (c : Int), .int .i64 (c : Int), .int .i64 0]) ∧ Below w.heap.size w w' := by
  go_enter Tryd.func37, Tryd.ntmps37
  go_wp2_with (first
    | (go_at_call 66; refine HCUT.out.mono ?_; rintro e w1 ⟨rfl, hb⟩; have HB := Aside0.mk hb; clear hb)
    | (go_at_call 35; (with_reducible refine (HPT.out _ (HE.out.below HB.out)).mono ?_); rintro e w2 ⟨rfl, hb⟩; have HB2 := Aside0.mk hb; clear hb; dsimp only [pointR]))
  go_ret3
  exact ⟨rfl, HB.out.trans (HB2.out.mono HB.out.size)⟩
set_option maxHeartbeats 1000000 in
set_option maxRecDepth 100000 in
theorem range_bad2 (s s1 s2 : ByteArray) (w : World) (HE : Aside0 (EnvF w)) (a : Nat) (HCUT : Aside0 (Calls Tryd.prog 66 #[.string s, .string ⟨#[46, 46]⟩] w fun e w' => e = .returned (.tuple #[.string s1, .string s2, .bool true]) ∧ Below w.heap.size w w')) (HPT : Aside0 (∀ w : World, EnvF w → Calls Tryd.prog 35 #[.string s1] w fun e w' => e = .returned (.tuple #[.int .i64 (pointR (some a)).1, .int .i64 (pointR (some a)).2]) ∧ Below w.heap.size w w')) (HPT2 : Aside0 (∀ w : World, EnvF w → Calls Tryd.prog 35 #[.string s2] w fun e w' => e = .returned (.tuple #[.int .i64 (pointR none).1, .int .i64 (pointR none).2]) ∧ Below w.heap.size w w')) :
    Calls Tryd.prog 37 #[.string s] w fun e w' => e = .returned (.tuple #[.int .i64 0, .int .i64 0, .int .i64 13]) ∧ Below w.heap.size w w' := by
  go_enter Tryd.func37, Tryd.ntmps37
  go_wp2_with (first
    | (go_at_call 66; refine HCUT.out.mono ?_; rintro e w1 ⟨rfl, hb⟩; have HB := Aside0.mk hb; clear hb)
    | (go_at_call 35; (with_reducible refine (HPT.out _ (HE.out.below HB.out)).mono ?_); rintro e w2 ⟨rfl, hb⟩; have HB2 := Aside0.mk hb; clear hb; dsimp only [pointR])
    | (go_at_call 35; (with_reducible refine (HPT2.out _ ((HE.out.below HB.out).below HB2.out)).mono ?_); rintro e w3 ⟨rfl, hb⟩; have HB3 := Aside0.mk hb; clear hb; dsimp only [pointR]))
  go_ret3
  exact ⟨rfl, HB.out.trans ((HB2.out.mono HB.out.size).trans (HB3.out.mono (Nat.le_trans HB.out.size HB2.out.size)))⟩
set_option maxHeartbeats 1000000 in
set_option maxRecDepth 100000 in
theorem range_down (s s1 s2 : ByteArray) (w : World) (HE : Aside0 (EnvF w)) (a b : Nat) (h : b ≤ a) (HCUT : Aside0 (Calls Tryd.prog 66 #[.string s, .string ⟨#[46, 46]⟩] w fun e w' => e = .returned (.tuple #[.string s1, .string s2, .bool true]) ∧ Below w.heap.size w w')) (HPT : Aside0 (∀ w : World, EnvF w → Calls Tryd.prog 35 #[.string s1] w fun e w' => e = .returned (.tuple #[.int .i64 (pointR (some a)).1, .int .i64 (pointR (some a)).2]) ∧ Below w.heap.size w w')) (HPT2 : Aside0 (∀ w : World, EnvF w → Calls Tryd.prog 35 #[.string s2] w fun e w' => e = .returned (.tuple #[.int .i64 (pointR (some b)).1, .int .i64 (pointR (some b)).2]) ∧ Below w.heap.size w w')) :
    Calls Tryd.prog 37 #[.string s] w fun e w' => e = .returned (.tuple #[.int .i64 0, .int .i64 0, .int .i64 14]) ∧ Below w.heap.size w w' := by
  have e0 : ((b : Int) ≤ (a : Int)) = True := eq_true (by omega)
  have e1 : decide ((b : Int) ≤ (a : Int)) = true := decide_eq_true (by omega)
  have e2 : (b ≤ a) = True := eq_true h
  clear h
  go_enter Tryd.func37, Tryd.ntmps37
  go_wp2_with (first
    | (go_at_call 66; refine HCUT.out.mono ?_; rintro e w1 ⟨rfl, hb⟩; have HB := Aside0.mk hb; clear hb)
    | (go_at_call 35; (with_reducible refine (HPT.out _ (HE.out.below HB.out)).mono ?_); rintro e w2 ⟨rfl, hb⟩; have HB2 := Aside0.mk hb; clear hb; dsimp only [pointR])
    | (go_at_call 35; (with_reducible refine (HPT2.out _ ((HE.out.below HB.out).below HB2.out)).mono ?_); rintro e w3 ⟨rfl, hb⟩; have HB3 := Aside0.mk hb; clear hb; dsimp only [pointR]))
  go_ret3
  exact ⟨rfl, HB.out.trans ((HB2.out.mono HB.out.size).trans (HB3.out.mono (Nat.le_trans HB.out.size HB2.out.size)))⟩
set_option maxHeartbeats 1000000 in
set_option maxRecDepth 100000 in
theorem range_two (s s1 s2 : ByteArray) (w : World) (HE : Aside0 (EnvF w)) (a b : Nat) (h : ¬ b ≤ a) (HCUT : Aside0 (Calls Tryd.prog 66 #[.string s, .string ⟨#[46, 46]⟩] w fun e w' => e = .returned (.tuple #[.string s1, .string s2, .bool true]) ∧ Below w.heap.size w w')) (HPT : Aside0 (∀ w : World, EnvF w → Calls Tryd.prog 35 #[.string s1] w fun e w' => e = .returned (.tuple #[.int .i64 (pointR (some a)).1, .int .i64 (pointR (some a)).2]) ∧ Below w.heap.size w w')) (HPT2 : Aside0 (∀ w : World, EnvF w → Calls Tryd.prog 35 #[.string s2] w fun e w' => e = .returned (.tuple #[.int .i64 (pointR (some b)).1, .int .i64 (pointR (some b)).2]) ∧ Below w.heap.size w w')) :
    Calls Tryd.prog 37 #[.string s] w fun e w' => e = .returned (.tuple #[.int .i64 (a : Int), .int .i64 (b : Int), .int .i64 0]) ∧ Below w.heap.size w w' := by
  have e0 : ((b : Int) ≤ (a : Int)) = False := eq_false (by omega)
  have e1 : decide ((b : Int) ≤ (a : Int)) = false := decide_eq_false (by omega)
  have e2 : (b ≤ a) = False := eq_false h
  clear h
  go_enter Tryd.func37, Tryd.ntmps37
  go_wp2_with (first
    | (go_at_call 66; refine HCUT.out.mono ?_; rintro e w1 ⟨rfl, hb⟩; have HB := Aside0.mk hb; clear hb)
    | (go_at_call 35; (with_reducible refine (HPT.out _ (HE.out.below HB.out)).mono ?_); rintro e w2 ⟨rfl, hb⟩; have HB2 := Aside0.mk hb; clear hb; dsimp only [pointR])
    | (go_at_call 35; (with_reducible refine (HPT2.out _ ((HE.out.below HB.out).below HB2.out)).mono ?_); rintro e w3 ⟨rfl, hb⟩; have HB3 := Aside0.mk hb; clear hb; dsimp only [pointR]))
  go_ret3
  exact ⟨rfl, HB.out.trans ((HB2.out.mono HB.out.size).trans (HB3.out.mono (Nat.le_trans HB.out.size HB2.out.size)))⟩
theorem field_Range.calls (L : List Int) (ho : Oct L) (hl : L.length ≤ 1000000) (w : World) (hE : EnvF w) :
    Calls Tryd.prog 37 #[.string (strOfNums L)] w fun e w' => e = .returned (.tuple #[.int .i64 (rangeL L).1, .int .i64 (rangeL L).2.1, .int .i64 (rangeL L).2.2]) ∧ Below w.heap.size w w' := by
  have hcut := sCut2.calls L ho hl w hE
  unfold rangeL
  cases hd : dots L with
  | none =>
    rw [hd] at hcut
    have hpt := fun w hE => field_Point.calls L ho hl w hE
    cases hp : pointL L with
    | none => rw [hp] at hpt; exact range_bad _ _ _ w ⟨hE⟩ false ⟨hcut⟩ ⟨hpt⟩
    | some c => rw [hp] at hpt; exact range_one _ _ _ w ⟨hE⟩ c ⟨hcut⟩ ⟨hpt⟩
  | some i =>
    rw [hd] at hcut
    have hpt := fun w hE => field_Point.calls (L.take i) (ho.take i) (by rw [List.length_take]; omega) w hE
    have hpt2 := fun w hE => field_Point.calls (L.drop (i + 2)) (ho.drop (i + 2)) (by rw [List.length_drop]; omega) w hE
    show Calls _ _ _ _ fun e w' => e = .returned (.tuple #[.int .i64 (rangeE (pointL (L.take i)) (pointL (L.drop (i + 2)))).1, .int .i64 (rangeE (pointL (L.take i)) (pointL (L.drop (i + 2)))).2.1, .int .i64 (rangeE (pointL (L.take i)) (pointL (L.drop (i + 2)))).2.2]) ∧ _
    cases hp : pointL (L.take i) with
    | none =>
      rw [hp] at hpt
      have e : rangeE none (pointL (L.drop (i + 2))) = (0, 0, 13) := by cases pointL (L.drop (i + 2)) <;> rfl
      rw [e]
      exact range_bad _ _ _ w ⟨hE⟩ true ⟨hcut⟩ ⟨hpt⟩
    | some a =>
      rw [hp] at hpt
      cases hq : pointL (L.drop (i + 2)) with
      | none => rw [hq] at hpt2; exact range_bad2 _ _ _ w ⟨hE⟩ a ⟨hcut⟩ ⟨hpt⟩ ⟨hpt2⟩
      | some b =>
        rw [hq] at hpt2
        by_cases hab : b ≤ a
        · have e : rangeE (some a) (some b) = (0, 0, 14) := by show (if b ≤ a then _ else _) = _; rw [if_pos hab]
          rw [e]
          exact range_down _ _ _ w ⟨hE⟩ a b hab ⟨hcut⟩ ⟨hpt⟩ ⟨hpt2⟩
        · have e : rangeE (some a) (some b) = ((a : Int), (b : Int), 0) := by show (if b ≤ a then _ else _) = _; rw [if_neg hab]
          rw [e]
          exact range_two _ _ _ w ⟨hE⟩ a b hab ⟨hcut⟩ ⟨hpt⟩ ⟨hpt2⟩
end Go.Proofs.YtdnfmilnkoocdaaDoor.Q

-- from Hrrg
/- A region that draws its order, inside a round of a range over a function: the laws for regions outside of a fence serve there too. -/
namespace Go.Proofs.YtdnfmilnkoocdaaDoor.Q
open Go.RowKit Go.Shelf Go.Proofs.YtdnfmilnkoocdaaDoorW.PrintWords Go.Proofs.YtdnfmilnkoocdaaDoorW.PrintLast Go.Proofs.YtdnfmilnkoocdaaDoorW.PrintMore
set_option linter.unusedVariables false
set_option linter.unusedSimpArgs false

theorem rowsIn_wide {n : Nat} {P : Program} {row : String} {args : Array Value} {w : World} {R : Value → World → Prop} (h : Rows P row args w R) : RowsIn Fence.wide n P row args w R :=
  fun c cs _ => let ⟨v, w', r, s⟩ := h c cs; ⟨v, w', r, stepsIn_wide.2 s⟩
theorem wpOpIn_of_any {n : Nat} {P : Program} {ops : Array Oper} {Q : Exit → Act → World → Prop} (hQ : ¬ LetsOut Q) {i : Nat} {K K' : Act → World → Prop} (hK : ∀ a w, K a w → K' a w) {a : Act} {w : World} (h : wpOp P ops Q i K a w) : wpOpIn Fence.wide n P ops Q i K' a w := by
  unfold Go.wpOp at h
  unfold Go.wpOpIn
  cases ho : ops[i]? with
  | none => rw [ho] at h; exact hK _ _ h
  | some o =>
    rw [ho] at h
    simp only at h ⊢
    by_cases hw : Region.wanted o (yielded ops a.tmps) = true
    · rw [if_pos hw] at h ⊢
      rcases h with h | ⟨_, h⟩
      · refine ⟨fun _ _ => trivial, ?_⟩
        unfold Oper.wp at h
        rw [show Fence.wide.round = none from rfl, Oper.semAt_none]
        generalize (execOp a.eval o).run P w = r at h ⊢
        cases r with
        | ok nx w1 =>
          cases nx with
          | value v => exact hK _ _ h
          | skip => exact hK _ _ h
          | defer d => exact hK _ _ h
          | enter f args =>
            refine ⟨(fun e => by cases e), callsIn_wide.2 (Calls.mono h ?_)⟩
            intro e w2 he
            cases e with
            | returned v => exact hK _ _ he
            | panicked c => exact he
            | outgrown => exact he
          | row rw_ args => exact ⟨(fun e => by cases e), rowsIn_wide (Rows.mono h (fun v w2 hv => hK _ _ hv))⟩
          | _ => exact h.elim
        | halt x w1 =>
          cases x <;> first | exact h | exact h.elim
      · exact absurd h hQ
    · rw [if_neg hw] at h ⊢
      exact ⟨fun _ _ => trivial, hK _ _ h⟩
theorem wpAnyIn_of_any {n : Nat} {P : Program} {md : Region.Mode} {ops : Array Oper} {Q : Exit → Act → World → Prop} (hQ : ¬ LetsOut Q) : ∀ (fuel : Nat) (listed : Array Bool) (a : Act) (w : World), wpAny P md ops Q fuel listed a w → wpAnyIn Fence.wide n P md ops Q fuel listed a w
  | 0, _, _, _, h => h
  | fuel + 1, _, _, _, h => ⟨h.1, fun i hi => wpOpIn_of_any hQ (fun a' w' h' => wpAnyIn_of_any hQ fuel _ a' w' h') (h.2 i hi)⟩
/-- Behind the region nothing but what comes next, in the state that K tells. -/
def onlyK (K : Act → World → Prop) : Exit → Act → World → Prop
  | .normal, a, w => K a w
  | _, _, _ => False
/-- In a round: a region that draws. -/
theorem wpIn_region_round {n l id : Nat} {P : Program} {ops : Array Oper} {Q : Exit → Act → World → Prop} {a : Act} {w : World} (hm : P.follows .mixedOrders = true) (hno : noDefer ops = true)
    (h : wpAny P .any ops (onlyK (Q .normal)) ops.size (Array.replicate ops.size false) a w.drew) : (Code.region id ops true).wpIn (Fence.wide.inRound l) n P Q a w := by
  refine wpIn_mono (Q := onlyK (Q .normal)) ?_ (fun e a w he => by cases e <;> first | exact he | exact he.elim)
  exact wpIn_region_any hm (wpAnyIn_round rfl hno _ _ _ _ (wpAnyIn_of_any (fun ⟨_, _, h⟩ => h) _ _ _ _ h))
/-- The same by the held laws. -/
theorem wpIn_region_round_held {n l id : Nat} {P : Program} {ops : Array Oper} {Q : Exit → Act → World → Prop} {a : Act} {w : World} (S : World → Prop) (hm : P.follows .mixedOrders = true) (hno : noDefer ops = true)
    (h : wpAnyH P .any ops (onlyK (Q .normal)) S ops.size (Array.replicate ops.size false) a w.drew) : (Code.region id ops true).wpIn (Fence.wide.inRound l) n P Q a w :=
  wpIn_region_round hm hno (wpAny_of_held _ _ _ _ h)
end Go.Proofs.YtdnfmilnkoocdaaDoor.Q

-- from Hlit
namespace Go.Proofs.YtdnfmilnkoocdaaDoor.Q
open Go.RowKit Go.Proofs.YtdnfmilnkoocdaaDoorW.PrintWords Go.Proofs.YtdnfmilnkoocdaaDoorW.PrintLast Go.Proofs.YtdnfmilnkoocdaaDoorW.PrintMore
set_option linter.unusedVariables false

/-- A literal of octets, '[]byte("..")'. -/
def bytesLit.f (l : List Int) : Option (List Int) := some l

theorem bytesLit.cells {W : World} {e : Nat} {xs : List Int} {C : Array Value} {p : Nat × Nat} {g : Nat} (hC : C = (xs.map (Value.int .u8)).toArray) (hl : xs.length ≤ 9223372036854775807) (h : W.heap[g]? = some (.cells C e p)) :
    Kd.C (Kd.int .u8) W (some ⟨g, 0, none⟩) xs.length xs := by
  refine Kd.C_of_reads (d := (0 : Int)) ⟨rfl, hl, fun _ => ⟨_, rfl, fun j hj => ?_⟩⟩
  rw [add_plain, cell_of_row W g j C e p h, hC]
  simp [List.getD_eq_getElem?_getD, List.getElem?_eq_getElem hj]

theorem bytesLit.step {P : Program} {W : World} {ops : Array Oper} {rest : List Oper} {o : Oper} {a : Act} {Q : Exit → Act → World → Prop} {C : Array Value} {n c : Nat} (t e : TypeId) (s : Operand) (xs r : List Int) (h : bytesLit.f xs = some r)
    (hgd : o.guard = none) (hop : o.op = .convert t t s) (hs : a.eval s = .slice (some ⟨W.heap.size, 0, none⟩) n c) (ht : P.underlying t = some (.slice e)) (he : P.underlying e = some (.int .u8))
    (hC : C = (xs.map (Value.int .u8)).toArray) (hn : n = xs.length) (hc : n ≤ c) (hl : xs.length ≤ 9223372036854775807)
    (hk : ∀ v w1, Kd.V (Kd.int .u8) e w1 W.heap.size (fun k => W.heap.size ≤ k) v r → Below W.heap.size W w1 → wpList P ops Q rest (a.put o.dst v) w1) :
    wpList P ops Q (o :: rest) a (W.alloc (.cells C e)) := by
  obtain rfl := Option.some.inj h
  have hr := Lib.run_convert_bytes_const (P := P) W t e C n c ht he
  refine wpList_plain hgd fun K hK => ?_
  unfold Oper.wp execOp
  simp only [hop, hs]
  have hr2 : (do let v ← convert t t (.slice (some ⟨W.heap.size, 0, none⟩) n c); pure (Next.value v) : Sem Next).run P (W.alloc (.cells C e)) = .ok (.value (.slice (some ⟨W.heap.size, 0, none⟩) n c)) (W.alloc (.cells C e (C.size, C.size + 1))) := by
    rw [Sem.run_bind, hr]; rfl
  first | rw [hr2] | (simp only [Sem.run_bind, hr, Sem.run_pure, Result.andThen_ok]) 
  refine hK _ _ (hk _ _ ?_ ((Below.refl _ W).alloc (Nat.le_refl _) _))
  subst hn
  refine Kd.V_mk hc (fun W' hW => ?_)
  refine bytesLit.cells hC hl (e := e) (p := (C.size, C.size + 1)) ?_
  rw [hW W.heap.size (Nat.le_refl _) (by simp)]
  exact heap_alloc_new W _

end Go.Proofs.YtdnfmilnkoocdaaDoor.Q

-- from Hfaw
/- Layer 2's law: awake. -/
namespace Go.Proofs.YtdnfmilnkoocdaaDoor.Q
open Go.RowKit Go.Shelf Go.Proofs.YtdnfmilnkoocdaaDoorW.PrintWords Go.Proofs.YtdnfmilnkoocdaaDoorW.PrintLast Go.Proofs.YtdnfmilnkoocdaaDoorW.PrintMore Go.Proofs.YtdnfmilnkoocdaaDoor.K
set_option linter.unusedVariables false
set_option linter.unusedSimpArgs false
attribute [local go_sem] Oper.semAt_some

def aw2R : List Int := [48, 48, 52, 49, 46, 46, 48, 48, 53, 65]
def aw2L : List Int := [48, 48, 52, 49, 46, 46, 48, 48, 53, 65, 32, 59, 32, 80, 86, 65, 76, 73, 68, 32, 35, 32, 108, 101, 116, 116, 101, 114, 115, 10]
theorem aw2R_oct : Oct aw2R := fun x hx => by simp only [aw2R, List.mem_cons, List.not_mem_nil, or_false] at hx; omega
theorem aw2L_oct : Oct aw2L := fun x hx => by simp only [aw2L, List.mem_cons, List.not_mem_nil, or_false] at hx; omega
theorem hexT65 : hexT 65 = [48, 48, 52, 49] := by
  unfold hexT
  rw [hexL_step (by omega), hexL_one (by omega)]
  decide
theorem hexT90 : hexT 90 = [48, 48, 53, 65] := by
  unfold hexT
  rw [hexL_step (by omega), hexL_one (by omega)]
  decide
theorem aw2_range : rangeL aw2R = (65, 90, 0) := by
  have hd : dots aw2R = some 4 := by decide
  have h1 : pointL (aw2R.take 4) = some 65 := by
    rw [pointL_is, if_neg (by decide), show valF 0 (aw2R.take 4) = some 65 from by decide]
    unfold endP
    simp only
    rw [if_neg (by decide), if_pos (by rw [hexT65]; decide)]
  have h2 : pointL (aw2R.drop (4 + 2)) = some 90 := by
    rw [pointL_is, if_neg (by decide), show valF 0 (aw2R.drop (4 + 2)) = some 90 from by decide]
    unfold endP
    simp only
    rw [if_neg (by decide), if_pos (by rw [hexT90]; decide)]
  unfold rangeL
  rw [hd]
  simp only
  rw [h1, h2]
  decide
def aw2F : List (List Int) := [aw2R, [80, 86, 65, 76, 73, 68]]
theorem aw2_lines : linesI 0 (spl 10 aw2L) = [(1, aw2F)] := by decide +kernel
set_option maxHeartbeats 4000000 in
set_option maxRecDepth 100000 in
theorem paronymlaw02_awake.calls0 (w : World) (hE : EnvF w) : Calls Tryd.prog 32 #[] w fun e w' => e = .returned (.bool true) ∧ Below w.heap.size w w' := by
  have HE := Aside0.mk hE
  have hr := fun w hE => field_Range.calls aw2R aw2R_oct (by decide) w hE
  rw [aw2_range] at hr
  have HR := Aside0.mk hr
  have hcv : ∀ (W : World) (C : Array Value) (n c : Nat), (convert 22 22 (.slice (some ⟨W.heap.size, 0, none⟩) n c)).run Tryd.prog (W.alloc (.cells C 5)) = _ := fun W C n c => Lib.run_convert_bytes_const (P := Tryd.prog) W 22 5 C n c Tryd.underlying22 Tryd.underlying5
  clear hE hr
  refine (callsIn_wide (n := 20)).1 ?_
  refine callsIn_of_wp_marks Tryd.func32 rfl trivial ?_ rfl
  simp only [Tryd.ntmps32, List.size_toArray, List.length_cons, List.length_nil, Nat.reduceAdd, Nat.reduceSub, Array.replicate_succ, Array.replicate_zero, List.push_toArray, List.append_toArray, List.nil_append, List.cons_append]
  refine wpIn_wide.2 ?_
  go_wp2_with (first
    | (go_at_call 37; refine (HR.out _ HE.out).mono ?_; rintro e w1 ⟨rfl, hb⟩; have HB := Aside0.mk hb; clear hb)
    | ((with_reducible refine gate_dst (N := 22) rfl ?_); (try (refine gate_guard (by rfl) ?_; dsimp only)); refine bytesLit.step 22 5 _ aw2L aw2L rfl rfl rfl (by rw [World.size_alloc]; rfl) Tryd.underlying22 Tryd.underlying5 rfl rfl (by decide) (by decide) ?_; intro v1 w2 hv1 hb2; have HV1 := Aside0.mk hv1; have HB2 := Aside0.mk hb2; clear hv1 hb2)
    | (go_at_call 34
       obtain ⟨A1, c1, rfl⟩ := Kd.V_slice HV1.out
       obtain ⟨-, hc1, hC1⟩ := Kd.V_reads' HV1.out
       have hE1 : EnvF w1 := HE.out.below HB.out
       have hb1 : Below w1.heap.size w1 w2 := ((Below.refl _ w1).alloc (Nat.le_refl _) _).trans (HB2.out.mono (by simp))
       have hn1 : Boxed w2 w1.heap.size 3 (.int .i64 0) := (HB2.out.block _ (by simp)).trans (Boxed.new w1 3 (.int .i64 0))
       refine (field_Lines.calls A1 c1 aw2L aw2L_oct (by decide) w2 (hE1.below hb1) hC1 hc1).mono ?_
       rintro e w3 ⟨g, gb, rfl, hg0, hgb0, hg, hgb, hb3⟩
       have hb : Below w1.heap.size w1 w3 := hb1.trans (hb3.mono hb1.size)
       have hlt1 : w1.heap.size < w2.heap.size := hn1.lt
       have hn3 : Boxed w3 w1.heap.size 3 (.int .i64 0) := (hb3.block _ hlt1).trans hn1
       have HG := Aside0.mk (And.intro hg0 hgb0)
       have HLT := Aside0.mk hlt1
       have HS3 := Aside0.mk hg
       have HX3 := Aside0.mk hgb
       have HB3 := Aside0.mk hb
       have HN3 := Aside0.mk hn3
       have HE3 := Aside0.mk (hE1.below hb)
       clear hg0 hgb0 hg hgb hb3 hb hn3 hn1 hb1 hE1 hc1 hC1 hlt1 HV1))
  have hsz := HB.out.size
  have HB0 := Aside0.mk HB.out
  have hE0 := HE.out
  obtain ⟨⟨m0, hm0⟩, hm6⟩ := hE0
  have lt_of : ∀ (b i : Nat) (v : Value), w.cell? ⟨b, i, none⟩ = some v → b < w.heap.size := fun b i v h => by
    unfold World.cell? at h
    by_cases hb : b < w.heap.size
    · exact hb
    · simp only [Array.getElem?_eq_none (Nat.le_of_not_lt hb)] at h; cases h
  have h0 := lt_of _ _ _ hm0
  have h6 := lt_of _ _ _ hm6
  have hst := field_Lines.stops aw2L aw2L_oct (by decide) g gb w3 (fun k => k = w1.heap.size) HE3.out (fun e => by omega) (fun e => by omega) (fun e => by have := HG.out.1; have := HLT.out; omega) HS3.out HX3.out 19 (by omega)
  have HST := Aside0.mk hst
  clear hst hcv hm0 hm6 lt_of h0 h6 hsz
  refine (wpIn_wide (n := 20)).1 ?_
  refine wpIn_range_as rfl (by omega) (gf := 61) (lb := #[.pointer (some ⟨gb, 0, none⟩)]) rfl trivial (enters_of Tryd.func61 (by kernel_rfl) rfl)
    HST.out KeepC.trans keepC_put (Below.refl _ _) (fun _ => rfl)
    (fun pre W => Boxed W w1.heap.size 3 (.int .i64 pre.length) ∧ Below w1.heap.size w1 W ∧ w3.heap.size ≤ W.heap.size) (fun c xs W => False)
    (OwnFrom.and (Own.from (boxed_own w1.heap.size 3 (fun pre : List LItem => .int .i64 pre.length)) _) (OwnFrom.and (ownFrom_below (Nat.le_refl _) HB3.out.size) (fun s W W' row hs hg hr => Nat.le_trans hs hg.size)))
    (fun c s W W' row hs hg hr => hs) ⟨HN3.out, HB3.out, Nat.le_refl _⟩
    (fun pre x a1 W => (∃ vb, a1 = { tmps := #[Value.bool false, Value.int IntKind.i64 65, Value.int IntKind.i64 90, Value.int IntKind.i64 0, Value.pointer (some { block := w1.heap.size, off := 0 }), Value.pointer (some { block := vb, off := 0 }), Value.tuple #[Value.int IntKind.i64 65, Value.int IntKind.i64 90, Value.int IntKind.i64 0], Value.tuple #[Value.int IntKind.i64 65, Value.int IntKind.i64 90, Value.int IntKind.i64 0], Value.int IntKind.i64 65, Value.int IntKind.i64 90, Value.int IntKind.i64 0, Value.int IntKind.i64 65, Value.bool false, Value.bool false, Value.int IntKind.i64 90, Value.bool false, Value.bool false, Value.bool false, Value.int IntKind.i64 0, Value.bool false, Value.bool false, Value.slice (some { block := w1.heap.size + 1, off := 0 }) 30 30, Value.slice A1 aw2L.length c1, Value.func (Fn.func 61) #[] #[Value.pointer (some { block := gb, off := 0 })], Value.agg #[Value.int IntKind.i64 x.1, Value.slice (some { block := x.2.1, off := 0 }) x.2.2.length x.2.2.length], undef, undef, undef, undef, undef, undef, undef, undef, undef, undef, undef, undef, undef, undef, undef, undef, undef, undef, undef, undef], defers := [] } ∧ w3.heap.size ≤ vb ∧ W.heap[vb]? = some (.cells #[.int .i64 x.1, .slice (some ⟨x.2.1, 0, none⟩) x.2.2.length x.2.2.length] 59 (0, 0))) ∧ x.at_ W ∧ Boxed W w1.heap.size 3 (.int .i64 pre.length) ∧ Below w1.heap.size w1 W ∧ w3.heap.size ≤ W.heap.size)
    (fun pre x a1 s W W' row hs hg hr => by
      obtain ⟨⟨vb, h1, h2, h3⟩, h4, h5, h6, h7⟩ := hs
      have key : ∀ (b : Nat) (C : Array Value) (t : TypeId) (p : Nat × Nat), W.heap[b]? = some (.cells C t p) → W'.heap[b]? = some (.cells C t p) := fun b C t p h => (hg.block b (Array.getElem?_eq_some_iff.1 h).1 (fun e => by
        obtain ⟨_, o, ho, hc⟩ := hr b e.symm
        rw [h] at ho
        cases ho
        cases hc)).trans h
      exact ⟨⟨vb, h1, h2, key _ _ _ _ h3⟩, key _ _ _ _ h4, key _ _ _ _ h5, h6.grown hg (Nat.le_trans HB3.out.size h7) (fun k e => Nat.le_trans HB3.out.size (hr k e).1), Nat.le_trans h7 hg.size⟩) ?assign ?body ?done ?stop
  case assign =>
    rintro l pre x W K hI hat hK
    have HI := Aside0.mk hI
    have HK := Aside0.mk hK
    have HAT := Aside0.mk hat
    clear hI hK hat
    simp only [LItem.enc]
    gi_wp2
    obtain ⟨hN, hB, hS⟩ := HI.out
    refine HK.out _ _ ((KeepsOthers.alloc W _).from _) (KeepC.of_below ((Below.refl _ W).alloc (Nat.le_refl _) _)) ⟨⟨W.heap.size, rfl, hS, heap_alloc_new W _⟩, ?_, hN.alloc _, hB.alloc (Nat.le_trans HB3.out.size hS) _, by simp; omega⟩
    exact (Below.heap_alloc _ _ _ (Array.getElem?_eq_some_iff.1 HAT.out).1).trans HAT.out
  case body =>
    rintro l pre x a1 W ⟨⟨vb, rfl, hvl, hvb⟩, hat, hN, hB, hS⟩ hsp
    have hx : pre = [] ∧ LItem.pr x = (1, aw2F) := by
      rw [aw2_lines] at hsp
      cases pre with
      | nil => exact ⟨rfl, by obtain ⟨t, ht⟩ := hsp; simp only [List.nil_append, List.map_cons, List.map_nil, List.cons_append, List.cons.injEq] at ht; exact ht.1⟩
      | cons y ys =>
        exfalso
        have := hsp.length_le
        simp at this
    obtain ⟨rfl, hx⟩ := hx
    obtain ⟨x1, xg, xf⟩ := x
    simp only [LItem.pr, Prod.mk.injEq] at hx
    obtain ⟨rfl, rfl⟩ := hx
    have hx0 : W.cell? ⟨vb, 0, none⟩ = some (.int .i64 1) := by simp only [World.cell?]; rw [hvb]; rfl
    have hx1 : W.cell? ⟨vb, 1, none⟩ = some (.slice (some ⟨xg, 0, none⟩) 2 2) := by simp only [World.cell?]; rw [hvb]; rfl
    have hx2 : W.cell? ⟨xg, 1, none⟩ = some (.string ⟨#[80, 86, 65, 76, 73, 68]⟩) := row_cell (W := W) (g := xg) (i := 1) (X := aw2F) hat (by decide)
    have hcN := hN.cell
    have hfN := hN.frozen
    have HN := Aside0.mk hN
    have HB := Aside0.mk hB
    have HS := Aside0.mk hS
    simp only [show aw2F.length = 2 from rfl, List.length_nil, Int.ofNat_zero] at *
    clear hvb hat hN hB hS hsp
    gi_wp2
    exact ⟨(KeepsOthers.setCell _ _ _).from _, KeepC.of_set rfl, Boxed.set _ HN.out, HB.out.setCell (p := ⟨w1.heap.size, 0, none⟩) (Nat.le_refl _) _, by show w3.heap.size ≤ (World.setCell _ _ _).heap.size; simp; exact HS.out⟩
  case stop => rintro D c pre W hD hSp hI hK; exact hI.elim
  case done =>
    rintro D ys W hD hys ⟨hN, hB, hS⟩ hK
    have hy1 : ys.length = 1 := by rw [← List.length_map (f := LItem.pr), hys, aw2_lines]; rfl
    rw [hy1] at hN
    have hcN := hN.cell
    have HB := Aside0.mk hB
    have HS := Aside0.mk hS
    have HK := Aside0.mk hK
    clear hN hB hS hK hys
    go_wp2
    refine ⟨by simp, .inl ⟨_, _, rfl, run_takeDeferred (w := W) HK.out, ?_⟩⟩
    exact ⟨_, by simp [results, Tryd.results32, go_sem], rfl, (HB0.out.trans (HB.out.mono HB0.out.size)).grown (grownBy_putObj' W D _) (HB0.out.trans (HB.out.mono HB0.out.size)).size (fun k e => by cases e; have := HB3.out.size; have := HB0.out.size; omega)⟩
end Go.Proofs.YtdnfmilnkoocdaaDoor.Q

-- from Qf68
-- Made by hp.py, a program of this session, with the kit's printer. Not trusted: Lean checks it.
namespace Go.Proofs.YtdnfmilnkoocdaaDoor.Q
open Go.RowKit Go.Proofs.YtdnfmilnkoocdaaDoorW.PrintWords Go.Proofs.YtdnfmilnkoocdaaDoorW.PrintLast Go.Proofs.YtdnfmilnkoocdaaDoorW.PrintMore
attribute [local go_sem] max2_int min2_int max_two min_two max_three min_three max_four min_four   -- for this text's walks alone
set_option linter.unusedVariables false
set_option linter.unusedSimpArgs false

/-! ### paronymref01_Compare: function 68 -/
mutual
def paronymref01_Compare.l0 : Nat → List Int → List Int → Int → Option (Int)
  | 0, _, _, _ => none
  | k + 1, x0, x1, x5 => if x5 < (x0.length : Int) then (paronymref01_Compare.j1 k x0 x1 x5 (decide (x5 < (x1.length : Int)))) else (paronymref01_Compare.j1 k x0 x1 x5 false)
def paronymref01_Compare.j1 : Nat → List Int → List Int → Int → Bool → Option (Int)
  | 0, _, _, _, _ => none
  | k + 1, x0, x1, x5, x15 => if x15 = true then (if 0 ≤ x5 then (if x5 < (x0.length : Int) then (if x5 < (x1.length : Int) then (if (rd x0 x5) < (rd x1 x5) then (some (-1)) else (if (rd x0 x5) > (rd x1 x5) then (some 1) else (paronymref01_Compare.l0 k x0 x1 (wrap64 (x5 + 1))))) else (none)) else (none)) else (none)) else (if (x0.length : Int) < (x1.length : Int) then (some (-1)) else (if (x0.length : Int) > (x1.length : Int) then (some 1) else (some 0)))
end
def paronymref01_Compare.f (k : Nat) (l0 : List Int) (l1 : List Int) : Option (Int) := paronymref01_Compare.l0 k l0 l1 0
theorem paronymref01_Compare.mono_l : ∀ k, (∀ y0 y1 y2, LeO (paronymref01_Compare.l0 k y0 y1 y2) (paronymref01_Compare.l0 (k + 1) y0 y1 y2)) ∧ (∀ y0 y1 y2 y3, LeO (paronymref01_Compare.j1 k y0 y1 y2 y3) (paronymref01_Compare.j1 (k + 1) y0 y1 y2 y3))
  | 0 => ⟨fun _ _ _ r h => by simp [paronymref01_Compare.l0] at h, fun _ _ _ _ r h => by simp [paronymref01_Compare.j1] at h⟩
  | k + 1 => by
    obtain ⟨ih0, ih1⟩ := paronymref01_Compare.mono_l k
    refine ⟨?_, ?_⟩
    · intro y0 y1 y2
      unfold paronymref01_Compare.l0
      repeat' first
      | (with_reducible exact ih0 _ _ _)
      | (with_reducible exact ih1 _ _ _ _)
      | (with_reducible exact LeO.refl _)
      | (with_reducible exact LeO.none _)
      | (with_reducible refine LeO.ite ?_ ?_)
      | (with_reducible refine LeO.bind ?_ (fun _ => ?_))
      | exact ih0 _ _ _
      | exact ih1 _ _ _ _
      | exact LeO.none _
      | refine LeO.ite ?_ ?_
      | refine LeO.bind ?_ (fun _ => ?_)
    · intro y0 y1 y2 y3
      unfold paronymref01_Compare.j1
      repeat' first
      | (with_reducible exact ih0 _ _ _)
      | (with_reducible exact ih1 _ _ _ _)
      | (with_reducible exact LeO.refl _)
      | (with_reducible exact LeO.none _)
      | (with_reducible refine LeO.ite ?_ ?_)
      | (with_reducible refine LeO.bind ?_ (fun _ => ?_))
      | exact ih0 _ _ _
      | exact ih1 _ _ _ _
      | exact LeO.none _
      | refine LeO.ite ?_ ?_
      | refine LeO.bind ?_ (fun _ => ?_)
theorem paronymref01_Compare.mono : ∀ a0 a1 k, LeO (paronymref01_Compare.f k a0 a1) (paronymref01_Compare.f (k + 1) a0 a1) := by
  intro a0 a1 k
  obtain ⟨ih0, ih1⟩ := paronymref01_Compare.mono_l k
  unfold paronymref01_Compare.f
  repeat' first
      | (with_reducible exact ih0 _ _ _)
      | (with_reducible exact ih1 _ _ _ _)
      | (with_reducible exact LeO.refl _)
      | (with_reducible exact LeO.none _)
      | (with_reducible refine LeO.ite ?_ ?_)
      | (with_reducible refine LeO.bind ?_ (fun _ => ?_))
      | exact ih0 _ _ _
      | exact ih1 _ _ _ _
      | exact LeO.none _
      | refine LeO.ite ?_ ?_
      | refine LeO.bind ?_ (fun _ => ?_)
set_option maxHeartbeats 8000000 in
set_option maxRecDepth 100000 in
theorem paronymref01_Compare.calls (k : Nat) (A0 : Option Addr) (c0 : Nat) (l0 : List Int) (A1 : Option Addr) (c1 : Nat) (l1 : List Int) (r : Int) (w : World) (hr0 : Kd.C (Kd.int .i64) w A0 l0.length l0) (hc0 : l0.length ≤ c0) (hr1 : Kd.C (Kd.int .i64) w A1 l1.length l1) (hc1 : l1.length ≤ c1) (h : paronymref01_Compare.f k l0 l1 = some r) :
    Calls Tryd.prog 68 #[.slice A0 l0.length c0, .slice A1 l1.length c1] w fun e w' => e = .returned (.int .i64 r) ∧ Drawn0 w w' := by
  have HR0 := Aside0.mk hr0
  have HC0 := Aside0.mk hc0
  clear hr0 hc0
  have HR1 := Aside0.mk hr1
  have HC1 := Aside0.mk hc1
  clear hr1 hc1
  have H : (paronymref01_Compare.l0 k l0 l1 0) = some r := h
  clear h
  have H' := Aside0.mk H
  clear H
  go_enter Tryd.func68, Tryd.ntmps68
  go_wp2
  repeat (go_quiet (fail); try go_wp2)
  go_loopg [5] k (fun kq v5 w' => ∃ (x5_1 : Int), v5 = .int .i64 x5_1 ∧ Aside0 (paronymref01_Compare.l0 kq l0 l1 x5_1 = some r) ∧ Aside0 (kq ≤ k) ∧ Drawn0 w w')
  case atStart => exact ⟨(0), (by first | rfl | (simp; done) | (simp [*]; done)), H', ⟨Nat.le_refl _⟩, by repeat (first | exact Drawn0.refl _ | apply Drawn0.step)⟩
  case round =>
    clear H'
    try clear c1
    try clear p2
    obtain ⟨x5_1, rfl, HA, HK1, ⟨m1, rfl⟩⟩ := hrel
    cases gk with
    | zero => exact absurd HA.out (by simp [paronymref01_Compare.l0])
    | succ k1 =>
      have H := HA.out
      clear HA
      simp only [paronymref01_Compare.l0] at H
      have HC3 := Aside0.mk H
      clear H
      go_upto_region 2 with (fail)
      repeat (go_quiet (fail); go_upto_region 2 with (fail))
      go_cut [15] (fun v15 wc => ∃ (kq : Nat) (x15_2 : Bool), v15 = .bool x15_2 ∧ Aside0 (paronymref01_Compare.j1 kq l0 l1 x5_1 x15_2 = some r) ∧ Aside0 (kq ≤ k1) ∧ Drawn0 w wc)
      case first =>
        have H := HC3.out
        clear HC3
        by_cases c4 : x5_1 < (l0.length : Int)
        · rw [if_pos c4] at H
          have c4b0 : decide (x5_1 < (l0.length : Int)) = true := decide_eq_true c4
          clear c4
          (first | rw [c4b0] | (simp only [i64_w, i32_w]; rw [c4b0]) | rw [c4b1] | (simp only [i64_w, i32_w]; rw [c4b1]) | skip)
          have H' := Aside0.mk H
          clear H
          go_wp2
          repeat (go_quiet (fail); try go_wp2)
          go_meet
          case rel => exact ⟨_, (decide (x5_1 < (l1.length : Int))), (by first | rfl | (simp; done) | (simp [*]; done)), H', ⟨by have := HK1.out; first | omega | exact Nat.le_refl _⟩, by repeat (first | exact Drawn0.refl _ | apply Drawn0.step)⟩
        · rw [if_neg c4] at H
          have c4b0 : decide (x5_1 < (l0.length : Int)) = false := decide_eq_false c4
          clear c4
          (first | rw [c4b0] | (simp only [i64_w, i32_w]; rw [c4b0]) | rw [c4b1] | (simp only [i64_w, i32_w]; rw [c4b1]) | skip)
          have H' := Aside0.mk H
          clear H
          go_wp2
          repeat (go_quiet (fail); try go_wp2)
          go_meet
          case rel => exact ⟨_, (false), (by first | rfl | (simp; done) | (simp [*]; done)), H', ⟨by have := HK1.out; first | omega | exact Nat.le_refl _⟩, by repeat (first | exact Drawn0.refl _ | apply Drawn0.step)⟩
      case rest =>
        clear HC3
        try clear c1
        try clear p2
        try clear c4
        try clear c4b0
        try clear c4b1
        try clear p2
        obtain ⟨kq, x15_2, rfl, HA, HJ2, ⟨mc2, rfl⟩⟩ := hcut
        cases kq with
        | zero => exact absurd HA.out (by simp [paronymref01_Compare.j1])
        | succ kj2 =>
          have H := HA.out
          clear HA
          simp only [paronymref01_Compare.j1] at H
          by_cases c5 : x15_2 = true
          · subst c5
            have H1 : (if 0 ≤ x5_1 then (if x5_1 < (l0.length : Int) then (if x5_1 < (l1.length : Int) then (if (rd l0 x5_1) < (rd l1 x5_1) then (some (-1)) else (if (rd l0 x5_1) > (rd l1 x5_1) then (some 1) else (paronymref01_Compare.l0 kj2 l0 l1 (wrap64 (x5_1 + 1))))) else (none)) else (none)) else (none)) = some r := by rw [if_pos rfl] at H; exact H
            clear H
            have H := H1
            clear H1
            by_cases c6 : 0 ≤ x5_1
            · rw [if_pos c6] at H
              have c6b0 : decide (0 ≤ x5_1) = true := decide_eq_true c6
              clear c6
              by_cases c7 : x5_1 < (l0.length : Int)
              · rw [if_pos c7] at H
                have c7b0 : decide (x5_1 < (l0.length : Int)) = true := decide_eq_true c7
                clear c7
                by_cases c8 : x5_1 < (l1.length : Int)
                · rw [if_pos c8] at H
                  have c8b0 : decide (x5_1 < (l1.length : Int)) = true := decide_eq_true c8
                  clear c8
                  by_cases c9 : (rd l0 x5_1) < (rd l1 x5_1)
                  · rw [if_pos c9] at H
                    have c9b0 : decide ((rd l0 x5_1) < (rd l1 x5_1)) = true := decide_eq_true c9
                    clear c9
                    obtain rfl := Option.some.inj H
                    have p101 : 0 ≤ (x5_1 : Int) := of_decide_eq_true (by first | (with_reducible assumption) | assumption)
                    have q101 : x5_1 < (l0.length : Int) := of_decide_eq_true (by first | (with_reducible assumption) | assumption)
                    obtain ⟨ad101, e101, hx101_0⟩ := Kd.at_int HR0.out x5_1 p101 q101
                    cases e101
                    replace p101 := eq_true p101
                    replace q101 := eq_true q101
                    have p102 : 0 ≤ (x5_1 : Int) := of_decide_eq_true (by first | (with_reducible assumption) | assumption)
                    have q102 : x5_1 < (l1.length : Int) := of_decide_eq_true (by first | (with_reducible assumption) | assumption)
                    obtain ⟨ad102, e102, hx102_0⟩ := Kd.at_int HR1.out x5_1 p102 q102
                    cases e102
                    replace p102 := eq_true p102
                    replace q102 := eq_true q102
                    go_wp2
                    repeat (go_quiet (fail); try go_wp2)
                    go_ret
                    exact ⟨by first | rfl | (simp; done) | (simp [*]; done), by repeat (first | exact Drawn0.refl _ | apply Drawn0.step)⟩
                  · rw [if_neg c9] at H
                    have c9b0 : decide ((rd l0 x5_1) < (rd l1 x5_1)) = false := decide_eq_false c9
                    clear c9
                    by_cases c10 : (rd l0 x5_1) > (rd l1 x5_1)
                    · rw [if_pos c10] at H
                      have c10b0 : decide ((rd l1 x5_1) < (rd l0 x5_1)) = true := decide_eq_true c10
                      clear c10
                      obtain rfl := Option.some.inj H
                      have p101 : 0 ≤ (x5_1 : Int) := of_decide_eq_true (by first | (with_reducible assumption) | assumption)
                      have q101 : x5_1 < (l0.length : Int) := of_decide_eq_true (by first | (with_reducible assumption) | assumption)
                      obtain ⟨ad101, e101, hx101_0⟩ := Kd.at_int HR0.out x5_1 p101 q101
                      cases e101
                      replace p101 := eq_true p101
                      replace q101 := eq_true q101
                      have p102 : 0 ≤ (x5_1 : Int) := of_decide_eq_true (by first | (with_reducible assumption) | assumption)
                      have q102 : x5_1 < (l1.length : Int) := of_decide_eq_true (by first | (with_reducible assumption) | assumption)
                      obtain ⟨ad102, e102, hx102_0⟩ := Kd.at_int HR1.out x5_1 p102 q102
                      cases e102
                      replace p102 := eq_true p102
                      replace q102 := eq_true q102
                      have p103 : 0 ≤ (x5_1 : Int) := of_decide_eq_true (by first | (with_reducible assumption) | assumption)
                      have q103 : x5_1 < (l0.length : Int) := of_decide_eq_true (by first | (with_reducible assumption) | assumption)
                      obtain ⟨ad103, e103, hx103_0⟩ := Kd.at_int HR0.out x5_1 p103 q103
                      obtain rfl : ad101 = ad103 := (by injection e103)
                      replace p103 := eq_true p103
                      replace q103 := eq_true q103
                      have p104 : 0 ≤ (x5_1 : Int) := of_decide_eq_true (by first | (with_reducible assumption) | assumption)
                      have q104 : x5_1 < (l1.length : Int) := of_decide_eq_true (by first | (with_reducible assumption) | assumption)
                      obtain ⟨ad104, e104, hx104_0⟩ := Kd.at_int HR1.out x5_1 p104 q104
                      obtain rfl : ad102 = ad104 := (by injection e104)
                      replace p104 := eq_true p104
                      replace q104 := eq_true q104
                      go_wp2
                      repeat (go_quiet (fail); try go_wp2)
                      go_ret
                      exact ⟨by first | rfl | (simp; done) | (simp [*]; done), by repeat (first | exact Drawn0.refl _ | apply Drawn0.step)⟩
                    · rw [if_neg c10] at H
                      have c10b0 : decide ((rd l1 x5_1) < (rd l0 x5_1)) = false := decide_eq_false c10
                      clear c10
                      have H' := Aside0.mk H
                      clear H
                      have p101 : 0 ≤ (x5_1 : Int) := of_decide_eq_true (by first | (with_reducible assumption) | assumption)
                      have q101 : x5_1 < (l0.length : Int) := of_decide_eq_true (by first | (with_reducible assumption) | assumption)
                      obtain ⟨ad101, e101, hx101_0⟩ := Kd.at_int HR0.out x5_1 p101 q101
                      cases e101
                      replace p101 := eq_true p101
                      replace q101 := eq_true q101
                      have p102 : 0 ≤ (x5_1 : Int) := of_decide_eq_true (by first | (with_reducible assumption) | assumption)
                      have q102 : x5_1 < (l1.length : Int) := of_decide_eq_true (by first | (with_reducible assumption) | assumption)
                      obtain ⟨ad102, e102, hx102_0⟩ := Kd.at_int HR1.out x5_1 p102 q102
                      cases e102
                      replace p102 := eq_true p102
                      replace q102 := eq_true q102
                      have p103 : 0 ≤ (x5_1 : Int) := of_decide_eq_true (by first | (with_reducible assumption) | assumption)
                      have q103 : x5_1 < (l0.length : Int) := of_decide_eq_true (by first | (with_reducible assumption) | assumption)
                      obtain ⟨ad103, e103, hx103_0⟩ := Kd.at_int HR0.out x5_1 p103 q103
                      obtain rfl : ad101 = ad103 := (by injection e103)
                      replace p103 := eq_true p103
                      replace q103 := eq_true q103
                      have p104 : 0 ≤ (x5_1 : Int) := of_decide_eq_true (by first | (with_reducible assumption) | assumption)
                      have q104 : x5_1 < (l1.length : Int) := of_decide_eq_true (by first | (with_reducible assumption) | assumption)
                      obtain ⟨ad104, e104, hx104_0⟩ := Kd.at_int HR1.out x5_1 p104 q104
                      obtain rfl : ad102 = ad104 := (by injection e104)
                      replace p104 := eq_true p104
                      replace q104 := eq_true q104
                      go_wp2
                      repeat (go_quiet (fail); try go_wp2)
                      go_roundg kj2
                      case measure => have := HK1.out; have := HJ2.out; omega
                      case rel => exact ⟨(wrap64 (x5_1 + 1)), (by first | rfl | (simp; done) | (simp [*]; done)), H', ⟨by have := HK1.out; have := HJ2.out; omega⟩, by repeat (first | exact Drawn0.refl _ | apply Drawn0.step)⟩
                · rw [if_neg c8] at H
                  exact absurd H (by simp)
              · rw [if_neg c7] at H
                exact absurd H (by simp)
            · rw [if_neg c6] at H
              exact absurd H (by simp)
          · replace c5 := Bool.eq_false_iff.mpr c5
            subst c5
            have H1 : (if (l0.length : Int) < (l1.length : Int) then (some (-1)) else (if (l0.length : Int) > (l1.length : Int) then (some 1) else (some 0))) = some r := by rw [if_neg (show ¬ (false = true) by decide)] at H; exact H
            clear H
            have H := H1
            clear H1
            by_cases c11 : (l0.length : Int) < (l1.length : Int)
            · rw [if_pos c11] at H
              have c11b0 : decide ((l0.length : Int) < (l1.length : Int)) = true := decide_eq_true c11
              have c11b1 : decide (l0.length < l1.length) = true := decide_eq_true (Int.ofNat_lt.mp c11)
              clear c11
              obtain rfl := Option.some.inj H
              go_wp2
              repeat (go_quiet (fail); try go_wp2)
              go_ret
              exact ⟨by first | rfl | (simp; done) | (simp [*]; done), by repeat (first | exact Drawn0.refl _ | apply Drawn0.step)⟩
            · rw [if_neg c11] at H
              have c11b0 : decide ((l0.length : Int) < (l1.length : Int)) = false := decide_eq_false c11
              have c11b1 : decide (l0.length < l1.length) = false := decide_eq_false (fun h => c11 (Int.ofNat_lt.mpr h))
              clear c11
              by_cases c12 : (l0.length : Int) > (l1.length : Int)
              · rw [if_pos c12] at H
                have c12b0 : decide ((l1.length : Int) < (l0.length : Int)) = true := decide_eq_true c12
                have c12b1 : decide (l1.length < l0.length) = true := decide_eq_true (Int.ofNat_lt.mp c12)
                clear c12
                obtain rfl := Option.some.inj H
                go_wp2
                repeat (go_quiet (fail); try go_wp2)
                go_ret
                exact ⟨by first | rfl | (simp; done) | (simp [*]; done), by repeat (first | exact Drawn0.refl _ | apply Drawn0.step)⟩
              · rw [if_neg c12] at H
                have c12b0 : decide ((l1.length : Int) < (l0.length : Int)) = false := decide_eq_false c12
                have c12b1 : decide (l1.length < l0.length) = false := decide_eq_false (fun h => c12 (Int.ofNat_lt.mpr h))
                clear c12
                obtain rfl := Option.some.inj H
                go_wp2
                repeat (go_quiet (fail); try go_wp2)
                go_ret
                exact ⟨by first | rfl | (simp; done) | (simp [*]; done), by repeat (first | exact Drawn0.refl _ | apply Drawn0.step)⟩

end Go.Proofs.YtdnfmilnkoocdaaDoor.Q

-- from Qf41
-- Made by hp.py, a program of this session, with the kit's printer. Not trusted: Lean checks it.
namespace Go.Proofs.YtdnfmilnkoocdaaDoor.Q
open Go.RowKit Go.Proofs.YtdnfmilnkoocdaaDoorW.PrintWords Go.Proofs.YtdnfmilnkoocdaaDoorW.PrintLast Go.Proofs.YtdnfmilnkoocdaaDoorW.PrintMore
attribute [local go_sem] max2_int min2_int max_two min_two max_three min_three max_four min_four   -- for this text's walks alone
set_option linter.unusedVariables false
set_option linter.unusedSimpArgs false

/-! ### paronymref01_Same: function 41 -/
def paronymref01_Same.f (k : Nat) (l0 : List Int) (l1 : List Int) : Option (Bool) := (paronymref01_Compare.f k l0 l1).bind fun t101 => (some (t101 == 0))
theorem paronymref01_Same.mono : ∀ a0 a1 k, LeO (paronymref01_Same.f k a0 a1) (paronymref01_Same.f (k + 1) a0 a1) := by
  intro a0 a1 k
  unfold paronymref01_Same.f
  repeat' first
      | (with_reducible exact paronymref01_Compare.mono _ _ _)
      | (with_reducible exact LeO.refl _)
      | (with_reducible exact LeO.none _)
      | (with_reducible refine LeO.ite ?_ ?_)
      | (with_reducible refine LeO.bind ?_ (fun _ => ?_))
      | exact paronymref01_Compare.mono _ _ _
      | exact LeO.none _
      | refine LeO.ite ?_ ?_
      | refine LeO.bind ?_ (fun _ => ?_)
set_option maxHeartbeats 8000000 in
set_option maxRecDepth 100000 in
theorem paronymref01_Same.calls (k : Nat) (A0 : Option Addr) (c0 : Nat) (l0 : List Int) (A1 : Option Addr) (c1 : Nat) (l1 : List Int) (r : Bool) (w : World) (hr0 : Kd.C (Kd.int .i64) w A0 l0.length l0) (hc0 : l0.length ≤ c0) (hr1 : Kd.C (Kd.int .i64) w A1 l1.length l1) (hc1 : l1.length ≤ c1) (h : paronymref01_Same.f k l0 l1 = some r) :
    Calls Tryd.prog 41 #[.slice A0 l0.length c0, .slice A1 l1.length c1] w fun e w' => e = .returned (.bool r) ∧ Drawn0 w w' := by
  have HR0 := Aside0.mk hr0
  have HC0 := Aside0.mk hc0
  clear hr0 hc0
  have HR1 := Aside0.mk hr1
  have HC1 := Aside0.mk hc1
  clear hr1 hc1
  have H : ((paronymref01_Compare.f k l0 l1).bind fun t101 => (some (t101 == 0))) = some r := h
  clear h
  replace H := Option.bind_eq_some_iff.mp H
  obtain ⟨t101, A30, H⟩ := H
  replace H : (some (t101 == 0)) = some r := H
  have A3 := Aside0.mk A30
  clear A30
  obtain rfl := Option.some.inj H
  go_enter Tryd.func41, Tryd.ntmps41
  go_wp2_with (first | ((with_reducible refine gate_callee (f := 68) rfl ?_); refine goesL_ (some 7) rfl rfl Tryd.func68 (by kernel_rfl) rfl #[.slice A0 l0.length c0, .slice A1 l1.length c1] rfl (by (try simp only [List.map_toArray, List.map_cons, List.map_nil]); first | done | rfl | (simp only [List.length_drop, List.length_take]; rfl)) ?_; (with_reducible refine (paronymref01_Compare.calls k _ _ l0 _ _ l1 t101 _ ?side1 ?side2 ?side3 ?side4 A3.out).mono ?_); (case side1 => repeat (first | exact HR0.out | (with_reducible refine Kd.C_alloc ?_ _) | (with_reducible refine Kd.C_drewN ?_ _) | (with_reducible refine Kd.C_drew ?_))); (case side2 => exact HC0.out); (case side3 => repeat (first | exact HR1.out | (with_reducible refine Kd.C_alloc ?_ _) | (with_reducible refine Kd.C_drewN ?_ _) | (with_reducible refine Kd.C_drew ?_))); (case side4 => exact HC1.out); rintro e w' ⟨rfl, ⟨nd, rfl⟩⟩; refine ⟨_, rfl, ?_⟩))
  go_ret
  exact ⟨by first | rfl | (simp; done) | (simp [*]; done), by repeat (first | exact Drawn0.refl _ | apply Drawn0.step)⟩

end Go.Proofs.YtdnfmilnkoocdaaDoor.Q

-- from Pcmp
/- Texts compared: the reference's Compare and Same on lists. -/
namespace Go.Proofs.YtdnfmilnkoocdaaDoor.K
set_option linter.unusedVariables false
set_option linter.unusedSimpArgs false
open Go.RowKit Go.Proofs.YtdnfmilnkoocdaaDoorW.PrintWords Go.Proofs.YtdnfmilnkoocdaaDoorW.PrintMore Go.Proofs.YtdnfmilnkoocdaaDoor.Q

def cmpL : List Int → List Int → Int
  | [], [] => 0
  | [], _ :: _ => -1
  | _ :: _, [] => 1
  | x :: l, y :: m => if x < y then -1 else if x > y then 1 else cmpL l m
theorem cmpL_zero : ∀ (l m : List Int), cmpL l m = 0 ↔ l = m
  | [], [] => by simp [cmpL]
  | [], _ :: _ => by simp [cmpL]
  | _ :: _, [] => by simp [cmpL]
  | x :: l, y :: m => by
    unfold cmpL
    by_cases a : x < y
    · rw [if_pos a]; simp; omega
    · rw [if_neg a]
      by_cases b : x > y
      · rw [if_pos b]; simp; omega
      · rw [if_neg b, cmpL_zero l m]
        have : x = y := by omega
        simp [this]
theorem refCompare_ev (l m : List Int) (hl : l.length ≤ 1099511627776) (hm : m.length ≤ 1099511627776) : Ev (fun k => paronymref01_Compare.f k l m) (cmpL l m) := by
  have key : ∀ (d i : Nat), l.length - i = d → i ≤ l.length → i ≤ m.length → Ev (fun k => paronymref01_Compare.l0 k l m i) (cmpL (l.drop i) (m.drop i)) := by
    have hend : ∀ i : Nat, i ≤ l.length → i ≤ m.length → (i = l.length ∨ i = m.length) → ∀ b : Bool, b = false → Ev (fun k => paronymref01_Compare.j1 k l m i b) (cmpL (l.drop i) (m.drop i)) := by
      intro i h1 h2 h3 b hb
      refine Ev.step (fun k => rfl) (Ev.neg (by simp [hb]) ?_)
      by_cases a : l.length < m.length
      · have e : i = l.length := by omega
        subst e
        rw [List.drop_length, drop_cons m l.length a]
        exact Ev.pos (by omega) (Ev.ret (by simp [cmpL]))
      · by_cases b : m.length < l.length
        · have e : i = m.length := by omega
          subst e
          rw [List.drop_length, drop_cons l m.length b]
          exact Ev.neg (by omega) (Ev.pos (by omega) (Ev.ret (by simp [cmpL])))
        · have e : i = l.length := by omega
          have e2 : i = m.length := by omega
          rw [List.drop_of_length_le (by omega), List.drop_of_length_le (by omega)]
          exact Ev.neg (by omega) (Ev.neg (by omega) (Ev.ret (by simp [cmpL])))
    intro d
    induction d with
    | zero =>
      intro i h1 h2 h3
      exact Ev.step (fun k => rfl) (Ev.neg (by omega) (hend i h2 h3 (.inl (by omega)) false rfl))
    | succ d ih =>
      intro i h1 h2 h3
      have hi : i < l.length := by omega
      refine Ev.step (fun k => rfl) (Ev.pos (by omega) ?_)
      by_cases a : i < m.length
      · have e : decide ((i : Int) < (m.length : Int)) = true := by simpa using a
        refine Ev.step (fun k => rfl) (Ev.pos e (Ev.pos (by omega) (Ev.pos (by omega) (Ev.pos (by omega) ?_))))
        rw [drop_cons l i hi, drop_cons m i a]
        unfold cmpL
        by_cases b : rd l i < rd m i
        · exact Ev.pos b (Ev.ret (if_pos b).symm)
        · refine Ev.neg b ?_
          rw [show (if rd l i < rd m i then (-1 : Int) else if rd l i > rd m i then 1 else cmpL (l.drop (i + 1)) (m.drop (i + 1))) = (if rd l i > rd m i then 1 else cmpL (l.drop (i + 1)) (m.drop (i + 1))) from if_neg b]
          by_cases c : rd l i > rd m i
          · exact Ev.pos c (Ev.ret (if_pos c).symm)
          · rw [show (if rd l i > rd m i then (1 : Int) else cmpL (l.drop (i + 1)) (m.drop (i + 1))) = cmpL (l.drop (i + 1)) (m.drop (i + 1)) from if_neg c]
            refine Ev.neg c ?_
            rw [w64 (by omega) (by omega)]
            exact ih (i + 1) (by omega) (by omega) (by omega)
      · have e : decide ((i : Int) < (m.length : Int)) = false := by simpa using a
        exact hend i h2 h3 (.inr (by omega)) _ e
  have := key l.length 0 (by omega) (by omega) (by omega)
  unfold paronymref01_Compare.f
  simpa using this
theorem refSame_ev (l m : List Int) (hl : l.length ≤ 1099511627776) (hm : m.length ≤ 1099511627776) : Ev (fun k => paronymref01_Same.f k l m) (decide (l = m)) := by
  unfold paronymref01_Same.f
  refine Ev.bind (refCompare_ev l m hl hm) (Ev.ret ?_)
  rw [Bool.eq_iff_iff]
  simp [cmpL_zero]

end Go.Proofs.YtdnfmilnkoocdaaDoor.K

-- from Hfp1
/- Layer 2's law: FieldPoints. -/
namespace Go.Proofs.YtdnfmilnkoocdaaDoor.Q
open Go.RowKit Go.Shelf Go.Proofs.YtdnfmilnkoocdaaDoorW.PrintWords Go.Proofs.YtdnfmilnkoocdaaDoorW.PrintLast Go.Proofs.YtdnfmilnkoocdaaDoorW.PrintMore Go.Proofs.YtdnfmilnkoocdaaDoor.K
set_option linter.unusedVariables false
set_option linter.unusedSimpArgs false

theorem same1.calls (A A' : Option Addr) (c c' : Nat) (l : List Int) (w : World) (hr : Kd.C (Kd.int .i64) w A l.length l) (hc : l.length ≤ c) (hr' : Kd.C (Kd.int .i64) w A' l.length l) (hc' : l.length ≤ c') (hl : l.length ≤ 1000000) :
    Calls Tryd.prog 41 #[.slice A l.length c, .slice A' l.length c'] w fun e w' => e = .returned (.bool true) ∧ Below w.heap.size w w' := by
  obtain ⟨k, hk⟩ := (refSame_ev l l (by omega) (by omega)).rounds
  rw [decide_eq_true rfl] at hk
  exact (paronymref01_Same.calls k A c l A' c' l true w hr hc hr' hc' hk).mono fun e w' h => ⟨h.1, h.2.below⟩
theorem seqF_len : ∀ (X : List (List Int)) (acc : List Int), (seqF X acc).1.length ≤ acc.length + X.length
  | [], acc => by simp [seqF]
  | x :: X, acc => by
    show (match pointL x with | none => _ | some c => _ : List Int × Int).1.length ≤ _
    cases pointL x with
    | none => simp
    | some c =>
      have := seqF_len X (acc ++ [(c : Int)])
      simp only [List.length_append, List.length_cons, List.length_nil] at this ⊢
      omega
theorem seqL_len (L : List Int) : (seqL L).1.length ≤ L.length + 1 := by
  unfold seqL
  split
  · simp
  · have h1 := seqF_len (spl 32 L) []
    have h2 := splP_count (fun x => decide (x = (32 : Int))) L
    simp only [List.length_nil, Nat.zero_add] at h1
    unfold spl at h1 ⊢
    omega
set_option maxHeartbeats 4000000 in
set_option maxRecDepth 100000 in
theorem paronymlaw02_FieldPoints.out (s : ByteArray) (w : World) (hE : EnvF w) (h : 300 < s.size) :
    Calls Tryd.prog 11 #[.string s] w fun e w' => e = .returned (.bool true) ∧ Below w.heap.size w w' := by
  have HE := Aside0.mk hE
  have hh : (300 : Int) < (s.size : Int) := by omega
  have e0 := eq_true hh
  have e1 : decide ((s.size : Int) > 300) = true := decide_eq_true hh
  clear hE h hh
  go_enter Tryd.func11, Tryd.ntmps11
  go_wp2_with (first
    | (go_at_call 32; (with_reducible refine (paronymlaw02_awake.calls0 _ HE.out).mono ?_); rintro e w1 ⟨rfl, hb⟩; have HB1 := Aside0.mk hb; clear hb)
    | (go_at_call 32; (with_reducible refine (paronymlaw02_awake.calls0 _ (HE.out.below HB1.out)).mono ?_); rintro e w2 ⟨rfl, hb⟩; have HB2 := Aside0.mk (HB1.out.trans (hb.mono HB1.out.size)); clear hb))
  go_ret
  exact ⟨rfl, HB2.out⟩
set_option maxHeartbeats 4000000 in
set_option maxRecDepth 100000 in
theorem points_walk (L : List Int) (s : ByteArray) (hs : s.size = L.length) (w : World) (hE : EnvF w) (hl : L.length ≤ 300) (kp kr ks : Nat) (c e p ra rb re se : Int) (sl : List Int) (hsl : sl.length ≤ 301)
    (hp : ∀ w, EnvF w → Calls Tryd.prog 35 #[.string s] w fun r w' => r = .returned (.tuple #[.int .i64 c, .int .i64 e]) ∧ Below w.heap.size w w')
    (hp2 : paronymref02_Point.f kp s = some p)
    (hr : ∀ w, EnvF w → Calls Tryd.prog 37 #[.string s] w fun r w' => r = .returned (.tuple #[.int .i64 ra, .int .i64 rb, .int .i64 re]) ∧ Below w.heap.size w w')
    (hr2 : paronymref02_Range.f kr s = some (ra, rb, re))
    (hq : ∀ w, EnvF w → Calls Tryd.prog 39 #[.string s] w fun r w' => ∃ v, r = .returned (.tuple #[v, .int .i64 se]) ∧ Kd.R (Kd.int .i64) 3 w' w.heap.size (fun _ => True) v sl ∧ Below w.heap.size w w')
    (hq2 : paronymref02_Sequence.f ks s = some (sl, se))
    (hcase : (c = 0 ∧ e = 13 ∧ p = -1) ∨ (0 ≤ p ∧ c = p ∧ e = 0)) :
    Calls Tryd.prog 11 #[.string s] w fun e w' => e = .returned (.bool true) ∧ Below w.heap.size w w' := by
  have HE := Aside0.mk hE
  have HP := Aside0.mk hp
  have HP2 := Aside0.mk hp2
  have HR := Aside0.mk hr
  have HR2 := Aside0.mk hr2
  have HQ := Aside0.mk hq
  have HQ2 := Aside0.mk hq2
  have HSL := Aside0.mk hsl
  have hh : ¬ (300 : Int) < (L.length : Int) := by omega
  have e0 := eq_false hh
  have e1 : decide ((L.length : Int) > 300) = false := decide_eq_false hh
  clear hE hl hh hp hp2 hr hr2 hq hq2 hsl
  rcases hcase with ⟨rfl, rfl, rfl⟩ | ⟨h0, rfl, rfl⟩
  · go_enter Tryd.func11, Tryd.ntmps11
    go_wp2_with (first
    | (go_at_call 32; (with_reducible refine (paronymlaw02_awake.calls0 _ HE.out).mono ?_); rintro e w1 ⟨rfl, hb⟩; have HB1 := Aside0.mk hb; clear hb)
    | (go_at_call 35; (with_reducible refine (HP.out _ (HE.out.below HB1.out)).mono ?_); rintro e w2 ⟨rfl, hb⟩; have HB2 := Aside0.mk (HB1.out.trans (hb.mono HB1.out.size)); clear hb)
    | (go_at_call 36; (with_reducible refine (paronymref02_Point.calls kp _ _ _ HP2.out).mono ?_); rintro e w3 ⟨rfl, hb⟩; have HB3 := Aside0.mk (HB2.out.trans (hb.mono HB2.out.size)); clear hb)
    | (go_at_call 37; (with_reducible refine (HR.out _ (HE.out.below HB3.out)).mono ?_); rintro e w4 ⟨rfl, hb⟩; have HB4 := Aside0.mk (HB3.out.trans (hb.mono HB3.out.size)); clear hb)
    | (go_at_call 38; (with_reducible refine (paronymref02_Range.calls kr _ _ _ _ _ HR2.out).mono ?_); rintro e w5 ⟨rfl, hb⟩; have HB5 := Aside0.mk (HB4.out.trans (hb.mono HB4.out.size)); clear hb)
    | (go_at_call 39; (with_reducible refine (HQ.out _ (HE.out.below HB5.out)).mono ?_); rintro e w6 ⟨v6, rfl, hv, hb⟩; obtain ⟨A6, c6, rfl, hc6, hC6⟩ := Kd.R_reads hv; have HC6 := Aside0.mk hC6; have Hc6 := Aside0.mk hc6; have HB6 := Aside0.mk (HB5.out.trans (hb.mono HB5.out.size)); clear hb hv hC6 hc6)
    | (go_at_call 40; (with_reducible refine (paronymref02_Sequence.calls ks _ _ _ _ HQ2.out).mono ?_); rintro e w7 ⟨v7, rfl, hv, hb⟩; obtain ⟨A7, c7, rfl, hc7, hC7⟩ := Kd.R_reads hv; have HC7 := Aside0.mk hC7; have Hc7 := Aside0.mk hc7; have HC67 := Aside0.mk (Kd.C_below HC6.out hb); have HB7 := Aside0.mk (HB6.out.trans (hb.mono HB6.out.size)); clear hb hv hC7 hc7)
    | (go_at_call 41; (with_reducible refine (same1.calls A6 A7 c6 c7 sl _ HC67.out Hc6.out HC7.out Hc7.out (by have := HSL.out; omega)).mono ?_); rintro e w8 ⟨rfl, hb⟩; have HB8 := Aside0.mk (HB7.out.trans (hb.mono HB7.out.size)); clear hb))
    go_ret
    exact ⟨rfl, HB8.out⟩
  · have d0 : decide (c < 0) = false := decide_eq_false (by omega)
    have d1 : (c < 0) = False := eq_false (by omega)
    have d2 : decide (c ≥ 0) = true := decide_eq_true (by omega)
    have d3 : decide (0 ≤ c) = true := decide_eq_true (by omega)
    have d4 : (0 ≤ c) = True := eq_true (by omega)
    go_enter Tryd.func11, Tryd.ntmps11
    go_wp2_with (first
    | (go_at_call 32; (with_reducible refine (paronymlaw02_awake.calls0 _ HE.out).mono ?_); rintro e w1 ⟨rfl, hb⟩; have HB1 := Aside0.mk hb; clear hb)
    | (go_at_call 35; (with_reducible refine (HP.out _ (HE.out.below HB1.out)).mono ?_); rintro e w2 ⟨rfl, hb⟩; have HB2 := Aside0.mk (HB1.out.trans (hb.mono HB1.out.size)); clear hb)
    | (go_at_call 36; (with_reducible refine (paronymref02_Point.calls kp _ _ _ HP2.out).mono ?_); rintro e w3 ⟨rfl, hb⟩; have HB3 := Aside0.mk (HB2.out.trans (hb.mono HB2.out.size)); clear hb)
    | (go_at_call 37; (with_reducible refine (HR.out _ (HE.out.below HB3.out)).mono ?_); rintro e w4 ⟨rfl, hb⟩; have HB4 := Aside0.mk (HB3.out.trans (hb.mono HB3.out.size)); clear hb)
    | (go_at_call 38; (with_reducible refine (paronymref02_Range.calls kr _ _ _ _ _ HR2.out).mono ?_); rintro e w5 ⟨rfl, hb⟩; have HB5 := Aside0.mk (HB4.out.trans (hb.mono HB4.out.size)); clear hb)
    | (go_at_call 39; (with_reducible refine (HQ.out _ (HE.out.below HB5.out)).mono ?_); rintro e w6 ⟨v6, rfl, hv, hb⟩; obtain ⟨A6, c6, rfl, hc6, hC6⟩ := Kd.R_reads hv; have HC6 := Aside0.mk hC6; have Hc6 := Aside0.mk hc6; have HB6 := Aside0.mk (HB5.out.trans (hb.mono HB5.out.size)); clear hb hv hC6 hc6)
    | (go_at_call 40; (with_reducible refine (paronymref02_Sequence.calls ks _ _ _ _ HQ2.out).mono ?_); rintro e w7 ⟨v7, rfl, hv, hb⟩; obtain ⟨A7, c7, rfl, hc7, hC7⟩ := Kd.R_reads hv; have HC7 := Aside0.mk hC7; have Hc7 := Aside0.mk hc7; have HC67 := Aside0.mk (Kd.C_below HC6.out hb); have HB7 := Aside0.mk (HB6.out.trans (hb.mono HB6.out.size)); clear hb hv hC7 hc7)
    | (go_at_call 41; (with_reducible refine (same1.calls A6 A7 c6 c7 sl _ HC67.out Hc6.out HC7.out Hc7.out (by have := HSL.out; omega)).mono ?_); rintro e w8 ⟨rfl, hb⟩; have HB8 := Aside0.mk (HB7.out.trans (hb.mono HB7.out.size)); clear hb))
    go_ret
    exact ⟨rfl, HB8.out⟩
theorem paronymlaw02_FieldPoints.walk (a0 : ByteArray) (w : World) (hE : EnvF w) :
    Calls Tryd.prog 11 #[.string a0] w fun e w' => e = .returned (.bool true) ∧ Below w.heap.size w w' := by
  by_cases hl : 300 < a0.size
  · exact paronymlaw02_FieldPoints.out a0 w hE hl
  · obtain ⟨L, hL, ho⟩ : ∃ L, strOfNums L = a0 ∧ Oct L := ⟨_, str_bytesOf a0, oct_bytesOf a0⟩
    have hz : a0.size = L.length := by rw [← hL]; exact size_str L
    obtain ⟨kp, hkp⟩ := (refPoint_ev ho (by omega)).rounds
    obtain ⟨kr, hkr⟩ := (refRange_ev ho (by omega)).rounds
    obtain ⟨ks, hks⟩ := (refSeq_ev ho (by omega)).rounds
    rw [hL] at hkp hkr hks
    refine points_walk L a0 hz w hE (by omega) kp kr ks (pointR (pointL L)).1 (pointR (pointL L)).2 (orNone (pointL L)) (rangeL L).1 (rangeL L).2.1 (rangeL L).2.2 (seqL L).2 (seqL L).1 (by have := seqL_len L; omega)
      (fun w hE => by rw [← hL]; exact field_Point.calls L ho (by omega) w hE) hkp (fun w hE => by rw [← hL]; exact field_Range.calls L ho (by omega) w hE) hkr (fun w hE => by rw [← hL]; exact field_Sequence.calls L ho (by omega) w hE) hks ?_
    cases pointL L with
    | none => exact .inl ⟨rfl, rfl, rfl⟩
    | some c => exact .inr ⟨by show (0 : Int) ≤ (c : Int); omega, rfl, rfl⟩
end Go.Proofs.YtdnfmilnkoocdaaDoor.Q

-- from LawFieldPoints
-- Made by envrow.py, a program of this session, after the kit's rows: the world's shape handed on. Not trusted: Lean checks it.
namespace Go.Proofs.YtdnfmilnkoocdaaDoor.fieldPoints
open Go.ChangeShapes Go.WideShapes Go.ChangeAt Go.RowKit
open Go.ChangeMaps (open_string shut_string)
set_option linter.unusedVariables false
theorem own : ownKnob Tryd.prog.godebug = none := by kernel_rfl
theorem laidOut : laidOutB Tryd.prog = true := by kernel_rfl
set_option maxRecDepth 100000 in
theorem lifted (os : Os) (started : os.Started) (H : Type) (enc : TypeId × Value → H) :
    ReturnsInHanded {} Tryd.checked os 11 .any (fun w args => (Rows.fieldPointsSpec.pre enc Tryd.prog Tryd.f11 Rows.fieldPointsRow.domain false w args ∧ laidMetH Tryd.prog Rows.fieldPointsRow.laid w) ∧ sizedMet enc Tryd.prog Tryd.f11 (OpenSpec.ofChange Rows.fieldPointsSpec) false w args) (Rows.fieldPointsSpec.post enc Tryd.prog Tryd.f11 false true false false) := by
  refine Q.returns_shaped_and (C := Tryd.checked) (X := fun w => laidMetH Tryd.prog Rows.fieldPointsRow.laid w) (fun _ _ hh h => h.of_heap hh) own started (by kernel_rfl) Tryd.func11
    (ChangeSpec.witness_shaped (enc := enc) (C := Tryd.checked) (os := os) (X := fun w _ => laidMetH Tryd.prog Rows.fieldPointsRow.laid w) false (World.laidAll Tryd.prog os Rows.fieldPointsRow.laid) #[.string ByteArray.empty] 8 (World.laidAll_os _ _ _)
      (World.shaped_of_ZipB (by kernel_rfl) (by kernel_rfl)) (by kernel_rfl) (by kernel_rfl) (by kernel_rfl)
      (by rw [MakeChecks.laidMetH_plain _ _ _ (by kernel_rfl)]; exact laidMet_laidAll _ (by kernel_rfl) (by kernel_rfl))) ?_
  intro W base args ds gs before hsh hL hval0 hW hsz0
  have hsz : (DataW.weightsEach Tryd.prog (Tryd.f11.params.toList ++ Rows.fieldPointsSpec.plain.varTypes Tryd.prog) (ds ++ gs)).all (· ≤ reachBytes) = true := hsz0
  have hval : ∀ (j : Nat) t v, Tryd.f11.params[j]? = some t → args[j]? = some v → Value.okWide Tryd.prog W .any base t v := hval0
  have hW' := hW
  obtain ⟨p, q, hA0, hV, rfl, hfz, hnd⟩ := hW
  have hA : DataW.TrodAll enc Tryd.prog W 0 (fun _ => true) true Tryd.f11.params.toList args.toList ds p := hA0
  rw [Tryd.params11] at hA hval hsz
  obtain ⟨v0, vs0, d0, ds0, p0, q0, hargs, rfl, rfl, h0, r0⟩ := trodAll_cons hA
  obtain ⟨rfl, rfl, rfl⟩ := trodAll_nil r0
  obtain rfl : args = #[v0] := by cases args; simp_all
  obtain ⟨rfl, rfl⟩ := trodVars_none hV
  obtain ⟨a0, rfl, rfl, rfl, w0⟩ := open_string Tryd.underlying9 (hval 0 9 v0 rfl rfl) h0
  clear hA0 hval0 hsz0 hsz
  refine (Q.paronymlaw02_FieldPoints.walk a0 W (Q.env_of_row hsh hL) ).mono fun e W' ⟨he, bel⟩ => ?_
  subst he
  exact ⟨_, rfl, _, _, _, [], _, [], hW', trodAll_mk1 (shut_bool Tryd.underlying4 _), (trodAll_cons_mk (shut_string Tryd.underlying9 w0) trodAll_mk0), rfl, bel.frame _, fun h => by cases h⟩
theorem over : Rows.fieldPointsRow.holds Tryd.pinned (OpenSpec.ofChange Rows.fieldPointsSpec) :=
  OpenClaim.holds_of_wide 11 Tryd.f11 rfl rfl rfl rfl rfl rfl rfl ⟨rfl, rfl, rfl, rfl, rfl⟩ rfl rfl rfl rfl rfl (by kernel_rfl) Tryd.func11 (by kernel_rfl)
    (of_decide_eq_true (by kernel_rfl)) (by unfold Func.isWrapper; first | (rw [if_pos (by decide +kernel)]; kernel_rfl) | (rw [if_neg (by decide +kernel)]; exact ⟨rfl, rfl⟩))
    (fun os started H enc _ => lifted os started H enc)
theorem card : Rows.FieldPointsCardSaid :=
  Claim7.holds_tied_plain_at .later [] [.data, .data, .data, .data, .pinned, .pinned] true (true, "c8db116255ca7d8a9a063ea87309dbd31f94f59187fe20dbf876020a6bd752c6") false over (fun _ h => by cases h) (by kernel_rfl) (fun _ h => by cases h) fieldPoints_row_tie rfl ⟨rfl, rfl⟩ (by kernel_rfl) rfl
    (fun f fn hf hfn => by
      obtain rfl : f = 11 := Option.some.inj ((show Tryd.prog.funcNamed "paronym/paronymlaw02.FieldPoints" = some 11 by kernel_rfl).symm.trans hf) |>.symm
      obtain rfl : fn = Tryd.f11 := (Option.some.inj (Tryd.func11.symm.trans hfn)).symm
      exact ⟨by kernel_rfl, fun j t ht => by
        rw [Tryd.params11] at ht
        have hm : t ∈ ([9] : List Nat) := by have := Array.mem_of_getElem? ht; simp at this ⊢; omega
        have hall : (([9] : List Nat).all fun u => !Tryd.prog.wantsStandIn u) = true := by kernel_rfl
        exact (show Tryd.prog.wantsStandIn t = false by simpa using List.all_eq_true.1 hall t hm)⟩)
    (by kernel_rfl)
#print axioms card
end Go.Proofs.YtdnfmilnkoocdaaDoor.fieldPoints
namespace Go.Proofs.YtdnfmilnkoocdaaDoor
/-- The row, under a short name, for the claim. -/
theorem fieldPoints_holds : Rows.FieldPointsCardSaid := fieldPoints.card
end Go.Proofs.YtdnfmilnkoocdaaDoor
