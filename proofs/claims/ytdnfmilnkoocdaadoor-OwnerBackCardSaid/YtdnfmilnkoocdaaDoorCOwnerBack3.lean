/- Part 3 of 3 of the proof of OwnerBack: for all labels and every rest: the name of labels has these labels, and a line that begins with it has the first one as its owner's, but where that begins with a dollar sign For every input; no condition. -/
import Derived.Test.YtdnfmilnkoocdaaDoorCOwnerBack1
import Derived.Lib.Bytes
import Derived.Test.YtdnfmilnkoocdaaDoorCOwnerBack2
import Derived.WalkKit
import Derived.ProofKit
import Derived.OpenShut
import Derived.ShutString
import Derived.LaidMore
import Derived.ChangeOld
import Derived.Test.YtdnfmilnkoocdaaDoorRows
import Derived.Test.YtdnfmilnkoocdaaDoorCards
import Derived.Test.YtdnfmilnkoocdaaDoorTie
import Derived.Lay
import Derived.SevenTiedAt
import Derived.Stop.Joined
import Derived.Below
import Derived.SizedLaws
import Derived.Test.YtdnfmilnkoocdaaDoorWSized

-- from K
/- Small lemmas on lists, octets and rounds, for the plain laws of this seat. No condition. -/
namespace Go.Proofs.YtdnfmilnkoocdaaDoor.K
set_option linter.unusedVariables false
set_option linter.unusedSimpArgs false
open Go.RowKit Go.Proofs.YtdnfmilnkoocdaaDoorW.PrintWords

theorem w64 {n : Int} (h0 : -9223372036854775808 ≤ n) (h1 : n ≤ 9223372036854775807) : wrap64 n = n := by unfold wrap64; omega
theorem rd_nat (l : List Int) (i : Nat) (h : i < l.length) : rd l (i : Int) = l[i] := by
  unfold rd; simp [List.getD_eq_getElem?_getD, List.getElem?_eq_getElem h]
theorem rd_mem {l : List Int} {i : Int} (h0 : 0 ≤ i) (h1 : i < (l.length : Int)) : rd l i ∈ l := by
  obtain ⟨n, rfl⟩ := Int.eq_ofNat_of_zero_le h0
  rw [rd_nat l n (by omega)]
  exact List.getElem_mem _
theorem rd_append_left {l m : List Int} {i : Int} (h0 : 0 ≤ i) (h1 : i < (l.length : Int)) : rd (l ++ m) i = rd l i := by
  unfold rd
  simp only [List.getD_eq_getElem?_getD]
  rw [List.getElem?_append_left (by omega)]
theorem rd_append_right {l m : List Int} {i : Int} (h0 : (l.length : Int) ≤ i) : rd (l ++ m) i = rd m (i - l.length) := by
  unfold rd
  simp only [List.getD_eq_getElem?_getD]
  rw [List.getElem?_append_right (by omega)]
  congr 2
  omega
theorem rd_map {f : Int → Int} {l : List Int} {i : Int} (h0 : 0 ≤ i) (h1 : i < (l.length : Int)) : rd (l.map f) i = f (rd l i) := by
  obtain ⟨n, rfl⟩ := Int.eq_ofNat_of_zero_le h0
  rw [rd_nat _ n (by simpa using h1), rd_nat l n (by omega)]
  simp
theorem rd_cons_zero (x : Int) (l : List Int) : rd (x :: l) 0 = x := rfl
theorem rd_drop {l : List Int} {n : Nat} {i : Int} (h0 : 0 ≤ i) : rd (l.drop n) i = rd l (n + i) := by
  unfold rd
  simp only [List.getD_eq_getElem?_getD, List.getElem?_drop]
  congr 2
  omega
theorem rd_take {l : List Int} {n : Nat} {i : Int} (h0 : 0 ≤ i) (h1 : i < (n : Int)) : rd (l.take n) i = rd l i := by
  unfold rd
  simp only [List.getD_eq_getElem?_getD]
  rw [List.getElem?_take_of_lt (by omega)]
theorem take_snoc (l : List Int) (i : Nat) (h : i < l.length) : l.take (i + 1) = l.take i ++ [rd l (i : Int)] := by
  rw [rd_nat l i h, List.take_succ_eq_append_getElem h]
theorem drop_cons (l : List Int) (i : Nat) (h : i < l.length) : l.drop i = rd l (i : Int) :: l.drop (i + 1) := by
  rw [rd_nat l i h, List.drop_eq_getElem_cons h]

/-! octets -/
def Oct (l : List Int) : Prop := ∀ x ∈ l, 0 ≤ x ∧ x ≤ 255
theorem oct_of_wf {l : List Int} (h : ∀ x ∈ l, (Lit.int .u8 x).wf = true) : Oct l := fun x hx => by
  have := h x hx
  simp only [Lit.wf, Bool.and_eq_true, decide_eq_true_eq] at this
  have e1 : IntKind.u8.min = 0 := rfl
  have e2 : IntKind.u8.max = 255 := rfl
  omega
theorem i64_of_wf {x : Int} (h : (Lit.int .i64 x).wf = true) : -9223372036854775808 ≤ x ∧ x ≤ 9223372036854775807 := by
  simp only [Lit.wf, Bool.and_eq_true, decide_eq_true_eq] at h
  have e1 : IntKind.i64.min = -9223372036854775808 := rfl
  have e2 : IntKind.i64.max = 9223372036854775807 := rfl
  omega
theorem u8_of_wf {x : Int} (h : (Lit.int .u8 x).wf = true) : 0 ≤ x ∧ x ≤ 255 := by
  simp only [Lit.wf, Bool.and_eq_true, decide_eq_true_eq] at h
  have e1 : IntKind.u8.min = 0 := rfl
  have e2 : IntKind.u8.max = 255 := rfl
  omega
theorem Oct.map {l : List Int} {f : Int → Int} (h : ∀ x, 0 ≤ x → x ≤ 255 → 0 ≤ f x ∧ f x ≤ 255) (hl : Oct l) : Oct (l.map f) := fun y hy => by
  obtain ⟨x, hx, rfl⟩ := List.mem_map.1 hy
  exact h x (hl x hx).1 (hl x hx).2
theorem Oct.append {l m : List Int} (h : Oct l) (k : Oct m) : Oct (l ++ m) := fun x hx => by
  rcases List.mem_append.1 hx with hx | hx
  · exact h x hx
  · exact k x hx
theorem Oct.take {l : List Int} (h : Oct l) (n : Nat) : Oct (l.take n) := fun x hx => h x (List.mem_of_mem_take hx)
theorem Oct.drop {l : List Int} (h : Oct l) (n : Nat) : Oct (l.drop n) := fun x hx => h x (List.mem_of_mem_drop hx)
theorem Oct.rd {l : List Int} (h : Oct l) {i : Int} (h0 : 0 ≤ i) (h1 : i < (l.length : Int)) : 0 ≤ rd l i ∧ rd l i ≤ 255 := h _ (rd_mem h0 h1)
theorem u8_back {x : Int} (h : 0 ≤ x ∧ x ≤ 255) : ((UInt8.ofNat x.toNat).toNat : Int) = x := by
  simp only [UInt8.toNat_ofNat']
  omega
theorem bt_str {l : List Int} (h : Oct l) {i : Int} (h0 : 0 ≤ i) (h1 : i < (l.length : Int)) : bt (strOfNums l) i = rd l i := by
  obtain ⟨n, rfl⟩ := Int.eq_ofNat_of_zero_le h0
  have hn : n < l.length := by omega
  have hs : n < (strOfNums l).size := by rw [strOfNums_size]; exact hn
  have hb := h.rd h0 h1
  rw [rd_nat l n hn] at hb ⊢
  unfold bt
  simp only [Int.toNat_natCast, hs, dif_pos]
  have : (strOfNums l)[n] = UInt8.ofNat (l[n]).toNat := by
    show (strOfNums l).data[n] = _
    simp [strOfNums]
  rw [this]
  exact u8_back hb
theorem size_str (l : List Int) : (strOfNums l).size = l.length := strOfNums_size l
theorem str_inj {l m : List Int} (hl : Oct l) (hm : Oct m) (h : strOfNums l = strOfNums m) : l = m := by
  have hlen : l.length = m.length := by rw [← size_str l, ← size_str m, h]
  apply List.ext_getElem hlen
  intro i h1 h2
  have a := bt_str hl (i := (i : Int)) (by omega) (by omega)
  have b := bt_str hm (i := (i : Int)) (by omega) (by omega)
  rw [rd_nat l i h1] at a
  rw [rd_nat m i h2] at b
  rw [← a, ← b, h]
theorem ba_toList (s : ByteArray) : s.toList = s.data.toList := ByteArray.toList_eq s
theorem toList_inj {s t : ByteArray} (h : s.toList = t.toList) : s = t := by
  rw [ba_toList, ba_toList] at h
  cases s; cases t
  simp at h
  exact congrArg _ h
theorem toList_eq_iff {s t : ByteArray} : s.toList = t.toList ↔ s = t := ⟨toList_inj, fun h => by rw [h]⟩
theorem str_append (l m : List Int) : strOfNums l ++ strOfNums m = strOfNums (l ++ m) := by
  apply toList_inj
  rw [ba_toList, ba_toList]
  simp [strOfNums]
theorem bytesOf_str {l : List Int} (h : Oct l) : Go.Proofs.YtdnfmilnkoocdaaDoorW.PrintWords.bytesOf (strOfNums l) = l := by
  unfold Go.Proofs.YtdnfmilnkoocdaaDoorW.PrintWords.bytesOf
  rw [strOfNums_data, List.map_map]
  conv => rhs; rw [← List.map_id l]
  apply List.map_congr_left
  intro x hx
  exact u8_back (h x hx)
theorem oct_bytesOf (s : ByteArray) : Oct (Go.Proofs.YtdnfmilnkoocdaaDoorW.PrintWords.bytesOf s) := fun x hx => by
  unfold Go.Proofs.YtdnfmilnkoocdaaDoorW.PrintWords.bytesOf at hx
  obtain ⟨b, _, rfl⟩ := List.mem_map.1 hx
  have := b.toNat_lt
  omega
theorem str_bytesOf (s : ByteArray) : strOfNums (Go.Proofs.YtdnfmilnkoocdaaDoorW.PrintWords.bytesOf s) = s := by
  unfold Go.Proofs.YtdnfmilnkoocdaaDoorW.PrintWords.bytesOf strOfNums
  cases s with
  | mk a =>
    congr 1
    apply Array.ext'
    simp [Function.comp_def]
theorem extract_str {l : List Int} {a b : Nat} : (strOfNums l).extract a b = strOfNums ((l.take b).drop a) := by
  apply toList_inj
  rw [ba_toList, ba_toList]
  rw [ByteArray.data_extract]
  simp [strOfNums, List.map_drop, List.map_take, List.drop_take]

/-! rounds -/
theorem Ev.pos {α : Type} {c : Prop} [Decidable c] {f g : Nat → Option α} {r : α} (h : c) (k : Ev f r) : Ev (fun n => if c then f n else g n) r := Ev.congr (fun _ => if_pos h) k
theorem Ev.neg {α : Type} {c : Prop} [Decidable c] {f g : Nat → Option α} {r : α} (h : ¬ c) (k : Ev g r) : Ev (fun n => if c then f n else g n) r := Ev.congr (fun _ => if_neg h) k
theorem Ev.bindS {α β : Type} {o : Option α} {f : Nat → α → Option β} {a : α} {r : β} (h : o = some a) (k : Ev (fun n => f n a) r) : Ev (fun n => o.bind (f n)) r := by
  subst h; exact k
theorem Ev.ret {α : Type} {a r : α} (h : a = r) : Ev (fun _ => some a) r := by subst h; exact Ev.now _
theorem Ev.val {α : Type} {o : Option α} {r : α} (h : o = some r) : Ev (fun _ => o) r := ⟨0, fun _ _ => h⟩

/-- 'slices.IndexFunc', as it is printed at a function value: the place of the first element that the predicate takes, or -1. -/
def firstAt (q : Int → Bool) : List Int → Int → Int
  | [], _ => -1
  | x :: l, i => if q x = true then i else firstAt q l (i + 1)
theorem index_loop {p : Int → Option Bool} {q : Int → Bool} {l : Nat → List Int → Int → Int → Option Int}
    (hl : ∀ k x n i, l (k + 1) x n i = if i < n then (if 0 ≤ i then (if i < (x.length : Int) then ((p (rd x i)).bind fun t => (if t = true then (some i) else (l k x n (wrap64 (i + 1))))) else none) else none) else some (-1))
    (x : List Int) (hx : x.length ≤ 9223372036854775806) (hp : ∀ y ∈ x, p y = some (q y)) : ∀ (d i : Nat), x.length - i = d → i ≤ x.length → Ev (fun k => l k x (x.length : Int) (i : Int)) (firstAt q (x.drop i) i) := by
  intro d
  induction d with
  | zero =>
    intro i h1 h2
    have : i = x.length := by omega
    subst this
    refine Ev.step (fun k => hl k _ _ _) (Ev.neg (by omega) ?_)
    simp only [List.drop_length, firstAt]
    exact Ev.now _
  | succ d ih =>
    intro i h1 h2
    have hi : i < x.length := by omega
    refine Ev.step (fun k => hl k _ _ _) (Ev.pos (by omega) (Ev.pos (by omega) (Ev.pos (by omega) (Ev.bindS (hp _ (rd_mem (by omega) (by omega))) ?_))))
    rw [drop_cons x i hi]
    simp only [firstAt]
    by_cases hq : q (rd x i) = true
    · rw [if_pos hq]
      exact Ev.pos hq (Ev.now _)
    · rw [if_neg hq]
      refine Ev.neg hq ?_
      have := ih (i + 1) (by omega) (by omega)
      rw [w64 (by omega) (by omega)]
      exact this
theorem firstAt_any (q : Int → Bool) : ∀ (l : List Int) (i : Int), 0 ≤ i → decide (firstAt q l i ≥ 0) = l.any q
  | [], _, _ => by simp [firstAt]
  | x :: l, i, h => by
    by_cases hq : q x = true
    · simp [firstAt, hq, h]
    · have ih := firstAt_any q l (i + 1) (by omega)
      simp only [Bool.not_eq_true] at hq
      simp [firstAt, hq]
      simpa using ih
/-- 'slices.ContainsFunc' at a function value. -/
theorem contains_ev {p : Int → Option Bool} {q : Int → Bool} {l : Nat → List Int → Int → Int → Option Int}
    (hl : ∀ k x n i, l (k + 1) x n i = if i < n then (if 0 ≤ i then (if i < (x.length : Int) then ((p (rd x i)).bind fun t => (if t = true then (some i) else (l k x n (wrap64 (i + 1))))) else none) else none) else some (-1))
    (x : List Int) (hx : x.length ≤ 9223372036854775806) (hp : ∀ y ∈ x, p y = some (q y)) : Ev (fun k => (l k x (x.length : Int) 0).bind fun t => some (decide (t ≥ 0))) (x.any q) := by
  have h := index_loop hl x hx hp x.length 0 (by omega) (by omega)
  refine Ev.bind h (Ev.ret ?_)
  rw [firstAt_any q _ _ (by simp)]
  simp

end Go.Proofs.YtdnfmilnkoocdaaDoor.K

-- from Ptok
/- Words of a line: the list functions, and what a blank between two lines does. -/
namespace Go.Proofs.YtdnfmilnkoocdaaDoor.K
set_option linter.unusedVariables false
set_option linter.unusedSimpArgs false
open Go.RowKit Go.Proofs.YtdnfmilnkoocdaaDoorW.PrintWords

def dig (c : Int) : Bool := decide (48 ≤ c ∧ c ≤ 57)
def blank (c : Int) : Bool := decide (c = 32 ∨ c = 9)
def sep (c : Int) : Bool := decide (c = 32 ∨ c = 9 ∨ c = 59)
/-- How many octets an escape has with which a list begins; 0: it is none. -/
def escL : List Int → Nat
  | _ :: c1 :: c2 :: c3 :: _ => if dig c1 = true then (if dig c2 = true ∧ dig c3 = true ∧ (c1 - 48) * 100 + (c2 - 48) * 10 + (c3 - 48) ≤ 255 then 4 else 0) else 2
  | _ :: c1 :: _ => if dig c1 = true then 0 else 2
  | _ => 0
def bump : Sum Int Nat → Sum Int Nat
  | .inl e => .inl e
  | .inr n => .inr (n + 1)
def scan (q : Bool) : Nat → List Int → Sum Int Nat
  | _, [] => if q = true then .inl 61 else .inr 0
  | k + 1, _ :: t => bump (scan q k t)
  | 0, c :: t =>
    if c = 92 then (if escL (c :: t) = 0 then .inl 60 else bump (scan q (escL (c :: t) - 1) t))
    else if q = true ∧ c = 34 then (match t with | [] => .inr 1 | d :: _ => if sep d = true then .inr 1 else .inl 61)
    else if c = 34 then .inl 61
    else if q = false ∧ (c = 40 ∨ c = 41) then .inl 11
    else if q = false ∧ sep c = true then .inr 0
    else bump (scan q 0 t)
def wordL : List Int → Sum Int Nat
  | [] => .inr 0
  | c :: u => if c = 34 then bump (scan true 0 u) else scan false 0 (c :: u)
def push (w : List Int) : Sum Int (List (List Int)) → Sum Int (List (List Int))
  | .inl e => .inl e
  | .inr l => .inr (w :: l)
/-- The words of a line, or its first error. -/
inductive Spl : List Int → Sum Int (List (List Int)) → Prop
  | nil {L : List Int} : L.dropWhile blank = [] → Spl L (.inr [])
  | rem {L u : List Int} : L.dropWhile blank = 59 :: u → Spl L (.inr [])
  | err {L u : List Int} {c e : Int} : L.dropWhile blank = c :: u → c ≠ 59 → wordL (c :: u) = .inl e → Spl L (.inl e)
  | more {L u : List Int} {c : Int} {n : Nat} {r : Sum Int (List (List Int))} : L.dropWhile blank = c :: u → c ≠ 59 → wordL (c :: u) = .inr n → Spl ((c :: u).drop n) r → Spl L (push ((c :: u).take n) r)

theorem wordL_cons (c : Int) (u : List Int) : wordL (c :: u) = if c = 34 then bump (scan true 0 u) else scan false 0 (c :: u) := rfl
theorem bump_inr {x : Sum Int Nat} {n : Nat} (h : bump x = .inr n) : ∃ m, x = .inr m ∧ n = m + 1 := by
  cases x with
  | inl e => cases h
  | inr m => exact ⟨m, rfl, by injection h with h; omega⟩
theorem bump_inl {x : Sum Int Nat} {e : Int} (h : bump x = .inl e) : x = .inl e := by
  cases x with
  | inl e' => injection h with h; rw [h]
  | inr m => cases h
theorem escL_2 (a b : Int) : escL [a, b] = if dig b = true then 0 else 2 := rfl
theorem escL_3 (a b c : Int) : escL [a, b, c] = if dig b = true then 0 else 2 := rfl
theorem escL_4 (a b c d : Int) (r : List Int) : escL (a :: b :: c :: d :: r) = (if dig b = true then (if dig c = true ∧ dig d = true ∧ (b - 48) * 100 + (c - 48) * 10 + (d - 48) ≤ 255 then 4 else 0) else 2) := rfl
theorem escL_nz {t : List Int} (h : escL t ≠ 0) : escL t ≤ t.length ∧ 2 ≤ escL t := by
  match t with
  | [] => exact absurd rfl h
  | [_] => exact absurd rfl h
  | [a, b] => unfold escL at h ⊢; split at h <;> simp_all
  | [a, b, c] => unfold escL at h ⊢; split at h <;> simp_all
  | a :: b :: c :: d :: r =>
    have e : escL (a :: b :: c :: d :: r) = (if dig b = true then (if dig c = true ∧ dig d = true ∧ (b - 48) * 100 + (c - 48) * 10 + (d - 48) ≤ 255 then 4 else 0) else 2) := rfl
    rw [e] at h ⊢
    by_cases h1 : dig b = true
    · rw [if_pos h1] at h ⊢
      by_cases h2 : dig c = true ∧ dig d = true ∧ (b - 48) * 100 + (c - 48) * 10 + (d - 48) ≤ 255
      · rw [if_pos h2]; simp
      · rw [if_neg h2] at h; exact absurd rfl h
    · rw [if_neg h1]; simp
theorem escL_app {t r : List Int} (h : escL t ≠ 0) : escL (t ++ r) = escL t := by
  match t with
  | [] => exact absurd rfl h
  | [_] => exact absurd rfl h
  | [a, b] =>
    have hb : ¬ dig b = true := fun hb => h (by rw [escL_2, if_pos hb])
    match r with
    | [] => rfl
    | [c] => show escL [a, b, c] = _; rw [escL_2, escL_3]
    | c :: d :: r => show escL (a :: b :: c :: d :: r) = _; rw [escL_2, escL_4, if_neg hb, if_neg hb]
  | [a, b, c] =>
    have hb : ¬ dig b = true := fun hb => h (by rw [escL_3, if_pos hb])
    match r with
    | [] => rfl
    | d :: r => show escL (a :: b :: c :: d :: r) = _; rw [escL_3, escL_4, if_neg hb, if_neg hb]
  | a :: b :: c :: d :: r' => rfl
theorem dig32 : dig 32 = false := by decide
theorem escL_bad {c : Int} {t b : List Int} (h : escL (c :: t) = 0) (hne : t ≠ []) : escL (c :: t ++ 32 :: b) = 0 := by
  match t with
  | [] => exact absurd rfl hne
  | [x] =>
    have hx : dig x = true := by
      by_cases hx : dig x = true
      · exact hx
      · exfalso; rw [escL_2, if_neg hx] at h; omega
    match b with
    | [] => show escL [c, x, 32] = 0; rw [escL_3, if_pos hx]
    | y :: b => show escL (c :: x :: 32 :: y :: b) = 0; rw [escL_4, if_pos hx, if_neg (by simp [dig32])]
  | [x, y] =>
    have hx : dig x = true := by
      by_cases hx : dig x = true
      · exact hx
      · exfalso; rw [escL_3, if_neg hx] at h; omega
    show escL (c :: x :: y :: 32 :: b) = 0
    rw [escL_4, if_pos hx, if_neg (by simp [dig32])]
  | x :: y :: z :: t => exact h

theorem scan_le (q : Bool) : ∀ (t : List Int) (k n : Nat), scan q k t = .inr n → n ≤ t.length
  | [], k, n, h => by
    unfold scan at h
    split at h
    · cases h
    · injection h with h; omega
  | c :: t, k + 1, n, h => by
    unfold scan at h
    obtain ⟨m, h1, rfl⟩ := bump_inr h
    have := scan_le q t k m h1
    simp; omega
  | c :: t, 0, n, h => by
    unfold scan at h
    split at h
    · split at h
      · cases h
      · obtain ⟨m, h1, rfl⟩ := bump_inr h
        have := scan_le q t _ m h1
        simp; omega
    split at h
    · split at h
      · injection h with h; simp; omega
      · split at h
        · injection h with h; simp; omega
        · cases h
    split at h
    · cases h
    split at h
    · cases h
    split at h
    · injection h with h; omega
    · obtain ⟨m, h1, rfl⟩ := bump_inr h
      have := scan_le q t _ m h1
      simp; omega
theorem wordL_le {L : List Int} {n : Nat} (h : wordL L = .inr n) : n ≤ L.length := by
  cases L with
  | nil => injection h with h; omega
  | cons c u =>
    rw [wordL_cons] at h
    split at h
    · obtain ⟨m, h1, rfl⟩ := bump_inr h
      have := scan_le _ _ _ _ h1
      simp; omega
    · exact scan_le _ _ _ _ h
theorem wordL_pos {c : Int} {u : List Int} {n : Nat} (h : wordL (c :: u) = .inr n) (hb : blank c = false) (h9 : c ≠ 59) : 1 ≤ n := by
  rw [wordL_cons] at h
  split at h
  · obtain ⟨m, h1, rfl⟩ := bump_inr h; omega
  · rename_i h34
    unfold scan at h
    split at h
    · split at h
      · cases h
      · obtain ⟨m, h1, rfl⟩ := bump_inr h; omega
    try rw [if_neg (fun hh => h34 hh.2)] at h
    try rw [if_neg h34] at h
    split at h
    · cases h
    split at h
    · rename_i hs
      exfalso
      have h1 := of_decide_eq_true hs.2
      have h2 := of_decide_eq_false hb
      omega
    · obtain ⟨m, h1, rfl⟩ := bump_inr h; omega
theorem scan_err (q : Bool) : ∀ (t : List Int) (k : Nat) (e : Int), scan q k t = .inl e → e = 60 ∨ e = 61 ∨ e = 11
  | [], k, e, h => by
    unfold scan at h
    split at h
    · injection h with h; omega
    · cases h
  | c :: t, k + 1, e, h => by
    unfold scan at h
    exact scan_err q t k e (bump_inl h)
  | c :: t, 0, e, h => by
    unfold scan at h
    split at h
    · split at h
      · injection h with h; omega
      · exact scan_err q t _ e (bump_inl h)
    split at h
    · split at h
      · cases h
      · split at h
        · cases h
        · injection h with h; omega
    split at h
    · injection h with h; omega
    split at h
    · injection h with h; omega
    split at h
    · cases h
    · exact scan_err q t _ e (bump_inl h)
theorem wordL_err {L : List Int} {e : Int} (h : wordL L = .inl e) : e = 60 ∨ e = 61 ∨ e = 11 := by
  cases L with
  | nil => cases h
  | cons c u =>
    rw [wordL_cons] at h
    split at h
    · exact scan_err _ _ _ _ (bump_inl h)
    · exact scan_err _ _ _ _ h
theorem Spl.err_is {L : List Int} {r : Sum Int (List (List Int))} (h : Spl L r) : ∀ e, r = .inl e → e = 60 ∨ e = 61 ∨ e = 11 := by
  induction h with
  | nil _ => intro e h; cases h
  | rem _ => intro e h; cases h
  | err _ _ h => intro e he; injection he with he; rw [← he]; exact wordL_err h
  | @more L u c n r _ _ _ _ ih =>
    intro e h
    cases r with
    | inl e' => injection h with h; exact ih e (by rw [h])
    | inr l => cases h

theorem dropWhile_len (p : Int → Bool) : ∀ l : List Int, (l.dropWhile p).length ≤ l.length
  | [] => Nat.le_refl _
  | x :: l => by
    rw [List.dropWhile_cons]
    split
    · have := dropWhile_len p l; simp; omega
    · exact Nat.le_refl _
theorem dropWhile_head {p : Int → Bool} : ∀ {l u : List Int} {c : Int}, l.dropWhile p = c :: u → p c = false
  | [], u, c, h => by cases h
  | x :: l, u, c, h => by
    rw [List.dropWhile_cons] at h
    split at h
    · exact dropWhile_head h
    · rename_i hx
      injection h with h1 h2
      rw [← h1]
      simpa using hx
theorem dropWhile_suffix {p : Int → Bool} : ∀ (l : List Int), ∃ w, l = w ++ l.dropWhile p
  | [] => ⟨[], rfl⟩
  | x :: l => by
    rw [List.dropWhile_cons]
    split
    · obtain ⟨w, hw⟩ := dropWhile_suffix (p := p) l
      refine ⟨x :: w, ?_⟩
      rw [List.cons_append, ← hw]
    · exact ⟨[], rfl⟩
theorem dropWhile_app_ne {p : Int → Bool} : ∀ {l u r : List Int} {c : Int}, l.dropWhile p = c :: u → (l ++ r).dropWhile p = c :: (u ++ r)
  | [], u, r, c, h => by cases h
  | x :: l, u, r, c, h => by
    rw [List.cons_append, List.dropWhile_cons]
    rw [List.dropWhile_cons] at h
    split
    · rename_i hx
      rw [if_pos hx] at h
      exact dropWhile_app_ne h
    · rename_i hx
      rw [if_neg hx] at h
      injection h with h1 h2
      rw [h1, h2]
theorem dropWhile_app_nil {p : Int → Bool} : ∀ {l r : List Int}, l.dropWhile p = [] → (l ++ r).dropWhile p = r.dropWhile p
  | [], r, _ => rfl
  | x :: l, r, h => by
    rw [List.dropWhile_cons] at h
    split at h
    · rename_i hx
      rw [List.cons_append, List.dropWhile_cons, if_pos hx]
      exact dropWhile_app_nil h
    · cases h
theorem Spl.total : ∀ (n : Nat) (L : List Int), L.length ≤ n → ∃ r, Spl L r := by
  intro n
  induction n with
  | zero =>
    intro L h
    have : L = [] := List.eq_nil_of_length_eq_zero (by omega)
    subst this
    exact ⟨_, .nil rfl⟩
  | succ n ih =>
    intro L h
    have hl := dropWhile_len blank L
    cases hd : L.dropWhile blank with
    | nil => exact ⟨_, .nil hd⟩
    | cons c u =>
      by_cases h9 : c = 59
      · subst h9; exact ⟨_, .rem hd⟩
      cases hw : wordL (c :: u) with
      | inl e => exact ⟨_, .err hd h9 hw⟩
      | inr m =>
        have hp := wordL_pos hw (dropWhile_head hd) h9
        rw [hd] at hl
        obtain ⟨r, hr⟩ := ih ((c :: u).drop m) (by rw [List.length_drop]; omega)
        exact ⟨_, .more hd h9 hw hr⟩
theorem Spl.same {L L' : List Int} {r : Sum Int (List (List Int))} (h : Spl L r) (e : L'.dropWhile blank = L.dropWhile blank) : Spl L' r := by
  cases h with
  | nil h => exact .nil (e.trans h)
  | rem h => exact .rem (e.trans h)
  | err h a b => exact .err (e.trans h) a b
  | more h a b c => exact .more (e.trans h) a b c
theorem Spl.sum {L : List Int} {r : Sum Int (List (List Int))} (h : Spl L r) : ∀ l, r = .inr l → (l.map List.length).sum ≤ L.length := by
  induction h with
  | nil _ => intro l h; injection h with h; subst h; simp
  | rem _ => intro l h; injection h with h; subst h; simp
  | err _ _ _ => intro l h; cases h
  | @more L u c n r hd _ hw _ ih =>
    intro l h
    cases r with
    | inl e => cases h
    | inr l' =>
      injection h with h
      subst h
      have h1 := ih l' rfl
      have h2 := wordL_le hw
      have h3 := dropWhile_len blank L
      rw [hd] at h3
      rw [List.length_drop] at h1
      rw [List.map_cons, List.sum_cons, List.length_take]
      omega

/-! a blank behind -/
theorem scan_app (q : Bool) (b : List Int) : ∀ (t : List Int) (k n : Nat), k ≤ t.length → scan q k t = .inr n → scan q k (t ++ 32 :: b) = .inr n
  | [], k, n, hk, h => by
    obtain rfl : k = 0 := by simpa using hk
    unfold scan at h
    split at h
    · cases h
    rename_i hq
    have hq' : q = false := by simpa using hq
    subst hq'
    injection h with h
    subst h
    rfl
  | c :: t, k + 1, n, hk, h => by
    unfold scan at h
    obtain ⟨m, h1, rfl⟩ := bump_inr h
    rw [List.cons_append, scan, scan_app q b t k m (by simpa using hk) h1]
    rfl
  | c :: t, 0, n, hk, h => by
    rw [List.cons_append]
    unfold scan at h ⊢
    by_cases h92 : c = 92
    · rw [if_pos h92] at h ⊢
      split at h
      · cases h
      rename_i hz
      have ha := escL_app (r := 32 :: b) hz
      rw [List.cons_append] at ha
      rw [ha, if_neg hz]
      obtain ⟨m, h1, rfl⟩ := bump_inr h
      have hle := escL_nz hz
      rw [scan_app q b t _ m (by rw [List.length_cons] at hle; omega) h1]
      rfl
    rw [if_neg h92] at h ⊢
    by_cases hq : q = true ∧ c = 34
    · rw [if_pos hq] at h ⊢
      cases t with
      | nil => exact h
      | cons d t => exact h
    rw [if_neg hq] at h ⊢
    split at h
    · cases h
    rename_i h34
    rw [if_neg h34]
    split at h
    · cases h
    rename_i h40
    rw [if_neg h40]
    split at h
    · rename_i hs
      rw [if_pos hs]
      exact h
    rename_i hs
    rw [if_neg hs]
    obtain ⟨m, h1, rfl⟩ := bump_inr h
    rw [scan_app q b t 0 m (Nat.zero_le _) h1]
    rfl
theorem scan_app_err (b : List Int) (e : Int) : ∀ (t : List Int) (k : Nat), k ≤ t.length → 34 ∉ t → t.getLast? ≠ some 92 → scan false k t = .inl e → scan false k (t ++ 32 :: b) = .inl e
  | [], k, hk, h3, hl, h => by
    unfold scan at h
    cases h
  | c :: t, k + 1, hk, h3, hl, h => by
    unfold scan at h
    have h1 := bump_inl h
    have hne : t ≠ [] := fun e => by subst e; cases h1
    rw [List.cons_append, scan, scan_app_err b e t k (by simpa using hk) (fun hh => h3 (List.mem_cons_of_mem _ hh)) (by rw [List.getLast?_cons_of_ne_nil hne] at hl; exact hl) h1]
    rfl
  | c :: t, 0, hk, h3, hl, h => by
    have h34 : c ≠ 34 := fun hh => h3 (by rw [hh]; exact List.mem_cons_self)
    have tail : ∀ k, k ≤ t.length → scan false k t = .inl e → scan false k (t ++ 32 :: b) = .inl e := fun k hk' h1 => by
      have hne : t ≠ [] := fun e => by subst e; cases h1
      exact scan_app_err b e t k hk' (fun hh => h3 (List.mem_cons_of_mem _ hh)) (by rw [List.getLast?_cons_of_ne_nil hne] at hl; exact hl) h1
    rw [List.cons_append]
    unfold scan at h ⊢
    by_cases h92 : c = 92
    · rw [if_pos h92] at h ⊢
      have hne : t ≠ [] := fun e => by subst e; exact hl (by rw [h92]; rfl)
      by_cases hz : escL (c :: t) = 0
      · rw [if_pos hz] at h
        have := escL_bad (b := b) hz hne
        rw [List.cons_append] at this
        rw [if_pos this]
        exact h
      · rw [if_neg hz] at h
        have ha := escL_app (r := 32 :: b) hz
        rw [List.cons_append] at ha
        rw [ha, if_neg hz]
        have hle := escL_nz hz
        rw [tail _ (by rw [List.length_cons] at hle; omega) (bump_inl h)]
        rfl
    rw [if_neg h92, if_neg (fun hh => h34 hh.2), if_neg h34] at h ⊢
    split at h
    · rename_i h40
      rw [if_pos h40]
      exact h
    rename_i h40
    rw [if_neg h40]
    split at h
    · cases h
    rename_i hs
    rw [if_neg hs, tail 0 (Nat.zero_le _) (bump_inl h)]
    rfl
theorem wordL_app {L b : List Int} {n : Nat} (hne : L ≠ []) (h : wordL L = .inr n) : wordL (L ++ 32 :: b) = .inr n := by
  cases L with
  | nil => exact absurd rfl hne
  | cons c u =>
    rw [wordL_cons] at h
    rw [List.cons_append]
    rw [wordL_cons]
    split at h
    · rename_i h34
      rw [if_pos h34]
      obtain ⟨m, h1, rfl⟩ := bump_inr h
      rw [scan_app true b u 0 m (Nat.zero_le _) h1]
      rfl
    · rename_i h34
      rw [if_neg h34]
      exact scan_app false b (c :: u) 0 n (Nat.zero_le _) h
theorem wordL_app_err {L b : List Int} {e : Int} (h3 : 34 ∉ L) (hl : L.getLast? ≠ some 92) (h : wordL L = .inl e) : wordL (L ++ 32 :: b) = .inl e := by
  cases L with
  | nil => cases h
  | cons c u =>
    rw [wordL_cons] at h
    rw [List.cons_append]
    rw [wordL_cons]
    have h34 : c ≠ 34 := fun hh => h3 (by rw [hh]; exact List.mem_cons_self)
    rw [if_neg h34] at h ⊢
    exact scan_app_err b e (c :: u) 0 (Nat.zero_le _) h3 hl h
def app (l : List (List Int)) : Sum Int (List (List Int)) → Sum Int (List (List Int))
  | .inl e => .inl e
  | .inr m => .inr (l ++ m)
theorem push_app (w : List Int) (l : List (List Int)) (r : Sum Int (List (List Int))) : push w (app l r) = app (w :: l) r := by cases r <;> rfl
theorem Spl.join {a b : List Int} {r rb : Sum Int (List (List Int))} (h : Spl a r) (hb : Spl b rb) : ∀ l, r = .inr l → 59 ∉ a → Spl (a ++ 32 :: b) (app l rb) := by
  induction h with
  | @nil L hd =>
    intro l hr _
    injection hr with hr
    subst hr
    have : app [] rb = rb := by cases rb <;> rfl
    rw [this]
    refine hb.same ?_
    rw [dropWhile_app_nil hd]
    rfl
  | @rem L u hd =>
    intro l hr h9
    exfalso
    obtain ⟨w, hw⟩ := dropWhile_suffix (p := blank) L
    rw [hd] at hw
    exact h9 (by rw [hw]; simp)
  | err _ _ _ => intro l hr; cases hr
  | @more L u c n r hd h9 hw _ ih =>
    intro l hr h59
    cases r with
    | inl e => cases hr
    | inr l' =>
      injection hr with hr
      subst hr
      have hle := wordL_le hw
      have hn9 : 59 ∉ (c :: u).drop n := fun hh => by
        obtain ⟨w, hw'⟩ := dropWhile_suffix (p := blank) L
        rw [hd] at hw'
        exact h59 (by rw [hw']; exact List.mem_append_right _ (List.mem_of_mem_drop hh))
      have h1 := ih l' rfl hn9
      rw [← push_app]
      have e1 : ((c :: u) ++ 32 :: b).drop n = (c :: u).drop n ++ 32 :: b := List.drop_append_of_le_length hle
      have e2 : ((c :: u) ++ 32 :: b).take n = (c :: u).take n := List.take_append_of_le_length hle
      have := Spl.more (L := L ++ 32 :: b) (u := u ++ 32 :: b) (c := c) (n := n) (dropWhile_app_ne hd) h9 (by have := wordL_app (b := b) (by simp) hw; exact this) (by rw [← List.cons_append, e1]; exact h1)
      rw [← List.cons_append, e2] at this
      exact this
theorem getLast_suffix {w l : List Int} (h : l ≠ []) : (w ++ l).getLast? = l.getLast? := by
  rw [List.getLast?_append]
  cases hl : l.getLast? with
  | none => exact absurd (List.getLast?_eq_none_iff.1 hl) h
  | some x => rfl
theorem Spl.nil_is {L : List Int} {r : Sum Int (List (List Int))} (h : Spl L r) (e : L = []) : r = .inr [] := by
  cases h with
  | nil _ => rfl
  | rem _ => rfl
  | err hd _ _ => subst e; cases hd
  | more hd _ _ _ => subst e; cases hd
theorem Spl.join_err {a b : List Int} {r : Sum Int (List (List Int))} (h : Spl a r) : ∀ e, r = .inl e → 34 ∉ a → a.getLast? ≠ some 92 → Spl (a ++ 32 :: b) (.inl e) := by
  induction h with
  | nil _ => intro e hr; cases hr
  | rem _ => intro e hr; cases hr
  | @err L u c e0 hd h9 hw =>
    intro e hr h3 hl
    injection hr with hr
    subst hr
    obtain ⟨w, hw'⟩ := dropWhile_suffix (p := blank) L
    rw [hd] at hw'
    have h3' : 34 ∉ c :: u := fun hh => h3 (by rw [hw']; exact List.mem_append_right _ hh)
    have hl' : (c :: u).getLast? ≠ some 92 := by rw [hw', getLast_suffix (by simp)] at hl; exact hl
    exact .err (dropWhile_app_ne hd) h9 (wordL_app_err h3' hl' hw)
  | @more L u c n r hd h9 hw hs ih =>
    intro e hr h3 hl
    cases r with
    | inr l => cases hr
    | inl e' =>
      injection hr with hr
      subst hr
      have hle := wordL_le hw
      obtain ⟨w, hw'⟩ := dropWhile_suffix (p := blank) L
      rw [hd] at hw'
      have hne : (c :: u).drop n ≠ [] := fun hh => by
        cases hs.nil_is hh
      have hsplit : c :: u = (c :: u).take n ++ (c :: u).drop n := (List.take_append_drop n _).symm
      have h1 := ih e' rfl (fun hh => h3 (by rw [hw']; exact List.mem_append_right _ (List.mem_of_mem_drop hh))) (by
        rw [hw', hsplit, ← List.append_assoc, getLast_suffix hne] at hl
        exact hl)
      have e1 : ((c :: u) ++ 32 :: b).drop n = (c :: u).drop n ++ 32 :: b := List.drop_append_of_le_length hle
      have := Spl.more (L := L ++ 32 :: b) (u := u ++ 32 :: b) (c := c) (n := n) (dropWhile_app_ne hd) h9 (by have := wordL_app (b := b) (by simp) hw; exact this) (by rw [← List.cons_append, e1]; exact h1)
      exact this
end Go.Proofs.YtdnfmilnkoocdaaDoor.K

-- from Ptok2
/- Words of a line: what the program tells, from a round on. -/
namespace Go.Proofs.YtdnfmilnkoocdaaDoor.K
set_option linter.unusedVariables false
set_option linter.unusedSimpArgs false
open Go.RowKit Go.Proofs.YtdnfmilnkoocdaaDoor.Q Go.Proofs.YtdnfmilnkoocdaaDoorW.PrintWords Go.Proofs.YtdnfmilnkoocdaaDoorW.PrintLast

theorem Ev.succ {α : Type} {g : Nat → Option α} {r : α} (h : Ev (fun k => g (k + 1)) r) : Ev g r := Ev.step (fun _ => rfl) h
theorem scan_0 (q : Bool) (c : Int) (t : List Int) : scan q 0 (c :: t) = if c = 92 then (if escL (c :: t) = 0 then .inl 60 else bump (scan q (escL (c :: t) - 1) t))
    else if q = true ∧ c = 34 then (match t with | [] => .inr 1 | d :: _ => if sep d = true then .inr 1 else .inl 61)
    else if c = 34 then .inl 61
    else if q = false ∧ (c = 40 ∨ c = 41) then .inl 11
    else if q = false ∧ sep c = true then .inr 0
    else bump (scan q 0 t) := by
  first
    | (rw [scan.eq_def]; done)
    | (rw [scan.eq_def]; rfl)
theorem digit_is (c : Int) : token_digit.f c = some (dig c) := by
  unfold token_digit.f dig
  split
  · rename_i h
    congr 1
    exact decide_eq_decide.2 (by omega)
  · rename_i h
    rw [decide_eq_false (by omega)]
theorem sep_idx {c : Int} (h : 0 ≤ c ∧ c ≤ 255) : ∃ t, strings_IndexByte.f (⟨#[32, 9, 59]⟩ : ByteArray) c = some t ∧ (t < 0 ↔ sep c = false) := by
  refine ⟨_, rfl, ?_⟩
  have key : ∀ b : UInt8, (Lib.indexByte [32, 9, 59] b < 0 ↔ ¬ (b = 32 ∨ b = 9 ∨ b = 59)) := by
    intro b
    simp only [Lib.indexByte]
    by_cases h1 : b = 32
    · subst h1; simp
    by_cases h2 : b = 9
    · subst h2; decide
    by_cases h3 : b = 59
    · subst h3; decide
    have e1 : ((32 : UInt8) == b) = false := by simpa using fun e => h1 e.symm
    have e2 : ((9 : UInt8) == b) = false := by simpa using fun e => h2 e.symm
    have e3 : ((59 : UInt8) == b) = false := by simpa using fun e => h3 e.symm
    simp [e1, e2, e3, h1, h2, h3]
  have hk := key c.toNat.toUInt8
  have hc : ∀ n : Nat, n < 256 → (c.toNat.toUInt8 = UInt8.ofNat n ↔ c = n) := by
    intro n hn
    constructor
    · intro e
      have := congrArg UInt8.toNat e
      simp at this
      omega
    · intro e
      subst e
      rfl
  refine hk.trans ?_
  have a1 : c.toNat.toUInt8 = 32 ↔ c = 32 := hc 32 (by omega)
  have a2 : c.toNat.toUInt8 = 9 ↔ c = 9 := hc 9 (by omega)
  have a3 : c.toNat.toUInt8 = 59 ↔ c = 59 := hc 59 (by omega)
  rw [a1, a2, a3]
  unfold sep
  simp

theorem escape_ev {t : List Int} (ho : Oct t) : ∃ v, Ev (fun k => token_escape.f k (strOfNums t)) (v, (escL t : Int)) := by
  unfold token_escape.f
  match t, ho with
  | [], ho => exact ⟨_, Ev.pos (by rw [size_str]; simp) (Ev.now _)⟩
  | [_], ho => exact ⟨_, Ev.pos (by rw [size_str]; simp) (Ev.now _)⟩
  | a :: b :: r, ho =>
    have hs : ((strOfNums (a :: b :: r)).size : Int) = (r.length : Int) + 2 := by rw [size_str]; simp; omega
    have hb : bt (strOfNums (a :: b :: r)) 1 = b := by
      rw [bt_str ho (by omega) (by simp; omega)]; rfl
    have j0t : Ev (fun k => token_escape.j0 k (strOfNums (a :: b :: r)) true) (0, 0) := Ev.step (f := fun _ => some (0, 0)) (fun k => rfl) (Ev.now _)
    rw [hs, hb, digit_is]
    by_cases hd : dig b = true
    · match r, ho, hs, hb, j0t with
      | [], ho, hs, hb, j0t =>
        rw [escL_2, if_pos hd]
        exact ⟨0, Ev.neg (by simp) (Ev.pos (by simp) (Ev.bind (Ev.now _) (Ev.pos hd (Ev.pos (by simp) j0t))))⟩
      | [c], ho, hs, hb, j0t =>
        rw [escL_3, if_pos hd]
        exact ⟨0, Ev.neg (by simp) (Ev.pos (by simp) (Ev.bind (Ev.now _) (Ev.pos hd (Ev.pos (by simp) j0t))))⟩
      | c :: d :: r, ho, hs, hb, j0t =>
        have hc : bt (strOfNums (a :: b :: c :: d :: r)) 2 = c := by
          rw [bt_str ho (by omega) (by simp; omega)]; rfl
        have hdd : bt (strOfNums (a :: b :: c :: d :: r)) 3 = d := by
          rw [bt_str ho (by omega) (by simp; omega)]; rfl
        rw [hc, hdd, digit_is, digit_is]
        have hl : (((c :: d :: r).length : Nat) : Int) = (r.length : Int) + 2 := by simp; omega
        rw [hl] at hs ⊢
        have front : ∀ v : Int × Int, Ev (fun k => (some (dig c)).bind fun t102 => if t102 = true then (if 3 < (r.length : Int) + 2 + 2 then (some (dig d)).bind fun t103 => token_escape.j0 k (strOfNums (a :: b :: c :: d :: r)) (!t103) else none) else token_escape.j0 k (strOfNums (a :: b :: c :: d :: r)) true) v →
            Ev (fun k => if (r.length : Int) + 2 + 2 < 2 then some (0, 0) else if 1 < (r.length : Int) + 2 + 2 then (some (dig b)).bind fun t101 => if t101 = true then (if (r.length : Int) + 2 + 2 < 4 then token_escape.j0 k (strOfNums (a :: b :: c :: d :: r)) true else if 2 < (r.length : Int) + 2 + 2 then (some (dig c)).bind fun t102 => if t102 = true then (if 3 < (r.length : Int) + 2 + 2 then (some (dig d)).bind fun t103 => token_escape.j0 k (strOfNums (a :: b :: c :: d :: r)) (!t103) else none) else token_escape.j0 k (strOfNums (a :: b :: c :: d :: r)) true else none) else some (b, 2) else none) v := by
          intro v h
          refine Ev.neg (by omega) (Ev.pos (by omega) (Ev.bind (Ev.now _) (Ev.pos hd (Ev.neg (by omega) (Ev.pos (by omega) h)))))
        by_cases hcc : dig c = true
        · by_cases hd3 : dig d = true
          · have b1 := of_decide_eq_true hd
            have b2 := of_decide_eq_true hcc
            have b3 := of_decide_eq_true hd3
            have m1 : (b - 48) % 256 = b - 48 := by omega
            have m2 : (c - 48) % 256 = c - 48 := by omega
            have m3 : (d - 48) % 256 = d - 48 := by omega
            have j0f : ∀ q : Bool, q = false → ∃ v, Ev (fun k => token_escape.j0 k (strOfNums (a :: b :: c :: d :: r)) q) (v, (escL (a :: b :: c :: d :: r) : Int)) := by
              intro q hq
              rw [escL_4, if_pos hd]
              by_cases hv : (b - 48) * 100 + (c - 48) * 10 + (d - 48) > 255
              · rw [if_neg (by omega)]
                refine ⟨0, Ev.step (fun k => rfl) (Ev.neg (by simp [hq]) (Ev.pos (by omega) (Ev.pos (by omega) (Ev.pos (by omega) (Ev.pos ?_ (Ev.now _))))))⟩
                rw [hb, hc, hdd, m1, m2, m3]
                exact hv
              · rw [if_pos ⟨hcc, hd3, by omega⟩]
                refine ⟨_, Ev.step (fun k => rfl) (Ev.neg (by simp [hq]) (Ev.pos (by omega) (Ev.pos (by omega) (Ev.pos (by omega) (Ev.neg ?_ (Ev.now _))))))⟩
                rw [hb, hc, hdd, m1, m2, m3]
                exact hv
            obtain ⟨v, hv⟩ := j0f false rfl
            refine ⟨v, front _ (Ev.bind (Ev.now _) (Ev.pos hcc (Ev.pos (by omega) (Ev.bind (Ev.now _) ?_))))⟩
            rw [hd3]
            exact hv
          · rw [escL_4, if_pos hd, if_neg (fun h => hd3 h.2.1)]
            refine ⟨0, front _ (Ev.bind (Ev.now _) (Ev.pos hcc (Ev.pos (by omega) (Ev.bind (Ev.now _) ?_))))⟩
            rw [show dig d = false by simpa using hd3]
            exact j0t
        · rw [escL_4, if_pos hd, if_neg (fun h => hcc h.1)]
          exact ⟨0, front _ (Ev.bind (Ev.now _) (Ev.neg hcc j0t))⟩
    · have he : escL (a :: b :: r) = 2 := by
        match r with
        | [] => rw [escL_2, if_neg hd]
        | [c] => rw [escL_3, if_neg hd]
        | c :: d :: r => rw [escL_4, if_neg hd]
      rw [he]
      exact ⟨b, Ev.neg (by omega) (Ev.pos (by omega) (Ev.bind (Ev.now _) (Ev.neg hd (Ev.now _))))⟩
def res (i : Int) : Sum Int Nat → Int × Int
  | .inl e => (0, e)
  | .inr n => (i + (n : Int), 0)
theorem res_bump (i : Int) (x : Sum Int Nat) : res i (bump x) = res (i + 1) x := by
  cases x with
  | inl e => rfl
  | inr n => show (i + ((n + 1 : Nat) : Int), (0 : Int)) = (i + 1 + (n : Int), 0); congr 1; omega
theorem scan_skip (q : Bool) : ∀ (k : Nat) (t : List Int) (i : Int), k ≤ t.length → res i (scan q k t) = res (i + (k : Int)) (scan q 0 (t.drop k))
  | 0, t, i, _ => by simp
  | k + 1, [], i, h => by simp at h
  | k + 1, c :: t, i, h => by
    rw [scan, res_bump, scan_skip q k t (i + 1) (by simpa using h), List.drop_succ_cons, show i + 1 + (k : Int) = i + ((k + 1 : Nat) : Int) by omega]
set_option maxHeartbeats 1000000 in
theorem word_loop {L : List Int} (ho : Oct L) (hL : L.length ≤ 1000000) (q : Bool) : ∀ (d i : Nat), L.length - i ≤ d → i ≤ L.length → Ev (fun k => token_word.l0 k (strOfNums L) q (i : Int)) (res (i : Int) (scan q 0 (L.drop i))) := by
  intro d
  induction d with
  | zero =>
    intro i h1 h2
    have : i = L.length := by omega
    subst this
    rw [List.drop_length]
    refine Ev.step (fun k => rfl) (Ev.neg (by rw [size_str]; omega) ?_)
    cases q with
    | true => exact Ev.pos rfl (Ev.now _)
    | false => exact Ev.neg (by decide) (Ev.ret (by simp [scan, res]))
  | succ d ih =>
    intro i h1 h2
    by_cases hi : i = L.length
    · subst hi
      rw [List.drop_length]
      refine Ev.step (fun k => rfl) (Ev.neg (by rw [size_str]; omega) ?_)
      cases q with
      | true => exact Ev.pos rfl (Ev.now _)
      | false => exact Ev.neg (by decide) (Ev.ret (by simp [scan, res]))
    have hlt : i < L.length := by omega
    have hbt : bt (strOfNums L) (i : Int) = rd L (i : Int) := bt_str ho (by omega) (by omega)
    have hoc := ho.rd (i := (i : Int)) (by omega) (by omega)
    have hcons := drop_cons L i hlt
    generalize hc : rd L (i : Int) = c at *
    have hw : wrap64 ((i : Int) + 1) = ((i + 1 : Nat) : Int) := by rw [w64 (by omega) (by omega)]; omega
    have next := ih (i + 1) (by omega) (by omega)
    refine Ev.step (fun k => rfl) (Ev.pos (by rw [size_str]; omega) (Ev.pos (by omega) ?_))
    rw [hbt, hcons, scan_0]
    by_cases h92 : c = 92
    · rw [if_pos h92]
      refine Ev.pos h92 (Ev.pos (by rw [size_str]; omega) ?_)
      have hex : (strOfNums L).extract ((i : Int)).toNat (strOfNums L).size = strOfNums (c :: L.drop (i + 1)) := by
        rw [extract_str, size_str, List.take_length, Int.toNat_natCast, hcons]
      rw [hex]
      have ho' : Oct (c :: L.drop (i + 1)) := by rw [← hcons]; exact ho.drop i
      obtain ⟨v, hv⟩ := escape_ev ho'
      refine Ev.bind hv ?_
      by_cases hz : escL (c :: L.drop (i + 1)) = 0
      · rw [if_pos hz]
        refine Ev.pos (by show ((escL (c :: L.drop (i + 1)) : Nat) : Int) = 0; omega) (Ev.now _)
      · rw [if_neg hz]
        have hle := escL_nz hz
        have hlen : (c :: L.drop (i + 1)).length = L.length - i := by rw [← hcons, List.length_drop]
        generalize hn : escL (c :: L.drop (i + 1)) = n at *
        refine Ev.neg (by show ¬ ((n : Nat) : Int) = 0; omega) ?_
        show Ev (fun k => token_word.l0 k (strOfNums L) q (wrap64 ((i : Int) + ((n : Nat) : Int)))) _
        rw [res_bump, scan_skip q _ _ _ (by rw [List.length_drop]; omega), List.drop_drop]
        have := ih (i + n) (by omega) (by omega)
        rw [w64 (by omega) (by omega), show i + 1 + (n - 1) = i + n by omega, show (i : Int) + 1 + ((n - 1 : Nat) : Int) = ((i + n : Nat) : Int) by omega, show (i : Int) + (n : Int) = ((i + n : Nat) : Int) by omega]
        exact this
    rw [if_neg h92]
    refine Ev.neg h92 ?_
    -- the walk behind a quote's end
    by_cases hq : q = true ∧ c = 34
    · obtain ⟨rfl, h34⟩ := hq
      rw [if_pos ⟨rfl, h34⟩]
      refine Ev.pos rfl (Ev.step (fun k => rfl) (Ev.pos (by simpa using h34) ?_))
      rw [hw]
      by_cases he : i + 1 = L.length
      · refine Ev.neg (by rw [size_str]; omega) ?_
        rw [show L.drop (i + 1) = [] from List.drop_of_length_le (by omega)]
        exact Ev.ret rfl
      · have hlt1 : i + 1 < L.length := by omega
        refine Ev.pos (by rw [size_str]; omega) (Ev.pos (by omega) ?_)
        rw [bt_str ho (by omega) (by omega), drop_cons L (i + 1) hlt1]
        obtain ⟨t, ht, hs⟩ := sep_idx (ho.rd (i := ((i + 1 : Nat) : Int)) (by omega) (by omega))
        refine Ev.bindS ht ?_
        by_cases hsp : sep (rd L ((i + 1 : Nat) : Int)) = true
        · simp only [hsp, if_true]
          refine Ev.neg (fun h => by rw [hs.1 h] at hsp; cases hsp) (Ev.ret ?_)
          show _ = ((i : Int) + ((1 : Nat) : Int), (0 : Int))
          congr 1
        · have hsf : sep (rd L ((i + 1 : Nat) : Int)) = false := by simpa using hsp
          simp only [hsf]
          exact Ev.pos (hs.2 hsf) (Ev.now _)
    rw [if_neg hq]
    have j2f : Ev (fun k => token_word.j2 k (strOfNums L) q (i : Int) c false) (res (i : Int) (if c = 34 then .inl 61 else if q = false ∧ (c = 40 ∨ c = 41) then .inl 11 else if q = false ∧ sep c = true then .inr 0 else bump (scan q 0 (L.drop (i + 1))))) := by
      refine Ev.succ ?_
      simp only [token_word.j2, Bool.false_eq_true, if_false]
      cases q with
      | true =>
        have h34 : c ≠ 34 := fun e => hq ⟨rfl, e⟩
        rw [if_neg h34, if_neg (by simp), if_neg (by simp), res_bump]
        simp only [if_true]
        refine Ev.succ ?_
        simp only [token_word.j3, Bool.false_eq_true, if_false, if_true]
        refine Ev.succ ?_
        simp only [token_word.j4, Bool.false_eq_true, if_false, if_true]
        rw [hw]
        exact next
      | false =>
        simp only [Bool.false_eq_true, if_false]
        refine Ev.succ ?_
        simp only [token_word.j3, Bool.false_eq_true, if_false]
        by_cases h34 : c = 34
        · rw [if_pos h34]
          exact Ev.pos (by simpa using h34) (Ev.now _)
        rw [if_neg h34]
        refine Ev.neg (by simpa using h34) ?_
        have j4f : c ≠ 40 → c ≠ 41 → Ev (fun k => token_word.j4 k (strOfNums L) false (i : Int) c false) (res (i : Int) (if True ∧ sep c = true then .inr 0 else bump (scan false 0 (L.drop (i + 1))))) := by
          intro h40 h41
          refine Ev.succ ?_
          simp only [token_word.j4, Bool.false_eq_true, if_false]
          obtain ⟨t, ht, hs⟩ := sep_idx hoc
          refine Ev.bindS ht ?_
          by_cases hsp : sep c = true
          · rw [if_pos ⟨trivial, hsp⟩]
            refine Ev.pos (by
              have : ¬ t < 0 := fun h => by rw [hs.1 h] at hsp; cases hsp
              omega) (Ev.ret ?_)
            show _ = ((i : Int) + ((0 : Nat) : Int), (0 : Int))
            congr 1
          · rw [if_neg (fun h => hsp h.2), res_bump]
            refine Ev.neg (by have := hs.2 (by simpa using hsp); omega) ?_
            rw [hw]
            exact next
        by_cases h40 : c = 40
        · rw [if_pos ⟨trivial, .inl h40⟩]
          exact Ev.pos h40 (Ev.step (f := fun _ => some (0, 11)) (fun k => rfl) (Ev.now _))
        refine Ev.neg h40 ?_
        by_cases h41 : c = 41
        · rw [if_pos ⟨trivial, .inr h41⟩]
          subst h41
          exact Ev.step (f := fun _ => some (0, 11)) (fun k => rfl) (Ev.now _)
        rw [if_neg (by omega), show (c == 41) = false by simpa using h41]
        exact j4f h40 h41
    cases q with
    | true =>
      have h34 : c ≠ 34 := fun e => hq ⟨rfl, e⟩
      refine Ev.pos rfl ?_
      rw [show (c == 34) = false by simpa using h34]
      exact j2f
    | false => exact Ev.neg (by decide) j2f
theorem word_ev {L : List Int} (ho : Oct L) (hL : L.length ≤ 1000000) (hne : L ≠ []) : Ev (fun k => token_word.f k (strOfNums L)) (res 0 (wordL L)) := by
  cases L with
  | nil => exact absurd rfl hne
  | cons c u =>
    have hb : bt (strOfNums (c :: u)) 0 = c := by rw [bt_str ho (by omega) (by simp)]; rfl
    unfold token_word.f
    rw [hb, wordL_cons]
    refine Ev.pos (by rw [size_str]; simp) ?_
    by_cases h34 : c = 34
    · rw [if_pos h34, res_bump]
      refine Ev.pos h34 ?_
      rw [show (c == 34) = true by simpa using h34]
      exact Ev.step (fun k => rfl) (word_loop ho hL true (c :: u).length 1 (by simp) (by simp))
    · rw [if_neg h34]
      refine Ev.neg h34 ?_
      rw [show (c == 34) = false by simpa using h34]
      exact Ev.step (fun k => rfl) (word_loop ho hL false (c :: u).length 0 (by simp) (by simp))
theorem trim_is {L : List Int} (ho : Oct L) : strings_TrimLeft.f (strOfNums L) (⟨#[32, 9]⟩ : ByteArray) = some (strOfNums (L.dropWhile blank)) := by
  unfold strings_TrimLeft.f
  rw [if_pos ⟨by decide, by decide⟩]
  congr 1
  have key : ∀ L : List Int, Oct L → Lib.trimLeftS (strOfNums L).data.toList (⟨#[32, 9]⟩ : ByteArray).data.toList = (strOfNums (L.dropWhile blank)).data.toList := by
    intro L
    induction L with
    | nil => intro _; rfl
    | cons c u ih =>
      intro ho
      have hc := ho c List.mem_cons_self
      have e : (strOfNums (c :: u)).data.toList = UInt8.ofNat c.toNat :: (strOfNums u).data.toList := by simp [strOfNums]
      have hcon : ((⟨#[32, 9]⟩ : ByteArray).data.toList.contains (UInt8.ofNat c.toNat)) = blank c := by
        unfold blank
        have h1 : ∀ n : Nat, n < 256 → (UInt8.ofNat c.toNat = UInt8.ofNat n ↔ c = n) := by
          intro n hn
          constructor
          · intro e
            have := congrArg UInt8.toNat e
            simp at this
            omega
          · intro e; subst e; rfl
        have a1 : UInt8.ofNat c.toNat = 32 ↔ c = 32 := h1 32 (by omega)
        have a2 : UInt8.ofNat c.toNat = 9 ↔ c = 9 := h1 9 (by omega)
        show ([32, 9] : List UInt8).contains _ = _
        by_cases x1 : c = 32
        · rw [a1.2 x1]; subst x1; rfl
        by_cases x2 : c = 9
        · rw [a2.2 x2]; subst x2; rfl
        rw [decide_eq_false (by omega)]
        have y1 : ¬ UInt8.ofNat c.toNat = 32 := fun h => x1 (a1.1 h)
        have y2 : ¬ UInt8.ofNat c.toNat = 9 := fun h => x2 (a2.1 h)
        simp [y1, y2]
      unfold Lib.trimLeftS at ih ⊢
      rw [e, List.dropWhile_cons, List.dropWhile_cons, hcon]
      split
      · exact ih (fun x hx => ho x (List.mem_cons_of_mem _ hx))
      · exact e.symm
  rw [key L ho]
def fin (acc : List ByteArray) : Sum Int (List (List Int)) → List ByteArray × Int
  | .inl e => ([], e)
  | .inr l => (acc ++ l.map strOfNums, 0)
theorem oct_dropWhile {L : List Int} (ho : Oct L) : Oct (L.dropWhile blank) := fun x hx => ho x (by
  obtain ⟨w, hw⟩ := dropWhile_suffix (p := blank) L
  rw [hw]; exact List.mem_append_right _ hx)
theorem str_empty {L : List Int} : (strOfNums L).toList = ([] : List UInt8) ↔ L = [] := by
  rw [ba_toList]
  simp [strOfNums]
theorem split_loop {L : List Int} {r : Sum Int (List (List Int))} (h : Spl L r) : Oct L → ∀ acc : List ByteArray, acc.length + L.length ≤ 1000000 → Ev (fun k => token_Split.l0 k (strOfNums L) acc) (fin acc r) := by
  induction h with
  | @nil L hd =>
    intro ho acc hl
    refine Ev.succ ?_
    simp only [token_Split.l0, trim_is ho, Option.bind_some]
    rw [hd]
    exact Ev.pos (str_empty.2 rfl) (Ev.step (f := fun _ => some (acc, 0)) (fun k => rfl) (Ev.ret (by simp [fin])))
  | @rem L u hd =>
    intro ho acc hl
    refine Ev.succ ?_
    simp only [token_Split.l0, trim_is ho, Option.bind_some]
    have ho' := oct_dropWhile ho
    rw [hd] at ho' ⊢
    refine Ev.neg (fun e => by cases str_empty.1 e) (Ev.pos (by rw [size_str]; simp) ?_)
    rw [bt_str ho' (by omega) (by simp), rd_cons_zero]
    exact Ev.step (f := fun _ => some (acc, 0)) (fun k => rfl) (Ev.ret (by simp [fin]))
  | @err L u c e hd h9 hw =>
    intro ho acc hl
    refine Ev.succ ?_
    simp only [token_Split.l0, trim_is ho, Option.bind_some]
    have ho' := oct_dropWhile ho
    have hlen := dropWhile_len blank L
    rw [hd] at ho' hlen ⊢
    refine Ev.neg (fun e => by cases str_empty.1 e) (Ev.pos (by rw [size_str]; simp) ?_)
    rw [bt_str ho' (by omega) (by simp), rd_cons_zero]
    refine Ev.step (fun k => rfl) (Ev.neg (by simpa using h9) ?_)
    have hwe := word_ev ho' (by omega) (by simp)
    rw [hw] at hwe
    refine Ev.bind hwe (Ev.neg ?_ (Ev.now _))
    have := wordL_err hw
    show ¬ e = 0
    omega
  | @more L u c n r hd h9 hw hs ih =>
    intro ho acc hl
    refine Ev.succ ?_
    simp only [token_Split.l0, trim_is ho, Option.bind_some]
    have ho' := oct_dropWhile ho
    have hlen := dropWhile_len blank L
    have hp := wordL_pos hw (dropWhile_head hd) h9
    rw [hd] at ho' hlen ⊢
    refine Ev.neg (fun e => by cases str_empty.1 e) (Ev.pos (by rw [size_str]; simp) ?_)
    rw [bt_str ho' (by omega) (by simp), rd_cons_zero]
    refine Ev.step (fun k => rfl) (Ev.neg (by simpa using h9) ?_)
    have hwe := word_ev ho' (by omega) (by simp)
    have hle := wordL_le hw
    rw [hw] at hwe
    have hr : res 0 (.inr n) = ((n : Int), 0) := by show ((0 : Int) + (n : Int), (0 : Int)) = _; congr 1; omega
    rw [hr] at hwe
    refine Ev.bind hwe (Ev.pos rfl (Ev.pos (by show (0 : Int) ≤ (n : Int); omega) (Ev.pos (by rw [size_str]; show (n : Int) ≤ _; omega) (Ev.pos (by omega) ?_))))
    show Ev (fun k => token_Split.l0 k ((strOfNums (c :: u)).extract ((n : Nat) : Int).toNat (strOfNums (c :: u)).size) (acc ++ [(strOfNums (c :: u)).extract 0 ((n : Nat) : Int).toNat])) _
    rw [extract_str, extract_str, size_str, List.take_length, Int.toNat_natCast, List.drop_zero]
    have := ih (ho'.drop n) (acc ++ [strOfNums ((c :: u).take n)]) (by rw [List.length_append, List.length_drop]; simp only [List.length_cons, List.length_nil] at hlen ⊢; omega)
    have e : fin acc (push ((c :: u).take n) r) = fin (acc ++ [strOfNums ((c :: u).take n)]) r := by
      cases r with
      | inl e => rfl
      | inr l => simp [fin, push]
    rw [e]
    exact this
theorem Split_ev {L : List Int} {r : Sum Int (List (List Int))} (h : Spl L r) (ho : Oct L) (hl : L.length ≤ 1000000) : Ev (fun k => token_Split.f k L) (fin [] r) := split_loop h ho [] (by simpa using hl)
end Go.Proofs.YtdnfmilnkoocdaaDoor.K

-- from Pesc
/- Texts made of units: an octet as it is, a backslash and an octet, a backslash and three digits. -/
namespace Go.Proofs.YtdnfmilnkoocdaaDoor.K
set_option linter.unusedVariables false
set_option linter.unusedSimpArgs false
open Go.RowKit Go.Proofs.YtdnfmilnkoocdaaDoor.Q Go.Proofs.YtdnfmilnkoocdaaDoorW.PrintWords Go.Proofs.YtdnfmilnkoocdaaDoorW.PrintLast

theorem bof_is {L : List Int} (ho : Oct L) (hL : L.length ≤ 1000000) : Q.bytesOf.f (strOfNums L) = some L := by
  unfold Q.bytesOf.f
  rw [if_pos (by rw [size_str]; omega)]
  congr 1
  exact bytesOf_str ho
inductive Uni : List Int × Int → Prop
  | esc (c : Int) : dig c = false → 0 ≤ c → c ≤ 255 → Uni ([92, c], c)
  | one (c : Int) : c ≠ 92 → c ≠ 34 → c ≠ 40 → c ≠ 41 → sep c = false → 0 ≤ c → c ≤ 255 → Uni ([c], c)
  | num (c d1 d2 d3 : Int) : dig d1 = true → dig d2 = true → dig d3 = true → (d1 - 48) * 100 + (d2 - 48) * 10 + (d3 - 48) = c → 0 ≤ c → c ≤ 255 → Uni ([92, d1, d2, d3], c)
def flat (us : List (List Int × Int)) : List Int := us.flatMap (·.1)
theorem flat_cons (u : List Int × Int) (us : List (List Int × Int)) : flat (u :: us) = u.1 ++ flat us := by unfold flat; rw [List.flatMap_cons]
theorem special_nodig {c : Int} (h : special c = true) : dig c = false := by
  have := of_decide_eq_true h
  exact decide_eq_false (by omega)
theorem esc1_uni {c : Int} (h : 0 ≤ c ∧ c ≤ 255) : Uni (esc1 c, c) := by
  unfold esc1
  by_cases sp : special c = true
  · rw [if_pos sp]; exact .esc c (special_nodig sp) h.1 h.2
  have sp' : special c = false := by simpa using sp
  rw [if_neg sp]
  by_cases g : 32 < c ∧ c ≤ 126
  · rw [if_pos g]
    have := of_decide_eq_false sp'
    exact .one c (by omega) (by omega) (by omega) (by omega) (decide_eq_false (by omega)) h.1 h.2
  · rw [if_neg g]
    exact .num c _ _ _ (decide_eq_true (by omega)) (decide_eq_true (by omega)) (decide_eq_true (by omega)) (by omega) h.1 h.2
theorem dot_uni : Uni ([46], 46) := .one 46 (by decide) (by decide) (by decide) (by decide) (by decide) (by decide) (by decide)
def units (b : List Int) : List (List Int × Int) := b.map fun c => (esc1 c, c)
theorem flat_units (b : List Int) : flat (units b) = b.flatMap esc1 := by unfold flat units; rw [List.flatMap_map]
theorem units_snd (b : List Int) : (units b).map (·.2) = b := by unfold units; rw [List.map_map]; simp [Function.comp_def]
theorem units_uni {b : List Int} (ho : Oct b) : ∀ u ∈ units b, Uni u := fun u hu => by
  obtain ⟨c, hc, rfl⟩ := List.mem_map.1 hu
  exact esc1_uni (ho c hc)
theorem Uni.oct {u : List Int × Int} (h : Uni u) : Oct u.1 := by
  cases h with
  | esc c h1 h2 h3 => intro x hx; simp at hx; omega
  | one c => intro x hx; simp at hx; omega
  | num c d1 d2 d3 h1 h2 h3 =>
    have a1 := of_decide_eq_true h1
    have a2 := of_decide_eq_true h2
    have a3 := of_decide_eq_true h3
    intro x hx; simp at hx; omega
theorem flat_oct {us : List (List Int × Int)} (h : ∀ u ∈ us, Uni u) : Oct (flat us) := fun x hx => by
  obtain ⟨u, hu, hx⟩ := List.mem_flatMap.1 hx
  exact (h u hu).oct x hx
theorem escL_nodig {a c : Int} (r : List Int) (h : dig c = false) : escL (a :: c :: r) = 2 := by
  have h' : ¬ dig c = true := by simp [h]
  match r with
  | [] => rw [escL_2, if_neg h']
  | [x] => rw [escL_3, if_neg h']
  | x :: y :: r => rw [escL_4, if_neg h']
def addn : Nat → Sum Int Nat → Sum Int Nat
  | 0, x => x
  | n + 1, x => bump (addn n x)
theorem addn_add (m n : Nat) (x : Sum Int Nat) : addn m (addn n x) = addn (m + n) x := by
  induction m with
  | zero => rw [Nat.zero_add]; rfl
  | succ m ih => rw [addn, ih, show m + 1 + n = (m + n) + 1 by omega, addn]
theorem addn_inr (n m : Nat) : addn n (.inr m) = .inr (m + n) := by
  induction n with
  | zero => rfl
  | succ n ih => rw [addn, ih]; rfl
theorem scan_us : ∀ (us : List (List Int × Int)) (r : List Int), (∀ u ∈ us, Uni u) → scan false 0 (flat us ++ r) = addn (flat us).length (scan false 0 r)
  | [], r, _ => rfl
  | u :: us, r, h => by
    have ih := scan_us us r (fun x hx => h x (List.mem_cons_of_mem _ hx))
    rw [flat_cons, List.append_assoc, List.length_append]
    generalize flat us ++ r = R at *
    cases h u List.mem_cons_self with
    | esc c h1 h2 h3 =>
      show scan false 0 (92 :: c :: R) = addn (2 + _) _
      rw [scan_0, if_pos rfl, escL_nodig R h1, if_neg (by decide)]
      show bump (scan false 1 (c :: R)) = _
      rw [scan, ih, ← addn_add]
      rfl
    | one c g1 g2 g3 g4 g5 =>
      show scan false 0 (c :: R) = addn (1 + _) _
      rw [scan_0, if_neg g1, if_neg (by simp), if_neg g2, if_neg (by omega), if_neg (by simp [g5]), ih, ← addn_add]
      rfl
    | num c d1 d2 d3 h1 h2 h3 hv hc0 hc1 =>
      show scan false 0 (92 :: d1 :: d2 :: d3 :: R) = addn (4 + _) _
      have he : escL (92 :: d1 :: d2 :: d3 :: R) = 4 := by rw [escL_4, if_pos h1, if_pos ⟨h2, h3, by omega⟩]
      rw [scan_0, if_pos rfl, he, if_neg (by decide)]
      show bump (scan false 3 (d1 :: d2 :: d3 :: R)) = _
      rw [scan, scan, scan, ih, ← addn_add]
      rfl
/-- A unit's first octet is no blank, no semicolon, no quote. -/
theorem Uni.head {u : List Int × Int} (h : Uni u) : ∃ x t, u.1 = x :: t ∧ blank x = false ∧ x ≠ 59 ∧ x ≠ 34 := by
  cases h with
  | esc c => exact ⟨92, _, rfl, by decide, by decide, by decide⟩
  | one c g1 g2 g3 g4 g5 =>
    have := of_decide_eq_false g5
    exact ⟨c, _, rfl, decide_eq_false (by omega), by omega, g2⟩
  | num c => exact ⟨92, _, rfl, by decide, by decide, by decide⟩
theorem wordL_us {us : List (List Int × Int)} {r : List Int} {m : Nat} (h : ∀ u ∈ us, Uni u) (hne : us ≠ []) (hr : scan false 0 r = .inr m) : ∃ x t, flat us = x :: t ∧ blank x = false ∧ x ≠ 59 ∧ x ≠ 34 ∧ wordL (flat us ++ r) = .inr (m + (flat us).length) := by
  cases us with
  | nil => exact absurd rfl hne
  | cons u us =>
    obtain ⟨x, t, e, h1, h2, h3⟩ := (h u List.mem_cons_self).head
    have hs := scan_us (u :: us) r h
    rw [hr, addn_inr] at hs
    refine ⟨x, t ++ flat us, by rw [flat_cons, e]; rfl, h1, h2, h3, ?_⟩
    rw [← hs, flat_cons, e]
    show wordL (x :: (t ++ _ ++ r)) = _
    rw [wordL_cons, if_neg h3]
    rfl
theorem Spl_us {us : List (List Int × Int)} (h : ∀ u ∈ us, Uni u) (hne : us ≠ []) : Spl (flat us) (.inr [flat us]) := by
  obtain ⟨x, u, e, h1, h2, h3, hw⟩ := wordL_us (r := []) (m := 0) h hne rfl
  rw [List.append_nil, Nat.zero_add] at hw
  have hd : (flat us).dropWhile blank = x :: u := by rw [e, List.dropWhile_cons, if_neg (by simp [h1])]
  rw [e] at hw
  have := Spl.more hd h2 hw (r := .inr []) (Spl.nil (by rw [List.drop_length]; rfl))
  rw [List.take_length] at this
  rw [← e] at this
  exact this
theorem Spl_us_rem {us : List (List Int × Int)} (rest : List Int) (h : ∀ u ∈ us, Uni u) (hne : us ≠ []) : Spl (flat us ++ 32 :: 59 :: rest) (.inr [flat us]) := by
  obtain ⟨x, u, e, h1, h2, h3, hw⟩ := wordL_us (r := 32 :: 59 :: rest) (m := 0) h hne (by rfl)
  rw [Nat.zero_add] at hw
  have hx : flat us ++ 32 :: 59 :: rest = x :: (u ++ 32 :: 59 :: rest) := by rw [e]; rfl
  have hd : (flat us ++ 32 :: 59 :: rest).dropWhile blank = x :: (u ++ 32 :: 59 :: rest) := by rw [hx, List.dropWhile_cons, if_neg (by simp [h1])]
  have tail : Spl (32 :: 59 :: rest) (.inr []) := Spl.rem (u := rest) (by rfl)
  rw [hx] at hw
  have := Spl.more hd h2 hw (r := .inr []) (by rw [← hx, List.drop_left]; exact tail)
  rw [← hx, List.take_left] at this
  exact this

/-! what an escape stands for -/
theorem esc_val2 {c : Int} {r : List Int} (ho : Oct (92 :: c :: r)) (hd : dig c = false) : Ev (fun k => token_escape.f k (strOfNums (92 :: c :: r))) (c, 2) := by
  unfold token_escape.f
  have hs : ((strOfNums (92 :: c :: r)).size : Int) = (r.length : Int) + 2 := by rw [size_str]; simp; omega
  have hb : bt (strOfNums (92 :: c :: r)) 1 = c := by rw [bt_str ho (by omega) (by simp; omega)]; rfl
  rw [hs, hb, digit_is]
  exact Ev.neg (by omega) (Ev.pos (by omega) (Ev.bind (Ev.now _) (Ev.neg (by simp [hd]) (Ev.now _))))
theorem esc_val4 {c d1 d2 d3 : Int} {r : List Int} (ho : Oct (92 :: d1 :: d2 :: d3 :: r)) (h1 : dig d1 = true) (h2 : dig d2 = true) (h3 : dig d3 = true) (hv : (d1 - 48) * 100 + (d2 - 48) * 10 + (d3 - 48) = c) (hc : 0 ≤ c ∧ c ≤ 255) :
    Ev (fun k => token_escape.f k (strOfNums (92 :: d1 :: d2 :: d3 :: r))) (c, 4) := by
  unfold token_escape.f
  have hs : ((strOfNums (92 :: d1 :: d2 :: d3 :: r)).size : Int) = (r.length : Int) + 4 := by rw [size_str]; simp; omega
  have e1 : bt (strOfNums (92 :: d1 :: d2 :: d3 :: r)) 1 = d1 := by rw [bt_str ho (by omega) (by simp; omega)]; rfl
  have e2 : bt (strOfNums (92 :: d1 :: d2 :: d3 :: r)) 2 = d2 := by rw [bt_str ho (by omega) (by simp; omega)]; rfl
  have e3 : bt (strOfNums (92 :: d1 :: d2 :: d3 :: r)) 3 = d3 := by rw [bt_str ho (by omega) (by simp; omega)]; rfl
  have b1 := of_decide_eq_true h1
  have b2 := of_decide_eq_true h2
  have b3 := of_decide_eq_true h3
  have m1 : (d1 - 48) % 256 = d1 - 48 := by omega
  have m2 : (d2 - 48) % 256 = d2 - 48 := by omega
  have m3 : (d3 - 48) % 256 = d3 - 48 := by omega
  have j0 : ∀ q : Bool, q = false → Ev (fun k => token_escape.j0 k (strOfNums (92 :: d1 :: d2 :: d3 :: r)) q) (c, 4) := by
    intro q hq
    refine Ev.step (fun k => rfl) (Ev.neg (by simp [hq]) (Ev.pos (by omega) (Ev.pos (by omega) (Ev.pos (by omega) ?_))))
    rw [e1, e2, e3, m1, m2, m3, hv]
    exact Ev.neg (by omega) (Ev.ret (by rw [show c % 256 = c by omega]))
  rw [hs, e1, e2, e3, digit_is, digit_is, digit_is]
  refine Ev.neg (by omega) (Ev.pos (by omega) (Ev.bind (Ev.now _) (Ev.pos h1 (Ev.neg (by omega) (Ev.pos (by omega) (Ev.bind (Ev.now _) (Ev.pos h2 (Ev.pos (by omega) (Ev.bind (Ev.now _) ?_)))))))))
  rw [h3]
  exact j0 false rfl
theorem plain_us : ∀ (us : List (List Int × Int)), (∀ u ∈ us, Uni u) → ∀ acc : List Int, acc.length + us.length ≤ 100000 → Ev (fun k => token_Plain.l0 k (strOfNums (flat us)) acc) (acc ++ us.map (·.2), 0)
  | [], h, acc, hl => Ev.step (fun k => rfl) (Ev.neg (by rw [size_str]; simp [flat]) (Ev.ret (by simp)))
  | u :: us, h, acc, hl => by
    have hob : ∀ x ∈ us, Uni x := fun x hx => h x (List.mem_cons_of_mem _ hx)
    have ih := plain_us us hob (acc ++ [u.2]) (by rw [List.length_append]; simp only [List.length_cons, List.length_nil] at hl ⊢; omega)
    rw [List.append_assoc, show [u.2] ++ us.map (·.2) = (u :: us).map (·.2) from rfl] at ih
    rw [List.length_cons] at hl
    have hoe := flat_oct h
    rw [flat_cons] at hoe ⊢
    generalize hR : flat us = R at *
    refine Ev.succ ?_
    simp only [token_Plain.l0]
    cases h u List.mem_cons_self with
    | esc c sp c0 c1 =>
      simp only [List.cons_append, List.nil_append] at hoe ih ⊢
      have hs : ((strOfNums (92 :: c :: R)).size : Int) = (R.length : Int) + 2 := by rw [size_str]; simp; omega
      have hb : bt (strOfNums (92 :: c :: R)) 0 = 92 := by rw [bt_str hoe (by omega) (by simp; omega)]; rfl
      rw [hs]
      refine Ev.pos (by omega) (Ev.pos (by omega) (Ev.pos hb (Ev.bind (esc_val2 hoe sp) (Ev.pos (by omega) (Ev.pos (by show (0 : Int) ≤ 2; omega) (Ev.pos (by show (2 : Int) ≤ _; omega) ?_))))))
      show Ev (fun k => token_Plain.l0 k ((strOfNums (92 :: c :: R)).extract 2 (strOfNums (92 :: c :: R)).size) (acc ++ [c])) _
      rw [extract_str, size_str, List.take_length]
      exact ih
    | one c g1 g2 g3 g4 g5 c0 c1 =>
      simp only [List.cons_append, List.nil_append] at hoe ih ⊢
      have hs : ((strOfNums (c :: R)).size : Int) = (R.length : Int) + 1 := by rw [size_str]; simp
      have hb : bt (strOfNums (c :: R)) 0 = c := by rw [bt_str hoe (by omega) (by rw [List.length_cons]; omega)]; rfl
      rw [hs, hb]
      refine Ev.pos (by omega) (Ev.pos (by omega) (Ev.neg g1 (Ev.pos (by omega) (Ev.pos (by omega) ?_))))
      show Ev (fun k => token_Plain.l0 k ((strOfNums (c :: R)).extract 1 (strOfNums (c :: R)).size) (acc ++ [c])) _
      rw [extract_str, size_str, List.take_length]
      exact ih
    | num c d1 d2 d3 h1' h2' h3' hv c0 c1 =>
      simp only [List.cons_append, List.nil_append] at hoe ih ⊢
      have hs : ((strOfNums (92 :: d1 :: d2 :: d3 :: R)).size : Int) = (R.length : Int) + 4 := by rw [size_str]; simp; omega
      have hb : bt (strOfNums (92 :: d1 :: d2 :: d3 :: R)) 0 = 92 := by rw [bt_str hoe (by omega) (by simp; omega)]; rfl
      rw [hs]
      refine Ev.pos (by omega) (Ev.pos (by omega) (Ev.pos hb (Ev.bind (esc_val4 hoe h1' h2' h3' hv ⟨c0, c1⟩) (Ev.pos (by omega) (Ev.pos (by show (0 : Int) ≤ 4; omega) (Ev.pos (by show (4 : Int) ≤ _; omega) ?_))))))
      show Ev (fun k => token_Plain.l0 k ((strOfNums (92 :: d1 :: d2 :: d3 :: R)).extract 4 (strOfNums (92 :: d1 :: d2 :: d3 :: R)).size) (acc ++ [c])) _
      rw [extract_str, size_str, List.take_length]
      exact ih
theorem plain_ev {us : List (List Int × Int)} (h : ∀ u ∈ us, Uni u) (hb : (flat us).length ≤ 1000000) (hu : us.length ≤ 90000) (hne : us ≠ []) : Ev (fun k => token_Plain.f k (strOfNums (flat us))) (us.map (·.2), 0) := by
  have hoe := flat_oct h
  obtain ⟨x, u, e, h1, h2, h3, _⟩ := wordL_us (r := []) (m := 0) h hne rfl
  have hspl := Split_ev (Spl_us h hne) hoe (by omega)
  have hpos : 0 < (flat us).length := by rw [e]; simp
  have hbt : bt (strOfNums (flat us)) 0 = x := by rw [bt_str hoe (by omega) (by omega), e]; rfl
  unfold token_Plain.f
  rw [bof_is hoe (by omega), hbt]
  refine Ev.bind (Ev.now _) (Ev.bind hspl (Ev.pos rfl (Ev.pos rfl (Ev.pos (by show (0 : Int) < 1; omega) (Ev.pos rfl (Ev.pos (by rw [size_str]; omega) (Ev.neg h3 ?_)))))))
  exact Ev.step (fun k => rfl) (plain_us us h [] (by simp; omega))

/-! the document's escape -/
theorem tdiv_c {c : Int} (h : 0 ≤ c) (n : Int) : Int.tdiv c n = c / n := Int.tdiv_eq_ediv_of_nonneg h
/-- The three ways of an octet. -/
theorem esc1_ways {c : Int} (h : 0 ≤ c ∧ c ≤ 255) :
    (special c = true ∧ esc1 c = [92, c]) ∨ (special c = false ∧ 32 < c ∧ c ≤ 126 ∧ esc1 c = [c]) ∨
    (∃ d1 d2 d3 : Int, esc1 c = [92, d1, d2, d3] ∧ dig d1 = true ∧ dig d2 = true ∧ dig d3 = true ∧ (d1 - 48) * 100 + (d2 - 48) * 10 + (d3 - 48) = c) := by
  unfold esc1
  by_cases sp : special c = true
  · exact .inl ⟨sp, if_pos sp⟩
  have sp' : special c = false := by simpa using sp
  rw [if_neg sp]
  by_cases g : 32 < c ∧ c ≤ 126
  · exact .inr (.inl ⟨sp', g.1, g.2, if_pos g⟩)
  · rw [if_neg g]
    refine .inr (.inr ⟨_, _, _, rfl, ?_, ?_, ?_, ?_⟩)
    · exact decide_eq_true (by omega)
    · exact decide_eq_true (by omega)
    · exact decide_eq_true (by omega)
    · omega
theorem escaped_loop {b : List Int} (ho : Oct b) (hb : b.length ≤ 1000) : ∀ (d i : Nat), b.length - i = d → i ≤ b.length → Ev (fun k => paronymref25_Escaped.l0 k (strOfNums b) ((b.take i).flatMap esc1) (i : Int)) (strOfNums (b.flatMap esc1)) := by
  intro d
  induction d with
  | zero =>
    intro i h1 h2
    rw [List.take_of_length_le (by omega)]
    exact Ev.step (fun k => rfl) (Ev.neg (by rw [size_str]; omega) (Ev.now _))
  | succ d ih =>
    intro i h1 h2
    have hlt : i < b.length := by omega
    have hc := ho.rd (i := (i : Int)) (by omega) (by omega)
    have hbt : bt (strOfNums b) (i : Int) = rd b (i : Int) := bt_str ho (by omega) (by omega)
    have htk := take_snoc b i hlt
    have next := ih (i + 1) (by omega) (by omega)
    rw [htk, List.flatMap_append, List.flatMap_singleton] at next
    have hacc : ((b.take i).flatMap esc1).length ≤ 4000 := by
      have := esc_len (b.take i)
      rw [List.length_take] at this
      omega
    generalize hcc : rd b (i : Int) = c at *
    have hw : wrap64 ((i : Int) + 1) = ((i + 1 : Nat) : Int) := by rw [w64 (by omega) (by omega)]; omega
    generalize (b.take i).flatMap esc1 = acc at *
    have j1 : ∀ q : Bool, special c = q → Ev (fun k => paronymref25_Escaped.j1 k (strOfNums b) acc (i : Int) c q) (strOfNums (b.flatMap esc1)) := by
      intro q hq
      rcases esc1_ways hc with ⟨sp, e⟩ | ⟨sp, g1, g2, e⟩ | ⟨d1, d2, d3, e, h1', h2', h3', hv⟩
      · rw [e] at next
        refine Ev.step (fun k => rfl) (Ev.pos (by rw [← hq, sp]) (Ev.bind (Ev.now _) (Ev.pos (by simp; omega) ?_)))
        rw [hw]; exact next
      · rw [e] at next
        refine Ev.step (fun k => rfl) (Ev.neg (by rw [← hq, sp]; simp) (Ev.pos (by omega) (Ev.pos (by omega) (Ev.pos (by omega) ?_))))
        rw [hw]; exact next
      · have hsf : ¬ q = true := by
          intro h
          rw [h] at hq
          unfold esc1 at e
          rw [if_pos hq] at e
          simp at e
        have hng : ¬ (32 < c ∧ c ≤ 126) := by
          intro h
          unfold esc1 at e
          rw [if_neg (by rw [hq]; exact hsf), if_pos h] at e
          simp at e
        have e2 : esc1 c = [92, 48 + c / 100, 48 + c / 10 % 10, 48 + c % 10] := by
          unfold esc1
          rw [if_neg (by rw [hq]; exact hsf), if_neg hng]
        rw [e2] at next
        have hm : Int.tmod c 10 = c % 10 := Int.tmod_eq_emod_of_nonneg (by omega)
        have v1 : (48 + ((Int.tdiv c 100) % 256)) % 256 = 48 + c / 100 := by rw [tdiv_c (by omega)]; omega
        have v2 : 48 + (((Int.tdiv c 10) % 256) % 10) = 48 + c / 10 % 10 := by rw [tdiv_c (by omega)]; omega
        have v3 : (48 + (Int.tmod c 10)) % 256 = 48 + c % 10 := by rw [hm]; omega
        refine Ev.step (fun k => rfl) (Ev.neg hsf ?_)
        rw [v1, v2, v3]
        by_cases g1 : c > 32
        · refine Ev.pos g1 (Ev.neg (by omega) (Ev.bind (Ev.now _) (Ev.pos (by simp; omega) ?_)))
          rw [hw]; exact next
        · refine Ev.neg g1 (Ev.bind (Ev.now _) (Ev.pos (by simp; omega) ?_))
          rw [hw]; exact next
    refine Ev.step (fun k => rfl) (Ev.pos (by rw [size_str]; omega) (Ev.pos (by omega) ?_))
    rw [hbt]
    have spt : (c = 34 ∨ c = 59 ∨ c = 40 ∨ c = 41 ∨ c = 92 ∨ c = 46) → special c = true := fun h => decide_eq_true h
    by_cases q1 : c = 34
    · exact Ev.pos q1 (j1 true (spt (by omega)))
    refine Ev.neg q1 ?_
    by_cases q2 : c = 59
    · exact Ev.pos q2 (j1 true (spt (by omega)))
    refine Ev.neg q2 ?_
    by_cases q3 : c = 40
    · exact Ev.pos q3 (j1 true (spt (by omega)))
    refine Ev.neg q3 ?_
    by_cases q4 : c = 41
    · exact Ev.pos q4 (j1 true (spt (by omega)))
    refine Ev.neg q4 ?_
    by_cases q5 : c = 92
    · exact Ev.pos q5 (j1 true (spt (by omega)))
    refine Ev.neg q5 (j1 _ ?_)
    by_cases q6 : c = 46
    · rw [spt (by omega)]; simp [q6]
    · rw [show (c == 46) = false by simpa using q6]
      exact decide_eq_false (by omega)
theorem escaped_ev {b : List Int} (ho : Oct b) (hb : b.length ≤ 1000) : Ev (fun k => paronymref25_Escaped.f k (strOfNums b)) (strOfNums (b.flatMap esc1)) := escaped_loop ho hb b.length 0 (by omega) (Nat.zero_le _)

end Go.Proofs.YtdnfmilnkoocdaaDoor.K

-- from Pown
/- A name's labels: what the program and the document tell, from a round on. -/
namespace Go.Proofs.YtdnfmilnkoocdaaDoor.K
set_option linter.unusedVariables false
set_option linter.unusedSimpArgs false
open Go.RowKit Go.Proofs.YtdnfmilnkoocdaaDoor.Q Go.Proofs.YtdnfmilnkoocdaaDoorW.PrintWords Go.Proofs.YtdnfmilnkoocdaaDoorW.PrintLast

theorem rdL2_nat (X : List (List Int)) (i : Nat) (h : i < X.length) : rd_L2 X (i : Int) = X[i] := by
  unfold rd_L2
  rw [Int.toNat_natCast, List.getD_eq_getElem?_getD, List.getElem?_eq_getElem h]
  rfl
theorem rdOf_nat (X : List ByteArray) (i : Nat) (h : i < X.length) : rdOf ByteArray.empty X (i : Int) = X[i] := by
  unfold rdOf
  rw [Int.toNat_natCast, List.getD_eq_getElem?_getD, List.getElem?_eq_getElem h]
  rfl
theorem dropL2 (X : List (List Int)) (i : Nat) (h : i < X.length) : X.drop i = rd_L2 X (i : Int) :: X.drop (i + 1) := by
  rw [rdL2_nat X i h, List.drop_eq_getElem_cons h]
theorem rdL2_mem (X : List (List Int)) (i : Nat) (h : i < X.length) : rd_L2 X (i : Int) ∈ X := by rw [rdL2_nat X i h]; exact List.getElem_mem h
theorem rdOf_map (X : List (List Int)) (f : List Int → ByteArray) (i : Nat) (h : i < X.length) : rdOf ByteArray.empty (X.map f) (i : Int) = f (rd_L2 X (i : Int)) := by
  rw [rdOf_nat _ i (by rw [List.length_map]; exact h), rdL2_nat X i h, List.getElem_map]

/-! are labels a right name's? -/
def rl : Int → List (List Int) → Bool
  | s, [] => decide (s ≤ 255)
  | s, l :: ls => if l.length < 1 then false else if l.length > 63 then false else rl (s + ((l.length : Int) + 1)) ls
theorem rl_each : ∀ (ls : List (List Int)) (s : Int), rl s ls = true → (∀ l ∈ ls, 1 ≤ l.length ∧ l.length ≤ 63) ∧ s + 2 * (ls.length : Int) ≤ 255
  | [], s, h => ⟨fun _ hl => (by cases hl), by have := of_decide_eq_true h; simp; omega⟩
  | l :: ls, s, h => by
    unfold rl at h
    split at h
    · cases h
    split at h
    · cases h
    obtain ⟨h1, h2⟩ := rl_each ls _ h
    refine ⟨fun x hx => ?_, by rw [List.length_cons]; omega⟩
    rcases List.mem_cons.1 hx with e | e
    · rw [e]; omega
    · exact h1 x e
theorem right_loop {ls : List (List Int)} (hn : ls.length ≤ 1000) (hl : ∀ l ∈ ls, l.length ≤ 1000) : ∀ (d i : Nat) (s : Int), ls.length - i = d → i ≤ ls.length → 0 ≤ s → s ≤ 1 + 64 * (i : Int) → Ev (fun k => owner_right.l0 k s ls (ls.length : Int) (i : Int)) (rl s (ls.drop i)) := by
  intro d
  induction d with
  | zero =>
    intro i s h1 h2 h3 h4
    rw [List.drop_of_length_le (by omega)]
    exact Ev.step (fun k => rfl) (Ev.neg (by omega) (Ev.now _))
  | succ d ih =>
    intro i s h1 h2 h3 h4
    have hi : i < ls.length := by omega
    have hx := hl _ (rdL2_mem ls i hi)
    rw [dropL2 ls i hi, rl]
    refine Ev.step (fun k => rfl) (Ev.pos (by omega) (Ev.pos (by omega) (Ev.pos (by omega) ?_)))
    generalize rd_L2 ls (i : Int) = l at *
    by_cases c1 : l.length < 1
    · rw [if_pos c1]; exact Ev.pos (by omega) (Ev.now _)
    rw [if_neg c1]
    refine Ev.neg (by omega) ?_
    by_cases c2 : l.length > 63
    · rw [if_pos c2]; exact Ev.pos (by omega) (Ev.now _)
    rw [if_neg c2]
    refine Ev.neg (by omega) ?_
    rw [w64 (n := (l.length : Int) + 1) (by omega) (by omega), w64 (n := s + ((l.length : Int) + 1)) (by omega) (by omega), w64 (n := (i : Int) + 1) (by omega) (by omega)]
    exact ih (i + 1) _ (by omega) (by omega) (by omega) (by omega)
theorem right_ev {ls : List (List Int)} (hn : ls.length ≤ 1000) (hl : ∀ l ∈ ls, l.length ≤ 1000) : Ev (fun k => owner_right.f k ls) (rl 1 ls) := right_loop hn hl _ 0 1 rfl (Nat.zero_le _) (by omega) (by omega)
theorem refRight_loop {ls : List (List Int)} (hn : ls.length ≤ 1000) (hl : ∀ l ∈ ls, l.length ≤ 1000) : ∀ (d i : Nat) (s : Int), ls.length - i = d → i ≤ ls.length → 0 ≤ s → s ≤ 1 + 64 * (i : Int) → Ev (fun k => paronymref26_Right.l0 k (ls.map strOfNums) s (i : Int)) (rl s (ls.drop i)) := by
  intro d
  induction d with
  | zero =>
    intro i s h1 h2 h3 h4
    rw [List.drop_of_length_le (by omega)]
    exact Ev.step (fun k => rfl) (Ev.neg (by rw [List.length_map]; omega) (Ev.now _))
  | succ d ih =>
    intro i s h1 h2 h3 h4
    have hi : i < ls.length := by omega
    have hx := hl _ (rdL2_mem ls i hi)
    rw [dropL2 ls i hi, rl]
    refine Ev.step (fun k => rfl) (Ev.pos (by rw [List.length_map]; omega) (Ev.pos (by omega) ?_))
    rw [rdOf_map ls strOfNums i hi, size_str]
    generalize rd_L2 ls (i : Int) = l at *
    by_cases c1 : l.length < 1
    · rw [if_pos c1]; exact Ev.pos (by omega) (Ev.now _)
    rw [if_neg c1]
    refine Ev.neg (by omega) ?_
    by_cases c2 : l.length > 63
    · rw [if_pos c2]; exact Ev.pos (by omega) (Ev.now _)
    rw [if_neg c2]
    refine Ev.neg (by omega) ?_
    rw [w64 (n := s + 1) (by omega) (by omega), w64 (n := s + 1 + (l.length : Int)) (by omega) (by omega), w64 (n := (i : Int) + 1) (by omega) (by omega)]
    have := ih (i + 1) (s + ((l.length : Int) + 1)) (by omega) (by omega) (by omega) (by omega)
    rw [show s + 1 + (l.length : Int) = s + ((l.length : Int) + 1) by omega]
    exact this
theorem refRight_ev {ls : List (List Int)} (hn : ls.length ≤ 1000) (hl : ∀ l ∈ ls, l.length ≤ 1000) : Ev (fun k => paronymref26_Right.f k (ls.map strOfNums)) (rl 1 ls) := refRight_loop hn hl _ 0 1 rfl (Nat.zero_le _) (by omega) (by omega)
theorem texts_loop {ls : List (List Int)} (hn : ls.length ≤ 1000) : ∀ (d i : Nat), ls.length - i = d → i ≤ ls.length → Ev (fun k => paronymref26_Texts.l0 k ls ((ls.take i).map strOfNums) (i : Int)) (ls.map strOfNums) := by
  intro d
  induction d with
  | zero =>
    intro i h1 h2
    rw [List.take_of_length_le (by omega)]
    exact Ev.step (fun k => rfl) (Ev.neg (by omega) (Ev.now _))
  | succ d ih =>
    intro i h1 h2
    have hi : i < ls.length := by omega
    have next := ih (i + 1) (by omega) (by omega)
    rw [take_rdL2 hi, List.map_append] at next
    refine Ev.step (fun k => rfl) (Ev.pos (by omega) (Ev.pos (by omega) (Ev.pos (by rw [List.length_map, List.length_take]; omega) ?_)))
    rw [w64 (by omega) (by omega)]
    exact next
theorem texts_ev {ls : List (List Int)} (hn : ls.length ≤ 1000) : Ev (fun k => paronymref26_Texts.f k ls) (ls.map strOfNums) := texts_loop hn _ 0 rfl (Nat.zero_le _)
theorem str_nil : (⟨#[]⟩ : ByteArray) = strOfNums [] := rfl
theorem refName_loop {ls : List (List Int)} (hn : ls.length ≤ 1000) (hl : ∀ l ∈ ls, l.length ≤ 1000) (ho : ∀ l ∈ ls, Oct l) : ∀ (d i : Nat), ls.length - i = d → i ≤ ls.length → Ev (fun k => paronymref26_Name.l0 k (ls.map strOfNums) (strOfNums (nameL (ls.take i))) (i : Int)) (strOfNums (nameL ls), 0) := by
  intro d
  induction d with
  | zero =>
    intro i h1 h2
    rw [List.take_of_length_le (by omega)]
    exact Ev.step (fun k => rfl) (Ev.neg (by rw [List.length_map]; omega) (Ev.now _))
  | succ d ih =>
    intro i h1 h2
    have hi : i < ls.length := by omega
    have hm := rdL2_mem ls i hi
    have hx := hl _ hm
    have hox := ho _ hm
    have next := ih (i + 1) (by omega) (by omega)
    have hlen := nameL_len (ls.take i) (fun l hl' => hl l (List.mem_of_mem_take hl'))
    rw [List.length_take] at hlen
    have hes := esc_len (rd_L2 ls (i : Int))
    have hnext : nameL (ls.take (i + 1)) = nameL (ls.take i) ++ dotted (rd_L2 ls (i : Int)) := by
      rw [take_rdL2 hi]
      unfold nameL
      rw [List.flatMap_append]
      simp
    rw [hnext] at next
    refine Ev.step (fun k => rfl) (Ev.pos (by rw [List.length_map]; omega) (Ev.pos (by omega) ?_))
    rw [rdOf_map ls strOfNums i hi]
    refine Ev.bind (escaped_ev hox hx) ?_
    rw [str_append, show (⟨#[46]⟩ : ByteArray) = strOfNums [46] from rfl, str_append, size_str, size_str, size_str, List.length_append, w64 (by omega) (by omega), List.append_assoc]
    exact Ev.pos (by omega) (Ev.pos (by omega) next)
theorem refName_ev {ls : List (List Int)} (hn : ls.length ≤ 1000) (hl : ∀ l ∈ ls, l.length ≤ 1000) (ho : ∀ l ∈ ls, Oct l) : Ev (fun k => paronymref26_Name.f k (ls.map strOfNums)) (if rl 1 ls = true then (if ls = [] then ((⟨#[46]⟩ : ByteArray), 0) else (strOfNums (nameL ls), 0)) else ((⟨#[]⟩ : ByteArray), 62)) := by
  unfold paronymref26_Name.f
  refine Ev.bind (refRight_ev hn hl) ?_
  by_cases hr : rl 1 ls = true
  · rw [if_pos hr]
    refine Ev.pos hr ?_
    by_cases hz : ls = []
    · rw [if_pos hz]
      exact Ev.pos (by rw [hz]; rfl) (Ev.now _)
    · rw [if_neg hz]
      have := List.length_pos_iff.2 hz
      refine Ev.neg (by rw [List.length_map]; omega) ?_
      exact refName_loop hn hl ho _ 0 rfl (Nat.zero_le _)
  · rw [if_neg hr]
    exact Ev.neg hr (Ev.now _)
theorem name_ev {ls : List (List Int)} (hn : ls.length ≤ 1000) (hl : ∀ l ∈ ls, l.length ≤ 1000) (ho : ∀ l ∈ ls, Oct l) : Ev (fun k => owner_Name.f k ls) (if rl 1 ls = true then (if ls = [] then ((⟨#[46]⟩ : ByteArray), 0) else (strOfNums (nameL ls), 0)) else ((⟨#[]⟩ : ByteArray), 62)) := by
  unfold owner_Name.f
  refine Ev.bind (right_ev hn hl) ?_
  by_cases hr : rl 1 ls = true
  · simp only [hr, if_true]
    by_cases hz : ls = []
    · rw [if_pos hz]
      exact Ev.pos (by rw [hz]; rfl) (Ev.now _)
    · rw [if_neg hz]
      have := List.length_pos_iff.2 hz
      refine Ev.neg (by omega) (Ev.pos ?_ (Ev.now _))
      unfold labelsOk
      rw [Bool.and_eq_true]
      refine ⟨List.all_eq_true.2 (fun l hm => ?_), decide_eq_true hn⟩
      rw [Bool.and_eq_true]
      exact ⟨List.all_eq_true.2 (fun x hx => decide_eq_true (ho l hm x hx)), decide_eq_true (hl l hm)⟩
  · simp only [hr, Bool.false_eq_true, if_false]
    exact Ev.now _

/-! a name as units -/
def dunits (l : List Int) : List (List Int × Int) := units l ++ [([46], 46)]
def nunits (ls : List (List Int)) : List (List Int × Int) := ls.flatMap dunits
theorem flat_append (a b : List (List Int × Int)) : flat (a ++ b) = flat a ++ flat b := by unfold flat; rw [List.flatMap_append]
theorem flat_dunits (l : List Int) : flat (dunits l) = dotted l := by unfold dunits dotted; rw [flat_append, flat_units]; rfl
theorem flat_nunits : ∀ ls : List (List Int), flat (nunits ls) = nameL ls
  | [] => rfl
  | l :: ls => by
    unfold nunits nameL
    rw [List.flatMap_cons, List.flatMap_cons, flat_append, flat_dunits]
    congr 1
    exact flat_nunits ls
theorem nunits_uni {ls : List (List Int)} (ho : ∀ l ∈ ls, Oct l) : ∀ u ∈ nunits ls, Uni u := fun u hu => by
  obtain ⟨l, hl, hu⟩ := List.mem_flatMap.1 hu
  rcases List.mem_append.1 hu with hu | hu
  · exact units_uni (ho l hl) u hu
  · rw [List.mem_singleton.1 hu]; exact dot_uni
theorem nunits_len : ∀ ls : List (List Int), (∀ l ∈ ls, l.length ≤ 63) → (nunits ls).length ≤ 64 * ls.length
  | [], _ => Nat.le_refl _
  | l :: ls, h => by
    have h1 := nunits_len ls (fun x hx => h x (List.mem_cons_of_mem _ hx))
    have h2 := h l List.mem_cons_self
    unfold nunits at h1 ⊢
    rw [List.flatMap_cons, List.length_append, List.length_cons]
    unfold dunits at h1 ⊢
    rw [List.length_append, show (units l).length = l.length by unfold units; rw [List.length_map]]
    simp only [List.length_cons, List.length_nil]
    omega

/-! parting at the dots -/
theorem drop_take {l : List Int} {a b : Nat} : (l.take b).drop a = (l.drop a).take (b - a) := by rw [List.drop_take]
theorem at_drop {S T : List Int} {i : Nat} {x : Int} (h : S.drop i = x :: T) : i < S.length ∧ rd S (i : Int) = x ∧ S.drop (i + 1) = T := by
  have hi : i < S.length := by
    rcases Nat.lt_or_ge i S.length with h' | h'
    · exact h'
    · rw [List.drop_of_length_le h'] at h; cases h
  have hc := drop_cons S i hi
  rw [h] at hc
  injection hc with a b
  exact ⟨hi, a.symm, b.symm⟩
theorem cut_unit {S : List Int} (ho : Oct S) (hS : S.length ≤ 1000000) {u : List Int × Int} (hu : Uni u) (hd : u.1 ≠ [46]) (acc : List ByteArray) (from_ : Int) {v : List ByteArray} (i : Nat) (T : List Int) (h : S.drop i = u.1 ++ T) (next : Ev (fun k => owner_cut.l0 k (strOfNums S) acc from_ ((i + u.1.length : Nat) : Int)) v) : Ev (fun k => owner_cut.l0 k (strOfNums S) acc from_ (i : Int)) v := by
  have plain : ∀ (j : Nat) (x : Int) (T' : List Int), S.drop j = x :: T' → x ≠ 92 → x ≠ 46 → Ev (fun k => owner_cut.l0 k (strOfNums S) acc from_ ((j + 1 : Nat) : Int)) v → Ev (fun k => owner_cut.l0 k (strOfNums S) acc from_ (j : Int)) v := by
    intro j x T' hj h92 h46 hn
    obtain ⟨h1, h2, h3⟩ := at_drop hj
    refine Ev.step (fun k => rfl) (Ev.pos (by rw [size_str]; omega) (Ev.pos (by omega) ?_))
    rw [bt_str ho (by omega) (by omega), h2]
    refine Ev.neg h92 (Ev.neg h46 ?_)
    rw [w64 (by omega) (by omega)]
    exact hn
  have back : ∀ (j : Nat) (T' : List Int), S.drop j = 92 :: T' → Ev (fun k => owner_cut.l0 k (strOfNums S) acc from_ ((j + 2 : Nat) : Int)) v → Ev (fun k => owner_cut.l0 k (strOfNums S) acc from_ (j : Int)) v := by
    intro j T' hj hn
    obtain ⟨h1, h2, h3⟩ := at_drop hj
    refine Ev.step (fun k => rfl) (Ev.pos (by rw [size_str]; omega) (Ev.pos (by omega) ?_))
    rw [bt_str ho (by omega) (by omega), h2]
    refine Ev.pos rfl ?_
    rw [w64 (n := (j : Int) + 1) (by omega) (by omega), w64 (n := (j : Int) + 1 + 1) (by omega) (by omega), show (j : Int) + 1 + 1 = ((j + 2 : Nat) : Int) by omega]
    exact hn
  cases hu with
  | esc c => exact back i _ h next
  | one c g1 => exact plain i c T h g1 (fun e => hd (by rw [e])) next
  | num c d1 d2 d3 h1 h2 h3 =>
    have a2 := of_decide_eq_true h2
    have a3 := of_decide_eq_true h3
    have e2 : S.drop (i + 2) = d2 :: d3 :: T := by
      rw [← List.drop_drop, h]; rfl
    have e3 : S.drop (i + 3) = d3 :: T := by
      rw [← List.drop_drop, h]; rfl
    exact back i _ h (plain (i + 2) d2 _ e2 (by omega) (by omega) (plain (i + 3) d3 _ e3 (by omega) (by omega) next))
theorem cut_us {S : List Int} (ho : Oct S) (hS : S.length ≤ 1000000) (acc : List ByteArray) (from_ : Int) {v : List ByteArray} : ∀ (us : List (List Int × Int)), (∀ u ∈ us, Uni u ∧ u.1 ≠ [46]) → ∀ (i : Nat) (T : List Int), S.drop i = flat us ++ T → Ev (fun k => owner_cut.l0 k (strOfNums S) acc from_ ((i + (flat us).length : Nat) : Int)) v → Ev (fun k => owner_cut.l0 k (strOfNums S) acc from_ (i : Int)) v
  | [], _, i, T, _, next => next
  | u :: us, h, i, T, he, next => by
    rw [flat_cons] at he next
    rw [List.append_assoc] at he
    rw [List.length_append, ← Nat.add_assoc] at next
    obtain ⟨h1, h2⟩ := h u List.mem_cons_self
    refine cut_unit ho hS h1 h2 acc from_ i _ he ?_
    refine cut_us ho hS acc from_ us (fun x hx => h x (List.mem_cons_of_mem _ hx)) (i + u.1.length) T ?_ next
    rw [← List.drop_drop, he, List.drop_left]
theorem esc1_nodot {c : Int} (h : 0 ≤ c ∧ c ≤ 255) : esc1 c ≠ [46] := by
  intro e
  unfold esc1 at e
  split at e
  · simp at e
  · rename_i sp
    split at e
    · simp at e
      subst e
      exact sp (by decide)
    · simp at e
theorem cut_ls {S : List Int} (ho : Oct S) (hS : S.length ≤ 1000000) : ∀ (ls : List (List Int)), (∀ l ∈ ls, Oct l) → ∀ (acc : List ByteArray) (i : Nat), acc.length + ls.length ≤ 1000000 → S.drop i = nameL ls → i ≤ S.length →
    Ev (fun k => owner_cut.l0 k (strOfNums S) acc (i : Int) (i : Int)) (acc ++ ls.map (fun l => strOfNums (l.flatMap esc1)) ++ [strOfNums []])
  | [], _, acc, i, hl, he, hi => by
    have hi' : i = S.length := by
      have := congrArg List.length he
      rw [List.length_drop] at this
      simp [nameL] at this
      omega
    refine Ev.step (fun k => rfl) (Ev.neg (by rw [size_str]; omega) (Ev.pos (by omega) (Ev.pos (by rw [size_str]; omega) (Ev.pos (by simp at hl; omega) (Ev.ret ?_)))))
    rw [extract_str, size_str, List.take_length, Int.toNat_natCast, List.drop_of_length_le (by omega)]
    simp
  | l :: ls, hol, acc, i, hl, he, hi => by
    have hn : nameL (l :: ls) = flat (units l) ++ 46 :: nameL ls := by
      unfold nameL dotted
      rw [List.flatMap_cons, flat_units, List.append_assoc]
      rfl
    rw [hn] at he
    have h46 : S.drop (i + (flat (units l)).length) = 46 :: nameL ls := by rw [← List.drop_drop, he, List.drop_left]
    obtain ⟨g1, g2, g3⟩ := at_drop h46
    have hol1 := hol l List.mem_cons_self
    refine cut_us ho hS acc (i : Int) (units l) (fun u hu => ?_) i _ he ?_
    · refine ⟨units_uni hol1 u hu, ?_⟩
      obtain ⟨c, hc, rfl⟩ := List.mem_map.1 hu
      exact esc1_nodot (hol1 c hc)
    have hpart : (strOfNums S).extract ((i : Int)).toNat ((i + (flat (units l)).length : Nat) : Int).toNat = strOfNums (l.flatMap esc1) := by
      rw [extract_str, Int.toNat_natCast, Int.toNat_natCast, drop_take, he, show i + (flat (units l)).length - i = (flat (units l)).length by omega, List.take_left, flat_units]
    rw [List.length_cons] at hl
    generalize (flat (units l)).length = m at *
    have next := cut_ls ho hS ls (fun x hx => hol x (List.mem_cons_of_mem _ hx)) (acc ++ [strOfNums (l.flatMap esc1)]) (i + m + 1) (by rw [List.length_append]; simp only [List.length_cons, List.length_nil]; omega) g3 (by omega)
    refine Ev.step (fun k => rfl) (Ev.pos (by rw [size_str]; omega) (Ev.pos (by omega) ?_))
    rw [bt_str ho (by omega) (by omega), g2, hpart]
    refine Ev.neg (by decide) (Ev.pos rfl (Ev.pos (by omega) (Ev.pos (by omega) (Ev.pos (by rw [size_str]; omega) (Ev.pos (by omega) ?_)))))
    rw [w64 (by omega) (by omega)]
    rw [List.append_assoc] at next
    rw [List.map_cons]
    have e : ((i + m : Nat) : Int) + 1 = ((i + m + 1 : Nat) : Int) := by omega
    rw [e]
    simpa using next
end Go.Proofs.YtdnfmilnkoocdaaDoor.K

-- from PureOwnerBack
/- OwnerBack: for every input. -/
namespace Go.Proofs.YtdnfmilnkoocdaaDoor.Pure
set_option linter.unusedVariables false
set_option linter.unusedSimpArgs false
open Go.RowKit Go.Proofs.YtdnfmilnkoocdaaDoor.Q Go.Proofs.YtdnfmilnkoocdaaDoorW.PrintWords Go.Proofs.YtdnfmilnkoocdaaDoorW.PrintLast Go.Proofs.YtdnfmilnkoocdaaDoor.K

theorem awake26 : paronymlaw26_awake.f 60 = some true := by decide +kernel
theorem awake26_ev : Ev (fun k => paronymlaw26_awake.f k) true := Ev.of (fun k => paronymlaw26_awake.mono k) awake26
theorem sameB_loop (X : List ByteArray) (hX : X.length ≤ 1000000) : ∀ (d i : Nat), X.length - i = d → i ≤ X.length → Ev (fun k => paronymref02_Same.l0 k X X (i : Int)) true := by
  intro d
  induction d with
  | zero =>
    intro i h1 h2
    refine Ev.step (fun k => rfl) (Ev.neg (by omega) (Ev.now _))
  | succ d ih =>
    intro i h1 h2
    refine Ev.step (fun k => rfl) (Ev.pos (by omega) (Ev.pos (by omega) (Ev.pos (by omega) (Ev.pos rfl ?_))))
    rw [w64 (by omega) (by omega)]
    exact ih (i + 1) (by omega) (by omega)
theorem sameB_ev (X : List ByteArray) (hX : X.length ≤ 1000000) : Ev (fun k => paronymref02_Same.f k X X) true := by
  unfold paronymref02_Same.f
  exact Ev.pos rfl (sameB_loop X hX _ 0 rfl (Nat.zero_le _))
theorem str_one {L : List Int} {b : UInt8} (h : (strOfNums L).toList = [b]) : L.length = 1 := by
  rw [ba_toList, strOfNums_data] at h
  simpa using congrArg List.length h
theorem esc1_pos (c : Int) : 1 ≤ (esc1 c).length := by
  unfold esc1
  split
  · simp
  split <;> simp

/-- Labels that make a right name, and are some. -/
structure Right (ls : List (List Int)) : Prop where
  ne : ls ≠ []
  ok : rl 1 ls = true
  oct : ∀ l ∈ ls, Oct l
theorem Right.len {ls : List (List Int)} (h : Right ls) : ls.length ≤ 127 ∧ (∀ l ∈ ls, 1 ≤ l.length ∧ l.length ≤ 63) := by
  obtain ⟨h1, h2⟩ := rl_each ls 1 h.ok
  exact ⟨by omega, h1⟩
theorem Right.units {ls : List (List Int)} (h : Right ls) : (∀ u ∈ nunits ls, Uni u) ∧ nunits ls ≠ [] ∧ flat (nunits ls) = nameL ls ∧ (nameL ls).length ≤ 600000 ∧ (nunits ls).length ≤ 90000 ∧ 2 ≤ (nameL ls).length := by
  obtain ⟨h1, h2⟩ := h.len
  have hl := nameL_len ls (fun l hl => by have := (h2 l hl).2; omega)
  have hu := nunits_len ls (fun l hl => (h2 l hl).2)
  refine ⟨nunits_uni h.oct, ?_, flat_nunits ls, by omega, by omega, ?_⟩
  · intro e
    have := h.ne
    cases ls with
    | nil => exact this rfl
    | cons l ls =>
      unfold nunits dunits at e
      rw [List.flatMap_cons] at e
      simp at e
  · cases ls with
    | nil => exact absurd rfl h.ne
    | cons l ls =>
      have hl1 := (h2 l List.mem_cons_self).1
      cases l with
      | nil => simp at hl1
      | cons c l =>
        have := esc1_pos c
        unfold nameL dotted
        rw [List.flatMap_cons, List.length_append, List.length_append, List.flatMap_cons, List.length_append, List.length_cons]
        omega
theorem Right.name_oct {ls : List (List Int)} (h : Right ls) : Oct (nameL ls) := nameL_oct h.oct
theorem labels_loop {ls : List (List Int)} (h : Right ls) (x8 : Bool) : ∀ (d i : Nat), ls.length - i = d → i ≤ ls.length → Ev (fun k => owner_Labels.l0 k x8 (ls.take i) (ls.map fun l => strOfNums (l.flatMap esc1)) (ls.length : Int) (i : Int)) (ls, x8, 0) := by
  obtain ⟨hn, hl⟩ := h.len
  intro d
  induction d with
  | zero =>
    intro i h1 h2
    rw [List.take_of_length_le (by omega)]
    exact Ev.step (fun k => rfl) (Ev.neg (by omega) (Ev.bind (right_ev (by omega) (fun l hm => by have := (hl l hm).2; omega)) (Ev.pos h.ok (Ev.now _))))
  | succ d ih =>
    intro i h1 h2
    have hi : i < ls.length := by omega
    have next := ih (i + 1) (by omega) (by omega)
    rw [take_rdL2 hi] at next
    have hm := rdL2_mem ls i hi
    have hlen := hl _ hm
    have hp := plain_ev (us := units (rd_L2 ls (i : Int))) (units_uni (h.oct _ hm)) (by rw [flat_units]; have := esc_len (rd_L2 ls (i : Int)); omega) (by unfold units; rw [List.length_map]; omega) (by
      intro e
      have := congrArg List.length e
      unfold units at this
      rw [List.length_map] at this
      simp only [List.length_nil] at this
      omega)
    rw [flat_units, units_snd] at hp
    refine Ev.step (fun k => rfl) (Ev.pos (by omega) (Ev.pos (by omega) (Ev.pos (by rw [List.length_map]; omega) ?_)))
    rw [rdOf_map ls (fun l => strOfNums (l.flatMap esc1)) i hi]
    refine Ev.bind hp (Ev.pos (by rw [List.length_take]; omega) ?_)
    rw [w64 (by omega) (by omega)]
    exact next
theorem labels_ev {ls : List (List Int)} (h : Right ls) : Ev (fun k => owner_Labels.f k (strOfNums (nameL ls))) (ls, true, 0) := by
  obtain ⟨hu, hne, hf, hl6, hl9, hl2⟩ := h.units
  obtain ⟨hn, hl⟩ := h.len
  have hoe := h.name_oct
  obtain ⟨x, u, e, h1, h2, h3, _⟩ := wordL_us (r := []) (m := 0) hu hne rfl
  rw [hf] at e
  have hbt : bt (strOfNums (nameL ls)) 0 = x := by rw [bt_str hoe (by omega) (by omega), e]; rfl
  have hp := plain_ev hu (by rw [hf]; omega) hl9 hne
  rw [hf] at hp
  have hc := cut_ls hoe (by omega) ls h.oct [] 0 (by simp; omega) (by simp) (Nat.zero_le _)
  rw [List.nil_append] at hc
  have hlen : (ls.map (fun l => strOfNums (l.flatMap esc1)) ++ [strOfNums []]).length = ls.length + 1 := by simp
  have hlast : rdOf ByteArray.empty (ls.map (fun l => strOfNums (l.flatMap esc1)) ++ [strOfNums []]) ((ls.length : Nat) : Int) = strOfNums [] := by
    rw [rdOf_nat _ ls.length (by rw [hlen]; omega)]
    simp
  have htake : (ls.map (fun l => strOfNums (l.flatMap esc1)) ++ [strOfNums []]).take ls.length = ls.map (fun l => strOfNums (l.flatMap esc1)) := by
    rw [List.take_append_of_le_length (by simp), List.take_of_length_le (by simp)]
  unfold owner_Labels.f
  rw [hbt]
  refine Ev.bind hp (Ev.pos rfl (Ev.pos (by rw [size_str]; omega) (Ev.neg h3 (Ev.neg (fun hh => by have := str_one hh; omega) (Ev.bind hc ?_)))))
  rw [hlen, w64 (by omega) (by omega), show ((ls.length + 1 : Nat) : Int) - 1 = ((ls.length : Nat) : Int) by omega, hlast]
  refine Ev.pos (by omega) (Ev.pos (by omega) (Ev.pos (str_empty.2 rfl) (Ev.pos (by omega) ?_)))
  rw [Int.toNat_natCast, htake]
  refine Ev.succ ?_
  simp only [owner_Labels.j0]
  rw [List.length_map]
  have hb : ((strOfNums []).toList == ([] : List UInt8)) = true := by rw [str_empty.2 rfl]; rfl
  rw [hb]
  exact labels_loop h true ls.length 0 (by omega) (Nat.zero_le _)
theorem labels_dot : Ev (fun k => owner_Labels.f k (strOfNums [46])) (([] : List (List Int)), true, 0) := by
  have hp := plain_ev (us := [([46], 46)]) (fun u hu => by rw [List.mem_singleton.1 hu]; exact dot_uni) (by simp [flat]) (by simp) (by simp)
  unfold owner_Labels.f
  refine Ev.bind hp (Ev.pos rfl (Ev.pos (by rw [size_str]; simp) (Ev.neg ?_ (Ev.pos (by rw [ba_toList, strOfNums_data]; rfl) (Ev.now _)))))
  rw [bt_str (l := [46]) (fun x hx => by simp at hx; omega) (by omega) (by simp)]
  decide
theorem blank_idx {c : Int} (h : 0 ≤ c ∧ c ≤ 255) (hb : K.blank c = false) : ∃ t, strings_IndexByte.f (⟨#[32, 9]⟩ : ByteArray) c = some t ∧ decide (t ≥ 0) = false := by
  refine ⟨_, rfl, ?_⟩
  have hb' := of_decide_eq_false hb
  have hc : ∀ n : Nat, n < 256 → (c.toNat.toUInt8 = UInt8.ofNat n ↔ c = n) := by
    intro n hn
    constructor
    · intro e
      have := congrArg UInt8.toNat e
      simp at this
      omega
    · intro e
      subst e
      rfl
  have a1 : ¬ c.toNat.toUInt8 = 32 := fun e => hb' (.inl ((hc 32 (by omega)).1 e))
  have a2 : ¬ c.toNat.toUInt8 = 9 := fun e => hb' (.inr ((hc 9 (by omega)).1 e))
  have e1 : ((32 : UInt8) == c.toNat.toUInt8) = false := by simpa using fun e => a1 e.symm
  have e2 : ((9 : UInt8) == c.toNat.toUInt8) = false := by simpa using fun e => a2 e.symm
  refine decide_eq_false ?_
  show ¬ Lib.indexByte [32, 9] c.toNat.toUInt8 ≥ 0
  simp [Lib.indexByte, e1, e2]
theorem prefix_is {L : List Int} {x : Int} {t : List Int} (ho : Oct L) (e : L = x :: t) : strings_HasPrefix.f (strOfNums L) (⟨#[36]⟩ : ByteArray) = some (decide (x = 36)) := by
  have hx := ho x (by rw [e]; exact List.mem_cons_self)
  have hs : ((⟨#[36]⟩ : ByteArray).size : Int) = 1 := rfl
  unfold strings_HasPrefix.f stringslite_HasPrefix.f
  rw [hs, if_pos (by rw [size_str, e]; simp; omega), if_pos (by omega), if_pos (by rw [size_str, e]; simp; omega)]
  simp only [Option.bind_some]
  congr 1
  have e1 : ((strOfNums L).extract 0 (1 : Int).toNat).toList = [UInt8.ofNat x.toNat] := by
    show ((strOfNums L).extract 0 1).toList = _
    rw [extract_str, e, ba_toList, strOfNums_data]
    rfl
  rw [e1, show (⟨#[36]⟩ : ByteArray).toList = [36] from by rw [ba_toList]]
  by_cases h : x = 36
  · subst h; rfl
  · rw [decide_eq_false h]
    have : ¬ UInt8.ofNat x.toNat = 36 := fun e => h (by
      have := congrArg UInt8.toNat e
      simp at this
      omega)
    simp [this]
theorem of_ev {us : List (List Int × Int)} {rest : List Int} {ls : List (List Int)} {ab : Bool} (hu : ∀ u ∈ us, Uni u) (hne : us ≠ []) (hor : Oct rest) (hl : (flat us).length + rest.length ≤ 900000) {x : Int} {t : List Int} (e : flat us = x :: t) (h64 : (strOfNums (flat us)).toList ≠ ([64] : List UInt8))
    (hlab : Ev (fun k => owner_Labels.f k (strOfNums (flat us))) (ls, ab, 0)) :
    Ev (fun k => owner_Of.f k (flat us ++ 32 :: 59 :: rest)) (if x = 36 then ([], false, 0) else if ls.length = 0 then ([], false, 0) else (rd_L2 ls 0, true, 0)) := by
  have hou := flat_oct hu
  have hoj : Oct (flat us ++ 32 :: 59 :: rest) := Oct.append hou (fun y hy => by
    rcases List.mem_cons.1 hy with hy | hy
    · omega
    rcases List.mem_cons.1 hy with hy | hy
    · omega
    exact hor y hy)
  obtain ⟨x', t', e', g1, g2, g3⟩ : ∃ x' t', flat us = x' :: t' ∧ K.blank x' = false ∧ x' ≠ 59 ∧ x' ≠ 34 := by
    obtain ⟨x', t', e', g1, g2, g3, _⟩ := wordL_us (r := []) (m := 0) hu hne rfl
    exact ⟨x', t', e', g1, g2, g3⟩
  have hxx : x' = x := by rw [e] at e'; injection e' with a b; exact a.symm
  rw [hxx] at g1
  have hx := hou x (by rw [e]; exact List.mem_cons_self)
  unfold owner_Of.f
  refine Ev.bind (Split_ev (Spl_us_rem rest hu hne) hoj (by simp; omega)) (Ev.pos rfl (Ev.neg (by show ¬ ((1 : Nat) : Int) = 0; omega) ?_))
  have hind : token_Indented.f (flat us ++ 32 :: 59 :: rest) = some false := by
    obtain ⟨q, hq, hq2⟩ := blank_idx hx g1
    unfold token_Indented.f
    have hr : rd (flat us ++ 32 :: 59 :: rest) 0 = x := by rw [e]; rfl
    rw [hr, hq, if_pos (by simp; omega), if_pos (by simp; omega)]
    simp only [Option.bind_some, hq2]
  rw [hind]
  refine Ev.bind (Ev.now _) (Ev.neg (by decide) (Ev.pos (by show (0 : Int) < ((1 : Nat) : Int); omega) ?_))
  have hp : strings_HasPrefix.f (rdOf ByteArray.empty (fin [] (.inr [flat us])).1 0) (⟨#[36]⟩ : ByteArray) = some (decide (x = 36)) := prefix_is hou e
  rw [hp]
  refine Ev.bind (Ev.now _) ?_
  by_cases c36 : x = 36
  · rw [if_pos c36]
    refine Ev.pos (decide_eq_true c36) ?_
    exact Ev.step (f := fun _ => some ([], false, 0)) (fun k => rfl) (Ev.now _)
  · rw [if_neg c36]
    refine Ev.neg (by simpa using c36) ?_
    have hb : ((rdOf ByteArray.empty (fin [] (.inr [flat us])).1 0).toList == ([64] : List UInt8)) = false := by
      show ((strOfNums (flat us)).toList == ([64] : List UInt8)) = false
      simpa using h64
    rw [hb]
    refine Ev.succ ?_
    simp only [owner_Of.j0, Bool.false_eq_true, if_false]
    refine Ev.pos (by show (0 : Int) < ((1 : Nat) : Int); omega) ?_
    refine Ev.bind (show Ev (fun k => owner_Labels.f k (rdOf ByteArray.empty (fin [] (.inr [flat us])).1 0)) (ls, ab, 0) from hlab) (Ev.pos rfl ?_)
    by_cases z : ls.length = 0
    · rw [if_pos z]
      exact Ev.pos (by show (ls.length : Int) = 0; omega) (Ev.now _)
    · rw [if_neg z]
      exact Ev.neg (by show ¬ (ls.length : Int) = 0; omega) (Ev.pos (by show 0 < (ls.length : Int); omega) (Ev.now _))
theorem name_head {ls : List (List Int)} (h : Right ls) : ∃ x t, nameL ls = x :: t ∧ (x = 36 ↔ rd (rd_L2 ls 0) 0 = 36) ∧ 1 ≤ (rd_L2 ls 0).length := by
  obtain ⟨hn, hl⟩ := h.len
  cases ls with
  | nil => exact absurd rfl h.ne
  | cons l ls =>
    have hl1 := (hl l List.mem_cons_self).1
    have ho := h.oct l List.mem_cons_self
    cases l with
    | nil => simp at hl1
    | cons c l =>
      have hc := ho c List.mem_cons_self
      have hrd : rd (rd_L2 ((c :: l) :: ls) 0) 0 = c := rfl
      rw [hrd]
      obtain ⟨x, t, e, hx⟩ : ∃ x t, esc1 c = x :: t ∧ (x = 36 ↔ c = 36) := by
        unfold esc1
        by_cases sp : special c = true
        · rw [if_pos sp]
          have := of_decide_eq_true sp
          exact ⟨92, _, rfl, by omega⟩
        rw [if_neg sp]
        by_cases g : 32 < c ∧ c ≤ 126
        · rw [if_pos g]; exact ⟨c, _, rfl, Iff.rfl⟩
        · rw [if_neg g]; exact ⟨92, _, rfl, by omega⟩
      refine ⟨x, t ++ (l.flatMap esc1 ++ [46] ++ nameL ls), ?_, hx, by show 1 ≤ (c :: l).length; simp⟩
      unfold nameL dotted
      rw [List.flatMap_cons, List.flatMap_cons, e]
      simp
theorem OwnerBack {ls : List (List Int)} {rest : List Int} (hol : ∀ l ∈ ls, Oct l) (hor : Oct rest) : ∃ k, paronymlaw26_OwnerBack.f k ls rest = some true := by
  apply Ev.rounds
  unfold paronymlaw26_OwnerBack.f
  refine Ev.bind awake26_ev (Ev.pos rfl ?_)
  have yes : Ev (fun k => paronymlaw26_OwnerBack.j0 k ls rest true) true := Ev.step (f := fun k => (paronymlaw26_awake.f k).bind fun t102 => some t102) (fun k => rfl) (Ev.bind awake26_ev (Ev.now _))
  by_cases c1 : (ls.length : Int) > 130
  · exact Ev.pos c1 yes
  refine Ev.neg c1 ?_
  by_cases c2 : (rest.length : Int) > 100
  · rw [decide_eq_true c2]; exact yes
  rw [decide_eq_false c2]
  refine Ev.succ ?_
  simp only [paronymlaw26_OwnerBack.j0, Bool.false_eq_true, if_false]
  -- the end of the law
  have tail : (∀ l ∈ ls, l.length ≤ 100) → Ev (fun k => (owner_Name.f k ls).bind fun bt104 => ((paronymref26_Texts.f k ls).bind fun t106 => ((paronymref26_Name.f k t106).bind fun bt109 => (if bt104.2 = bt109.2 then (paronymlaw26_OwnerBack.j2 k ls rest bt104.1 bt109.2 (bt104.1.toList != bt109.1.toList)) else (paronymlaw26_OwnerBack.j2 k ls rest bt104.1 bt109.2 true))))) true := by
    intro hl100
    have hl1000 : ∀ l ∈ ls, l.length ≤ 1000 := fun l hl => by have := hl100 l hl; omega
    have tx := texts_ev (ls := ls) (by omega)
    refine Ev.bind (name_ev (by omega) hl1000 hol) (Ev.bind tx (Ev.bind (refName_ev (by omega) hl1000 hol) (Ev.pos rfl ?_)))
    have nb : ∀ s : ByteArray, (s.toList != s.toList) = false := fun s => by simp
    rw [nb]
    -- behind the names
    have j3 : ∀ (us : List (List Int × Int)) (ls' : List (List Int)) (x : Int) (t : List Int), (∀ u ∈ us, Uni u) → us ≠ [] → (flat us).length ≤ 700000 → flat us = x :: t → (strOfNums (flat us)).toList ≠ ([64] : List UInt8) → Ev (fun k => owner_Labels.f k (strOfNums (flat us))) (ls', true, 0) → ls' = ls → (ls.length ≠ 0 → 1 ≤ (rd_L2 ls 0).length ∧ (x = 36 ↔ rd (rd_L2 ls 0) 0 = 36)) →
        Ev (fun k => paronymlaw26_OwnerBack.j2 k ls rest (strOfNums (flat us)) 0 false) true := by
      rintro us ls' x t hu hne hlen e h64 hlab rfl hhead
      have hou := flat_oct hu
      refine Ev.succ ?_
      simp only [paronymlaw26_OwnerBack.j2, Bool.false_eq_true, if_false, if_true]
      refine Ev.bind hlab (Ev.pos rfl (Ev.pos rfl (Ev.bind tx (Ev.bind tx (Ev.bind (sameB_ev _ (by rw [List.length_map]; omega)) ?_)))))
      show Ev (fun k => paronymlaw26_OwnerBack.j3 k ls' rest (strOfNums (flat us)) false) true
      refine Ev.succ ?_
      simp only [paronymlaw26_OwnerBack.j3, Bool.false_eq_true, if_false]
      have hj : (strOfNums (flat us) ++ (⟨#[32, 59]⟩ : ByteArray)) ++ strOfNums rest = strOfNums (flat us ++ 32 :: 59 :: rest) := by
        rw [show (⟨#[32, 59]⟩ : ByteArray) = strOfNums [32, 59] from rfl, str_append, str_append]
        simp
      have hoj : Oct (flat us ++ 32 :: 59 :: rest) := Oct.append hou (fun y hy => by
        rcases List.mem_cons.1 hy with hy | hy
        · omega
        rcases List.mem_cons.1 hy with hy | hy
        · omega
        exact hor y hy)
      refine Ev.pos (by rw [size_str]; omega) (Ev.pos ?_ ?_)
      · rw [show (⟨#[32, 59]⟩ : ByteArray) = strOfNums [32, 59] from rfl, str_append, size_str, size_str, List.length_append]
        simp only [List.length_cons, List.length_nil]
        omega
      rw [hj, bof_is hoj (by rw [List.length_append]; simp only [List.length_cons]; omega)]
      refine Ev.bind (Ev.now _) (Ev.bind (of_ev hu hne hor (by omega) e h64 hlab) ?_)
      by_cases z : ls'.length = 0
      · refine Ev.pos (by omega) ?_
        rw [if_pos z]
        by_cases c36 : x = 36
        · rw [if_pos c36]; exact Ev.neg (by decide) (Ev.now _)
        · rw [if_neg c36]; exact Ev.neg (by decide) (Ev.now _)
      · obtain ⟨h1, h36⟩ := hhead z
        refine Ev.neg (by omega) (Ev.pos (by omega) (Ev.pos (by omega) ?_))
        rw [if_neg z]
        by_cases c36 : x = 36
        · rw [if_pos c36]
          exact Ev.pos (h36.1 c36) (Ev.neg (by decide) (Ev.now _))
        · rw [if_neg c36]
          refine Ev.neg (fun h => c36 (h36.2 h)) (Ev.pos rfl (Ev.pos rfl (Ev.ret ?_)))
          show ((strOfNums (rd_L2 ls' 0)).toList == (strOfNums (rd_L2 ls' 0)).toList) = true
          simp
    by_cases hr : rl 1 ls = true
    · rw [if_pos hr]
      by_cases hz : ls = []
      · rw [if_pos hz]
        have f46 : flat [([46], 46)] = [46] := rfl
        have h64 : (strOfNums (flat [([46], 46)])).toList ≠ ([64] : List UInt8) := by
          rw [f46, ba_toList, strOfNums_data]
          decide
        have := j3 [([46], 46)] [] 46 [] (fun u hu => by rw [List.mem_singleton.1 hu]; exact dot_uni) (by simp) (by simp [flat]) rfl h64 labels_dot hz.symm (fun h => absurd (by rw [hz]; rfl) h)
        exact this
      · rw [if_neg hz]
        have hR : Right ls := ⟨hz, hr, hol⟩
        obtain ⟨hu, hne, hf, hl6, hl9, hl2⟩ := hR.units
        obtain ⟨x, t, e, hx, hx1⟩ := name_head hR
        have h64 : (strOfNums (flat (nunits ls))).toList ≠ ([64] : List UInt8) := by
          intro hh
          have := str_one hh
          rw [hf] at this
          omega
        have := j3 (nunits ls) ls x t hu hne (by rw [hf]; omega) (by rw [hf]; exact e) h64 (by rw [hf]; exact labels_ev hR) rfl (fun _ => ⟨hx1, hx⟩)
        rw [hf] at this
        exact this
    · rw [if_neg hr]
      refine Ev.succ ?_
      simp only [paronymlaw26_OwnerBack.j2, Bool.false_eq_true, if_false]
      exact Ev.neg (by decide) (Ev.ret (by show ((⟨#[]⟩ : ByteArray).toList == ([] : List UInt8)) = true; rw [ba_toList]; rfl))
  have loop : ∀ (d i : Nat), ls.length - i = d → i ≤ ls.length → (∀ l ∈ ls.take i, l.length ≤ 100) → Ev (fun k => paronymlaw26_OwnerBack.l0 k ls rest (i : Int)) true := by
    intro d
    induction d with
    | zero =>
      intro i h1 h2 h3
      rw [List.take_of_length_le (by omega)] at h3
      exact Ev.step (fun k => rfl) (Ev.neg (by omega) (tail h3))
    | succ d ih =>
      intro i h1 h2 h3
      have hi : i < ls.length := by omega
      refine Ev.step (fun k => rfl) (Ev.pos (by omega) (Ev.pos (by omega) ?_))
      by_cases g : ((rd_L2 ls (i : Int)).length : Int) > 100
      · exact Ev.pos g (Ev.now _)
      · refine Ev.neg g ?_
        rw [w64 (by omega) (by omega)]
        refine ih (i + 1) (by omega) (by omega) (fun l hl => ?_)
        rw [take_rdL2 hi] at hl
        rcases List.mem_append.1 hl with hl | hl
        · exact h3 l hl
        · rw [List.mem_singleton.1 hl]; omega
  exact loop ls.length 0 (by omega) (Nat.zero_le _) (fun l hl => by simp at hl)
end Go.Proofs.YtdnfmilnkoocdaaDoor.Pure

-- from Hown
/- OwnerBack: rows of octets out of what an argument reads as. -/
namespace Go.Proofs.YtdnfmilnkoocdaaDoor.Q
open Go.ChangeShapes Go.WideShapes Go.RowKit Go.Proofs.YtdnfmilnkoocdaaDoorW.PrintWords Go.Proofs.YtdnfmilnkoocdaaDoorW.PrintLast Go.Proofs.YtdnfmilnkoocdaaDoorW.PrintMore
set_option linter.unusedVariables false

/-- A row of integers, as the call reads it. -/
theorem ints_of_trod {H : Type} {enc : TypeId × Value → H} {P : Program} {w : World} {sp : Nat → Bool} {held : Bool} {t e : TypeId} {k : IntKind} {fuel : Nat} {cs : List Value} {x : DataW H × List MemPlace} (ht : P.underlying t = some (.slice e)) (he : P.underlying e = some (.int k)) (hc : P.cellsOf e = 1)
    (h : DataW.trod enc P w 0 sp held fuel t cs = some x) : ∃ (A : Option Addr) (c : Nat) (l : List Int), cs = [.slice A l.length c] ∧ l.length ≤ c ∧ Kd.C (Kd.int k) w A l.length l ∧ ∀ n ∈ l, (Lit.int k n).wf = true := by
  rcases open_ints ht he hc h with ⟨rfl, _⟩ | ⟨a, len, cap, zs, rfl, _, hl, hm, hz, _, hcell, hwf⟩
  · exact ⟨none, 0, [], rfl, Nat.le_refl _, ⟨rfl, by simp, fun h => by simp at h⟩, fun n hn => by cases hn⟩
  · have hlen : (zs.take len).length = len := by
      rw [List.length_take]
      split at hz <;> omega
    refine ⟨some a, cap, zs.take len, by rw [hlen], by rw [hlen]; exact hl, ?_, fun n hn => hwf n (List.mem_of_mem_take hn)⟩
    rw [hlen]
    refine Kd.C_of_reads (d := (0 : Int)) ⟨hlen, by unfold maxLen at hm; omega, fun _ => ⟨a, rfl, fun j hj => ?_⟩⟩
    have hj2 : j < zs.length := by split at hz <;> omega
    rw [hcell j hj2]
    simp [List.getD_eq_getElem?_getD, hj]
theorem rows_of_trod {H : Type} {enc : TypeId × Value → H} {P : Program} {w : World} {sp : Nat → Bool} {held : Bool} {t e1 e : TypeId} {k : IntKind} {fuel : Nat} {A : Option Addr} {n c : Nat} {x : DataW H × List MemPlace} (ht : P.underlying t = some (.slice e1)) (h1 : P.underlying e1 = some (.slice e)) (he : P.underlying e = some (.int k)) (hc1 : P.cellsOf e1 = 1) (hc : P.cellsOf e = 1)
    (h : DataW.trod enc P w 0 sp held fuel t [.slice A n c] = some x) : ∃ ls : List (List Int), ls.length = n ∧ n ≤ c ∧ Kd.C (Kd.slice e (Kd.int k)) w A n ls ∧ ∀ l ∈ ls, ∀ z ∈ l, (Lit.int k z).wf = true := by
  rcases DataW.trod_slice ht h with ⟨hcs, _⟩ | ⟨a, len, cap, elems, rest, m, _, hcs, _, _, hl, hm, hlen, hel, _⟩
  · simp only [List.cons.injEq, Value.slice.injEq, and_true] at hcs
    obtain ⟨rfl, rfl, rfl⟩ := hcs
    exact ⟨[], rfl, Nat.le_refl _, ⟨rfl, by simp, fun h => by simp at h⟩, fun l hl => by cases hl⟩
  · simp only [List.cons.injEq, Value.slice.injEq, and_true] at hcs
    obtain ⟨rfl, rfl, rfl⟩ := hcs
    have each : ∀ i, i < n → ∃ (B : Option Addr) (c' : Nat) (l : List Int), w.cell? (a.add i) = some (.slice B l.length c') ∧ l.length ≤ c' ∧ Kd.C (Kd.int k) w B l.length l ∧ ∀ z ∈ l, (Lit.int k z).wf = true := by
      intro i hi
      have hE := hel i hi
      rw [hc1, Nat.mul_one, List.getElem?_eq_getElem (by omega : i < elems.length), Option.bind_eq_some_iff] at hE
      obtain ⟨cs', hcs', hy⟩ := hE
      obtain ⟨B, c', l, rfl, q1, q2, q3⟩ := ints_of_trod h1 he hc hy
      exact ⟨B, c', l, cell_of_cells?_one hcs', q1, q2, q3⟩
    -- one list for each
    have pick : ∀ m, m ≤ n → ∃ ls : List (List Int), ls.length = m ∧ (∀ i l, ls[i]? = some l → ∃ B c', w.cell? (a.add i) = some (.slice B l.length c') ∧ l.length ≤ c' ∧ Kd.C (Kd.int k) w B l.length l ∧ ∀ z ∈ l, (Lit.int k z).wf = true) := by
      intro m
      induction m with
      | zero => intro _; exact ⟨[], rfl, fun i l h => by simp at h⟩
      | succ m ih =>
        intro hm'
        obtain ⟨ls, g1, g2⟩ := ih (by omega)
        obtain ⟨B, c', l, q1, q2, q3, q4⟩ := each m (by omega)
        refine ⟨ls ++ [l], by simp [g1], fun i l' hi => ?_⟩
        by_cases hlt : i < ls.length
        · rw [List.getElem?_append_left hlt] at hi
          exact g2 i l' hi
        · rw [List.getElem?_append_right (by omega)] at hi
          have hi0 : i - ls.length = 0 := by
            rcases Nat.eq_zero_or_pos (i - ls.length) with h0 | h0
            · exact h0
            · rw [List.getElem?_eq_none (by simp; omega)] at hi; cases hi
          rw [hi0] at hi
          simp at hi
          subst hi
          have : i = m := by omega
          subst this
          exact ⟨B, c', q1, q2, q3, q4⟩
    obtain ⟨ls, g1, g2⟩ := pick n (Nat.le_refl _)
    refine ⟨ls, g1, hl, ⟨g1, by unfold maxLen at hm; omega, fun _ => ⟨a, rfl, fun j l hj => ?_⟩⟩, fun l hl' z hz => ?_⟩
    · obtain ⟨B, c', q1, q2, q3, q4⟩ := g2 j l hj
      refine ⟨[.slice B l.length c'], rfl, ⟨B, c', rfl, q2, q3⟩, fun i u hu => ?_⟩
      match i, hu with
      | 0, hu =>
        simp at hu
        subst hu
        show w.cell? (a.add (j * 1 + 0)) = _
        rw [Nat.mul_one, Nat.add_zero]
        exact q1
    · obtain ⟨i, hi⟩ := List.getElem?_of_mem hl'
      obtain ⟨B, c', q1, q2, q3, q4⟩ := g2 i l hi
      exact q4 z hz
end Go.Proofs.YtdnfmilnkoocdaaDoor.Q

-- from LawOwnerBack
-- After the printed rows (hp.py, cardfix.py), the first argument opened by hand. Not trusted: Lean checks it.
namespace Go.Proofs.YtdnfmilnkoocdaaDoor.ownerBack
open Go.ChangeShapes Go.WideShapes Go.ChangeAt Go.RowKit
open Go.ChangeMaps (open_string shut_string)
set_option linter.unusedVariables false
theorem own : ownKnob Tryd.prog.godebug = none := by kernel_rfl
theorem laidOut : laidOutB Tryd.prog = true := by kernel_rfl
def IsRow (k : IntKind) (w : World) (a : Option Addr) (len cap : Nat) (zs : List Int) : Prop :=
  (a = none ∧ len = 0 ∧ cap = 0 ∧ zs = []) ∨
  ∃ x, a = some x ∧ len ≤ cap ∧ cap ≤ maxLen ∧ zs.length = cap ∧ (∀ i, i < zs.length → w.cell? (x.add i) = some (.int k (zs.getD i 0))) ∧ ∀ n ∈ zs, (Lit.int k n).wf = true
set_option maxRecDepth 100000 in
theorem lifted (os : Os) (started : os.Started) (H : Type) (enc : TypeId × Value → H) :
    ReturnsInHanded {} Tryd.checked os 5 .any (fun w args => (Rows.ownerBackSpec.pre enc Tryd.prog Tryd.f5 Rows.ownerBackRow.domain false w args ∧ laidMetH Tryd.prog Rows.ownerBackRow.laid w) ∧ sizedMet enc Tryd.prog Tryd.f5 (OpenSpec.ofChange Rows.ownerBackSpec) false w args) (Rows.ownerBackSpec.post enc Tryd.prog Tryd.f5 false true false false) := by
  refine returnsInHanded_of_change_and (C := Tryd.checked) (X := fun w _ => laidMetH Tryd.prog Rows.ownerBackRow.laid w) (fun _ _ _ hh h => h.of_heap hh) own started (by kernel_rfl) Tryd.func5
    (ChangeSpec.witness_shaped (enc := enc) (C := Tryd.checked) (os := os) (X := fun w _ => laidMetH Tryd.prog Rows.ownerBackRow.laid w) false (World.laidAll Tryd.prog os Rows.ownerBackRow.laid) #[.slice none 0 0, .slice none 0 0] 8 (World.laidAll_os _ _ _)
      (World.shaped_of_ZipB (by kernel_rfl) (by kernel_rfl)) (by kernel_rfl) (by kernel_rfl) (by kernel_rfl)
      (by rw [MakeChecks.laidMetH_plain _ _ _ (by kernel_rfl)]; exact laidMet_laidAll _ (by kernel_rfl) (by kernel_rfl))) ?_
  intro W base args ds gs before hval0 hW hcnd hsz0 hL _
  have hsz : (DataW.weightsEach Tryd.prog (Tryd.f5.params.toList ++ Rows.ownerBackSpec.plain.varTypes Tryd.prog) (ds ++ gs)).all (· ≤ reachBytes) = true := hsz0
  have hval : ∀ (j : Nat) t v, Tryd.f5.params[j]? = some t → args[j]? = some v → Value.okWide Tryd.prog W .any base t v := hval0
  have hW' := hW
  obtain ⟨p, q, hA0, hV, rfl, hfz, hnd⟩ := hW
  have hA : DataW.TrodAll enc Tryd.prog W 0 (fun _ => true) true Tryd.f5.params.toList args.toList ds p := hA0
  rw [Tryd.params5] at hA hval hsz
  obtain ⟨v0, vs0, d0, ds0, p0, q0, hargs, rfl, rfl, h0, r0⟩ := trodAll_cons hA
  obtain ⟨v1, vs1, d1, ds1, p1, q1, rfl, rfl, rfl, h1, r1⟩ := trodAll_cons r0
  obtain ⟨rfl, rfl, rfl⟩ := trodAll_nil r1
  obtain rfl : args = #[v0, v1] := by cases args; simp_all
  obtain ⟨rfl, rfl⟩ := trodVars_none hV
  obtain ⟨a0, len0, cap0, rfl⟩ := okWide_slice Tryd.underlying36 (hval 0 36 v0 rfl rfl)
  have k0 := h0
  have lt0 : ∀ x ∈ p0, x.block < W.heap.size := by obtain ⟨m, hm⟩ := k0; exact DataW.trod_lt m _ _ _ hm
  obtain ⟨ls, hn0, hcap0, hC0, hwf0⟩ : ∃ ls : List (List Int), ls.length = len0 ∧ len0 ≤ cap0 ∧ Go.Proofs.YtdnfmilnkoocdaaDoorW.PrintWords.Kd.C (Go.Proofs.YtdnfmilnkoocdaaDoorW.PrintWords.Kd.slice 5 (Go.Proofs.YtdnfmilnkoocdaaDoorW.PrintWords.Kd.int .u8)) W a0 len0 ls ∧ ∀ l ∈ ls, ∀ z ∈ l, (Lit.int .u8 z).wf = true := by
    obtain ⟨fuel, hf⟩ := h0
    exact Q.rows_of_trod Tryd.underlying36 Tryd.underlying22 Tryd.underlying5 (by kernel_rfl) (by kernel_rfl) hf
  obtain ⟨a1, len1, cap1, rfl⟩ := okWide_slice Tryd.underlying22 (hval 1 22 v1 rfl rfl)
  have k1 := h1
  have lt1 : ∀ x ∈ p1, x.block < W.heap.size := by obtain ⟨m, hm⟩ := k1; exact DataW.trod_lt m _ _ _ hm
  obtain ⟨rest, hn1, hcap1, hC1, hwf1⟩ : ∃ l : List Int, l.length = len1 ∧ len1 ≤ cap1 ∧ Go.Proofs.YtdnfmilnkoocdaaDoorW.PrintWords.Kd.C (Go.Proofs.YtdnfmilnkoocdaaDoorW.PrintWords.Kd.int .u8) W a1 len1 l ∧ ∀ z ∈ l, (Lit.int .u8 z).wf = true := by
    obtain ⟨fuel, hf⟩ := h1
    have hf' : DataW.trod enc Tryd.prog W 0 (fun _ => true) true fuel 22 [.slice a1 len1 cap1] = some (d1, p1) := hf
    obtain ⟨A, c, l, e, q1, q2, q3⟩ := Q.ints_of_trod Tryd.underlying22 Tryd.underlying5 (by kernel_rfl) hf'
    simp only [List.cons.injEq, Value.slice.injEq, and_true] at e
    obtain ⟨rfl, rfl, rfl⟩ := e
    exact ⟨l, rfl, q1, q2, q3⟩
  subst hn0
  subst hn1
  obtain ⟨k, hk⟩ := Pure.OwnerBack (ls := ls) (rest := rest) (fun l hl => K.oct_of_wf (hwf0 l hl)) (K.oct_of_wf hwf1)
  clear hA0 hval0 hsz0 hsz
  refine (Q.paronymlaw26_OwnerBack.calls k a0 cap0 ls a1 cap1 rest true W hC0 hcap0 hC1 hcap1 hk).mono fun e W' ⟨he, bel⟩ => ?_
  subst he
  exact ⟨_, rfl, _, _, _, [], _, [], hW', trodAll_mk1 (shut_bool Tryd.underlying4 _), (trodAll_cons_mk (Below.trod laidOut (by kernel_rfl) (of_decide_eq_true (by kernel_rfl)) k0 bel lt0) (trodAll_cons_mk (Below.trod laidOut (by kernel_rfl) (of_decide_eq_true (by kernel_rfl)) k1 bel lt1) trodAll_mk0)), rfl, bel.frame _, fun h => by cases h⟩
theorem over : Rows.ownerBackRow.holds Tryd.pinned (OpenSpec.ofChange Rows.ownerBackSpec) :=
  OpenClaim.holds_of_wide 5 Tryd.f5 rfl rfl rfl rfl rfl rfl rfl ⟨rfl, rfl, rfl, rfl, rfl⟩ rfl rfl rfl rfl rfl (by kernel_rfl) Tryd.func5 (by kernel_rfl)
    (of_decide_eq_true (by kernel_rfl)) (by unfold Func.isWrapper; first | (rw [if_pos (by decide +kernel)]; kernel_rfl) | (rw [if_neg (by decide +kernel)]; exact ⟨rfl, rfl⟩))
    (fun os started H enc _ => lifted os started H enc)
theorem card : Rows.OwnerBackCardSaid :=
  Claim7.holds_tied_plain_at .later [] [.data, .pinned] true (true, "c8db116255ca7d8a9a063ea87309dbd31f94f59187fe20dbf876020a6bd752c6") false over (fun _ h => by cases h) (by kernel_rfl) (fun _ h => by cases h) ownerBack_row_tie rfl ⟨rfl, rfl⟩ (by kernel_rfl) rfl
    (fun f fn hf hfn => by
      obtain rfl : f = 5 := Option.some.inj ((show Tryd.prog.funcNamed "paronym/paronymlaw26.OwnerBack" = some 5 by kernel_rfl).symm.trans hf) |>.symm
      obtain rfl : fn = Tryd.f5 := (Option.some.inj (Tryd.func5.symm.trans hfn)).symm
      exact ⟨by kernel_rfl, fun j t ht => by
        rw [Tryd.params5] at ht
        have hm : t ∈ ([36, 22] : List Nat) := by have := Array.mem_of_getElem? ht; simp at this ⊢; omega
        have hall : (([36, 22] : List Nat).all fun u => !Tryd.prog.wantsStandIn u) = true := by kernel_rfl
        exact (show Tryd.prog.wantsStandIn t = false by simpa using List.all_eq_true.1 hall t hm)⟩)
    (by kernel_rfl)
#print axioms card
end Go.Proofs.YtdnfmilnkoocdaaDoor.ownerBack
namespace Go.Proofs.YtdnfmilnkoocdaaDoor
/-- The row, under a short name, for the claim. -/
theorem ownerBack_holds : Rows.OwnerBackCardSaid := ownerBack.card
end Go.Proofs.YtdnfmilnkoocdaaDoor
