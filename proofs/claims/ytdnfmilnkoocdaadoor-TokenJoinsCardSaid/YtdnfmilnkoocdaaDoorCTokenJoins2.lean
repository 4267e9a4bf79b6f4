/- Part 2 of 2 of the proof of TokenJoins: for all lines a and b: the words of a and b with a blank between are the words of both, where the first has no remark and no error; an error of a line stays one For every input; no condition. -/
import Derived.Test.YtdnfmilnkoocdaaDoorCTokenJoins1
import Derived.Test.YtdnfmilnkoocdaaDoorRows
import Derived.Test.YtdnfmilnkoocdaaDoorCards
import Derived.Test.YtdnfmilnkoocdaaDoorTie
import Derived.LaidMore
import Derived.Lay
import Derived.SevenTiedAt
import Derived.Stop.Joined
import Derived.WalkKit
import Derived.ProofKit
import Derived.OpenShut
import Derived.ShutString
import Derived.ChangeOld
import Derived.Below
import Derived.SizedLaws
import Derived.Test.YtdnfmilnkoocdaaDoorWSized

-- from Ptok
/- Words of a line: the list functions, and what a blank between two lines does. -/
namespace Go.Proofs.YtdnfmilnkoocdaaDoor.K
set_option linter.unusedVariables false
set_option linter.unusedSimpArgs false
open Go.RowKit Go.Proofs.YtdnfmilnkoocdaaDoorW.PrintWords

def dig (c : Int) : Bool := decide (48 ≤ c ∧ c ≤ 57)
def blank (c : Int) : Bool := decide (c = 32 ∨ c = 9)
def sep (c : Int) : Bool := decide (c = 32 ∨ c = 9 ∨ c = 59)
/-- How many octets an escape has with which a list begins; 0: it is none. -/
def escL : List Int → Nat
  | _ :: c1 :: c2 :: c3 :: _ => if dig c1 = true then (if dig c2 = true ∧ dig c3 = true ∧ (c1 - 48) * 100 + (c2 - 48) * 10 + (c3 - 48) ≤ 255 then 4 else 0) else 2
  | _ :: c1 :: _ => if dig c1 = true then 0 else 2
  | _ => 0
def bump : Sum Int Nat → Sum Int Nat
  | .inl e => .inl e
  | .inr n => .inr (n + 1)
def scan (q : Bool) : Nat → List Int → Sum Int Nat
  | _, [] => if q = true then .inl 61 else .inr 0
  | k + 1, _ :: t => bump (scan q k t)
  | 0, c :: t =>
    if c = 92 then (if escL (c :: t) = 0 then .inl 60 else bump (scan q (escL (c :: t) - 1) t))
    else if q = true ∧ c = 34 then (match t with | [] => .inr 1 | d :: _ => if sep d = true then .inr 1 else .inl 61)
    else if c = 34 then .inl 61
    else if q = false ∧ (c = 40 ∨ c = 41) then .inl 11
    else if q = false ∧ sep c = true then .inr 0
    else bump (scan q 0 t)
def wordL : List Int → Sum Int Nat
  | [] => .inr 0
  | c :: u => if c = 34 then bump (scan true 0 u) else scan false 0 (c :: u)
def push (w : List Int) : Sum Int (List (List Int)) → Sum Int (List (List Int))
  | .inl e => .inl e
  | .inr l => .inr (w :: l)
/-- The words of a line, or its first error. -/
inductive Spl : List Int → Sum Int (List (List Int)) → Prop
  | nil {L : List Int} : L.dropWhile blank = [] → Spl L (.inr [])
  | rem {L u : List Int} : L.dropWhile blank = 59 :: u → Spl L (.inr [])
  | err {L u : List Int} {c e : Int} : L.dropWhile blank = c :: u → c ≠ 59 → wordL (c :: u) = .inl e → Spl L (.inl e)
  | more {L u : List Int} {c : Int} {n : Nat} {r : Sum Int (List (List Int))} : L.dropWhile blank = c :: u → c ≠ 59 → wordL (c :: u) = .inr n → Spl ((c :: u).drop n) r → Spl L (push ((c :: u).take n) r)

theorem wordL_cons (c : Int) (u : List Int) : wordL (c :: u) = if c = 34 then bump (scan true 0 u) else scan false 0 (c :: u) := rfl
theorem bump_inr {x : Sum Int Nat} {n : Nat} (h : bump x = .inr n) : ∃ m, x = .inr m ∧ n = m + 1 := by
  cases x with
  | inl e => cases h
  | inr m => exact ⟨m, rfl, by injection h with h; omega⟩
theorem bump_inl {x : Sum Int Nat} {e : Int} (h : bump x = .inl e) : x = .inl e := by
  cases x with
  | inl e' => injection h with h; rw [h]
  | inr m => cases h
theorem escL_2 (a b : Int) : escL [a, b] = if dig b = true then 0 else 2 := rfl
theorem escL_3 (a b c : Int) : escL [a, b, c] = if dig b = true then 0 else 2 := rfl
theorem escL_4 (a b c d : Int) (r : List Int) : escL (a :: b :: c :: d :: r) = (if dig b = true then (if dig c = true ∧ dig d = true ∧ (b - 48) * 100 + (c - 48) * 10 + (d - 48) ≤ 255 then 4 else 0) else 2) := rfl
theorem escL_nz {t : List Int} (h : escL t ≠ 0) : escL t ≤ t.length ∧ 2 ≤ escL t := by
  match t with
  | [] => exact absurd rfl h
  | [_] => exact absurd rfl h
  | [a, b] => unfold escL at h ⊢; split at h <;> simp_all
  | [a, b, c] => unfold escL at h ⊢; split at h <;> simp_all
  | a :: b :: c :: d :: r =>
    have e : escL (a :: b :: c :: d :: r) = (if dig b = true then (if dig c = true ∧ dig d = true ∧ (b - 48) * 100 + (c - 48) * 10 + (d - 48) ≤ 255 then 4 else 0) else 2) := rfl
    rw [e] at h ⊢
    by_cases h1 : dig b = true
    · rw [if_pos h1] at h ⊢
      by_cases h2 : dig c = true ∧ dig d = true ∧ (b - 48) * 100 + (c - 48) * 10 + (d - 48) ≤ 255
      · rw [if_pos h2]; simp
      · rw [if_neg h2] at h; exact absurd rfl h
    · rw [if_neg h1]; simp
theorem escL_app {t r : List Int} (h : escL t ≠ 0) : escL (t ++ r) = escL t := by
  match t with
  | [] => exact absurd rfl h
  | [_] => exact absurd rfl h
  | [a, b] =>
    have hb : ¬ dig b = true := fun hb => h (by rw [escL_2, if_pos hb])
    match r with
    | [] => rfl
    | [c] => show escL [a, b, c] = _; rw [escL_2, escL_3]
    | c :: d :: r => show escL (a :: b :: c :: d :: r) = _; rw [escL_2, escL_4, if_neg hb, if_neg hb]
  | [a, b, c] =>
    have hb : ¬ dig b = true := fun hb => h (by rw [escL_3, if_pos hb])
    match r with
    | [] => rfl
    | d :: r => show escL (a :: b :: c :: d :: r) = _; rw [escL_3, escL_4, if_neg hb, if_neg hb]
  | a :: b :: c :: d :: r' => rfl
theorem dig32 : dig 32 = false := by decide
theorem escL_bad {c : Int} {t b : List Int} (h : escL (c :: t) = 0) (hne : t ≠ []) : escL (c :: t ++ 32 :: b) = 0 := by
  match t with
  | [] => exact absurd rfl hne
  | [x] =>
    have hx : dig x = true := by
      by_cases hx : dig x = true
      · exact hx
      · exfalso; rw [escL_2, if_neg hx] at h; omega
    match b with
    | [] => show escL [c, x, 32] = 0; rw [escL_3, if_pos hx]
    | y :: b => show escL (c :: x :: 32 :: y :: b) = 0; rw [escL_4, if_pos hx, if_neg (by simp [dig32])]
  | [x, y] =>
    have hx : dig x = true := by
      by_cases hx : dig x = true
      · exact hx
      · exfalso; rw [escL_3, if_neg hx] at h; omega
    show escL (c :: x :: y :: 32 :: b) = 0
    rw [escL_4, if_pos hx, if_neg (by simp [dig32])]
  | x :: y :: z :: t => exact h

theorem scan_le (q : Bool) : ∀ (t : List Int) (k n : Nat), scan q k t = .inr n → n ≤ t.length
  | [], k, n, h => by
    unfold scan at h
    split at h
    · cases h
    · injection h with h; omega
  | c :: t, k + 1, n, h => by
    unfold scan at h
    obtain ⟨m, h1, rfl⟩ := bump_inr h
    have := scan_le q t k m h1
    simp; omega
  | c :: t, 0, n, h => by
    unfold scan at h
    split at h
    · split at h
      · cases h
      · obtain ⟨m, h1, rfl⟩ := bump_inr h
        have := scan_le q t _ m h1
        simp; omega
    split at h
    · split at h
      · injection h with h; simp; omega
      · split at h
        · injection h with h; simp; omega
        · cases h
    split at h
    · cases h
    split at h
    · cases h
    split at h
    · injection h with h; omega
    · obtain ⟨m, h1, rfl⟩ := bump_inr h
      have := scan_le q t _ m h1
      simp; omega
theorem wordL_le {L : List Int} {n : Nat} (h : wordL L = .inr n) : n ≤ L.length := by
  cases L with
  | nil => injection h with h; omega
  | cons c u =>
    rw [wordL_cons] at h
    split at h
    · obtain ⟨m, h1, rfl⟩ := bump_inr h
      have := scan_le _ _ _ _ h1
      simp; omega
    · exact scan_le _ _ _ _ h
theorem wordL_pos {c : Int} {u : List Int} {n : Nat} (h : wordL (c :: u) = .inr n) (hb : blank c = false) (h9 : c ≠ 59) : 1 ≤ n := by
  rw [wordL_cons] at h
  split at h
  · obtain ⟨m, h1, rfl⟩ := bump_inr h; omega
  · rename_i h34
    unfold scan at h
    split at h
    · split at h
      · cases h
      · obtain ⟨m, h1, rfl⟩ := bump_inr h; omega
    try rw [if_neg (fun hh => h34 hh.2)] at h
    try rw [if_neg h34] at h
    split at h
    · cases h
    split at h
    · rename_i hs
      exfalso
      have h1 := of_decide_eq_true hs.2
      have h2 := of_decide_eq_false hb
      omega
    · obtain ⟨m, h1, rfl⟩ := bump_inr h; omega
theorem scan_err (q : Bool) : ∀ (t : List Int) (k : Nat) (e : Int), scan q k t = .inl e → e = 60 ∨ e = 61 ∨ e = 11
  | [], k, e, h => by
    unfold scan at h
    split at h
    · injection h with h; omega
    · cases h
  | c :: t, k + 1, e, h => by
    unfold scan at h
    exact scan_err q t k e (bump_inl h)
  | c :: t, 0, e, h => by
    unfold scan at h
    split at h
    · split at h
      · injection h with h; omega
      · exact scan_err q t _ e (bump_inl h)
    split at h
    · split at h
      · cases h
      · split at h
        · cases h
        · injection h with h; omega
    split at h
    · injection h with h; omega
    split at h
    · injection h with h; omega
    split at h
    · cases h
    · exact scan_err q t _ e (bump_inl h)
theorem wordL_err {L : List Int} {e : Int} (h : wordL L = .inl e) : e = 60 ∨ e = 61 ∨ e = 11 := by
  cases L with
  | nil => cases h
  | cons c u =>
    rw [wordL_cons] at h
    split at h
    · exact scan_err _ _ _ _ (bump_inl h)
    · exact scan_err _ _ _ _ h
theorem Spl.err_is {L : List Int} {r : Sum Int (List (List Int))} (h : Spl L r) : ∀ e, r = .inl e → e = 60 ∨ e = 61 ∨ e = 11 := by
  induction h with
  | nil _ => intro e h; cases h
  | rem _ => intro e h; cases h
  | err _ _ h => intro e he; injection he with he; rw [← he]; exact wordL_err h
  | @more L u c n r _ _ _ _ ih =>
    intro e h
    cases r with
    | inl e' => injection h with h; exact ih e (by rw [h])
    | inr l => cases h

theorem dropWhile_len (p : Int → Bool) : ∀ l : List Int, (l.dropWhile p).length ≤ l.length
  | [] => Nat.le_refl _
  | x :: l => by
    rw [List.dropWhile_cons]
    split
    · have := dropWhile_len p l; simp; omega
    · exact Nat.le_refl _
theorem dropWhile_head {p : Int → Bool} : ∀ {l u : List Int} {c : Int}, l.dropWhile p = c :: u → p c = false
  | [], u, c, h => by cases h
  | x :: l, u, c, h => by
    rw [List.dropWhile_cons] at h
    split at h
    · exact dropWhile_head h
    · rename_i hx
      injection h with h1 h2
      rw [← h1]
      simpa using hx
theorem dropWhile_suffix {p : Int → Bool} : ∀ (l : List Int), ∃ w, l = w ++ l.dropWhile p
  | [] => ⟨[], rfl⟩
  | x :: l => by
    rw [List.dropWhile_cons]
    split
    · obtain ⟨w, hw⟩ := dropWhile_suffix (p := p) l
      refine ⟨x :: w, ?_⟩
      rw [List.cons_append, ← hw]
    · exact ⟨[], rfl⟩
theorem dropWhile_app_ne {p : Int → Bool} : ∀ {l u r : List Int} {c : Int}, l.dropWhile p = c :: u → (l ++ r).dropWhile p = c :: (u ++ r)
  | [], u, r, c, h => by cases h
  | x :: l, u, r, c, h => by
    rw [List.cons_append, List.dropWhile_cons]
    rw [List.dropWhile_cons] at h
    split
    · rename_i hx
      rw [if_pos hx] at h
      exact dropWhile_app_ne h
    · rename_i hx
      rw [if_neg hx] at h
      injection h with h1 h2
      rw [h1, h2]
theorem dropWhile_app_nil {p : Int → Bool} : ∀ {l r : List Int}, l.dropWhile p = [] → (l ++ r).dropWhile p = r.dropWhile p
  | [], r, _ => rfl
  | x :: l, r, h => by
    rw [List.dropWhile_cons] at h
    split at h
    · rename_i hx
      rw [List.cons_append, List.dropWhile_cons, if_pos hx]
      exact dropWhile_app_nil h
    · cases h
theorem Spl.total : ∀ (n : Nat) (L : List Int), L.length ≤ n → ∃ r, Spl L r := by
  intro n
  induction n with
  | zero =>
    intro L h
    have : L = [] := List.eq_nil_of_length_eq_zero (by omega)
    subst this
    exact ⟨_, .nil rfl⟩
  | succ n ih =>
    intro L h
    have hl := dropWhile_len blank L
    cases hd : L.dropWhile blank with
    | nil => exact ⟨_, .nil hd⟩
    | cons c u =>
      by_cases h9 : c = 59
      · subst h9; exact ⟨_, .rem hd⟩
      cases hw : wordL (c :: u) with
      | inl e => exact ⟨_, .err hd h9 hw⟩
      | inr m =>
        have hp := wordL_pos hw (dropWhile_head hd) h9
        rw [hd] at hl
        obtain ⟨r, hr⟩ := ih ((c :: u).drop m) (by rw [List.length_drop]; omega)
        exact ⟨_, .more hd h9 hw hr⟩
theorem Spl.same {L L' : List Int} {r : Sum Int (List (List Int))} (h : Spl L r) (e : L'.dropWhile blank = L.dropWhile blank) : Spl L' r := by
  cases h with
  | nil h => exact .nil (e.trans h)
  | rem h => exact .rem (e.trans h)
  | err h a b => exact .err (e.trans h) a b
  | more h a b c => exact .more (e.trans h) a b c
theorem Spl.sum {L : List Int} {r : Sum Int (List (List Int))} (h : Spl L r) : ∀ l, r = .inr l → (l.map List.length).sum ≤ L.length := by
  induction h with
  | nil _ => intro l h; injection h with h; subst h; simp
  | rem _ => intro l h; injection h with h; subst h; simp
  | err _ _ _ => intro l h; cases h
  | @more L u c n r hd _ hw _ ih =>
    intro l h
    cases r with
    | inl e => cases h
    | inr l' =>
      injection h with h
      subst h
      have h1 := ih l' rfl
      have h2 := wordL_le hw
      have h3 := dropWhile_len blank L
      rw [hd] at h3
      rw [List.length_drop] at h1
      rw [List.map_cons, List.sum_cons, List.length_take]
      omega

/-! a blank behind -/
theorem scan_app (q : Bool) (b : List Int) : ∀ (t : List Int) (k n : Nat), k ≤ t.length → scan q k t = .inr n → scan q k (t ++ 32 :: b) = .inr n
  | [], k, n, hk, h => by
    obtain rfl : k = 0 := by simpa using hk
    unfold scan at h
    split at h
    · cases h
    rename_i hq
    have hq' : q = false := by simpa using hq
    subst hq'
    injection h with h
    subst h
    rfl
  | c :: t, k + 1, n, hk, h => by
    unfold scan at h
    obtain ⟨m, h1, rfl⟩ := bump_inr h
    rw [List.cons_append, scan, scan_app q b t k m (by simpa using hk) h1]
    rfl
  | c :: t, 0, n, hk, h => by
    rw [List.cons_append]
    unfold scan at h ⊢
    by_cases h92 : c = 92
    · rw [if_pos h92] at h ⊢
      split at h
      · cases h
      rename_i hz
      have ha := escL_app (r := 32 :: b) hz
      rw [List.cons_append] at ha
      rw [ha, if_neg hz]
      obtain ⟨m, h1, rfl⟩ := bump_inr h
      have hle := escL_nz hz
      rw [scan_app q b t _ m (by rw [List.length_cons] at hle; omega) h1]
      rfl
    rw [if_neg h92] at h ⊢
    by_cases hq : q = true ∧ c = 34
    · rw [if_pos hq] at h ⊢
      cases t with
      | nil => exact h
      | cons d t => exact h
    rw [if_neg hq] at h ⊢
    split at h
    · cases h
    rename_i h34
    rw [if_neg h34]
    split at h
    · cases h
    rename_i h40
    rw [if_neg h40]
    split at h
    · rename_i hs
      rw [if_pos hs]
      exact h
    rename_i hs
    rw [if_neg hs]
    obtain ⟨m, h1, rfl⟩ := bump_inr h
    rw [scan_app q b t 0 m (Nat.zero_le _) h1]
    rfl
theorem scan_app_err (b : List Int) (e : Int) : ∀ (t : List Int) (k : Nat), k ≤ t.length → 34 ∉ t → t.getLast? ≠ some 92 → scan false k t = .inl e → scan false k (t ++ 32 :: b) = .inl e
  | [], k, hk, h3, hl, h => by
    unfold scan at h
    cases h
  | c :: t, k + 1, hk, h3, hl, h => by
    unfold scan at h
    have h1 := bump_inl h
    have hne : t ≠ [] := fun e => by subst e; cases h1
    rw [List.cons_append, scan, scan_app_err b e t k (by simpa using hk) (fun hh => h3 (List.mem_cons_of_mem _ hh)) (by rw [List.getLast?_cons_of_ne_nil hne] at hl; exact hl) h1]
    rfl
  | c :: t, 0, hk, h3, hl, h => by
    have h34 : c ≠ 34 := fun hh => h3 (by rw [hh]; exact List.mem_cons_self)
    have tail : ∀ k, k ≤ t.length → scan false k t = .inl e → scan false k (t ++ 32 :: b) = .inl e := fun k hk' h1 => by
      have hne : t ≠ [] := fun e => by subst e; cases h1
      exact scan_app_err b e t k hk' (fun hh => h3 (List.mem_cons_of_mem _ hh)) (by rw [List.getLast?_cons_of_ne_nil hne] at hl; exact hl) h1
    rw [List.cons_append]
    unfold scan at h ⊢
    by_cases h92 : c = 92
    · rw [if_pos h92] at h ⊢
      have hne : t ≠ [] := fun e => by subst e; exact hl (by rw [h92]; rfl)
      by_cases hz : escL (c :: t) = 0
      · rw [if_pos hz] at h
        have := escL_bad (b := b) hz hne
        rw [List.cons_append] at this
        rw [if_pos this]
        exact h
      · rw [if_neg hz] at h
        have ha := escL_app (r := 32 :: b) hz
        rw [List.cons_append] at ha
        rw [ha, if_neg hz]
        have hle := escL_nz hz
        rw [tail _ (by rw [List.length_cons] at hle; omega) (bump_inl h)]
        rfl
    rw [if_neg h92, if_neg (fun hh => h34 hh.2), if_neg h34] at h ⊢
    split at h
    · rename_i h40
      rw [if_pos h40]
      exact h
    rename_i h40
    rw [if_neg h40]
    split at h
    · cases h
    rename_i hs
    rw [if_neg hs, tail 0 (Nat.zero_le _) (bump_inl h)]
    rfl
theorem wordL_app {L b : List Int} {n : Nat} (hne : L ≠ []) (h : wordL L = .inr n) : wordL (L ++ 32 :: b) = .inr n := by
  cases L with
  | nil => exact absurd rfl hne
  | cons c u =>
    rw [wordL_cons] at h
    rw [List.cons_append]
    rw [wordL_cons]
    split at h
    · rename_i h34
      rw [if_pos h34]
      obtain ⟨m, h1, rfl⟩ := bump_inr h
      rw [scan_app true b u 0 m (Nat.zero_le _) h1]
      rfl
    · rename_i h34
      rw [if_neg h34]
      exact scan_app false b (c :: u) 0 n (Nat.zero_le _) h
theorem wordL_app_err {L b : List Int} {e : Int} (h3 : 34 ∉ L) (hl : L.getLast? ≠ some 92) (h : wordL L = .inl e) : wordL (L ++ 32 :: b) = .inl e := by
  cases L with
  | nil => cases h
  | cons c u =>
    rw [wordL_cons] at h
    rw [List.cons_append]
    rw [wordL_cons]
    have h34 : c ≠ 34 := fun hh => h3 (by rw [hh]; exact List.mem_cons_self)
    rw [if_neg h34] at h ⊢
    exact scan_app_err b e (c :: u) 0 (Nat.zero_le _) h3 hl h
def app (l : List (List Int)) : Sum Int (List (List Int)) → Sum Int (List (List Int))
  | .inl e => .inl e
  | .inr m => .inr (l ++ m)
theorem push_app (w : List Int) (l : List (List Int)) (r : Sum Int (List (List Int))) : push w (app l r) = app (w :: l) r := by cases r <;> rfl
theorem Spl.join {a b : List Int} {r rb : Sum Int (List (List Int))} (h : Spl a r) (hb : Spl b rb) : ∀ l, r = .inr l → 59 ∉ a → Spl (a ++ 32 :: b) (app l rb) := by
  induction h with
  | @nil L hd =>
    intro l hr _
    injection hr with hr
    subst hr
    have : app [] rb = rb := by cases rb <;> rfl
    rw [this]
    refine hb.same ?_
    rw [dropWhile_app_nil hd]
    rfl
  | @rem L u hd =>
    intro l hr h9
    exfalso
    obtain ⟨w, hw⟩ := dropWhile_suffix (p := blank) L
    rw [hd] at hw
    exact h9 (by rw [hw]; simp)
  | err _ _ _ => intro l hr; cases hr
  | @more L u c n r hd h9 hw _ ih =>
    intro l hr h59
    cases r with
    | inl e => cases hr
    | inr l' =>
      injection hr with hr
      subst hr
      have hle := wordL_le hw
      have hn9 : 59 ∉ (c :: u).drop n := fun hh => by
        obtain ⟨w, hw'⟩ := dropWhile_suffix (p := blank) L
        rw [hd] at hw'
        exact h59 (by rw [hw']; exact List.mem_append_right _ (List.mem_of_mem_drop hh))
      have h1 := ih l' rfl hn9
      rw [← push_app]
      have e1 : ((c :: u) ++ 32 :: b).drop n = (c :: u).drop n ++ 32 :: b := List.drop_append_of_le_length hle
      have e2 : ((c :: u) ++ 32 :: b).take n = (c :: u).take n := List.take_append_of_le_length hle
      have := Spl.more (L := L ++ 32 :: b) (u := u ++ 32 :: b) (c := c) (n := n) (dropWhile_app_ne hd) h9 (by have := wordL_app (b := b) (by simp) hw; exact this) (by rw [← List.cons_append, e1]; exact h1)
      rw [← List.cons_append, e2] at this
      exact this
theorem getLast_suffix {w l : List Int} (h : l ≠ []) : (w ++ l).getLast? = l.getLast? := by
  rw [List.getLast?_append]
  cases hl : l.getLast? with
  | none => exact absurd (List.getLast?_eq_none_iff.1 hl) h
  | some x => rfl
theorem Spl.nil_is {L : List Int} {r : Sum Int (List (List Int))} (h : Spl L r) (e : L = []) : r = .inr [] := by
  cases h with
  | nil _ => rfl
  | rem _ => rfl
  | err hd _ _ => subst e; cases hd
  | more hd _ _ _ => subst e; cases hd
theorem Spl.join_err {a b : List Int} {r : Sum Int (List (List Int))} (h : Spl a r) : ∀ e, r = .inl e → 34 ∉ a → a.getLast? ≠ some 92 → Spl (a ++ 32 :: b) (.inl e) := by
  induction h with
  | nil _ => intro e hr; cases hr
  | rem _ => intro e hr; cases hr
  | @err L u c e0 hd h9 hw =>
    intro e hr h3 hl
    injection hr with hr
    subst hr
    obtain ⟨w, hw'⟩ := dropWhile_suffix (p := blank) L
    rw [hd] at hw'
    have h3' : 34 ∉ c :: u := fun hh => h3 (by rw [hw']; exact List.mem_append_right _ hh)
    have hl' : (c :: u).getLast? ≠ some 92 := by rw [hw', getLast_suffix (by simp)] at hl; exact hl
    exact .err (dropWhile_app_ne hd) h9 (wordL_app_err h3' hl' hw)
  | @more L u c n r hd h9 hw hs ih =>
    intro e hr h3 hl
    cases r with
    | inr l => cases hr
    | inl e' =>
      injection hr with hr
      subst hr
      have hle := wordL_le hw
      obtain ⟨w, hw'⟩ := dropWhile_suffix (p := blank) L
      rw [hd] at hw'
      have hne : (c :: u).drop n ≠ [] := fun hh => by
        cases hs.nil_is hh
      have hsplit : c :: u = (c :: u).take n ++ (c :: u).drop n := (List.take_append_drop n _).symm
      have h1 := ih e' rfl (fun hh => h3 (by rw [hw']; exact List.mem_append_right _ (List.mem_of_mem_drop hh))) (by
        rw [hw', hsplit, ← List.append_assoc, getLast_suffix hne] at hl
        exact hl)
      have e1 : ((c :: u) ++ 32 :: b).drop n = (c :: u).drop n ++ 32 :: b := List.drop_append_of_le_length hle
      have := Spl.more (L := L ++ 32 :: b) (u := u ++ 32 :: b) (c := c) (n := n) (dropWhile_app_ne hd) h9 (by have := wordL_app (b := b) (by simp) hw; exact this) (by rw [← List.cons_append, e1]; exact h1)
      exact this
end Go.Proofs.YtdnfmilnkoocdaaDoor.K

-- from Ptok2
/- Words of a line: what the program tells, from a round on. -/
namespace Go.Proofs.YtdnfmilnkoocdaaDoor.K
set_option linter.unusedVariables false
set_option linter.unusedSimpArgs false
open Go.RowKit Go.Proofs.YtdnfmilnkoocdaaDoor.Q Go.Proofs.YtdnfmilnkoocdaaDoorW.PrintWords Go.Proofs.YtdnfmilnkoocdaaDoorW.PrintLast

theorem Ev.succ {α : Type} {g : Nat → Option α} {r : α} (h : Ev (fun k => g (k + 1)) r) : Ev g r := Ev.step (fun _ => rfl) h
theorem scan_0 (q : Bool) (c : Int) (t : List Int) : scan q 0 (c :: t) = if c = 92 then (if escL (c :: t) = 0 then .inl 60 else bump (scan q (escL (c :: t) - 1) t))
    else if q = true ∧ c = 34 then (match t with | [] => .inr 1 | d :: _ => if sep d = true then .inr 1 else .inl 61)
    else if c = 34 then .inl 61
    else if q = false ∧ (c = 40 ∨ c = 41) then .inl 11
    else if q = false ∧ sep c = true then .inr 0
    else bump (scan q 0 t) := by
  first
    | (rw [scan.eq_def]; done)
    | (rw [scan.eq_def]; rfl)
theorem digit_is (c : Int) : token_digit.f c = some (dig c) := by
  unfold token_digit.f dig
  split
  · rename_i h
    congr 1
    exact decide_eq_decide.2 (by omega)
  · rename_i h
    rw [decide_eq_false (by omega)]
theorem sep_idx {c : Int} (h : 0 ≤ c ∧ c ≤ 255) : ∃ t, strings_IndexByte.f (⟨#[32, 9, 59]⟩ : ByteArray) c = some t ∧ (t < 0 ↔ sep c = false) := by
  refine ⟨_, rfl, ?_⟩
  have key : ∀ b : UInt8, (Lib.indexByte [32, 9, 59] b < 0 ↔ ¬ (b = 32 ∨ b = 9 ∨ b = 59)) := by
    intro b
    simp only [Lib.indexByte]
    by_cases h1 : b = 32
    · subst h1; simp
    by_cases h2 : b = 9
    · subst h2; decide
    by_cases h3 : b = 59
    · subst h3; decide
    have e1 : ((32 : UInt8) == b) = false := by simpa using fun e => h1 e.symm
    have e2 : ((9 : UInt8) == b) = false := by simpa using fun e => h2 e.symm
    have e3 : ((59 : UInt8) == b) = false := by simpa using fun e => h3 e.symm
    simp [e1, e2, e3, h1, h2, h3]
  have hk := key c.toNat.toUInt8
  have hc : ∀ n : Nat, n < 256 → (c.toNat.toUInt8 = UInt8.ofNat n ↔ c = n) := by
    intro n hn
    constructor
    · intro e
      have := congrArg UInt8.toNat e
      simp at this
      omega
    · intro e
      subst e
      rfl
  refine hk.trans ?_
  have a1 : c.toNat.toUInt8 = 32 ↔ c = 32 := hc 32 (by omega)
  have a2 : c.toNat.toUInt8 = 9 ↔ c = 9 := hc 9 (by omega)
  have a3 : c.toNat.toUInt8 = 59 ↔ c = 59 := hc 59 (by omega)
  rw [a1, a2, a3]
  unfold sep
  simp

theorem escape_ev {t : List Int} (ho : Oct t) : ∃ v, Ev (fun k => token_escape.f k (strOfNums t)) (v, (escL t : Int)) := by
  unfold token_escape.f
  match t, ho with
  | [], ho => exact ⟨_, Ev.pos (by rw [size_str]; simp) (Ev.now _)⟩
  | [_], ho => exact ⟨_, Ev.pos (by rw [size_str]; simp) (Ev.now _)⟩
  | a :: b :: r, ho =>
    have hs : ((strOfNums (a :: b :: r)).size : Int) = (r.length : Int) + 2 := by rw [size_str]; simp; omega
    have hb : bt (strOfNums (a :: b :: r)) 1 = b := by
      rw [bt_str ho (by omega) (by simp; omega)]; rfl
    have j0t : Ev (fun k => token_escape.j0 k (strOfNums (a :: b :: r)) true) (0, 0) := Ev.step (f := fun _ => some (0, 0)) (fun k => rfl) (Ev.now _)
    rw [hs, hb, digit_is]
    by_cases hd : dig b = true
    · match r, ho, hs, hb, j0t with
      | [], ho, hs, hb, j0t =>
        rw [escL_2, if_pos hd]
        exact ⟨0, Ev.neg (by simp) (Ev.pos (by simp) (Ev.bind (Ev.now _) (Ev.pos hd (Ev.pos (by simp) j0t))))⟩
      | [c], ho, hs, hb, j0t =>
        rw [escL_3, if_pos hd]
        exact ⟨0, Ev.neg (by simp) (Ev.pos (by simp) (Ev.bind (Ev.now _) (Ev.pos hd (Ev.pos (by simp) j0t))))⟩
      | c :: d :: r, ho, hs, hb, j0t =>
        have hc : bt (strOfNums (a :: b :: c :: d :: r)) 2 = c := by
          rw [bt_str ho (by omega) (by simp; omega)]; rfl
        have hdd : bt (strOfNums (a :: b :: c :: d :: r)) 3 = d := by
          rw [bt_str ho (by omega) (by simp; omega)]; rfl
        rw [hc, hdd, digit_is, digit_is]
        have hl : (((c :: d :: r).length : Nat) : Int) = (r.length : Int) + 2 := by simp; omega
        rw [hl] at hs ⊢
        have front : ∀ v : Int × Int, Ev (fun k => (some (dig c)).bind fun t102 => if t102 = true then (if 3 < (r.length : Int) + 2 + 2 then (some (dig d)).bind fun t103 => token_escape.j0 k (strOfNums (a :: b :: c :: d :: r)) (!t103) else none) else token_escape.j0 k (strOfNums (a :: b :: c :: d :: r)) true) v →
            Ev (fun k => if (r.length : Int) + 2 + 2 < 2 then some (0, 0) else if 1 < (r.length : Int) + 2 + 2 then (some (dig b)).bind fun t101 => if t101 = true then (if (r.length : Int) + 2 + 2 < 4 then token_escape.j0 k (strOfNums (a :: b :: c :: d :: r)) true else if 2 < (r.length : Int) + 2 + 2 then (some (dig c)).bind fun t102 => if t102 = true then (if 3 < (r.length : Int) + 2 + 2 then (some (dig d)).bind fun t103 => token_escape.j0 k (strOfNums (a :: b :: c :: d :: r)) (!t103) else none) else token_escape.j0 k (strOfNums (a :: b :: c :: d :: r)) true else none) else some (b, 2) else none) v := by
          intro v h
          refine Ev.neg (by omega) (Ev.pos (by omega) (Ev.bind (Ev.now _) (Ev.pos hd (Ev.neg (by omega) (Ev.pos (by omega) h)))))
        by_cases hcc : dig c = true
        · by_cases hd3 : dig d = true
          · have b1 := of_decide_eq_true hd
            have b2 := of_decide_eq_true hcc
            have b3 := of_decide_eq_true hd3
            have m1 : (b - 48) % 256 = b - 48 := by omega
            have m2 : (c - 48) % 256 = c - 48 := by omega
            have m3 : (d - 48) % 256 = d - 48 := by omega
            have j0f : ∀ q : Bool, q = false → ∃ v, Ev (fun k => token_escape.j0 k (strOfNums (a :: b :: c :: d :: r)) q) (v, (escL (a :: b :: c :: d :: r) : Int)) := by
              intro q hq
              rw [escL_4, if_pos hd]
              by_cases hv : (b - 48) * 100 + (c - 48) * 10 + (d - 48) > 255
              · rw [if_neg (by omega)]
                refine ⟨0, Ev.step (fun k => rfl) (Ev.neg (by simp [hq]) (Ev.pos (by omega) (Ev.pos (by omega) (Ev.pos (by omega) (Ev.pos ?_ (Ev.now _))))))⟩
                rw [hb, hc, hdd, m1, m2, m3]
                exact hv
              · rw [if_pos ⟨hcc, hd3, by omega⟩]
                refine ⟨_, Ev.step (fun k => rfl) (Ev.neg (by simp [hq]) (Ev.pos (by omega) (Ev.pos (by omega) (Ev.pos (by omega) (Ev.neg ?_ (Ev.now _))))))⟩
                rw [hb, hc, hdd, m1, m2, m3]
                exact hv
            obtain ⟨v, hv⟩ := j0f false rfl
            refine ⟨v, front _ (Ev.bind (Ev.now _) (Ev.pos hcc (Ev.pos (by omega) (Ev.bind (Ev.now _) ?_))))⟩
            rw [hd3]
            exact hv
          · rw [escL_4, if_pos hd, if_neg (fun h => hd3 h.2.1)]
            refine ⟨0, front _ (Ev.bind (Ev.now _) (Ev.pos hcc (Ev.pos (by omega) (Ev.bind (Ev.now _) ?_))))⟩
            rw [show dig d = false by simpa using hd3]
            exact j0t
        · rw [escL_4, if_pos hd, if_neg (fun h => hcc h.1)]
          exact ⟨0, front _ (Ev.bind (Ev.now _) (Ev.neg hcc j0t))⟩
    · have he : escL (a :: b :: r) = 2 := by
        match r with
        | [] => rw [escL_2, if_neg hd]
        | [c] => rw [escL_3, if_neg hd]
        | c :: d :: r => rw [escL_4, if_neg hd]
      rw [he]
      exact ⟨b, Ev.neg (by omega) (Ev.pos (by omega) (Ev.bind (Ev.now _) (Ev.neg hd (Ev.now _))))⟩
def res (i : Int) : Sum Int Nat → Int × Int
  | .inl e => (0, e)
  | .inr n => (i + (n : Int), 0)
theorem res_bump (i : Int) (x : Sum Int Nat) : res i (bump x) = res (i + 1) x := by
  cases x with
  | inl e => rfl
  | inr n => show (i + ((n + 1 : Nat) : Int), (0 : Int)) = (i + 1 + (n : Int), 0); congr 1; omega
theorem scan_skip (q : Bool) : ∀ (k : Nat) (t : List Int) (i : Int), k ≤ t.length → res i (scan q k t) = res (i + (k : Int)) (scan q 0 (t.drop k))
  | 0, t, i, _ => by simp
  | k + 1, [], i, h => by simp at h
  | k + 1, c :: t, i, h => by
    rw [scan, res_bump, scan_skip q k t (i + 1) (by simpa using h), List.drop_succ_cons, show i + 1 + (k : Int) = i + ((k + 1 : Nat) : Int) by omega]
set_option maxHeartbeats 1000000 in
theorem word_loop {L : List Int} (ho : Oct L) (hL : L.length ≤ 1000000) (q : Bool) : ∀ (d i : Nat), L.length - i ≤ d → i ≤ L.length → Ev (fun k => token_word.l0 k (strOfNums L) q (i : Int)) (res (i : Int) (scan q 0 (L.drop i))) := by
  intro d
  induction d with
  | zero =>
    intro i h1 h2
    have : i = L.length := by omega
    subst this
    rw [List.drop_length]
    refine Ev.step (fun k => rfl) (Ev.neg (by rw [size_str]; omega) ?_)
    cases q with
    | true => exact Ev.pos rfl (Ev.now _)
    | false => exact Ev.neg (by decide) (Ev.ret (by simp [scan, res]))
  | succ d ih =>
    intro i h1 h2
    by_cases hi : i = L.length
    · subst hi
      rw [List.drop_length]
      refine Ev.step (fun k => rfl) (Ev.neg (by rw [size_str]; omega) ?_)
      cases q with
      | true => exact Ev.pos rfl (Ev.now _)
      | false => exact Ev.neg (by decide) (Ev.ret (by simp [scan, res]))
    have hlt : i < L.length := by omega
    have hbt : bt (strOfNums L) (i : Int) = rd L (i : Int) := bt_str ho (by omega) (by omega)
    have hoc := ho.rd (i := (i : Int)) (by omega) (by omega)
    have hcons := drop_cons L i hlt
    generalize hc : rd L (i : Int) = c at *
    have hw : wrap64 ((i : Int) + 1) = ((i + 1 : Nat) : Int) := by rw [w64 (by omega) (by omega)]; omega
    have next := ih (i + 1) (by omega) (by omega)
    refine Ev.step (fun k => rfl) (Ev.pos (by rw [size_str]; omega) (Ev.pos (by omega) ?_))
    rw [hbt, hcons, scan_0]
    by_cases h92 : c = 92
    · rw [if_pos h92]
      refine Ev.pos h92 (Ev.pos (by rw [size_str]; omega) ?_)
      have hex : (strOfNums L).extract ((i : Int)).toNat (strOfNums L).size = strOfNums (c :: L.drop (i + 1)) := by
        rw [extract_str, size_str, List.take_length, Int.toNat_natCast, hcons]
      rw [hex]
      have ho' : Oct (c :: L.drop (i + 1)) := by rw [← hcons]; exact ho.drop i
      obtain ⟨v, hv⟩ := escape_ev ho'
      refine Ev.bind hv ?_
      by_cases hz : escL (c :: L.drop (i + 1)) = 0
      · rw [if_pos hz]
        refine Ev.pos (by show ((escL (c :: L.drop (i + 1)) : Nat) : Int) = 0; omega) (Ev.now _)
      · rw [if_neg hz]
        have hle := escL_nz hz
        have hlen : (c :: L.drop (i + 1)).length = L.length - i := by rw [← hcons, List.length_drop]
        generalize hn : escL (c :: L.drop (i + 1)) = n at *
        refine Ev.neg (by show ¬ ((n : Nat) : Int) = 0; omega) ?_
        show Ev (fun k => token_word.l0 k (strOfNums L) q (wrap64 ((i : Int) + ((n : Nat) : Int)))) _
        rw [res_bump, scan_skip q _ _ _ (by rw [List.length_drop]; omega), List.drop_drop]
        have := ih (i + n) (by omega) (by omega)
        rw [w64 (by omega) (by omega), show i + 1 + (n - 1) = i + n by omega, show (i : Int) + 1 + ((n - 1 : Nat) : Int) = ((i + n : Nat) : Int) by omega, show (i : Int) + (n : Int) = ((i + n : Nat) : Int) by omega]
        exact this
    rw [if_neg h92]
    refine Ev.neg h92 ?_
    -- the walk behind a quote's end
    by_cases hq : q = true ∧ c = 34
    · obtain ⟨rfl, h34⟩ := hq
      rw [if_pos ⟨rfl, h34⟩]
      refine Ev.pos rfl (Ev.step (fun k => rfl) (Ev.pos (by simpa using h34) ?_))
      rw [hw]
      by_cases he : i + 1 = L.length
      · refine Ev.neg (by rw [size_str]; omega) ?_
        rw [show L.drop (i + 1) = [] from List.drop_of_length_le (by omega)]
        exact Ev.ret rfl
      · have hlt1 : i + 1 < L.length := by omega
        refine Ev.pos (by rw [size_str]; omega) (Ev.pos (by omega) ?_)
        rw [bt_str ho (by omega) (by omega), drop_cons L (i + 1) hlt1]
        obtain ⟨t, ht, hs⟩ := sep_idx (ho.rd (i := ((i + 1 : Nat) : Int)) (by omega) (by omega))
        refine Ev.bindS ht ?_
        by_cases hsp : sep (rd L ((i + 1 : Nat) : Int)) = true
        · simp only [hsp, if_true]
          refine Ev.neg (fun h => by rw [hs.1 h] at hsp; cases hsp) (Ev.ret ?_)
          show _ = ((i : Int) + ((1 : Nat) : Int), (0 : Int))
          congr 1
        · have hsf : sep (rd L ((i + 1 : Nat) : Int)) = false := by simpa using hsp
          simp only [hsf]
          exact Ev.pos (hs.2 hsf) (Ev.now _)
    rw [if_neg hq]
    have j2f : Ev (fun k => token_word.j2 k (strOfNums L) q (i : Int) c false) (res (i : Int) (if c = 34 then .inl 61 else if q = false ∧ (c = 40 ∨ c = 41) then .inl 11 else if q = false ∧ sep c = true then .inr 0 else bump (scan q 0 (L.drop (i + 1))))) := by
      refine Ev.succ ?_
      simp only [token_word.j2, Bool.false_eq_true, if_false]
      cases q with
      | true =>
        have h34 : c ≠ 34 := fun e => hq ⟨rfl, e⟩
        rw [if_neg h34, if_neg (by simp), if_neg (by simp), res_bump]
        simp only [if_true]
        refine Ev.succ ?_
        simp only [token_word.j3, Bool.false_eq_true, if_false, if_true]
        refine Ev.succ ?_
        simp only [token_word.j4, Bool.false_eq_true, if_false, if_true]
        rw [hw]
        exact next
      | false =>
        simp only [Bool.false_eq_true, if_false]
        refine Ev.succ ?_
        simp only [token_word.j3, Bool.false_eq_true, if_false]
        by_cases h34 : c = 34
        · rw [if_pos h34]
          exact Ev.pos (by simpa using h34) (Ev.now _)
        rw [if_neg h34]
        refine Ev.neg (by simpa using h34) ?_
        have j4f : c ≠ 40 → c ≠ 41 → Ev (fun k => token_word.j4 k (strOfNums L) false (i : Int) c false) (res (i : Int) (if True ∧ sep c = true then .inr 0 else bump (scan false 0 (L.drop (i + 1))))) := by
          intro h40 h41
          refine Ev.succ ?_
          simp only [token_word.j4, Bool.false_eq_true, if_false]
          obtain ⟨t, ht, hs⟩ := sep_idx hoc
          refine Ev.bindS ht ?_
          by_cases hsp : sep c = true
          · rw [if_pos ⟨trivial, hsp⟩]
            refine Ev.pos (by
              have : ¬ t < 0 := fun h => by rw [hs.1 h] at hsp; cases hsp
              omega) (Ev.ret ?_)
            show _ = ((i : Int) + ((0 : Nat) : Int), (0 : Int))
            congr 1
          · rw [if_neg (fun h => hsp h.2), res_bump]
            refine Ev.neg (by have := hs.2 (by simpa using hsp); omega) ?_
            rw [hw]
            exact next
        by_cases h40 : c = 40
        · rw [if_pos ⟨trivial, .inl h40⟩]
          exact Ev.pos h40 (Ev.step (f := fun _ => some (0, 11)) (fun k => rfl) (Ev.now _))
        refine Ev.neg h40 ?_
        by_cases h41 : c = 41
        · rw [if_pos ⟨trivial, .inr h41⟩]
          subst h41
          exact Ev.step (f := fun _ => some (0, 11)) (fun k => rfl) (Ev.now _)
        rw [if_neg (by omega), show (c == 41) = false by simpa using h41]
        exact j4f h40 h41
    cases q with
    | true =>
      have h34 : c ≠ 34 := fun e => hq ⟨rfl, e⟩
      refine Ev.pos rfl ?_
      rw [show (c == 34) = false by simpa using h34]
      exact j2f
    | false => exact Ev.neg (by decide) j2f
theorem word_ev {L : List Int} (ho : Oct L) (hL : L.length ≤ 1000000) (hne : L ≠ []) : Ev (fun k => token_word.f k (strOfNums L)) (res 0 (wordL L)) := by
  cases L with
  | nil => exact absurd rfl hne
  | cons c u =>
    have hb : bt (strOfNums (c :: u)) 0 = c := by rw [bt_str ho (by omega) (by simp)]; rfl
    unfold token_word.f
    rw [hb, wordL_cons]
    refine Ev.pos (by rw [size_str]; simp) ?_
    by_cases h34 : c = 34
    · rw [if_pos h34, res_bump]
      refine Ev.pos h34 ?_
      rw [show (c == 34) = true by simpa using h34]
      exact Ev.step (fun k => rfl) (word_loop ho hL true (c :: u).length 1 (by simp) (by simp))
    · rw [if_neg h34]
      refine Ev.neg h34 ?_
      rw [show (c == 34) = false by simpa using h34]
      exact Ev.step (fun k => rfl) (word_loop ho hL false (c :: u).length 0 (by simp) (by simp))
theorem trim_is {L : List Int} (ho : Oct L) : strings_TrimLeft.f (strOfNums L) (⟨#[32, 9]⟩ : ByteArray) = some (strOfNums (L.dropWhile blank)) := by
  unfold strings_TrimLeft.f
  rw [if_pos ⟨by decide, by decide⟩]
  congr 1
  have key : ∀ L : List Int, Oct L → Lib.trimLeftS (strOfNums L).data.toList (⟨#[32, 9]⟩ : ByteArray).data.toList = (strOfNums (L.dropWhile blank)).data.toList := by
    intro L
    induction L with
    | nil => intro _; rfl
    | cons c u ih =>
      intro ho
      have hc := ho c List.mem_cons_self
      have e : (strOfNums (c :: u)).data.toList = UInt8.ofNat c.toNat :: (strOfNums u).data.toList := by simp [strOfNums]
      have hcon : ((⟨#[32, 9]⟩ : ByteArray).data.toList.contains (UInt8.ofNat c.toNat)) = blank c := by
        unfold blank
        have h1 : ∀ n : Nat, n < 256 → (UInt8.ofNat c.toNat = UInt8.ofNat n ↔ c = n) := by
          intro n hn
          constructor
          · intro e
            have := congrArg UInt8.toNat e
            simp at this
            omega
          · intro e; subst e; rfl
        have a1 : UInt8.ofNat c.toNat = 32 ↔ c = 32 := h1 32 (by omega)
        have a2 : UInt8.ofNat c.toNat = 9 ↔ c = 9 := h1 9 (by omega)
        show ([32, 9] : List UInt8).contains _ = _
        by_cases x1 : c = 32
        · rw [a1.2 x1]; subst x1; rfl
        by_cases x2 : c = 9
        · rw [a2.2 x2]; subst x2; rfl
        rw [decide_eq_false (by omega)]
        have y1 : ¬ UInt8.ofNat c.toNat = 32 := fun h => x1 (a1.1 h)
        have y2 : ¬ UInt8.ofNat c.toNat = 9 := fun h => x2 (a2.1 h)
        simp [y1, y2]
      unfold Lib.trimLeftS at ih ⊢
      rw [e, List.dropWhile_cons, List.dropWhile_cons, hcon]
      split
      · exact ih (fun x hx => ho x (List.mem_cons_of_mem _ hx))
      · exact e.symm
  rw [key L ho]
def fin (acc : List ByteArray) : Sum Int (List (List Int)) → List ByteArray × Int
  | .inl e => ([], e)
  | .inr l => (acc ++ l.map strOfNums, 0)
theorem oct_dropWhile {L : List Int} (ho : Oct L) : Oct (L.dropWhile blank) := fun x hx => ho x (by
  obtain ⟨w, hw⟩ := dropWhile_suffix (p := blank) L
  rw [hw]; exact List.mem_append_right _ hx)
theorem str_empty {L : List Int} : (strOfNums L).toList = ([] : List UInt8) ↔ L = [] := by
  rw [ba_toList]
  simp [strOfNums]
theorem split_loop {L : List Int} {r : Sum Int (List (List Int))} (h : Spl L r) : Oct L → ∀ acc : List ByteArray, acc.length + L.length ≤ 1000000 → Ev (fun k => token_Split.l0 k (strOfNums L) acc) (fin acc r) := by
  induction h with
  | @nil L hd =>
    intro ho acc hl
    refine Ev.succ ?_
    simp only [token_Split.l0, trim_is ho, Option.bind_some]
    rw [hd]
    exact Ev.pos (str_empty.2 rfl) (Ev.step (f := fun _ => some (acc, 0)) (fun k => rfl) (Ev.ret (by simp [fin])))
  | @rem L u hd =>
    intro ho acc hl
    refine Ev.succ ?_
    simp only [token_Split.l0, trim_is ho, Option.bind_some]
    have ho' := oct_dropWhile ho
    rw [hd] at ho' ⊢
    refine Ev.neg (fun e => by cases str_empty.1 e) (Ev.pos (by rw [size_str]; simp) ?_)
    rw [bt_str ho' (by omega) (by simp), rd_cons_zero]
    exact Ev.step (f := fun _ => some (acc, 0)) (fun k => rfl) (Ev.ret (by simp [fin]))
  | @err L u c e hd h9 hw =>
    intro ho acc hl
    refine Ev.succ ?_
    simp only [token_Split.l0, trim_is ho, Option.bind_some]
    have ho' := oct_dropWhile ho
    have hlen := dropWhile_len blank L
    rw [hd] at ho' hlen ⊢
    refine Ev.neg (fun e => by cases str_empty.1 e) (Ev.pos (by rw [size_str]; simp) ?_)
    rw [bt_str ho' (by omega) (by simp), rd_cons_zero]
    refine Ev.step (fun k => rfl) (Ev.neg (by simpa using h9) ?_)
    have hwe := word_ev ho' (by omega) (by simp)
    rw [hw] at hwe
    refine Ev.bind hwe (Ev.neg ?_ (Ev.now _))
    have := wordL_err hw
    show ¬ e = 0
    omega
  | @more L u c n r hd h9 hw hs ih =>
    intro ho acc hl
    refine Ev.succ ?_
    simp only [token_Split.l0, trim_is ho, Option.bind_some]
    have ho' := oct_dropWhile ho
    have hlen := dropWhile_len blank L
    have hp := wordL_pos hw (dropWhile_head hd) h9
    rw [hd] at ho' hlen ⊢
    refine Ev.neg (fun e => by cases str_empty.1 e) (Ev.pos (by rw [size_str]; simp) ?_)
    rw [bt_str ho' (by omega) (by simp), rd_cons_zero]
    refine Ev.step (fun k => rfl) (Ev.neg (by simpa using h9) ?_)
    have hwe := word_ev ho' (by omega) (by simp)
    have hle := wordL_le hw
    rw [hw] at hwe
    have hr : res 0 (.inr n) = ((n : Int), 0) := by show ((0 : Int) + (n : Int), (0 : Int)) = _; congr 1; omega
    rw [hr] at hwe
    refine Ev.bind hwe (Ev.pos rfl (Ev.pos (by show (0 : Int) ≤ (n : Int); omega) (Ev.pos (by rw [size_str]; show (n : Int) ≤ _; omega) (Ev.pos (by omega) ?_))))
    show Ev (fun k => token_Split.l0 k ((strOfNums (c :: u)).extract ((n : Nat) : Int).toNat (strOfNums (c :: u)).size) (acc ++ [(strOfNums (c :: u)).extract 0 ((n : Nat) : Int).toNat])) _
    rw [extract_str, extract_str, size_str, List.take_length, Int.toNat_natCast, List.drop_zero]
    have := ih (ho'.drop n) (acc ++ [strOfNums ((c :: u).take n)]) (by rw [List.length_append, List.length_drop]; simp only [List.length_cons, List.length_nil] at hlen ⊢; omega)
    have e : fin acc (push ((c :: u).take n) r) = fin (acc ++ [strOfNums ((c :: u).take n)]) r := by
      cases r with
      | inl e => rfl
      | inr l => simp [fin, push]
    rw [e]
    exact this
theorem Split_ev {L : List Int} {r : Sum Int (List (List Int))} (h : Spl L r) (ho : Oct L) (hl : L.length ≤ 1000000) : Ev (fun k => token_Split.f k L) (fin [] r) := split_loop h ho [] (by simpa using hl)
end Go.Proofs.YtdnfmilnkoocdaaDoor.K

-- from PureTokenJoins
/- TokenJoins: for every input. -/
namespace Go.Proofs.YtdnfmilnkoocdaaDoor.Pure
set_option linter.unusedVariables false
set_option linter.unusedSimpArgs false
open Go.RowKit Go.Proofs.YtdnfmilnkoocdaaDoor.Q Go.Proofs.YtdnfmilnkoocdaaDoorW.PrintWords Go.Proofs.YtdnfmilnkoocdaaDoorW.PrintLast Go.Proofs.YtdnfmilnkoocdaaDoor.K

theorem awake25 : paronymlaw25_awake.f 60 = some true := by decide +kernel
theorem awake25_ev : Ev (fun k => paronymlaw25_awake.f k) true := Ev.of (fun k => paronymlaw25_awake.mono k) awake25

theorem rdOf_nat (X : List ByteArray) (i : Nat) (h : i < X.length) : rdOf ByteArray.empty X (i : Int) = X[i] := by
  unfold rdOf
  rw [Int.toNat_natCast, List.getD_eq_getElem?_getD, List.getElem?_eq_getElem h]
  rfl
theorem same_loop (X : List ByteArray) (hX : X.length ≤ 1000000) : ∀ (d i : Nat), X.length - i = d → i ≤ X.length → Ev (fun k => paronymref02_Same.l0 k X X (i : Int)) true := by
  intro d
  induction d with
  | zero =>
    intro i h1 h2
    refine Ev.step (fun k => rfl) (Ev.neg (by omega) (Ev.now _))
  | succ d ih =>
    intro i h1 h2
    refine Ev.step (fun k => rfl) (Ev.pos (by omega) (Ev.pos (by omega) (Ev.pos (by omega) (Ev.pos rfl ?_))))
    rw [w64 (by omega) (by omega)]
    exact ih (i + 1) (by omega) (by omega)
theorem same_ev (X : List ByteArray) (hX : X.length ≤ 1000000) : Ev (fun k => paronymref02_Same.f k X X) true := by
  unfold paronymref02_Same.f
  exact Ev.pos rfl (same_loop X hX _ 0 rfl (Nat.zero_le _))
theorem unended_loop {L : List Int} (ho : Oct L) (hL : L.length ≤ 1000000) : ∀ (d i : Nat), L.length - i = d → i ≤ L.length → 34 ∈ L.drop i → Ev (fun k => paronymlaw25_unended.l0 k (strOfNums L) (i : Int)) true := by
  intro d
  induction d with
  | zero =>
    intro i h1 h2 h
    rw [List.drop_of_length_le (by omega)] at h
    cases h
  | succ d ih =>
    intro i h1 h2 h
    refine Ev.step (fun k => rfl) (Ev.pos (by rw [size_str]; omega) (Ev.pos (by omega) ?_))
    rw [bt_str ho (by omega) (by omega)]
    rw [drop_cons L i (by omega)] at h
    by_cases h34 : rd L (i : Int) = 34
    · exact Ev.pos h34 (Ev.now _)
    · refine Ev.neg h34 ?_
      rw [w64 (by omega) (by omega)]
      exact ih (i + 1) (by omega) (by omega) ((List.mem_cons.1 h).resolve_left (fun e => h34 e.symm))
theorem unended_ev {L : List Int} (ho : Oct L) (hL : L.length ≤ 1000000) (h : 34 ∈ L) : Ev (fun k => paronymlaw25_unended.f k (strOfNums L)) true := unended_loop ho hL _ 0 rfl (Nat.zero_le _) (by simpa using h)
theorem bof_is {L : List Int} (ho : Oct L) (hL : L.length ≤ 1000000) : Q.bytesOf.f (strOfNums L) = some L := by
  unfold Q.bytesOf.f
  rw [if_pos (by rw [size_str]; omega)]
  congr 1
  exact bytesOf_str ho

theorem joins_l1 {x0 : List Int} (h0 : x0.length ≤ 1000) (x5 x7 : List ByteArray) (x8 : Int) (x9 : List ByteArray) (x10 x11 : Int) (h5 : x5.length ≤ 1000) (h7 : x7.length ≤ 1000)
    (ht : 59 ∉ x0 → (x8 = 0 → x10 = 0 ∧ x9 = x5 ++ x7 ∧ x11 ≤ (x0.length : Int)) ∧ (x8 ≠ 0 → x10 = x8 ∧ x9 = [])) : ∀ (d i : Nat), x0.length - i = d → i ≤ x0.length → 59 ∉ x0.take i → Ev (fun k => paronymlaw25_TokenJoins.l1 k x0 x5 x7 x8 x9 x10 x11 (i : Int)) true := by
  intro d
  induction d with
  | zero =>
    intro i h1 h2 h9
    obtain ⟨ta, tb⟩ := ht (by rw [List.take_of_length_le (by omega)] at h9; exact h9)
    refine Ev.step (fun k => rfl) (Ev.neg (by omega) ?_)
    by_cases e8 : x8 = 0
    · obtain ⟨e10, e9, e11⟩ := ta e8
      refine Ev.pos e8 (Ev.pos e10 (Ev.bind (Ev.now _) (Ev.pos (by simp; omega) (Ev.bind (Ev.now _) (Ev.pos (by simp; omega) ?_)))))
      rw [List.nil_append, e9]
      refine Ev.bind (same_ev _ (by rw [List.length_append]; omega)) (Ev.pos rfl (Ev.ret (decide_eq_true e11)))
    · obtain ⟨e10, e9⟩ := tb e8
      exact Ev.neg e8 (Ev.pos e10 (Ev.ret (by rw [e9]; rfl)))
  | succ d ih =>
    intro i h1 h2 h9
    refine Ev.step (fun k => rfl) (Ev.pos (by omega) (Ev.pos (by omega) ?_))
    by_cases e : rd x0 (i : Int) = 59
    · exact Ev.pos e (Ev.now _)
    · refine Ev.neg e ?_
      rw [w64 (by omega) (by omega)]
      refine ih (i + 1) (by omega) (by omega) ?_
      rw [take_snoc x0 i (by omega)]
      intro h
      rcases List.mem_append.1 h with h | h
      · exact h9 h
      · exact e (List.mem_singleton.1 h).symm
def sizes : List ByteArray → Nat
  | [] => 0
  | s :: l => s.size + sizes l
theorem joins_l0 {x0 : List Int} (x5 x7 : List ByteArray) (x8 : Int) (x9 : List ByteArray) (x10 : Int) (h5 : x5.length ≤ 1000) : ∀ (d i : Nat) (s : Nat), x5.length - i = d → i ≤ x5.length → s + sizes (x5.drop i) ≤ 1000000 →
    Ev (fun k => paronymlaw25_TokenJoins.l1 k x0 x5 x7 x8 x9 x10 (((s + sizes (x5.drop i) : Nat)) : Int) 0) true → Ev (fun k => paronymlaw25_TokenJoins.l0 k x0 x5 x7 x8 x9 x10 (s : Int) (i : Int)) true := by
  intro d
  induction d with
  | zero =>
    intro i s h1 h2 hs h
    refine Ev.step (fun k => rfl) (Ev.neg (by omega) ?_)
    rw [List.drop_of_length_le (by omega)] at h
    exact h
  | succ d ih =>
    intro i s h1 h2 hs h
    have hc : x5.drop i = x5[i] :: x5.drop (i + 1) := List.drop_eq_getElem_cons (by omega)
    rw [hc] at hs h
    unfold sizes at hs h
    refine Ev.step (fun k => rfl) (Ev.pos (by omega) (Ev.pos (by omega) ?_))
    rw [rdOf_nat x5 i (by omega), w64 (n := (s : Int) + (x5[i].size : Int)) (by omega) (by omega), w64 (n := (i : Int) + 1) (by omega) (by omega)]
    have := ih (i + 1) (s + x5[i].size) (by omega) (by omega) (by omega) (by rw [show s + x5[i].size + sizes (x5.drop (i + 1)) = s + (x5[i].size + sizes (x5.drop (i + 1))) by omega]; exact h)
    rw [show ((s + x5[i].size : Nat) : Int) = (s : Int) + (x5[i].size : Int) by omega] at this
    exact this
theorem sizes_str : ∀ l : List (List Int), sizes (l.map strOfNums) = (l.map List.length).sum
  | [] => rfl
  | w :: l => by rw [List.map_cons, sizes, sizes_str l, size_str, List.map_cons, List.sum_cons]
theorem Spl_few {L : List Int} {r : Sum Int (List (List Int))} (h : Spl L r) : ∀ l, r = .inr l → l.length ≤ L.length := by
  induction h with
  | nil _ => intro l h; injection h with h; subst h; simp
  | rem _ => intro l h; injection h with h; subst h; simp
  | err _ _ _ => intro l h; cases h
  | @more L u c n r hd h9 hw _ ih =>
    intro l h
    cases r with
    | inl e => cases h
    | inr l' =>
      injection h with h
      subst h
      have h1 := ih l' rfl
      have h2 := wordL_pos hw (dropWhile_head hd) h9
      have h4 := wordL_le hw
      have h3 := dropWhile_len K.blank L
      rw [hd] at h3
      rw [List.length_drop] at h1
      simp only [List.length_cons] at *
      omega

theorem TokenJoins : paronymlaw25_TokenJoins.Pure := by
  intro a b _ ha8 haw _ hb8 hbw
  have ho := oct_of_wf haw
  have hob := oct_of_wf hbw
  apply Ev.rounds
  unfold paronymlaw25_TokenJoins.f
  refine Ev.bind awake25_ev (Ev.pos rfl ?_)
  have yes : Ev (fun k => paronymlaw25_TokenJoins.j0 k a b true) true := Ev.step (f := fun k => (paronymlaw25_awake.f k).bind fun t102 => some t102) (fun k => rfl) (Ev.bind awake25_ev (Ev.now _))
  by_cases c1 : (a.length : Int) > 150
  · exact Ev.pos c1 yes
  refine Ev.neg c1 ?_
  by_cases c2 : (b.length : Int) > 150
  · rw [decide_eq_true c2]; exact yes
  rw [decide_eq_false c2]
  obtain ⟨ra, ha⟩ := Spl.total a.length a (Nat.le_refl _)
  obtain ⟨rb, hb⟩ := Spl.total b.length b (Nat.le_refl _)
  have hj : (strOfNums a ++ (⟨#[32]⟩ : ByteArray)) ++ strOfNums b = strOfNums (a ++ 32 :: b) := by
    rw [show (⟨#[32]⟩ : ByteArray) = strOfNums [32] from rfl, str_append, str_append]
    simp
  have hoj : Oct (a ++ 32 :: b) := Oct.append ho (fun x hx => by
    rcases List.mem_cons.1 hx with hx | hx
    · omega
    · exact hob x hx)
  have hlj : (a ++ 32 :: b).length ≤ 1000 := by simp; omega
  refine Ev.succ ?_
  simp only [paronymlaw25_TokenJoins.j0, Bool.false_eq_true, if_false]
  refine Ev.bind (Split_ev ha ho (by omega)) (Ev.bind (Split_ev hb hob (by omega)) (Ev.pos (by rw [size_str]; omega) (Ev.pos ?_ ?_)))
  · rw [show (⟨#[32]⟩ : ByteArray) = strOfNums [32] from rfl, str_append, size_str, size_str]
    simp
    omega
  rw [hj, bof_is hoj (by omega)]
  refine Ev.bind (Ev.now _) ?_
  cases ra with
  | inl e =>
    have he := ha.err_is e rfl
    by_cases hg : 34 ∉ a ∧ a.getLast? ≠ some 92
    · have hx := Spl.join_err (b := b) ha e rfl hg.1 hg.2
      refine Ev.bind (Split_ev hx hoj (by omega)) (Ev.neg (by show ¬ e = 0; omega) (Ev.neg (by show ¬ e = 0; omega) (Ev.now _)))
    · obtain ⟨rx, hx⟩ := Spl.total _ (a ++ 32 :: b) (Nat.le_refl _)
      refine Ev.bind (Split_ev hx hoj (by omega)) (Ev.neg (by show ¬ e = 0; omega) ?_)
      cases rx with
      | inl e' =>
        have he' := hx.err_is e' rfl
        exact Ev.neg (by show ¬ e' = 0; omega) (Ev.now _)
      | inr lx =>
        refine Ev.pos rfl ?_
        have hne : 1 ≤ a.length := by
          rcases Nat.lt_or_ge 0 a.length with h | h
          · exact h
          · have : a = [] := List.eq_nil_of_length_eq_zero (by omega)
            subst this
            exact absurd ⟨by simp, by simp⟩ hg
        refine Ev.pos (by omega) ?_
        rw [w64 (by omega) (by omega)]
        refine Ev.pos (by omega) (Ev.pos (by omega) ?_)
        by_cases h92 : rd a ((a.length : Int) - 1) = 92
        · exact Ev.pos h92 (Ev.now _)
        refine Ev.neg h92 ?_
        have h34 : 34 ∈ a := by
          by_cases h : 34 ∈ a
          · exact h
          · exfalso
            refine hg ⟨h, fun hl => h92 ?_⟩
            rw [List.getLast?_eq_getElem?] at hl
            rw [show (a.length : Int) - 1 = ((a.length - 1 : Nat) : Int) by omega, rd_nat a _ (by omega)]
            rw [List.getElem?_eq_getElem (by omega)] at hl
            exact Option.some.inj hl
        exact Ev.bind (unended_ev ho (by omega) h34) (Ev.now _)
  | inr l =>
    have hfew := Spl_few ha l rfl
    have hsum := ha.sum l rfl
    have main : ∀ rx, Spl (a ++ 32 :: b) rx → (59 ∉ a → rx = app l rb) → Ev (fun k => (token_Split.f k (a ++ 32 :: b)).bind fun bt114 => if (fin [] (.inr l)).2 = 0 then paronymlaw25_TokenJoins.l0 k a (fin [] (.inr l)).1 (fin [] rb).1 (fin [] rb).2 bt114.1 bt114.2 0 0 else if bt114.2 = 0 then (if (a.length : Int) > 0 then (if 0 ≤ (wrap64 ((a.length : Int) - 1)) then (if (wrap64 ((a.length : Int) - 1)) < (a.length : Int) then (if (rd a (wrap64 ((a.length : Int) - 1))) = 92 then (some true) else ((paronymlaw25_unended.f k (strOfNums a)).bind fun t119 => (some t119))) else (none)) else (none)) else ((paronymlaw25_unended.f k (strOfNums a)).bind fun t120 => (some t120))) else (some true)) true := by
      intro rx hx hap
      refine Ev.bind (Split_ev hx hoj (by omega)) (Ev.pos rfl ?_)
      show Ev (fun k => paronymlaw25_TokenJoins.l0 k a ([] ++ l.map strOfNums) (fin [] rb).1 (fin [] rb).2 (fin [] rx).1 (fin [] rx).2 ((0 : Nat) : Int) ((0 : Nat) : Int)) true
      rw [List.nil_append]
      refine joins_l0 _ _ _ _ _ (by simp; omega) _ 0 0 rfl (Nat.zero_le _) (by rw [List.drop_zero, sizes_str]; omega) ?_
      rw [List.drop_zero, sizes_str, Nat.zero_add]
      have hb7 : (fin [] rb).1.length ≤ 1000 := by
        cases rb with
        | inl e => simp [fin]
        | inr m => have := Spl_few hb m rfl; simp [fin]; omega
      refine joins_l1 (by omega) _ _ _ _ _ _ (by simp; omega) hb7 (fun h59 => ?_) _ 0 rfl (Nat.zero_le _) (by simp)
      have e := hap h59
      subst e
      cases rb with
      | inl e =>
        have he := hb.err_is e rfl
        exact ⟨fun h => absurd (show e = 0 from h) (by omega), fun _ => ⟨rfl, rfl⟩⟩
      | inr m => exact ⟨fun _ => ⟨rfl, by simp [fin, app], by omega⟩, fun h => absurd rfl h⟩
    by_cases h59 : 59 ∈ a
    · obtain ⟨rx, hx⟩ := Spl.total _ (a ++ 32 :: b) (Nat.le_refl _)
      exact main rx hx (fun h => absurd h59 h)
    · exact main _ (Spl.join ha hb l rfl h59) (fun _ => rfl)
end Go.Proofs.YtdnfmilnkoocdaaDoor.Pure

-- from LawTokenJoins
-- Made by hp.py, a program of this session, with the kit's printer. Not trusted: Lean checks it.
namespace Go.Proofs.YtdnfmilnkoocdaaDoor.tokenJoins
open Go.ChangeShapes Go.WideShapes Go.ChangeAt Go.RowKit
open Go.ChangeMaps (open_string shut_string)
set_option linter.unusedVariables false
theorem own : ownKnob Tryd.prog.godebug = none := by kernel_rfl
theorem laidOut : laidOutB Tryd.prog = true := by kernel_rfl
def IsRow (k : IntKind) (w : World) (a : Option Addr) (len cap : Nat) (zs : List Int) : Prop :=
  (a = none ∧ len = 0 ∧ cap = 0 ∧ zs = []) ∨
  ∃ x, a = some x ∧ len ≤ cap ∧ cap ≤ maxLen ∧ zs.length = cap ∧ (∀ i, i < zs.length → w.cell? (x.add i) = some (.int k (zs.getD i 0))) ∧ ∀ n ∈ zs, (Lit.int k n).wf = true
set_option maxRecDepth 100000 in
theorem lifted (os : Os) (started : os.Started) (H : Type) (enc : TypeId × Value → H) :
    ReturnsInHanded {} Tryd.checked os 3 .any (fun w args => (Rows.tokenJoinsSpec.pre enc Tryd.prog Tryd.f3 Rows.tokenJoinsRow.domain false w args ∧ laidMetH Tryd.prog Rows.tokenJoinsRow.laid w) ∧ sizedMet enc Tryd.prog Tryd.f3 (OpenSpec.ofChange Rows.tokenJoinsSpec) false w args) (Rows.tokenJoinsSpec.post enc Tryd.prog Tryd.f3 false true false false) := by
  refine returnsInHanded_of_change_and (C := Tryd.checked) (X := fun w _ => laidMetH Tryd.prog Rows.tokenJoinsRow.laid w) (fun _ _ _ hh h => h.of_heap hh) own started (by kernel_rfl) Tryd.func3
    (ChangeSpec.witness_shaped (enc := enc) (C := Tryd.checked) (os := os) (X := fun w _ => laidMetH Tryd.prog Rows.tokenJoinsRow.laid w) false (World.laidAll Tryd.prog os Rows.tokenJoinsRow.laid) #[.slice none 0 0, .slice none 0 0] 8 (World.laidAll_os _ _ _)
      (World.shaped_of_ZipB (by kernel_rfl) (by kernel_rfl)) (by kernel_rfl) (by kernel_rfl) (by kernel_rfl)
      (by rw [MakeChecks.laidMetH_plain _ _ _ (by kernel_rfl)]; exact laidMet_laidAll _ (by kernel_rfl) (by kernel_rfl))) ?_
  intro W base args ds gs before hval0 hW hcnd hsz0 hL _
  have hsz : (DataW.weightsEach Tryd.prog (Tryd.f3.params.toList ++ Rows.tokenJoinsSpec.plain.varTypes Tryd.prog) (ds ++ gs)).all (· ≤ reachBytes) = true := hsz0
  have hval : ∀ (j : Nat) t v, Tryd.f3.params[j]? = some t → args[j]? = some v → Value.okWide Tryd.prog W .any base t v := hval0
  have hW' := hW
  obtain ⟨p, q, hA0, hV, rfl, hfz, hnd⟩ := hW
  have hA : DataW.TrodAll enc Tryd.prog W 0 (fun _ => true) true Tryd.f3.params.toList args.toList ds p := hA0
  rw [Tryd.params3] at hA hval hsz
  obtain ⟨v0, vs0, d0, ds0, p0, q0, hargs, rfl, rfl, h0, r0⟩ := trodAll_cons hA
  obtain ⟨v1, vs1, d1, ds1, p1, q1, rfl, rfl, rfl, h1, r1⟩ := trodAll_cons r0
  obtain ⟨rfl, rfl, rfl⟩ := trodAll_nil r1
  obtain rfl : args = #[v0, v1] := by cases args; simp_all
  obtain ⟨rfl, rfl⟩ := trodVars_none hV
  obtain ⟨a0, len0, cap0, rfl⟩ := okWide_slice Tryd.underlying22 (hval 0 22 v0 rfl rfl)
  have k0 := h0
  have lt0 : ∀ x ∈ p0, x.block < W.heap.size := by obtain ⟨m, hm⟩ := k0; exact DataW.trod_lt m _ _ _ hm
  obtain ⟨z0, w0⟩ : ∃ zs, IsRow .u8 W a0 len0 cap0 zs := by
    obtain ⟨fuel, hf⟩ := h0
    rcases open_ints Tryd.underlying22 Tryd.underlying5 (by kernel_rfl) hf with ⟨hcs, _⟩ | ⟨x, l, c, zs, hcs, _, hl, hm, hz, _, hcell, hwz⟩
    · simp [Value.cells] at hcs
      obtain ⟨rfl, rfl, rfl⟩ := hcs
      exact ⟨[], .inl ⟨rfl, rfl, rfl, rfl⟩⟩
    · simp [Value.cells] at hcs
      obtain ⟨rfl, rfl, rfl⟩ := hcs
      exact ⟨zs, .inr ⟨_, rfl, hl, hm, by simpa using hz, hcell, hwz⟩⟩
  have y0 : len0 * 1 ≤ 140737488351232 := Go.Proofs.YtdnfmilnkoocdaaDoorW.PrintWords.sized_ints hsz (j := 0) (t := 22) rfl rfl Tryd.underlying22 Tryd.underlying5 (by kernel_rfl) (by kernel_rfl) h0
  obtain ⟨a1, len1, cap1, rfl⟩ := okWide_slice Tryd.underlying22 (hval 1 22 v1 rfl rfl)
  have k1 := h1
  have lt1 : ∀ x ∈ p1, x.block < W.heap.size := by obtain ⟨m, hm⟩ := k1; exact DataW.trod_lt m _ _ _ hm
  obtain ⟨z1, w1⟩ : ∃ zs, IsRow .u8 W a1 len1 cap1 zs := by
    obtain ⟨fuel, hf⟩ := h1
    rcases open_ints Tryd.underlying22 Tryd.underlying5 (by kernel_rfl) hf with ⟨hcs, _⟩ | ⟨x, l, c, zs, hcs, _, hl, hm, hz, _, hcell, hwz⟩
    · simp [Value.cells] at hcs
      obtain ⟨rfl, rfl, rfl⟩ := hcs
      exact ⟨[], .inl ⟨rfl, rfl, rfl, rfl⟩⟩
    · simp [Value.cells] at hcs
      obtain ⟨rfl, rfl, rfl⟩ := hcs
      exact ⟨zs, .inr ⟨_, rfl, hl, hm, by simpa using hz, hcell, hwz⟩⟩
  have y1 : len1 * 1 ≤ 140737488351232 := Go.Proofs.YtdnfmilnkoocdaaDoorW.PrintWords.sized_ints hsz (j := 1) (t := 22) rfl rfl Tryd.underlying22 Tryd.underlying5 (by kernel_rfl) (by kernel_rfl) h1
  clear hA0 hval0 hsz0 hsz
  refine (Q.paronymlaw25_TokenJoins.walk Pure.TokenJoins a0 len0 cap0 z0 a1 len1 cap1 z1 W w0 y0 w1 y1).mono fun e W' ⟨he, bel⟩ => ?_
  subst he
  exact ⟨_, rfl, _, _, _, [], _, [], hW', trodAll_mk1 (shut_bool Tryd.underlying4 _), (trodAll_cons_mk (Below.trod laidOut (by kernel_rfl) (of_decide_eq_true (by kernel_rfl)) k0 bel lt0) (trodAll_cons_mk (Below.trod laidOut (by kernel_rfl) (of_decide_eq_true (by kernel_rfl)) k1 bel lt1) trodAll_mk0)), rfl, bel.frame _, fun h => by cases h⟩
theorem over : Rows.tokenJoinsRow.holds Tryd.pinned (OpenSpec.ofChange Rows.tokenJoinsSpec) :=
  OpenClaim.holds_of_wide 3 Tryd.f3 rfl rfl rfl rfl rfl rfl rfl ⟨rfl, rfl, rfl, rfl, rfl⟩ rfl rfl rfl rfl rfl (by kernel_rfl) Tryd.func3 (by kernel_rfl)
    (of_decide_eq_true (by kernel_rfl)) (by unfold Func.isWrapper; first | (rw [if_pos (by decide +kernel)]; kernel_rfl) | (rw [if_neg (by decide +kernel)]; exact ⟨rfl, rfl⟩))
    (fun os started H enc _ => lifted os started H enc)
theorem card : Rows.TokenJoinsCardSaid :=
  Claim7.holds_tied_plain_at .later [] [.data, .pinned] true (true, "c8db116255ca7d8a9a063ea87309dbd31f94f59187fe20dbf876020a6bd752c6") false over (fun _ h => by cases h) (by kernel_rfl) (fun _ h => by cases h) tokenJoins_row_tie rfl ⟨rfl, rfl⟩ (by kernel_rfl) rfl
    (fun f fn hf hfn => by
      obtain rfl : f = 3 := Option.some.inj ((show Tryd.prog.funcNamed "paronym/paronymlaw25.TokenJoins" = some 3 by kernel_rfl).symm.trans hf) |>.symm
      obtain rfl : fn = Tryd.f3 := (Option.some.inj (Tryd.func3.symm.trans hfn)).symm
      exact ⟨by kernel_rfl, fun j t ht => by
        rw [Tryd.params3] at ht
        have hm : t ∈ ([22] : List Nat) := by have := Array.mem_of_getElem? ht; simp at this ⊢; omega
        have hall : (([22] : List Nat).all fun u => !Tryd.prog.wantsStandIn u) = true := by kernel_rfl
        exact (show Tryd.prog.wantsStandIn t = false by simpa using List.all_eq_true.1 hall t hm)⟩)
    (by kernel_rfl)
#print axioms card
end Go.Proofs.YtdnfmilnkoocdaaDoor.tokenJoins
namespace Go.Proofs.YtdnfmilnkoocdaaDoor
/-- The row, under a short name, for the claim. -/
theorem tokenJoins_holds : Rows.TokenJoinsCardSaid := tokenJoins.card
end Go.Proofs.YtdnfmilnkoocdaaDoor
