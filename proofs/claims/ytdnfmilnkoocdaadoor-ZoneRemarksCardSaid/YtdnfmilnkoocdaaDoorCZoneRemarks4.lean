/- Part 4 of 4 of the proof of ZoneRemarks: remarks between a zone's lines change no label For every input; no condition. -/
import Derived.Test.YtdnfmilnkoocdaaDoorCZoneRemarks3
import Derived.Test.YtdnfmilnkoocdaaDoorCZoneRemarks2
import Derived.Test.YtdnfmilnkoocdaaDoorCZoneRemarks1
import Derived.Test.YtdnfmilnkoocdaaDoorRows
import Derived.Test.YtdnfmilnkoocdaaDoorCards
import Derived.Test.YtdnfmilnkoocdaaDoorTie
import Derived.LaidMore
import Derived.Lay
import Derived.SevenTiedAt
import Derived.Stop.Joined
import Derived.WalkKit
import Derived.ProofKit
import Derived.OpenShut
import Derived.ShutString
import Derived.ChangeOld
import Derived.Below
import Derived.SizedLaws
import Derived.Test.YtdnfmilnkoocdaaDoorWSized

-- from Pzof
/- owner.Of of any line: it tells something, and what of that the zones want. -/
namespace Go.Proofs.YtdnfmilnkoocdaaDoor.K
set_option linter.unusedVariables false
set_option linter.unusedSimpArgs false
open Go.RowKit Go.Proofs.YtdnfmilnkoocdaaDoor.Q Go.Proofs.YtdnfmilnkoocdaaDoorW.PrintWords Go.Proofs.YtdnfmilnkoocdaaDoorW.PrintLast

/-- A text whose escapes are whole. -/
inductive EscOK : List Int → Prop
  | nil : EscOK []
  | esc {u : List Int} : escL (92 :: u) ≠ 0 → EscOK ((92 :: u).drop (escL (92 :: u))) → EscOK (92 :: u)
  | one {c : Int} {u : List Int} : c ≠ 92 → EscOK u → EscOK (c :: u)
theorem scan_drop (q : Bool) : ∀ (k : Nat) (t : List Int) (m : Nat), k ≤ t.length → scan q k t = .inr m → ∃ m', m = m' + k ∧ scan q 0 (t.drop k) = .inr m'
  | 0, t, m, _, h => ⟨m, rfl, by simpa using h⟩
  | k + 1, [], m, hk, h => by simp at hk
  | k + 1, c :: t, m, hk, h => by
    rw [scan] at h
    obtain ⟨m1, h1, rfl⟩ := bump_inr h
    obtain ⟨m2, rfl, h2⟩ := scan_drop q k t m1 (by simpa using hk) h1
    exact ⟨m2, by omega, by simpa using h2⟩
theorem scan_ok_f : ∀ (n : Nat) (t : List Int), t.length ≤ n → scan false 0 t = .inr t.length → EscOK t
  | _, [], _, _ => .nil
  | 0, c :: u, hn, _ => by simp at hn
  | n + 1, c :: u, hn, h => by
    rw [scan_0] at h
    by_cases c1 : c = 92
    · subst c1
      rw [if_pos rfl] at h
      by_cases c2 : escL (92 :: u) = 0
      · rw [if_pos c2] at h; cases h
      · rw [if_neg c2] at h
        have hz := escL_nz c2
        obtain ⟨m, h1, h2⟩ := bump_inr h
        obtain ⟨m', h3, h4⟩ := scan_drop false _ u m (by rw [List.length_cons] at hz; omega) h1
        have e : (92 :: u).drop (escL (92 :: u)) = u.drop (escL (92 :: u) - 1) := by
          conv => lhs; rw [show escL (92 :: u) = (escL (92 :: u) - 1) + 1 by omega, List.drop_succ_cons]
        refine .esc c2 ?_
        rw [e]
        refine scan_ok_f n _ (by rw [List.length_drop]; simp at hn; omega) ?_
        rw [h4, List.length_drop]
        congr 1
        rw [List.length_cons] at h2
        omega
    · rw [if_neg c1, if_neg (by simp)] at h
      by_cases c2 : c = 34
      · rw [if_pos c2] at h; cases h
      · rw [if_neg c2] at h
        by_cases c3 : false = false ∧ (c = 40 ∨ c = 41)
        · rw [if_pos c3] at h; cases h
        · rw [if_neg c3] at h
          by_cases c4 : false = false ∧ sep c = true
          · rw [if_pos c4] at h; injection h with h; simp at h
          · rw [if_neg c4] at h
            obtain ⟨m, h1, h2⟩ := bump_inr h
            refine .one c1 (scan_ok_f n u (by simpa using hn) ?_)
            rw [h1]; congr 1; rw [List.length_cons] at h2; omega
theorem escL_pre {t r : List Int} (h : escL (t ++ r) ≠ 0) (hl : escL (t ++ r) ≤ t.length) : escL t = escL (t ++ r) := by
  match t with
  | [] => exact absurd (Nat.le_zero.1 hl) h
  | [a] =>
    have h1 : ([a] : List Int).length = 1 := rfl
    have := (escL_nz h).2
    omega
  | [a, b] =>
    have h2 : escL ([a, b] ++ r) = 0 ∨ escL ([a, b] ++ r) = 2 ∨ escL ([a, b] ++ r) = 4 := by
      match r with
      | [] => simp only [List.append_nil, escL_2]; split <;> simp
      | [c] => simp only [List.cons_append, List.nil_append, escL_3]; split <;> simp
      | c :: d :: r => simp only [List.cons_append, List.nil_append, escL_4]; split <;> (try split) <;> simp
    rcases h2 with h2 | h2 | h2
    · exact absurd h2 h
    · rw [h2]
      have hb : dig b = false := by
        cases hb : dig b with
        | false => rfl
        | true =>
          exfalso
          match r with
          | [] => simp [escL_2, hb] at h2
          | [c] => simp [escL_3, hb] at h2
          | c :: d :: r => simp only [List.cons_append, List.nil_append, escL_4, hb, if_true] at h2; split at h2 <;> omega
      rw [escL_2, hb]; rfl
    · rw [h2] at hl; simp at hl
  | [a, b, c] =>
    match r with
    | [] => rw [List.append_nil]
    | d :: r =>
      have e : escL ([a, b, c] ++ d :: r) = (if dig b = true then (if dig c = true ∧ dig d = true ∧ (b - 48) * 100 + (c - 48) * 10 + (d - 48) ≤ 255 then 4 else 0) else 2) := rfl
      rw [e] at h hl ⊢
      rw [escL_3]
      by_cases hb : dig b = true
      · rw [if_pos hb] at h hl ⊢
        split at h
        · rename_i hc; rw [if_pos hc] at hl; simp at hl
        · exact absurd rfl h
      · rw [if_neg hb, if_neg hb]
  | a :: b :: c :: d :: t => rfl
theorem scan_ok_t : ∀ (n : Nat) (t : List Int), t.length ≤ n → scan true 0 (t ++ [34]) = .inr (t.length + 1) → EscOK t
  | _, [], _, _ => .nil
  | 0, c :: u, hn, _ => by simp at hn
  | n + 1, c :: u, hn, h => by
    rw [List.cons_append, scan_0] at h
    by_cases c1 : c = 92
    · subst c1
      rw [if_pos rfl] at h
      by_cases c2 : escL (92 :: (u ++ [34])) = 0
      · rw [if_pos c2] at h; cases h
      · rw [if_neg c2] at h
        have hz := escL_nz c2
        obtain ⟨m, h1, h2⟩ := bump_inr h
        obtain ⟨m', h3, h4⟩ := scan_drop true _ (u ++ [34]) m (by rw [List.length_cons] at hz; omega) h1
        rw [List.length_cons] at h2
        by_cases c3 : escL (92 :: (u ++ [34])) ≤ (92 :: u).length
        · have e1 : escL (92 :: u) = escL (92 :: (u ++ [34])) := escL_pre (t := 92 :: u) (r := [34]) c2 c3
          have c3' : escL (92 :: (u ++ [34])) ≤ u.length + 1 := by simpa using c3
          have e : (92 :: u).drop (escL (92 :: u)) = u.drop (escL (92 :: (u ++ [34])) - 1) := by
            rw [e1]
            conv => lhs; rw [show escL (92 :: (u ++ [34])) = (escL (92 :: (u ++ [34])) - 1) + 1 by omega, List.drop_succ_cons]
          refine .esc (by rw [e1]; exact c2) ?_
          rw [e]
          rw [List.drop_append_of_le_length (by omega)] at h4
          refine scan_ok_t n _ (by rw [List.length_drop]; simp at hn; omega) ?_
          rw [h4, List.length_drop]
          congr 1
          omega
        · exfalso
          have hz1 := hz.1
          simp only [List.length_cons, List.length_append, List.length_nil] at hz1 c3
          rw [List.drop_of_length_le (by simp; omega)] at h4
          cases h4
    · rw [if_neg c1] at h
      by_cases c2 : c = 34
      · subst c2
        rw [if_pos ⟨rfl, rfl⟩] at h
        cases hu : u ++ [34] with
        | nil => simp at hu
        | cons d r =>
          rw [hu] at h
          simp only at h
          split at h
          · injection h with h; simp at h
          · cases h
      · rw [if_neg (fun hh => c2 hh.2), if_neg c2, if_neg (by simp), if_neg (by simp)] at h
        obtain ⟨m, h1, h2⟩ := bump_inr h
        refine .one c1 (scan_ok_t n u (by simpa using hn) ?_)
        rw [h1]; congr 1; rw [List.length_cons] at h2; omega
theorem esc_byte0 {k : Nat} {s : ByteArray} {b : Bool} {v n : Int} (h : token_escape.j0 k s b = some (v, n)) : 0 ≤ v ∧ v ≤ 255 := by
  cases k with
  | zero => cases h
  | succ k =>
    unfold token_escape.j0 at h
    repeat' split at h
    all_goals first
      | (simp only [Option.some.injEq, Prod.mk.injEq] at h; omega)
      | cases h
theorem esc_byte {k : Nat} {s : ByteArray} {v n : Int} (h : token_escape.f k s = some (v, n)) : 0 ≤ v ∧ v ≤ 255 := by
  unfold token_escape.f at h
  have hb := bt_range s 1
  have key : ∀ {b : Bool}, token_escape.j0 k s b = some (v, n) → 0 ≤ v ∧ v ≤ 255 := esc_byte0
  split at h
  · simp only [Option.some.injEq, Prod.mk.injEq] at h; omega
  split at h
  · obtain ⟨t, ht, h⟩ := Option.bind_eq_some_iff.1 h
    split at h
    · split at h
      · exact key h
      split at h
      · obtain ⟨t2, ht2, h⟩ := Option.bind_eq_some_iff.1 h
        split at h
        · split at h
          · obtain ⟨t3, ht3, h⟩ := Option.bind_eq_some_iff.1 h
            exact key h
          · cases h
        · exact key h
      · cases h
    · simp only [Option.some.injEq, Prod.mk.injEq] at h; omega
  · cases h
theorem plain_tot0 {t : List Int} (h : EscOK t) : Oct t → ∀ acc : List Int, Oct acc → acc.length + t.length ≤ 100000 → ∃ r, Ev (fun k => token_Plain.l0 k (strOfNums t) acc) (r, 0) ∧ Oct r ∧ r.length ≤ acc.length + t.length := by
  induction h with
  | nil => exact fun _ acc ha hl => ⟨acc, Ev.step (fun k => rfl) (Ev.neg (by rw [size_str]; simp) (Ev.now _)), ha, by simp⟩
  | @esc u h1 h2 ih =>
    intro ho acc ha hl
    obtain ⟨v, hv⟩ := escape_ev ho
    obtain ⟨kv, hkv⟩ := hv.rounds
    have hvb := esc_byte hkv
    have hz := escL_nz h1
    have hlc : (92 :: u).length = u.length + 1 := rfl
    obtain ⟨r, hr, hro, hrl⟩ := ih (ho.drop _) (acc ++ [v]) (Oct.append ha (fun x hx => by rw [List.mem_singleton.1 hx]; exact hvb)) (by rw [List.length_append, List.length_drop]; simp only [List.length_cons, List.length_nil] at hl ⊢; omega)
    refine ⟨r, ?_, hro, by rw [List.length_append, List.length_drop] at hrl; simp only [List.length_cons, List.length_nil] at hrl ⊢; omega⟩
    refine Ev.succ ?_
    simp only [token_Plain.l0]
    have hs : ((strOfNums (92 :: u)).size : Int) = (u.length : Int) + 1 := by rw [size_str]; simp
    have hb : bt (strOfNums (92 :: u)) 0 = 92 := by rw [bt_str ho (by omega) (by rw [List.length_cons]; omega)]; rfl
    rw [hs]
    refine Ev.pos (by omega) (Ev.pos (by omega) (Ev.pos hb (Ev.bind hv (Ev.pos (by omega) (Ev.pos (by show (0 : Int) ≤ (escL (92 :: u) : Int); omega) (Ev.pos (by show (escL (92 :: u) : Int) ≤ _; omega) ?_))))))
    show Ev (fun k => token_Plain.l0 k ((strOfNums (92 :: u)).extract (escL (92 :: u) : Int).toNat (strOfNums (92 :: u)).size) (acc ++ [v])) _
    rw [Int.toNat_natCast, extract_str, size_str, List.take_length]
    exact hr
  | @one c u h1 h2 ih =>
    intro ho acc ha hl
    have hc := ho c List.mem_cons_self
    obtain ⟨r, hr, hro, hrl⟩ := ih (fun x hx => ho x (List.mem_cons_of_mem _ hx)) (acc ++ [c]) (Oct.append ha (fun x hx => by rw [List.mem_singleton.1 hx]; exact hc)) (by rw [List.length_append]; simp only [List.length_cons, List.length_nil] at hl ⊢; omega)
    refine ⟨r, ?_, hro, by rw [List.length_append] at hrl; simp only [List.length_cons, List.length_nil] at hrl ⊢; omega⟩
    refine Ev.succ ?_
    simp only [token_Plain.l0]
    have hs : ((strOfNums (c :: u)).size : Int) = (u.length : Int) + 1 := by rw [size_str]; simp
    have hb : bt (strOfNums (c :: u)) 0 = c := by rw [bt_str ho (by omega) (by rw [List.length_cons]; omega)]; rfl
    rw [hs, hb]
    refine Ev.pos (by omega) (Ev.pos (by omega) (Ev.neg h1 (Ev.pos (by simp only [List.length_cons] at hl; omega) (Ev.pos (by omega) ?_))))
    show Ev (fun k => token_Plain.l0 k ((strOfNums (c :: u)).extract 1 (strOfNums (c :: u)).size) (acc ++ [c])) _
    rw [extract_str, size_str, List.take_length]
    exact hr
/-- Where a text is its own one word. -/
theorem one_word {P : List Int} (h : Spl P (.inr [P])) : ∃ c u, P = c :: u ∧ wordL P = .inr P.length := by
  generalize hr : (Sum.inr [P] : Sum Int (List (List Int))) = r at h
  cases h with
  | nil h1 => cases hr
  | rem h1 => cases hr
  | err h1 h2 h3 => cases hr
  | @more _ u c n r' h1 h2 h3 h4 =>
    cases r' with
    | inl e => cases hr
    | inr l =>
      injection hr with hr
      injection hr with hr1 hr2
      obtain ⟨w, hw⟩ := dropWhile_suffix (p := blank) P
      rw [h1] at hw
      have hl := congrArg List.length hw
      have hl2 := congrArg List.length hr1
      rw [List.length_append] at hl
      rw [List.length_take] at hl2
      have hw0 : w = [] := List.length_eq_zero_iff.1 (by omega)
      rw [hw0, List.nil_append] at hw
      have hle := wordL_le h3
      refine ⟨c, u, hw, ?_⟩
      rw [hw, h3]
      congr 1
      rw [hw] at hl2
      omega
theorem plain_tot {P : List Int} (ho : Oct P) (hl : P.length ≤ 50000) : ∃ r e, Ev (fun k => token_Plain.f k (strOfNums P)) (r, e) ∧ Oct r ∧ r.length ≤ P.length ∧ (e = 0 → P ≠ []) := by
  obtain ⟨s, hs⟩ := Spl.total P.length P (Nat.le_refl _)
  have hsp := Split_ev hs ho (by omega)
  cases s with
  | inl e =>
    have he := hs.err_is e rfl
    refine ⟨[], e, ?_, (fun x hx => by cases hx), by simp, fun h => by omega⟩
    unfold token_Plain.f
    rw [bof_is ho (by omega)]
    exact Ev.bind (Ev.now _) (Ev.bind hsp (Ev.neg (by show ¬ e = 0; omega) (Ev.now _)))
  | inr l =>
    by_cases c1 : l.length = 1
    · obtain ⟨w, rfl⟩ : ∃ w, l = [w] := List.length_eq_one_iff.1 c1
      by_cases c2 : (strOfNums w).toList = (strOfNums P).toList
      · have hsum := hs.sum [w] rfl
        have how : Oct w ∧ w = P := by
          have hlen := congrArg List.length c2
          have e1 : ∀ z : List Int, (strOfNums z).toList.length = z.length := fun z => by rw [ba_toList, Array.length_toList]; exact size_str z
          rw [e1, e1] at hlen
          -- the word is a piece of the line
          have hsub : ∀ x ∈ w, x ∈ P := by
            generalize hr : (Sum.inr [w] : Sum Int (List (List Int))) = r at hs
            cases hs with
            | nil h1 => cases hr
            | rem h1 => cases hr
            | err h1 h2 h3 => cases hr
            | @more _ u c n r' h1 h2 h3 h4 =>
              cases r' with
              | inl e => cases hr
              | inr l =>
                injection hr with hr
                injection hr with hr1 hr2
                intro x hx
                rw [hr1] at hx
                obtain ⟨v, hv⟩ := dropWhile_suffix (p := blank) P
                rw [hv, h1]
                exact List.mem_append_right _ (List.mem_of_mem_take hx)
          have how : Oct w := fun x hx => ho x (hsub x hx)
          exact ⟨how, str_inj how ho (toList_inj c2)⟩
        obtain ⟨how, rfl⟩ := how
        obtain ⟨c, u, hP, hw⟩ := one_word hs
        have hpos : 0 < w.length := by rw [hP]; simp
        have hsz : ((strOfNums w).size : Int) = (w.length : Int) := by rw [size_str]
        have hbt : bt (strOfNums w) 0 = c := by rw [bt_str ho (by omega) (by omega), hP]; rfl
        rw [hP, wordL_cons] at hw
        by_cases c3 : c = 34
        · rw [if_pos c3] at hw
          obtain ⟨m, h1, h2⟩ := bump_inr hw
          rw [List.length_cons] at h2
          have hm : m = u.length := by omega
          subst hm
          -- the closing quote
          have hlast : ∃ t, u = t ++ [34] := by
            have key : ∀ (n : Nat) (u : List Int), u.length ≤ n → scan true 0 u = .inr u.length → ∃ t, u = t ++ [34] := by
              intro n
              induction n with
              | zero =>
                intro u hu h
                obtain rfl := List.length_eq_zero_iff.1 (Nat.le_zero.1 hu)
                cases h
              | succ n ih =>
                intro u hu h
                cases u with
                | nil => cases h
                | cons d v =>
                  rw [scan_0] at h
                  by_cases g1 : d = 92
                  · subst g1
                    rw [if_pos rfl] at h
                    by_cases g2 : escL (92 :: v) = 0
                    · rw [if_pos g2] at h; cases h
                    · rw [if_neg g2] at h
                      have hz := escL_nz g2
                      rw [List.length_cons] at hz
                      obtain ⟨m, k1, k2⟩ := bump_inr h
                      obtain ⟨m', k3, k4⟩ := scan_drop true _ v m (by omega) k1
                      rw [List.length_cons] at k2
                      obtain ⟨t, ht⟩ := ih (v.drop (escL (92 :: v) - 1)) (by rw [List.length_drop]; simp at hu; omega) (by rw [k4, List.length_drop]; congr 1; omega)
                      refine ⟨92 :: (v.take (escL (92 :: v) - 1) ++ t), ?_⟩
                      conv => lhs; rw [← List.take_append_drop (escL (92 :: v) - 1) v, ht]
                      simp
                  · rw [if_neg g1] at h
                    by_cases g2 : d = 34
                    · subst g2
                      rw [if_pos ⟨rfl, rfl⟩] at h
                      cases v with
                      | nil => exact ⟨[], rfl⟩
                      | cons x v =>
                        simp only at h
                        split at h
                        · injection h with h; simp at h
                        · cases h
                    · rw [if_neg (fun hh => g2 hh.2), if_neg g2, if_neg (by simp), if_neg (by simp)] at h
                      obtain ⟨m, k1, k2⟩ := bump_inr h
                      rw [List.length_cons] at k2
                      obtain ⟨t, ht⟩ := ih v (by simpa using hu) (by rw [k1]; congr 1; omega)
                      exact ⟨d :: t, by rw [ht]; rfl⟩
            exact key _ u (Nat.le_refl _) h1
          obtain ⟨t, ht⟩ := hlast
          have hok : EscOK t := by
            refine scan_ok_t _ t (Nat.le_refl _) ?_
            rw [← ht, h1, ht]; simp
          have hot : Oct t := fun x hx => ho x (by rw [hP, ht]; simp [hx])
          have hwl : w.length = t.length + 2 := by rw [hP, ht]; simp
          obtain ⟨r, hr, hro, hrl⟩ := plain_tot0 hok hot [] (fun x hx => by cases hx) (by simp; omega)
          refine ⟨r, 0, ?_, hro, by simp at hrl; omega, fun _ => by rw [hP]; simp⟩
          unfold token_Plain.f
          rw [bof_is ho (by omega), hbt]
          refine Ev.bind (Ev.now _) (Ev.bind hsp (Ev.pos rfl (Ev.pos rfl (Ev.pos (by show (0 : Int) < 1; omega) (Ev.pos rfl (Ev.pos (by omega) (Ev.pos c3 ?_)))))))
          rw [w64 (by omega) (by omega)]
          refine Ev.pos (by omega) (Ev.pos (by omega) ?_)
          have hex : (strOfNums w).extract 1 (((strOfNums w).size : Int) - 1).toNat = strOfNums t := by
            rw [extract_str]
            congr 1
            have : (((strOfNums w).size : Int) - 1).toNat = t.length + 1 := by omega
            rw [this, hP, ht, List.take_succ_cons, List.drop_succ_cons, List.drop_zero, List.take_append_of_le_length (Nat.le_refl _), List.take_length]
          rw [hex]
          exact Ev.step (fun k => rfl) hr
        · rw [if_neg c3, ← hP] at hw
          have hok := scan_ok_f _ w (Nat.le_refl _) hw
          obtain ⟨r, hr, hro, hrl⟩ := plain_tot0 hok ho [] (fun x hx => by cases hx) (by simp; omega)
          refine ⟨r, 0, ?_, hro, by simpa using hrl, fun _ => by rw [hP]; simp⟩
          unfold token_Plain.f
          rw [bof_is ho (by omega), hbt]
          refine Ev.bind (Ev.now _) (Ev.bind hsp (Ev.pos rfl (Ev.pos rfl (Ev.pos (by show (0 : Int) < 1; omega) (Ev.pos rfl (Ev.pos (by omega) (Ev.neg c3 ?_)))))))
          exact Ev.step (fun k => rfl) hr
      · refine ⟨[], 12, ?_, (fun x hx => by cases hx), by simp, fun h => by cases h⟩
        unfold token_Plain.f
        rw [bof_is ho (by omega)]
        exact Ev.bind (Ev.now _) (Ev.bind hsp (Ev.pos rfl (Ev.pos rfl (Ev.pos (by show (0 : Int) < 1; omega) (Ev.neg c2 (Ev.now _))))))
    · refine ⟨[], 12, ?_, (fun x hx => by cases hx), by simp, fun h => by cases h⟩
      unfold token_Plain.f
      rw [bof_is ho (by omega)]
      exact Ev.bind (Ev.now _) (Ev.bind hsp (Ev.pos rfl (Ev.neg (by show ¬ ((([] ++ l.map strOfNums : List ByteArray).length : Int) = 1); simp; omega) (Ev.now _))))
theorem cut_tot0 {P : List Int} (ho : Oct P) (hP : P.length ≤ 50000) : ∀ (d i fr : Nat) (acc : List (List Int)), P.length + 2 - i ≤ d → fr ≤ i → fr ≤ P.length → i ≤ P.length + 1 → acc.length ≤ i → (∀ l ∈ acc, Oct l ∧ l.length ≤ P.length) →
    ∃ r : List (List Int), Ev (fun k => owner_cut.l0 k (strOfNums P) (acc.map strOfNums) (fr : Int) (i : Int)) (r.map strOfNums) ∧ r ≠ [] ∧ r.length ≤ P.length + 2 ∧ ∀ l ∈ r, Oct l ∧ l.length ≤ P.length := by
  have hz := size_str P
  intro d
  induction d with
  | zero => intro i fr acc h1 h2 h3 h4 h5 h6; omega
  | succ d ih =>
    intro i fr acc h1 h2 h3 h4 h5 h6
    by_cases c1 : i < P.length
    · have hb : bt (strOfNums P) (i : Int) = P[i] := by rw [bt_str ho (by omega) (by omega), rd_nat P i c1]
      by_cases c2 : P[i] = 92
      · obtain ⟨r, hr, h7⟩ := ih (i + 2) fr acc (by omega) (by omega) h3 (by omega) (by omega) h6
        refine ⟨r, Ev.step (fun k => rfl) (Ev.pos (by omega) (Ev.pos (by omega) (Ev.pos (by rw [hb]; exact c2) ?_))), h7⟩
        rw [w64 (n := (i : Int) + 1) (by omega) (by omega), w64 (by omega) (by omega), show (i : Int) + 1 + 1 = ((i + 2 : Nat) : Int) by omega]
        exact hr
      · by_cases c3 : P[i] = 46
        · have hpc : Oct ((P.take i).drop fr) ∧ ((P.take i).drop fr).length ≤ P.length := ⟨(ho.take i).drop fr, by rw [List.length_drop, List.length_take]; omega⟩
          obtain ⟨r, hr, h7⟩ := ih (i + 1) (i + 1) (acc ++ [(P.take i).drop fr]) (by omega) (Nat.le_refl _) (by omega) (by omega) (by rw [List.length_append]; simp; omega) (fun l hl => by
            rcases List.mem_append.1 hl with hl | hl
            · exact h6 l hl
            · rw [List.mem_singleton.1 hl]; exact hpc)
          refine ⟨r, Ev.step (fun k => rfl) (Ev.pos (by omega) (Ev.pos (by omega) (Ev.neg (by rw [hb]; exact c2) (Ev.pos (by rw [hb]; exact c3) (Ev.pos (by omega) (Ev.pos (by omega) (Ev.pos (by omega) (Ev.pos (by rw [List.length_map]; omega) ?_)))))))), h7⟩
          rw [w64 (n := (i : Int) + 1) (by omega) (by omega), show (i : Int) + 1 = ((i + 1 : Nat) : Int) by omega, Int.toNat_natCast, Int.toNat_natCast, extract_str]
          rw [List.map_append] at hr
          exact hr
        · obtain ⟨r, hr, h7⟩ := ih (i + 1) fr acc (by omega) (by omega) h3 (by omega) (by omega) h6
          refine ⟨r, Ev.step (fun k => rfl) (Ev.pos (by omega) (Ev.pos (by omega) (Ev.neg (by rw [hb]; exact c2) (Ev.neg (by rw [hb]; exact c3) ?_)))), h7⟩
          rw [w64 (n := (i : Int) + 1) (by omega) (by omega), show (i : Int) + 1 = ((i + 1 : Nat) : Int) by omega]
          exact hr
    · refine ⟨acc ++ [P.drop fr], ?_, by simp, by rw [List.length_append]; simp; omega, fun l hl => ?_⟩
      · refine Ev.step (fun k => rfl) (Ev.neg (by omega) (Ev.pos (by omega) (Ev.pos (by omega) (Ev.pos (by rw [List.length_map]; omega) (Ev.ret ?_)))))
        rw [Int.toNat_natCast, extract_str, hz, List.take_length, List.map_append]; rfl
      · rcases List.mem_append.1 hl with hl | hl
        · exact h6 l hl
        · rw [List.mem_singleton.1 hl]; exact ⟨ho.drop fr, by rw [List.length_drop]; omega⟩
theorem cut_tot {P : List Int} (ho : Oct P) (hP : P.length ≤ 50000) : ∃ r : List (List Int), Ev (fun k => owner_cut.f k (strOfNums P)) (r.map strOfNums) ∧ r ≠ [] ∧ r.length ≤ P.length + 2 ∧ ∀ l ∈ r, Oct l ∧ l.length ≤ P.length :=
  cut_tot0 ho hP _ 0 0 [] (Nat.le_refl _) (Nat.le_refl _) (Nat.zero_le _) (Nat.zero_le _) (Nat.zero_le _) (fun l hl => by cases hl)
theorem right_loop2 {ls : List (List Int)} (hn : ls.length ≤ 100000) (hl : ∀ l ∈ ls, l.length ≤ 100000) : ∀ (d i : Nat) (s : Int), ls.length - i = d → i ≤ ls.length → 0 ≤ s → s ≤ 1 + 64 * (i : Int) → Ev (fun k => owner_right.l0 k s ls (ls.length : Int) (i : Int)) (rl s (ls.drop i)) := by
  intro d
  induction d with
  | zero =>
    intro i s h1 h2 h3 h4
    rw [List.drop_of_length_le (by omega)]
    exact Ev.step (fun k => rfl) (Ev.neg (by omega) (Ev.now _))
  | succ d ih =>
    intro i s h1 h2 h3 h4
    have hi : i < ls.length := by omega
    have hx := hl _ (rdL2_mem ls i hi)
    rw [dropL2 ls i hi, rl]
    refine Ev.step (fun k => rfl) (Ev.pos (by omega) (Ev.pos (by omega) (Ev.pos (by omega) ?_)))
    generalize rd_L2 ls (i : Int) = l at *
    by_cases c1 : l.length < 1
    · rw [if_pos c1]; exact Ev.pos (by omega) (Ev.now _)
    rw [if_neg c1]
    refine Ev.neg (by omega) ?_
    by_cases c2 : l.length > 63
    · rw [if_pos c2]; exact Ev.pos (by omega) (Ev.now _)
    rw [if_neg c2]
    refine Ev.neg (by omega) ?_
    rw [w64 (n := (l.length : Int) + 1) (by omega) (by omega), w64 (n := s + ((l.length : Int) + 1)) (by omega) (by omega), w64 (n := (i : Int) + 1) (by omega) (by omega)]
    exact ih (i + 1) _ (by omega) (by omega) (by omega) (by omega)
theorem lab_tot0 {X : List (List Int)} (hX : X.length ≤ 60000) (hx : ∀ l ∈ X, Oct l ∧ l.length ≤ 50000) (ab : Bool) : ∀ (d i : Nat) (acc : List (List Int)), X.length - i = d → i ≤ X.length → acc.length = i → (∀ l ∈ acc, Oct l ∧ l.length ≤ 50000) →
    ∃ ls b e, Ev (fun k => owner_Labels.l0 k ab acc (X.map strOfNums) (X.length : Int) (i : Int)) (ls, b, e) ∧ (∀ l ∈ ls, Oct l ∧ 1 ≤ l.length ∧ l.length ≤ 63) ∧ (e = 0 ∨ e = 62) := by
  intro d
  induction d with
  | zero =>
    intro i acc h1 h2 h3 h4
    have hr := right_loop2 (ls := acc) (by omega) (fun l hl => by have := h4 l hl; omega) _ 0 1 rfl (Nat.zero_le _) (by omega) (by omega)
    rw [List.drop_zero] at hr
    cases hb : rl 1 acc with
    | true =>
      refine ⟨acc, ab, 0, ?_, fun l hl => ⟨(h4 l hl).1, (rl_each acc 1 hb).1 l hl⟩, .inl rfl⟩
      refine Ev.step (fun k => rfl) (Ev.neg (by omega) (Ev.bind (hb ▸ hr) (Ev.pos rfl (Ev.now _))))
    | false =>
      refine ⟨[], false, 62, ?_, (fun l hl => by cases hl), .inr rfl⟩
      refine Ev.step (fun k => rfl) (Ev.neg (by omega) (Ev.bind (hb ▸ hr) (Ev.neg (by decide) (Ev.now _))))
  | succ d ih =>
    intro i acc h1 h2 h3 h4
    have hi : i < X.length := by omega
    have hxi := hx X[i] (List.getElem_mem hi)
    obtain ⟨r, e, hr, hro, hrl, _⟩ := plain_tot hxi.1 hxi.2
    obtain ⟨ls, b, e2, hls, h5⟩ := ih (i + 1) (acc ++ [r]) (by omega) (by omega) (by rw [List.length_append]; simp; omega) (fun l hl => by
      rcases List.mem_append.1 hl with hl | hl
      · exact h4 l hl
      · rw [List.mem_singleton.1 hl]; exact ⟨hro, by omega⟩)
    refine ⟨ls, b, e2, ?_, h5⟩
    have hrd : rdOf ByteArray.empty (X.map strOfNums) (i : Int) = strOfNums X[i] := by
      unfold rdOf
      rw [Int.toNat_natCast, List.getD_eq_getElem?_getD, List.getElem?_map, List.getElem?_eq_getElem hi]; rfl
    refine Ev.step (fun k => rfl) (Ev.pos (by omega) (Ev.pos (by omega) (Ev.pos (by rw [List.length_map]; omega) (Ev.bind (a := (r, e)) (by rw [hrd]; exact hr) (Ev.pos (by omega) ?_)))))
    rw [w64 (n := (i : Int) + 1) (by omega) (by omega), show (i : Int) + 1 = ((i + 1 : Nat) : Int) by omega]
    exact hls
theorem labels_tot {P : List Int} (ho : Oct P) (hP : P.length ≤ 50000) : ∃ ls b e, Ev (fun k => owner_Labels.f k (strOfNums P)) (ls, b, e) ∧ (∀ l ∈ ls, Oct l ∧ 1 ≤ l.length ∧ l.length ≤ 63) := by
  have hz := size_str P
  obtain ⟨r, e, hr, hro, hrl, hre⟩ := plain_tot ho hP
  by_cases c1 : e = 0
  · have hne := hre c1
    have hpos : 0 < P.length := List.length_pos_iff.2 hne
    by_cases c2 : bt (strOfNums P) 0 = 34
    · refine ⟨[], false, 62, ?_, (fun l hl => by cases hl)⟩
      unfold owner_Labels.f
      exact Ev.bind hr (Ev.pos c1 (Ev.pos (by omega) (Ev.pos c2 (Ev.now _))))
    · by_cases c3 : (strOfNums P).toList = ([46] : List UInt8)
      · refine ⟨[], true, 0, ?_, (fun l hl => by cases hl)⟩
        unfold owner_Labels.f
        exact Ev.bind hr (Ev.pos c1 (Ev.pos (by omega) (Ev.neg c2 (Ev.pos c3 (Ev.now _)))))
      · obtain ⟨X, hX, hXne, hXl, hXo⟩ := cut_tot ho hP
        have hXp : 0 < X.length := List.length_pos_iff.2 hXne
        have hw : wrap64 (((X.map strOfNums).length : Int) - 1) = ((X.length - 1 : Nat) : Int) := by rw [List.length_map, w64 (by omega) (by omega)]; omega
        have hln : (X.map strOfNums).length = X.length := List.length_map ..
        have fin_ : ∀ (Y : List (List Int)) (ab : Bool), Y.length ≤ 60000 → (∀ l ∈ Y, Oct l ∧ l.length ≤ 50000) → ∃ ls b e, Ev (fun k => owner_Labels.j0 k (Y.map strOfNums) ab) (ls, b, e) ∧ (∀ l ∈ ls, Oct l ∧ 1 ≤ l.length ∧ l.length ≤ 63) := fun Y ab hY hYo => by
          obtain ⟨ls, b, e, h1, h2, h3⟩ := lab_tot0 hY hYo ab _ 0 [] rfl (Nat.zero_le _) rfl (fun l hl => by cases hl)
          refine ⟨ls, b, e, Ev.succ ?_, h2⟩
          simp only [owner_Labels.j0, List.length_map]
          exact h1
        have hXo2 : ∀ l ∈ X, Oct l ∧ l.length ≤ 50000 := fun l hl => ⟨(hXo l hl).1, by have := (hXo l hl).2; omega⟩
        by_cases c4 : (rdOf ByteArray.empty (X.map strOfNums) (wrap64 (((X.map strOfNums).length : Int) - 1))).toList = ([] : List UInt8)
        · obtain ⟨ls, b, e2, h1, h2⟩ := fin_ (X.take (X.length - 1)) ((rdOf ByteArray.empty (X.map strOfNums) (wrap64 (((X.map strOfNums).length : Int) - 1))).toList == ([] : List UInt8)) (by rw [List.length_take]; omega) (fun l hl => hXo2 l (List.mem_of_mem_take hl))
          refine ⟨ls, b, e2, ?_, h2⟩
          unfold owner_Labels.f
          refine Ev.bind hr (Ev.pos c1 (Ev.pos (by omega) (Ev.neg c2 (Ev.neg c3 (Ev.bind hX (Ev.pos (by rw [hw]; omega) (Ev.pos (by rw [hw, hln]; omega) (Ev.pos c4 (Ev.pos (by rw [hw, hln]; omega) ?_)))))))))
          rw [← List.map_take] at *
          have e3 : (wrap64 (((X.map strOfNums).length : Int) - 1)).toNat = X.length - 1 := by rw [hw, Int.toNat_natCast]
          rw [e3]
          exact h1
        · obtain ⟨ls, b, e2, h1, h2⟩ := fin_ X ((rdOf ByteArray.empty (X.map strOfNums) (wrap64 (((X.map strOfNums).length : Int) - 1))).toList == ([] : List UInt8)) (by omega) hXo2
          refine ⟨ls, b, e2, ?_, h2⟩
          unfold owner_Labels.f
          refine Ev.bind hr (Ev.pos c1 (Ev.pos (by omega) (Ev.neg c2 (Ev.neg c3 (Ev.bind hX (Ev.pos (by rw [hw]; omega) (Ev.pos (by rw [hw, hln]; omega) (Ev.neg c4 ?_))))))))
          exact h1
  · refine ⟨[], false, e, ?_, (fun l hl => by cases hl)⟩
    unfold owner_Labels.f
    exact Ev.bind hr (Ev.neg c1 (Ev.now _))
end Go.Proofs.YtdnfmilnkoocdaaDoor.K

-- from Qf28
-- Made by hp.py, a program of this session, with the kit's printer. Not trusted: Lean checks it.
namespace Go.Proofs.YtdnfmilnkoocdaaDoor.Q
open Go.RowKit Go.Proofs.YtdnfmilnkoocdaaDoorW.PrintWords Go.Proofs.YtdnfmilnkoocdaaDoorW.PrintLast Go.Proofs.YtdnfmilnkoocdaaDoorW.PrintMore
attribute [local go_sem] max2_int min2_int max_two min_two max_three min_three max_four min_four   -- for this text's walks alone
set_option linter.unusedVariables false
set_option linter.unusedSimpArgs false

/-! ### paronymref11_Lower: function 28 -/
def paronymref11_Lower.l0 : Nat → ByteArray → List Int → Int → Option (ByteArray)
  | 0, _, _, _ => none
  | k + 1, x0, x3, x4 => if x4 < (x0.size : Int) then (if 0 ≤ x4 then (if (bt x0 x4) ≥ 65 then (if (bt x0 x4) ≤ 90 then (if x3.length < 140737488355328 then (paronymref11_Lower.l0 k x0 (x3 ++ [((bt x0 x4) + 32) % 256]) (wrap64 (x4 + 1))) else (none)) else (if x3.length < 140737488355328 then (paronymref11_Lower.l0 k x0 (x3 ++ [bt x0 x4]) (wrap64 (x4 + 1))) else (none))) else (if x3.length < 140737488355328 then (paronymref11_Lower.l0 k x0 (x3 ++ [bt x0 x4]) (wrap64 (x4 + 1))) else (none))) else (none)) else (some (strOfNums x3))
def paronymref11_Lower.f (k : Nat) (a0 : ByteArray) : Option (ByteArray) := paronymref11_Lower.l0 k a0 ([] : List Int) 0
theorem paronymref11_Lower.mono_l : ∀ k, (∀ y0 y1 y2, LeO (paronymref11_Lower.l0 k y0 y1 y2) (paronymref11_Lower.l0 (k + 1) y0 y1 y2))
  | 0 => fun _ _ _ r h => by simp [paronymref11_Lower.l0] at h
  | k + 1 => by
    have ih0 := paronymref11_Lower.mono_l k
    · intro y0 y1 y2
      unfold paronymref11_Lower.l0
      repeat' first
      | (with_reducible exact ih0 _ _ _)
      | (with_reducible exact LeO.refl _)
      | (with_reducible exact LeO.none _)
      | (with_reducible refine LeO.ite ?_ ?_)
      | (with_reducible refine LeO.bind ?_ (fun _ => ?_))
      | exact ih0 _ _ _
      | exact LeO.none _
      | refine LeO.ite ?_ ?_
      | refine LeO.bind ?_ (fun _ => ?_)
theorem paronymref11_Lower.mono : ∀ a0 k, LeO (paronymref11_Lower.f k a0) (paronymref11_Lower.f (k + 1) a0) := by
  intro a0 k
  have ih0 := paronymref11_Lower.mono_l k
  unfold paronymref11_Lower.f
  repeat' first
      | (with_reducible exact ih0 _ _ _)
      | (with_reducible exact LeO.refl _)
      | (with_reducible exact LeO.none _)
      | (with_reducible refine LeO.ite ?_ ?_)
      | (with_reducible refine LeO.bind ?_ (fun _ => ?_))
      | exact ih0 _ _ _
      | exact LeO.none _
      | refine LeO.ite ?_ ?_
      | refine LeO.bind ?_ (fun _ => ?_)
set_option maxHeartbeats 8000000 in
set_option maxRecDepth 100000 in
theorem paronymref11_Lower.calls (k : Nat) (a0 : ByteArray) (r : ByteArray) (w : World) (h : paronymref11_Lower.f k a0 = some r) :
    Calls Tryd.prog 28 #[.string a0] w fun e w' => e = .returned (.string r) ∧ Below w.heap.size w w' := by
  have HB := Aside0.mk (Below.refl w.heap.size w)
  have H : (paronymref11_Lower.l0 k a0 ([] : List Int) 0) = some r := h
  clear h
  have H' := Aside0.mk H
  clear H
  go_enter Tryd.func28, Tryd.ntmps28
  go_wp2
  go_loopg [3, 4] k (fun kq v3 v4 w' => ∃ (x3_1 : List Int) (x4_1 : Int), v4 = .int .i64 x4_1 ∧ Aside0 (paronymref11_Lower.l0 kq a0 x3_1 x4_1 = some r) ∧ Aside0 (kq ≤ k) ∧ Aside0 (Kd.R (Kd.int .u8) 5 w' w.heap.size (fun _ => True) v3 x3_1) ∧ Aside0 (Below w.heap.size w w'))
  case atStart => exact ⟨(([] : List Int)), (0), (by first | rfl | (simp; done) | (simp [*]; done)), H', ⟨Nat.le_refl _⟩, ⟨by first | exact Kd.R_nil _ _ _ _ _ | exact Kd.N_nil _ _ _ _ _ | exact Kd.V_nil _ _ _ _ _ | exact Kd.Q_nil _ _ _ _ _ | exact Kd.S_nil _ _ _ _ _⟩, ⟨by repeat (first | (with_reducible first | exact HB.out | apply below_alloc | apply pw_below_drewN | apply below_drew1) | exact HB.out)⟩⟩
  case round =>
    clear H'
    obtain ⟨x3_1, x4_1, rfl, HA, HK1, HO_3, HB⟩ := hrel
    cases gk with
    | zero => exact absurd HA.out (by simp [paronymref11_Lower.l0])
    | succ k1 =>
      have H := HA.out
      clear HA
      simp only [paronymref11_Lower.l0] at H
      by_cases c2 : x4_1 < (a0.size : Int)
      · rw [if_pos c2] at H
        have c2b0 : decide (x4_1 < (a0.size : Int)) = true := decide_eq_true c2
        clear c2
        by_cases c3 : 0 ≤ x4_1
        · rw [if_pos c3] at H
          have c3b0 : decide (0 ≤ x4_1) = true := decide_eq_true c3
          clear c3
          by_cases c5 : (bt a0 x4_1) ≥ 65
          · rw [if_pos c5] at H
            have c5b0 : decide (65 ≤ (bt a0 x4_1)) = true := decide_eq_true c5
            clear c5
            by_cases c6 : (bt a0 x4_1) ≤ 90
            · rw [if_pos c6] at H
              have c6b0 : decide ((bt a0 x4_1) ≤ 90) = true := decide_eq_true c6
              clear c6
              by_cases c7 : x3_1.length < 140737488355328
              · rw [if_pos c7] at H
                have LMc7 := Aside0.mk c7
                clear c7
                obtain ⟨y101, hy101⟩ : ∃ y_ : List Int, y_ = (x3_1 ++ [((bt a0 x4_1) + 32) % 256]) := ⟨_, rfl⟩
                replace H : (paronymref11_Lower.l0 k1 a0 y101 (wrap64 (x4_1 + 1))) = some r := by first | (rw [hy101]; with_reducible exact H) | (have H2_ := (Option.bind_some _ _).symm.trans H; rw [hy101]; with_reducible exact H2_) | (have H2_ := (Option.bind_some _ _).symm.trans H; with_reducible exact H2_) | with_reducible exact H | (rw [hy101]; exact H) | exact H
                have Ny101 := Aside0.mk hy101
                clear hy101
                have H' := Aside0.mk H
                clear H
                have p4 : 0 ≤ (x4_1 : Int) := of_decide_eq_true (by first | (with_reducible assumption) | assumption)
                have q4 : x4_1 < (a0.size : Int) := of_decide_eq_true (by first | (with_reducible assumption) | assumption)
                have hx4 := bt_at a0 x4_1
                replace p4 := eq_true p4
                replace q4 := eq_true q4
                go_wp2_with (first | ((with_reducible refine gate_builtin (b := .append) (xs := #[.tmp 23, .tmp 25]) rfl ?_); at_builtin; refine Kd.R_append (Kd.int .u8) (w0 := w) w.heap.size rfl (.tmp 23) (.tmp 25) 22 5 (.int .u8 0) 1 rfl Tryd.underlying22 info5 rfl (by decide) (by omega) u3 x3_1 (((bt a0 x4_1) + 32) % 256) [.int .u8 (((bt a0 x4_1) + 32) % 256)] (fun _ => True) (fun _ => False) rfl rfl ?aP (fun _ hk => hk.elim) ?aF ?aO ?aB ?aS ?aL ?_; (case aP => exact rfl); (case aB => exact (by repeat (first | (with_reducible first | exact HB.out | apply below_alloc | apply pw_below_drewN | apply below_drew1) | exact HB.out))); (case aF => exact (fun _ _ => trivial)); (case aO => exact (by (with_reducible repeat (first | apply Kd.R_alloc | apply Kd.R_drewN | apply Kd.R_drew)); exact HO_3.out)); (case aS => exact (below_size (by repeat (first | (with_reducible first | exact HB.out | apply below_alloc | apply pw_below_drewN | apply below_drew1) | exact HB.out)))); (case aL => have := LMc7.out; omega); intro v102 w8 ho hb hg hat; rw [← Ny101.out] at ho; have n0_ := Aside0.mk (hb); have n1_ := Aside0.mk (ho); clear HB; clear HO_3; have HB := n0_; have HO103 := n1_; clear n0_ n1_; clear ho hb hg hat))
                go_roundg k1
                case measure => have := HK1.out; omega
                case rel => exact ⟨(y101), (wrap64 (x4_1 + 1)), (by first | rfl | (simp; done) | (simp [*]; done)), H', ⟨by have := HK1.out; omega⟩, ⟨by (with_reducible repeat (first | apply Kd.R_alloc | apply Kd.R_drewN | apply Kd.R_drew)); exact HO103.out⟩, ⟨by repeat (first | (with_reducible first | exact HB.out | apply below_alloc | apply pw_below_drewN | apply below_drew1) | exact HB.out)⟩⟩
              · rw [if_neg c7] at H
                exact absurd H (by simp)
            · rw [if_neg c6] at H
              have c6b0 : decide ((bt a0 x4_1) ≤ 90) = false := decide_eq_false c6
              clear c6
              by_cases c9 : x3_1.length < 140737488355328
              · rw [if_pos c9] at H
                have LMc9 := Aside0.mk c9
                clear c9
                obtain ⟨y104, hy104⟩ : ∃ y_ : List Int, y_ = (x3_1 ++ [bt a0 x4_1]) := ⟨_, rfl⟩
                replace H : (paronymref11_Lower.l0 k1 a0 y104 (wrap64 (x4_1 + 1))) = some r := by first | (rw [hy104]; with_reducible exact H) | (have H2_ := (Option.bind_some _ _).symm.trans H; rw [hy104]; with_reducible exact H2_) | (have H2_ := (Option.bind_some _ _).symm.trans H; with_reducible exact H2_) | with_reducible exact H | (rw [hy104]; exact H) | exact H
                have Ny104 := Aside0.mk hy104
                clear hy104
                have H' := Aside0.mk H
                clear H
                have p4 : 0 ≤ (x4_1 : Int) := of_decide_eq_true (by first | (with_reducible assumption) | assumption)
                have q4 : x4_1 < (a0.size : Int) := of_decide_eq_true (by first | (with_reducible assumption) | assumption)
                have hx4 := bt_at a0 x4_1
                replace p4 := eq_true p4
                replace q4 := eq_true q4
                go_wp2_with (first | ((with_reducible refine gate_builtin (b := .append) (xs := #[.tmp 23, .tmp 25]) rfl ?_); at_builtin; refine Kd.R_append (Kd.int .u8) (w0 := w) w.heap.size rfl (.tmp 23) (.tmp 25) 22 5 (.int .u8 0) 1 rfl Tryd.underlying22 info5 rfl (by decide) (by omega) u3 x3_1 (bt a0 x4_1) [.int .u8 (bt a0 x4_1)] (fun _ => True) (fun _ => False) rfl rfl ?aP (fun _ hk => hk.elim) ?aF ?aO ?aB ?aS ?aL ?_; (case aP => exact rfl); (case aB => exact (by repeat (first | (with_reducible first | exact HB.out | apply below_alloc | apply pw_below_drewN | apply below_drew1) | exact HB.out))); (case aF => exact (fun _ _ => trivial)); (case aO => exact (by (with_reducible repeat (first | apply Kd.R_alloc | apply Kd.R_drewN | apply Kd.R_drew)); exact HO_3.out)); (case aS => exact (below_size (by repeat (first | (with_reducible first | exact HB.out | apply below_alloc | apply pw_below_drewN | apply below_drew1) | exact HB.out)))); (case aL => have := LMc9.out; omega); intro v105 w10 ho hb hg hat; rw [← Ny104.out] at ho; have n0_ := Aside0.mk (hb); have n1_ := Aside0.mk (ho); clear HB; clear HO_3; have HB := n0_; have HO106 := n1_; clear n0_ n1_; clear ho hb hg hat))
                go_roundg k1
                case measure => have := HK1.out; omega
                case rel => exact ⟨(y104), (wrap64 (x4_1 + 1)), (by first | rfl | (simp; done) | (simp [*]; done)), H', ⟨by have := HK1.out; omega⟩, ⟨by (with_reducible repeat (first | apply Kd.R_alloc | apply Kd.R_drewN | apply Kd.R_drew)); exact HO106.out⟩, ⟨by repeat (first | (with_reducible first | exact HB.out | apply below_alloc | apply pw_below_drewN | apply below_drew1) | exact HB.out)⟩⟩
              · rw [if_neg c9] at H
                exact absurd H (by simp)
          · rw [if_neg c5] at H
            have c5b0 : decide (65 ≤ (bt a0 x4_1)) = false := decide_eq_false c5
            clear c5
            by_cases c11 : x3_1.length < 140737488355328
            · rw [if_pos c11] at H
              have LMc11 := Aside0.mk c11
              clear c11
              obtain ⟨y107, hy107⟩ : ∃ y_ : List Int, y_ = (x3_1 ++ [bt a0 x4_1]) := ⟨_, rfl⟩
              replace H : (paronymref11_Lower.l0 k1 a0 y107 (wrap64 (x4_1 + 1))) = some r := by first | (rw [hy107]; with_reducible exact H) | (have H2_ := (Option.bind_some _ _).symm.trans H; rw [hy107]; with_reducible exact H2_) | (have H2_ := (Option.bind_some _ _).symm.trans H; with_reducible exact H2_) | with_reducible exact H | (rw [hy107]; exact H) | exact H
              have Ny107 := Aside0.mk hy107
              clear hy107
              have H' := Aside0.mk H
              clear H
              have p4 : 0 ≤ (x4_1 : Int) := of_decide_eq_true (by first | (with_reducible assumption) | assumption)
              have q4 : x4_1 < (a0.size : Int) := of_decide_eq_true (by first | (with_reducible assumption) | assumption)
              have hx4 := bt_at a0 x4_1
              replace p4 := eq_true p4
              replace q4 := eq_true q4
              go_wp2_with (first | ((with_reducible refine gate_builtin (b := .append) (xs := #[.tmp 23, .tmp 25]) rfl ?_); at_builtin; refine Kd.R_append (Kd.int .u8) (w0 := w) w.heap.size rfl (.tmp 23) (.tmp 25) 22 5 (.int .u8 0) 1 rfl Tryd.underlying22 info5 rfl (by decide) (by omega) u3 x3_1 (bt a0 x4_1) [.int .u8 (bt a0 x4_1)] (fun _ => True) (fun _ => False) rfl rfl ?aP (fun _ hk => hk.elim) ?aF ?aO ?aB ?aS ?aL ?_; (case aP => exact rfl); (case aB => exact (by repeat (first | (with_reducible first | exact HB.out | apply below_alloc | apply pw_below_drewN | apply below_drew1) | exact HB.out))); (case aF => exact (fun _ _ => trivial)); (case aO => exact (by (with_reducible repeat (first | apply Kd.R_alloc | apply Kd.R_drewN | apply Kd.R_drew)); exact HO_3.out)); (case aS => exact (below_size (by repeat (first | (with_reducible first | exact HB.out | apply below_alloc | apply pw_below_drewN | apply below_drew1) | exact HB.out)))); (case aL => have := LMc11.out; omega); intro v108 w12 ho hb hg hat; rw [← Ny107.out] at ho; have n0_ := Aside0.mk (hb); have n1_ := Aside0.mk (ho); clear HB; clear HO_3; have HB := n0_; have HO109 := n1_; clear n0_ n1_; clear ho hb hg hat))
              go_roundg k1
              case measure => have := HK1.out; omega
              case rel => exact ⟨(y107), (wrap64 (x4_1 + 1)), (by first | rfl | (simp; done) | (simp [*]; done)), H', ⟨by have := HK1.out; omega⟩, ⟨by (with_reducible repeat (first | apply Kd.R_alloc | apply Kd.R_drewN | apply Kd.R_drew)); exact HO109.out⟩, ⟨by repeat (first | (with_reducible first | exact HB.out | apply below_alloc | apply pw_below_drewN | apply below_drew1) | exact HB.out)⟩⟩
            · rw [if_neg c11] at H
              exact absurd H (by simp)
        · rw [if_neg c3] at H
          exact absurd H (by simp)
      · rw [if_neg c2] at H
        have c2b0 : decide (x4_1 < (a0.size : Int)) = false := decide_eq_false c2
        clear c2
        obtain rfl := Option.some.inj H
        have hcv13 := own_string (P := Tryd.prog) Tryd.underlying22 Tryd.underlying5 Tryd.underlying9 (Kd.own_of_R HO_3.out)
        have hcv14 := fun (nd_ : Nat) => own_string (P := Tryd.prog) Tryd.underlying22 Tryd.underlying5 Tryd.underlying9 (Kd.own_of_R (Kd.R_drewN HO_3.out nd_))
        go_wp2
        go_ret
        exact ⟨by first | rfl | (simp [errW_none, errW_some] <;> rfl) | (simp [*, errW_none, errW_some] <;> rfl), by repeat (first | (with_reducible first | exact HB.out | apply below_alloc | apply pw_below_drewN | apply below_drew1) | exact HB.out)⟩

end Go.Proofs.YtdnfmilnkoocdaaDoor.Q

-- from Plow
/- Small letters, on lists of octets: ldh.Lower and the reference's Lower. -/
namespace Go.Proofs.YtdnfmilnkoocdaaDoor.K
set_option linter.unusedVariables false
set_option linter.unusedSimpArgs false
open Go.RowKit Go.Proofs.YtdnfmilnkoocdaaDoorW.PrintWords Go.Proofs.YtdnfmilnkoocdaaDoor.Q

def lower (x : Int) : Int := if 65 ≤ x ∧ x ≤ 90 then x + 32 else x
theorem lower_oct (x : Int) (h0 : 0 ≤ x) (h1 : x ≤ 255) : 0 ≤ lower x ∧ lower x ≤ 255 := by unfold lower; split <;> omega
theorem utf_Lower_is {x : Int} (h0 : 0 ≤ x) (h1 : x ≤ 255) : utf_Lower.f (wrap64 x) = some (lower x) := by
  rw [w64 (by omega) (by omega)]
  unfold utf_Lower.f lower
  by_cases a : x ≥ 65
  · by_cases b : x ≤ 90
    · rw [if_pos a, if_pos b, if_pos ⟨a, b⟩, w64 (by omega) (by omega)]
    · rw [if_pos a, if_neg b, if_neg (by omega)]
  · rw [if_neg a, if_neg (by omega)]
theorem set_take_drop (m : List Int) (f : Int → Int) (i : Nat) (h : i < m.length) : ((m.take i).map f ++ m.drop i).set i (f (rd m i)) = (m.take (i + 1)).map f ++ m.drop (i + 1) := by
  have hl : ((m.take i).map f).length = i := by simp; omega
  rw [drop_cons m i h, take_snoc m i h, List.set_append_right _ _ (by omega), hl]
  simp
theorem ldh_Lower_ev (l : List Int) (h : Oct l) (hl : l.length ≤ 281474976710656) : Ev (fun k => ldh_Lower.f k l) (l.map lower) := by
  have key : ∀ (d i : Nat), l.length - i = d → i ≤ l.length → Ev (fun k => ldh_Lower.l0 k ((l.take i).map lower ++ l.drop i) i) (l.map lower) := by
    intro d
    induction d with
    | zero =>
      intro i h1 h2
      have : i = l.length := by omega
      subst this
      refine Ev.step (fun k => rfl) (Ev.neg (by simp) ?_)
      simp only [List.take_length, List.drop_length, List.append_nil]
      exact Ev.now _
    | succ d ih =>
      intro i h1 h2
      have hi : i < l.length := by omega
      have hr : rd ((l.take i).map lower ++ l.drop i) (i : Int) = rd l i := by
        rw [rd_append_right (by simp; omega), drop_cons l i hi]
        have : ((i : Int) - (((l.take i).map lower).length : Int)) = 0 := by simp; omega
        rw [this]; rfl
      have hb := h.rd (i := (i : Int)) (by omega) (by omega)
      refine Ev.step (fun k => rfl) (Ev.pos (by simp; omega) (Ev.pos (by omega) ?_))
      rw [hr]
      refine Ev.bindS (utf_Lower_is hb.1 hb.2) ?_
      have hm : lower (rd l i) % 256 = lower (rd l i) := by have := lower_oct _ hb.1 hb.2; omega
      rw [hm, Int.toNat_natCast, set_take_drop l lower i hi, w64 (by omega) (by omega)]
      exact ih (i + 1) (by omega) (by omega)
  have := key l.length 0 (by omega) (by omega)
  unfold ldh_Lower.f
  refine Ev.pos hl ?_
  simpa using this

/-! the reference's Lower -/
theorem refLower_ev (l : List Int) (h : Oct l) (hl : l.length < 140737488355328) : Ev (fun k => paronymref11_Lower.f k (strOfNums l)) (strOfNums (l.map lower)) := by
  have key : ∀ (d i : Nat), l.length - i = d → i ≤ l.length → Ev (fun k => paronymref11_Lower.l0 k (strOfNums l) ((l.take i).map lower) i) (strOfNums (l.map lower)) := by
    intro d
    induction d with
    | zero =>
      intro i h1 h2
      have : i = l.length := by omega
      subst this
      refine Ev.step (fun k => rfl) (Ev.neg (by rw [size_str]; omega) ?_)
      simp only [List.take_length]
      exact Ev.now _
    | succ d ih =>
      intro i h1 h2
      have hi : i < l.length := by omega
      have hb := h.rd (i := (i : Int)) (by omega) (by omega)
      have e : bt (strOfNums l) (i : Int) = rd l i := bt_str h (by omega) (by omega)
      have hlen : ((l.take i).map lower).length < 140737488355328 := by simp; omega
      have hn := ih (i + 1) (by omega) (by omega)
      rw [take_snoc l i hi, List.map_append] at hn
      refine Ev.step (fun k => rfl) (Ev.pos (by rw [size_str]; omega) (Ev.pos (by omega) ?_))
      rw [e, w64 (by omega) (by omega)]
      by_cases a : rd l i ≥ 65
      · refine Ev.pos a ?_
        by_cases b : rd l i ≤ 90
        · refine Ev.pos b (Ev.pos hlen ?_)
          have : lower (rd l i) = (rd l i + 32) % 256 := by unfold lower; rw [if_pos ⟨a, b⟩]; omega
          rw [← this]; exact hn
        · refine Ev.neg b (Ev.pos hlen ?_)
          have : lower (rd l i) = rd l i := by unfold lower; rw [if_neg (by omega)]
          simp only [List.map_cons, List.map_nil, this] at hn; exact hn
      · refine Ev.neg a (Ev.pos hlen ?_)
        have : lower (rd l i) = rd l i := by unfold lower; rw [if_neg (by omega)]
        simp only [List.map_cons, List.map_nil, this] at hn; exact hn
  have := key l.length 0 (by omega) (by omega)
  unfold paronymref11_Lower.f
  simpa using this

theorem lower_idem (x : Int) : lower (lower x) = lower x := by unfold lower; split <;> (try split) <;> omega
theorem map_lower_idem (l : List Int) : (l.map lower).map lower = l.map lower := by
  rw [List.map_map]; exact List.map_congr_left (fun x _ => lower_idem x)
end Go.Proofs.YtdnfmilnkoocdaaDoor.K

-- from Pzo2
/- The entries of any zone: owner.Of and the entries tell something; the labels rise. -/
namespace Go.Proofs.YtdnfmilnkoocdaaDoor.K
set_option linter.unusedVariables false
set_option linter.unusedSimpArgs false
open Go.RowKit Go.Proofs.YtdnfmilnkoocdaaDoor.Q Go.Proofs.YtdnfmilnkoocdaaDoorW.PrintWords Go.Proofs.YtdnfmilnkoocdaaDoorW.PrintLast

theorem Spl.head {L w : List Int} {l : List (List Int)} (h : Spl L (.inr (w :: l))) : (∀ x ∈ w, x ∈ L) ∧ w.length ≤ L.length := by
  have hsum := h.sum (w :: l) rfl
  refine ⟨?_, by rw [List.map_cons, List.sum_cons] at hsum; omega⟩
  generalize hr : (Sum.inr (w :: l) : Sum Int (List (List Int))) = r at h
  cases h with
  | nil h1 => cases hr
  | rem h1 => cases hr
  | err h1 h2 h3 => cases hr
  | @more _ u c n r' h1 h2 h3 h4 =>
    cases r' with
    | inl e => cases hr
    | inr l' =>
      injection hr with hr
      injection hr with hr1 hr2
      intro x hx
      rw [hr1] at hx
      obtain ⟨v, hv⟩ := dropWhile_suffix (p := blank) L
      rw [hv, h1]
      exact List.mem_append_right _ (List.mem_of_mem_take hx)
theorem prefix_tot (s t : ByteArray) : ∃ b, strings_HasPrefix.f s t = some b := by
  unfold strings_HasPrefix.f stringslite_HasPrefix.f
  by_cases c : (s.size : Int) ≥ (t.size : Int)
  · rw [if_pos c, if_pos (by omega), if_pos (by omega)]; exact ⟨_, rfl⟩
  · rw [if_neg c]; exact ⟨_, rfl⟩
theorem indented_tot {L : List Int} (h : L ≠ []) : ∃ b, token_Indented.f L = some b := by
  have hp := List.length_pos_iff.2 h
  unfold token_Indented.f
  rw [if_pos (by omega), if_pos (by omega)]
  exact ⟨_, rfl⟩
theorem of_tot {L : List Int} (ho : Oct L) (hl : L.length ≤ 50000) : ∃ b ok e, Ev (fun k => owner_Of.f k L) (b, ok, e) ∧ Oct b ∧ (ok = true → 1 ≤ b.length ∧ b.length ≤ 63) ∧ (ok = false → b = []) := by
  obtain ⟨s, hs⟩ := Spl.total L.length L (Nat.le_refl _)
  have hsp := Split_ev hs ho (by omega)
  have nil : ∀ e : Int, Oct ([] : List Int) ∧ ((false : Bool) = true → 1 ≤ ([] : List Int).length ∧ ([] : List Int).length ≤ 63) ∧ ((false : Bool) = false → ([] : List Int) = []) := fun e => ⟨(fun x hx => by cases hx), (fun h => by cases h), fun _ => rfl⟩
  have yes : ∀ X : List ByteArray, Ev (fun k => owner_Of.j0 k X true) ([], false, 0) := fun X => Ev.step (f := fun _ => some ([], false, 0)) (fun k => rfl) (Ev.now _)
  cases s with
  | inl e =>
    have he := hs.err_is e rfl
    refine ⟨[], false, e, ?_, nil e⟩
    unfold owner_Of.f
    exact Ev.bind hsp (Ev.neg (by show ¬ e = 0; omega) (Ev.now _))
  | inr l =>
    cases l with
    | nil =>
      refine ⟨[], false, 0, ?_, nil 0⟩
      unfold owner_Of.f
      exact Ev.bind hsp (Ev.pos rfl (Ev.pos rfl (yes _)))
    | cons w l =>
      have hne : L ≠ [] := fun e => by have := hs.nil_is e; cases this
      obtain ⟨hw, hwl⟩ := hs.head
      have how : Oct w := fun x hx => ho x (hw x hx)
      obtain ⟨b1, hb1⟩ := indented_tot hne
      have hlen : ((fin [] (.inr (w :: l))).1.length : Int) = (l.length : Int) + 1 := by
        show (((w :: l).map strOfNums).length : Int) = _
        simp
      have hrd : rdOf ByteArray.empty (fin [] (.inr (w :: l))).1 0 = strOfNums w := rfl
      have base : ∀ {r : List Int × Bool × Int}, Ev (fun k => if b1 = true then (owner_Of.j0 k (fin [] (.inr (w :: l))).1 true) else (if 0 < (((fin [] (.inr (w :: l))).1).length : Int) then ((strings_HasPrefix.f (rdOf ByteArray.empty (fin [] (.inr (w :: l))).1 0) (⟨#[36]⟩ : ByteArray)).bind fun t107 => (if t107 = true then (owner_Of.j0 k (fin [] (.inr (w :: l))).1 true) else (owner_Of.j0 k (fin [] (.inr (w :: l))).1 ((rdOf ByteArray.empty (fin [] (.inr (w :: l))).1 0).toList == ([64] : List UInt8))))) else (none))) r → Ev (fun k => owner_Of.f k L) r := fun h => by
        unfold owner_Of.f
        exact Ev.bind hsp (Ev.pos rfl (Ev.neg (by omega) (Ev.bindS hb1 h)))
      by_cases c1 : b1 = true
      · exact ⟨[], false, 0, base (Ev.pos c1 (yes _)), nil 0⟩
      · obtain ⟨b2, hb2⟩ := prefix_tot (strOfNums w) (⟨#[36]⟩ : ByteArray)
        by_cases c2 : b2 = true
        · exact ⟨[], false, 0, base (Ev.neg c1 (Ev.pos (by omega) (Ev.bindS (by rw [hrd]; exact hb2) (Ev.pos c2 (yes _))))), nil 0⟩
        · have base2 : ∀ {r : List Int × Bool × Int}, Ev (fun k => owner_Of.j0 k (fin [] (.inr (w :: l))).1 ((strOfNums w).toList == ([64] : List UInt8))) r → Ev (fun k => owner_Of.f k L) r := fun h => base (Ev.neg c1 (Ev.pos (by omega) (Ev.bindS (by rw [hrd]; exact hb2) (Ev.neg c2 h))))
          by_cases c3 : ((strOfNums w).toList == ([64] : List UInt8)) = true
          · exact ⟨[], false, 0, base2 (by rw [c3]; exact yes _), nil 0⟩
          · have c3' : ((strOfNums w).toList == ([64] : List UInt8)) = false := Bool.eq_false_iff.mpr c3
            obtain ⟨ls, ab, e, hlab, hls⟩ := labels_tot how (by omega)
            have base3 : ∀ {r : List Int × Bool × Int}, (if e = 0 then (if (ls.length : Int) = 0 then (some (([] : List Int), false, e)) else (if 0 < (ls.length : Int) then (some (rd_L2 ls 0, true, 0)) else (none))) else (some (([] : List Int), false, e))) = some r → Ev (fun k => owner_Of.f k L) r := fun h => by
              refine base2 ?_
              rw [c3']
              refine Ev.succ ?_
              simp only [owner_Of.j0, Bool.false_eq_true, if_false]
              refine Ev.pos (by omega) (Ev.bind (show Ev (fun k => owner_Labels.f k (rdOf ByteArray.empty (fin [] (.inr (w :: l))).1 0)) (ls, ab, e) from hlab) (Ev.val h))
            by_cases c4 : e = 0
            · by_cases c5 : (ls.length : Int) = 0
              · exact ⟨[], false, e, base3 (by rw [if_pos c4, if_pos c5]), nil e⟩
              · have hm := hls _ (rdL2_mem ls 0 (by omega))
                exact ⟨rd_L2 ls 0, true, 0, base3 (by rw [if_pos c4, if_neg c5, if_pos (by omega)]), hm.1, (fun _ => hm.2), (fun h => by cases h)⟩
            · exact ⟨[], false, e, base3 (by rw [if_neg c4]), nil e⟩
/-! the entries -/
/-- A label as it is told. -/
def Good (l : List Int) : Prop := Oct l ∧ 1 ≤ l.length ∧ l.length ≤ 63 ∧ l.map lower = l
/-- Labels that rise from one on. -/
def Up : List Int → List (List Int) → Prop
  | _, [] => True
  | last, l :: ls => Good l ∧ 0 < zcmp l last ∧ Up l ls
def Rise : List Int → List (Int × List Int × Int) → Prop
  | _, [] => True
  | last, e :: E => (e.2.2 = 0 → Good e.2.1 ∧ 0 < zcmp e.2.1 last) ∧ Rise (if e.2.2 = 0 then e.2.1 else last) E
theorem ent_tot {x : List Int} (ho : Oct x) (hl : x.length ≤ 50000) (i : Int) (last : List Int) (hlast : Oct last) : ∃ r, Ev (fun k => zEnt k i x last) r ∧ (∀ e, r = some e → e.1 = i ∧ (e.2.2 = 0 → Good e.2.1 ∧ 0 < zcmp e.2.1 last)) := by
  have hso : Oct (stripCR x) := by
    unfold stripCR
    split
    · exact fun y hy => ho y (List.dropLast_subset _ hy)
    · exact ho
  have hsl : (stripCR x).length ≤ 50000 := by
    unfold stripCR
    split
    · rw [List.length_dropLast]; omega
    · exact hl
  obtain ⟨b, ok, e, hof, hob, h1, h2⟩ := of_tot hso hsl
  unfold zEnt
  by_cases c1 : e = 0
  · have hlow := ldh_Lower_ev b hob (by cases ok with
      | true => have := h1 rfl; omega
      | false => rw [h2 rfl]; simp)
    have hlo := hob.map (f := lower) lower_oct
    cases ok with
    | false => exact ⟨none, Ev.bind hof (Ev.pos c1 (Ev.bind hlow (Ev.neg (show ¬ ((false : Bool) = true) by decide) (Ev.now _)))), fun e he => by cases he⟩
    | true =>
      obtain ⟨g1, g2⟩ := h1 rfl
      have hbl : (b.map lower).length = b.length := List.length_map ..
      have hne : ¬ (b.map lower = [] ∨ 1000000 < (b.map lower).length) := by
        rintro (h | h)
        · have := congrArg List.length h
          simp only [List.length_nil] at this
          omega
        · omega
      have go : ∀ {r : Option (Int × List Int × Int)}, (if zcmp (b.map lower) last = 0 then (if last = [] then none else some none) else if zcmp (b.map lower) last < 0 then some (some (i, [], 63)) else some (some (i, b.map lower, 0))) = some r → Ev (fun k => (owner_Of.f k (stripCR x)).bind fun t =>
    if t.2.2 = 0 then (ldh_Lower.f k t.1).bind fun b =>
      if t.2.1 = true then (if b = [] ∨ 1000000 < b.length then none else if zcmp b last = 0 then (if last = [] then none else some none) else if zcmp b last < 0 then some (some (i, [], 63)) else some (some (i, b, 0)))
      else some none
    else some (some (i, [], t.2.2))) r := fun h => Ev.bind hof (Ev.pos c1 (Ev.bind hlow (Ev.pos rfl (Ev.neg hne (Ev.val h)))))
      by_cases c2 : zcmp (b.map lower) last = 0
      · have hz := (zcmp_0 hlo hlast).1 c2
        have hln : last ≠ [] := fun h => hne (.inl (hz.trans h))
        exact ⟨none, go (by rw [if_pos c2, if_neg hln]), fun e he => by cases he⟩
      · by_cases c3 : zcmp (b.map lower) last < 0
        · exact ⟨some (i, [], 63), go (by rw [if_neg c2, if_pos c3]), fun e he => by injection he with he; subst he; exact ⟨rfl, fun h => absurd h (show ¬ (63 : Int) = 0 by decide)⟩⟩
        · exact ⟨some (i, b.map lower, 0), go (by rw [if_neg c2, if_neg c3]), fun e he => by injection he with he; subst he; exact ⟨rfl, fun _ => ⟨⟨hlo, by show 1 ≤ (b.map lower).length; omega, by show (b.map lower).length ≤ 63; omega, map_lower_idem b⟩, by show 0 < zcmp (b.map lower) last; omega⟩⟩⟩
  · exact ⟨some (i, [], e), Ev.bind hof (Ev.neg c1 (Ev.now _)), fun e' he => by injection he with he; subst he; exact ⟨rfl, fun h => absurd h c1⟩⟩
theorem Ev.opt {α β : Type} {f : Nat → Option α} {a : α} {g : α → β} (h : Ev f a) : Ev (fun k => (f k).map g) (g a) := by
  obtain ⟨N, hN⟩ := h
  exact ⟨N, fun k hk => by show (f k).map g = _; rw [hN k hk]; rfl⟩
theorem ents_tot : ∀ (X : List (List Int)), (∀ x ∈ X, Oct x ∧ x.length ≤ 50000) → ∀ (i : Nat) (last : List Int), Oct last → ∃ E, Ev (fun k => zEnts k i last X) E ∧ Rise last E
  | [], _, i, last, _ => ⟨[], Ev.now _, trivial⟩
  | x :: X, hX, i, last, hlast => by
    have hx := hX x List.mem_cons_self
    have hX' : ∀ y ∈ X, Oct y ∧ y.length ≤ 50000 := fun y hy => hX y (List.mem_cons_of_mem _ hy)
    obtain ⟨r, hr, hp⟩ := ent_tot hx.1 hx.2 ((i : Int) + 1) last hlast
    cases r with
    | none =>
      obtain ⟨E, hE, hR⟩ := ents_tot X hX' (i + 1) last hlast
      exact ⟨E, Ev.bind hr hE, hR⟩
    | some e =>
      obtain ⟨_, hp2⟩ := hp e rfl
      by_cases c : e.2.2 = 63
      · exact ⟨[e], Ev.bind hr (Ev.pos c (Ev.now _)), hp2, trivial⟩
      · have hl2 : Oct (if e.2.2 = 0 then e.2.1 else last) := by
          split
          · rename_i h; exact (hp2 h).1.1
          · exact hlast
        obtain ⟨E, hE, hR⟩ := ents_tot X hX' (i + 1) _ hl2
        exact ⟨e :: E, Ev.bind hr (Ev.neg c (Ev.opt (g := (e :: ·)) hE)), hp2, hR⟩
/-- The labels rise. -/
theorem zLab_up : ∀ (E : List (Int × List Int × Int)) (last : List Int) (acc : List (List Int)), Rise last E → ∃ ls, (zLab E acc).1 = acc ++ ls ∧ Up last ls
  | [], last, acc, _ => ⟨[], by simp [zLab], trivial⟩
  | e :: E, last, acc, h => by
    unfold zLab
    obtain ⟨h1, h2⟩ := h
    by_cases c : e.2.2 = 0
    · rw [if_pos c] at h2 ⊢
      obtain ⟨ls, h3, h4⟩ := zLab_up E e.2.1 (acc ++ [e.2.1]) h2
      exact ⟨e.2.1 :: ls, by rw [h3]; simp, (h1 c).1, (h1 c).2, h4⟩
    · rw [if_neg c] at h2 ⊢
      by_cases c2 : e.2.2 = 63
      · rw [if_pos c2]
        exact ⟨[], by simp, trivial⟩
      · rw [if_neg c2]
        exact zLab_up E last acc h2
theorem oct_all {L : List Int} (ho : Oct L) : L.all (fun x => decide (0 ≤ x ∧ x ≤ 255)) = true := List.all_eq_true.2 (fun x hx => decide_eq_true (ho x hx))
/-- What zone.Labels tells of any octets. -/
theorem zone_tot {L : List Int} (ho : Oct L) (hl : L.length ≤ 50000) : ∃ E, Ev (fun k => zEnts k 0 [] (spl 10 L)) E ∧ Rise [] E ∧ Ev (fun k => zone_Labels.f k L) (zLab E []) := by
  obtain ⟨E, hE, hR⟩ := ents_tot (spl 10 L) (fun x hx => ⟨oct_spl ho hx, Nat.le_trans (len_spl hx) hl⟩) 0 [] (fun x hx => by cases hx)
  refine ⟨E, hE, hR, ?_⟩
  unfold zone_Labels.f
  exact Ev.pos ⟨by omega, oct_all ho⟩ (Ev.opt (g := fun E => zLab E []) hE)
end Go.Proofs.YtdnfmilnkoocdaaDoor.K

-- from Pfree
/- Parted texts are free of the parting octet; the reference's Same of a row with itself. -/
namespace Go.Proofs.YtdnfmilnkoocdaaDoor.K
set_option linter.unusedVariables false
set_option linter.unusedSimpArgs false
open Go.RowKit Go.Proofs.YtdnfmilnkoocdaaDoorW.PrintWords Go.Proofs.YtdnfmilnkoocdaaDoorW.PrintMore Go.Proofs.YtdnfmilnkoocdaaDoor.Q

theorem splP_free {α : Type} (p : α → Bool) : ∀ (l q : List α), q ∈ splP p l → ∀ x ∈ q, p x = false
  | [], q, h, x, hx => by
    simp only [splP, List.mem_singleton] at h
    subst h
    cases hx
  | y :: l, q, h, x, hx => by
    rw [splP_cons] at h
    by_cases hy : p y = true
    · rw [if_pos hy] at h
      rcases List.mem_cons.1 h with rfl | h
      · cases hx
      · exact splP_free p l q h x hx
    · rw [if_neg hy] at h
      have ih := splP_free p l
      cases hs : splP p l with
      | nil => exact absurd hs (splP_ne p l)
      | cons a r =>
        rw [hs] at h ih
        rcases List.mem_cons.1 h with rfl | h
        · rcases List.mem_cons.1 hx with rfl | hx
          · simpa using hy
          · exact ih a (List.mem_cons_self ..) x hx
        · exact ih q (List.mem_cons_of_mem _ h) x hx
theorem spl_free {c : Int} {l q : List Int} (h : q ∈ spl c l) : ∀ x ∈ q, x ≠ c := fun x hx e => by
  have := splP_free _ l q h x hx
  simp [e] at this
end Go.Proofs.YtdnfmilnkoocdaaDoor.K
namespace Go.Proofs.YtdnfmilnkoocdaaDoor.Q
open Go.RowKit Go.Proofs.YtdnfmilnkoocdaaDoorW.PrintWords Go.Proofs.YtdnfmilnkoocdaaDoorW.PrintLast Go.Proofs.YtdnfmilnkoocdaaDoorW.PrintMore Go.Proofs.YtdnfmilnkoocdaaDoor.K
set_option linter.unusedVariables false
set_option linter.unusedSimpArgs false
theorem same2_self_ev (X : List ByteArray) (hX : X.length ≤ 1000000000) : Ev (fun k => paronymref02_Same.f k X X) true := by
  have loop : ∀ (d i : Nat), X.length - i = d → i ≤ X.length → Ev (fun k => paronymref02_Same.l0 k X X (i : Int)) true := by
    intro d
    induction d with
    | zero =>
      intro i h1 h2
      exact Ev.step (fun k => rfl) (Ev.neg (by omega) (Ev.ret rfl))
    | succ d ih =>
      intro i h1 h2
      refine Ev.step (fun k => rfl) (Ev.pos (by omega) (Ev.pos (by omega) (Ev.pos (by omega) (Ev.pos rfl ?_))))
      have e : wrap64 ((i : Int) + 1) = ((i + 1 : Nat) : Int) := by rw [w64 (by omega) (by omega)]; omega
      rw [e]
      exact ih (i + 1) (by omega) (by omega)
  unfold paronymref02_Same.f
  exact Ev.pos rfl (loop _ 0 rfl (Nat.zero_le _))
end Go.Proofs.YtdnfmilnkoocdaaDoor.Q

-- from Pzrm
/- Remarks between a zone's lines: the entries stay, their lines' numbers are told. -/
namespace Go.Proofs.YtdnfmilnkoocdaaDoor.K
set_option linter.unusedVariables false
set_option linter.unusedSimpArgs false
open Go.RowKit Go.Proofs.YtdnfmilnkoocdaaDoor.Q Go.Proofs.YtdnfmilnkoocdaaDoorW.PrintWords Go.Proofs.YtdnfmilnkoocdaaDoorW.PrintLast

theorem awake27 : paronymlaw27_awake.f 60 = some true := by decide +kernel
theorem awake27_ev : Ev (fun k => paronymlaw27_awake.f k) true := Ev.of (fun k => paronymlaw27_awake.mono k) awake27
def zr1 : List Int := [59, 32, 114, 101, 109, 97, 114, 107]
def zr2 : List Int := [32, 73, 78, 32, 84, 88, 84, 32, 120]
def zrL : List Int := 10 :: (zr1 ++ 10 :: (zr2 ++ [10]))
def zrm (X : List (List Int)) : List Int := X.flatMap (fun x => x ++ zrL)
theorem of_quiet : owner_Of.f 60 zr1 = some ([], false, 0) ∧ owner_Of.f 60 zr2 = some ([], false, 0) ∧ owner_Of.f 60 [] = some ([], false, 0) := by decide +kernel
theorem quiet_ev {x : List Int} (h : owner_Of.f 60 x = some ([], false, 0)) (hs : stripCR x = x) (i : Int) (last : List Int) : Ev (fun k => zEnt k i x last) none := by
  unfold zEnt
  rw [hs]
  exact Ev.bind (Ev.of (fun k => owner_Of.mono x k) h) (Ev.pos rfl (Ev.bind (ldh_Lower_ev [] (fun y hy => by cases hy) (by simp)) (Ev.neg (show ¬ ((false : Bool) = true) by decide) (Ev.now _))))
theorem zEnt_num (k : Nat) (i j : Int) (x last : List Int) : zEnt k j x last = (zEnt k i x last).map (fun r => r.map (fun e => (j, e.2))) := by
  unfold zEnt
  cases owner_Of.f k (stripCR x) with
  | none => rfl
  | some t =>
    simp only [Option.bind_some]
    by_cases c1 : t.2.2 = 0
    · rw [if_pos c1, if_pos c1]
      cases ldh_Lower.f k t.1 with
      | none => rfl
      | some b =>
        simp only [Option.bind_some]
        by_cases c2 : t.2.1 = true
        · rw [if_pos c2, if_pos c2]
          by_cases c3 : b = [] ∨ 1000000 < b.length
          · rw [if_pos c3, if_pos c3]; rfl
          · rw [if_neg c3, if_neg c3]
            by_cases c4 : zcmp b last = 0
            · rw [if_pos c4, if_pos c4]
              by_cases c5 : last = []
              · rw [if_pos c5]; rfl
              · rw [if_neg c5]; rfl
            · rw [if_neg c4, if_neg c4]
              by_cases c6 : zcmp b last < 0
              · rw [if_pos c6, if_pos c6]; rfl
              · rw [if_neg c6, if_neg c6]; rfl
        · rw [if_neg c2, if_neg c2]; rfl
    · rw [if_neg c1, if_neg c1]; rfl
def zmv (e : Int × List Int × Int) : Int × List Int × Int := (3 * e.1 - 2, e.2)
theorem ents_rmk : ∀ (X : List (List Int)), (∀ x ∈ X, Oct x ∧ x.length ≤ 50000) → ∀ (i : Nat) (last : List Int), Oct last → ∃ E, Ev (fun k => zEnts k i last X) E ∧ Ev (fun k => zEnts k (3 * i) last (X.flatMap (fun x => [x, zr1, zr2]) ++ [[]])) (E.map zmv) ∧ (∀ e ∈ E, 1 ≤ e.1 ∧ e.1 ≤ (i : Int) + X.length)
  | [], _, i, last, _ => ⟨[], Ev.now _, Ev.bind (quiet_ev of_quiet.2.2 rfl _ last) (Ev.now _), fun e he => by cases he⟩
  | x :: X, hX, i, last, hlast => by
    have hx := hX x List.mem_cons_self
    have hX' : ∀ y ∈ X, Oct y ∧ y.length ≤ 50000 := fun y hy => hX y (List.mem_cons_of_mem _ hy)
    obtain ⟨r, hr, hp⟩ := ent_tot hx.1 hx.2 ((i : Int) + 1) last hlast
    have hr2 : Ev (fun k => zEnt k (((3 * i : Nat) : Int) + 1) x last) (r.map (fun e => ((((3 * i : Nat) : Int) + 1), e.2))) := by
      refine Ev.congr (fun k => zEnt_num k ((i : Int) + 1) _ x last) ?_
      exact Ev.opt (g := fun r => r.map (fun e => ((((3 * i : Nat) : Int) + 1), e.2))) hr
    have hq : ∀ (l : List Int) {E : List (Int × List Int × Int)}, Ev (fun k => zEnts k (3 * (i + 1)) l (X.flatMap (fun x => [x, zr1, zr2]) ++ [[]])) E → Ev (fun k => zEnts k (3 * i + 1) l (zr1 :: zr2 :: (X.flatMap (fun x => [x, zr1, zr2]) ++ [[]]))) E := fun l E h => Ev.bind (quiet_ev of_quiet.1 rfl _ l) (Ev.bind (quiet_ev of_quiet.2.1 rfl _ l) h)
    cases r with
    | none =>
      obtain ⟨E, hE, hE2, hb⟩ := ents_rmk X hX' (i + 1) last hlast
      exact ⟨E, Ev.bind hr hE, Ev.bind hr2 (hq last hE2), fun e he => by have := hb e he; rw [List.length_cons]; omega⟩
    | some e =>
      obtain ⟨hp1, hp2⟩ := hp e rfl
      have hze : zmv e = ((((3 * i : Nat) : Int) + 1), e.2) := by unfold zmv; rw [hp1]; congr 1; omega
      by_cases c : e.2.2 = 63
      · refine ⟨[e], Ev.bind hr (Ev.pos c (Ev.now _)), ?_, fun e' he => by rw [List.mem_singleton.1 he, hp1, List.length_cons]; omega⟩
        rw [List.map_cons, List.map_nil, hze]
        exact Ev.bind hr2 (Ev.pos c (Ev.now _))
      · have hl2 : Oct (if e.2.2 = 0 then e.2.1 else last) := by
          split
          · rename_i h; exact (hp2 h).1.1
          · exact hlast
        obtain ⟨E, hE, hE2, hb⟩ := ents_rmk X hX' (i + 1) _ hl2
        refine ⟨e :: E, Ev.bind hr (Ev.neg c (Ev.opt (g := (e :: ·)) hE)), ?_, fun e' he => by
          rw [List.length_cons]
          rcases List.mem_cons.1 he with rfl | he
          · omega
          · have := hb e' he; omega⟩
        rw [List.map_cons, hze]
        exact Ev.bind hr2 (Ev.neg c (Ev.opt (g := (((((3 * i : Nat) : Int) + 1), e.2) :: ·)) (hq _ hE2)))
theorem zLab_mv : ∀ (E : List (Int × List Int × Int)) (acc : List (List Int)), (∀ e ∈ E, 1 ≤ e.1 ∧ e.1 ≤ 100000) → (zLab (E.map zmv) acc).1 = (zLab E acc).1 ∧ (zLab (E.map zmv) acc).2.1 = (zLab E acc).2.1 ∧
    (((zLab E acc).2.2 = 0 ∧ (zLab (E.map zmv) acc).2.2 = 0) ∨ (1 ≤ (zLab E acc).2.2 ∧ (zLab E acc).2.2 ≤ 100000 ∧ (zLab (E.map zmv) acc).2.2 = 3 * (zLab E acc).2.2 - 2))
  | [], acc, _ => ⟨rfl, rfl, .inl ⟨rfl, rfl⟩⟩
  | e :: E, acc, h => by
    have h1 := h e List.mem_cons_self
    have h2 : ∀ e ∈ E, 1 ≤ e.1 ∧ e.1 ≤ 100000 := fun y hy => h y (List.mem_cons_of_mem _ hy)
    rw [List.map_cons]
    unfold zLab
    by_cases c : e.2.2 = 0
    · rw [if_pos c, if_pos (show (zmv e).2.2 = 0 from c)]
      exact zLab_mv E _ h2
    · rw [if_neg c, if_neg (show ¬ (zmv e).2.2 = 0 from c)]
      by_cases c2 : e.2.2 = 63
      · rw [if_pos c2, if_pos (show (zmv e).2.2 = 63 from c2)]
        exact ⟨rfl, rfl, .inr ⟨h1.1, h1.2, rfl⟩⟩
      · rw [if_neg c2, if_neg (show ¬ (zmv e).2.2 = 63 from c2)]
        exact zLab_mv E _ h2
theorem zLab_len : ∀ (E : List (Int × List Int × Int)) (acc : List (List Int)), (zLab E acc).1.length ≤ acc.length + E.length
  | [], acc => by simp [zLab]
  | e :: E, acc => by
    unfold zLab
    rw [List.length_cons]
    split
    · have := zLab_len E (acc ++ [e.2.1]); rw [List.length_append] at this; simp only [List.length_cons, List.length_nil] at this; omega
    · split
      · simp only; omega
      · have := zLab_len E acc; omega
theorem zrm_spl : ∀ (X : List (List Int)), (∀ l ∈ X, ∀ x ∈ l, x ≠ 10) → spl 10 (zrm X) = X.flatMap (fun x => [x, zr1, zr2]) ++ [[]]
  | [], _ => rfl
  | x :: X, h => by
    have hx := h x List.mem_cons_self
    have ih := zrm_spl X (fun l hl => h l (List.mem_cons_of_mem _ hl))
    have e : zrm (x :: X) = x ++ 10 :: (zr1 ++ 10 :: (zr2 ++ 10 :: zrm X)) := by
      unfold zrm zrL
      rw [List.flatMap_cons]
      simp
    have f : ∀ l : List Int, (∀ y ∈ l, y ≠ 10) → ∀ y ∈ l, (fun x => decide (x = (10 : Int))) y = false := fun l hl y hy => decide_eq_false (hl y hy)
    unfold spl at ih ⊢
    rw [splP_hit e (f x hx) (decide_eq_true rfl), splP_hit rfl (f zr1 (by decide)) (decide_eq_true rfl), splP_hit rfl (f zr2 (by decide)) (decide_eq_true rfl), ih]
    rfl
theorem zrm_oct {X : List (List Int)} (h : ∀ l ∈ X, Oct l) : Oct (zrm X) := fun y hy => by
  obtain ⟨x, hx, hy⟩ := List.mem_flatMap.1 hy
  rcases List.mem_append.1 hy with hy | hy
  · exact h x hx y hy
  · have : ∀ y ∈ zrL, 0 ≤ y ∧ y ≤ 255 := by decide
    exact this y hy
theorem zrm_len : ∀ (X : List (List Int)), (zrm X).length = (X.map List.length).sum + 20 * X.length
  | [] => rfl
  | x :: X => by
    have e : zrm (x :: X) = x ++ zrL ++ zrm X := by unfold zrm; rw [List.flatMap_cons]
    rw [e, List.length_append, List.length_append, zrm_len X, List.map_cons, List.sum_cons, List.length_cons]
    have : zrL.length = 20 := rfl
    omega
theorem zrm_snoc (X : List (List Int)) (x : List Int) : zrm (X ++ [x]) = zrm X ++ (x ++ zrL) := by unfold zrm; rw [List.flatMap_append]; simp
end Go.Proofs.YtdnfmilnkoocdaaDoor.K

-- from Pcut
/- Layer 2's reference on lists: Cut. -/
namespace Go.Proofs.YtdnfmilnkoocdaaDoor.K
set_option linter.unusedVariables false
set_option linter.unusedSimpArgs false
open Go.RowKit Go.Proofs.YtdnfmilnkoocdaaDoorW.PrintWords Go.Proofs.YtdnfmilnkoocdaaDoorW.PrintMore Go.Proofs.YtdnfmilnkoocdaaDoor.Q

/-- What stands ahead of the first one joins it. -/
def onto (pre : List Int) : List (List Int) → List (List Int)
  | [] => []
  | q :: r => (pre ++ q) :: r
theorem spl_step (c : Int) {L : List Int} (i : Nat) (h : i < L.length) : spl c (L.drop i) = if L[i] = c then [] :: spl c (L.drop (i + 1)) else onto [L[i]] (spl c (L.drop (i + 1))) := by
  rw [List.drop_eq_getElem_cons h]
  show splP _ (_ :: _) = _
  rw [splP_cons]
  by_cases hc : L[i] = c
  · rw [if_pos (decide_eq_true hc), if_pos hc]; rfl
  · rw [if_neg (by simpa using hc), if_neg hc]
    show _ = onto [L[i]] (splP _ _)
    cases hs : splP (fun x => decide (x = c)) (L.drop (i + 1)) with
    | nil => exact absurd hs (splP_ne _ _)
    | cons a r => rfl
theorem onto_onto (a b : List Int) (X : List (List Int)) : onto a (onto b X) = onto (a ++ b) X := by cases X <;> simp [onto]
theorem onto_nil (X : List (List Int)) : onto [] X = X := by cases X <;> simp [onto]
theorem cut_loop {L : List Int} (ho : Oct L) (hL : L.length ≤ 1000000) (c : Int) : ∀ (d i fr : Nat) (acc : List ByteArray), L.length - i = d → fr ≤ i → i ≤ L.length → acc.length ≤ i →
    Ev (fun k => paronymref02_Cut.l0 k (strOfNums L) c acc (fr : Int) (i : Int)) (acc ++ (onto ((L.take i).drop fr) (spl c (L.drop i))).map strOfNums) := by
  intro d
  induction d with
  | zero =>
    intro i fr acc h1 h2 h3 h4
    have hi : i = L.length := by omega
    have e1 : (L.take i).drop fr = L.drop fr := by rw [hi, List.take_length]
    have e2 : spl c (L.drop i) = [[]] := by rw [hi, List.drop_length]; rfl
    have hz := size_str L
    refine Ev.step (fun k => rfl) (Ev.pos (by omega) (Ev.pos (by omega) (Ev.pos (by omega) (Ev.pos (by omega) (Ev.pos (by omega) ?_)))))
    rw [w64 (by omega) (by omega)]
    refine Ev.step (fun k => rfl) (Ev.neg (by omega) (Ev.ret ?_))
    rw [Int.toNat_natCast, Int.toNat_natCast, extract_str, e2]
    simp [onto]
  | succ d ih =>
    intro i fr acc h1 h2 h3 h4
    have hi : i < L.length := by omega
    have hb : bt (strOfNums L) (i : Int) = L[i] := by rw [bt_str ho (by omega) (by omega), rd_nat L i hi]
    have hz := size_str L
    rw [spl_step c i hi]
    refine Ev.step (fun k => rfl) (Ev.pos (by omega) (Ev.neg (by omega) (Ev.pos (by omega) (Ev.pos (by omega) ?_))))
    by_cases hc : L[i] = c
    · rw [if_pos hc]
      refine Ev.pos (by rw [hb]; exact hc) (Ev.pos (by omega) (Ev.pos (by omega) (Ev.pos (by omega) ?_)))
      rw [w64 (by omega) (by omega)]
      have next := ih (i + 1) (i + 1) (acc ++ [(strOfNums L).extract fr i]) (by omega) (Nat.le_refl _) (by omega) (by simp; omega)
      rw [show (L.take (i + 1)).drop (i + 1) = [] from by rw [List.drop_eq_nil_iff, List.length_take]; omega, onto_nil] at next
      rw [Int.toNat_natCast, Int.toNat_natCast]
      have e : acc ++ List.map strOfNums (onto ((L.take i).drop fr) ([] :: spl c (L.drop (i + 1)))) = (acc ++ [(strOfNums L).extract fr i]) ++ (spl c (L.drop (i + 1))).map strOfNums := by
        rw [extract_str]; simp [onto]
      rw [e]
      exact next
    · rw [if_neg hc]
      refine Ev.neg (by rw [hb]; exact hc) ?_
      rw [w64 (by omega) (by omega)]
      have next := ih (i + 1) fr acc (by omega) (by omega) (by omega) (by omega)
      rw [onto_onto]
      have e : (L.take i).drop fr ++ [L[i]] = (L.take (i + 1)).drop fr := by
        rw [← List.take_append_getElem hi, List.drop_append_of_le_length (by rw [List.length_take]; omega)]
      rw [e]
      exact next
theorem cut_ev {L : List Int} (ho : Oct L) (hL : L.length ≤ 1000000) (c : Int) : Ev (fun k => paronymref02_Cut.f k (strOfNums L) c) ((spl c L).map strOfNums) := by
  have := cut_loop ho hL c L.length 0 0 [] (by omega) (Nat.le_refl _) (Nat.zero_le _) (Nat.zero_le _)
  rw [List.nil_append, List.take_zero, List.drop_nil, onto_nil, List.drop_zero] at this
  exact this
end Go.Proofs.YtdnfmilnkoocdaaDoor.K

-- from PureZoneRemarks
/- ZoneRemarks: for every input. -/
namespace Go.Proofs.YtdnfmilnkoocdaaDoor.Pure
set_option linter.unusedVariables false
set_option linter.unusedSimpArgs false
open Go.RowKit Go.Proofs.YtdnfmilnkoocdaaDoor.Q Go.Proofs.YtdnfmilnkoocdaaDoorW.PrintWords Go.Proofs.YtdnfmilnkoocdaaDoorW.PrintLast Go.Proofs.YtdnfmilnkoocdaaDoor.K

theorem ZoneRemarks_ev {l0 : List Int} (ho : Oct l0) : Ev (fun k => paronymlaw27_ZoneRemarks.f k l0) true := by
  unfold paronymlaw27_ZoneRemarks.f
  refine Ev.bind awake27_ev (Ev.pos rfl ?_)
  by_cases c : (l0.length : Int) > 600
  · rw [decide_eq_true c]
    exact Ev.step (f := fun k => (paronymlaw27_awake.f k).bind fun t102 => some t102) (fun k => rfl) (Ev.bind awake27_ev (Ev.now _))
  rw [decide_eq_false c]
  refine Ev.succ ?_
  simp only [paronymlaw27_ZoneRemarks.j0, Bool.false_eq_true, if_false]
  refine Ev.bind (cut_ev ho (by omega) 10) ?_
  generalize hX : spl 10 l0 = X
  have hXo : ∀ x ∈ X, Oct x ∧ x.length ≤ 50000 := fun x hx => by
    rw [← hX] at hx
    exact ⟨oct_spl ho hx, by have := len_spl hx; omega⟩
  have hX10 : ∀ x ∈ X, ∀ y ∈ x, y ≠ 10 := fun x hx y hy => by
    rw [← hX] at hx
    exact spl_free hx y hy
  have hsum : (X.map List.length).sum + X.length = l0.length + 1 := by rw [← hX]; exact splP_sum _ _
  obtain ⟨E, hE, hE2, hEb⟩ := ents_rmk X hXo 0 [] (fun x hx => by cases hx)
  have hoz : Oct (zrm X) := zrm_oct (fun l hl => (hXo l hl).1)
  have hlz : (zrm X).length ≤ 20000 := by rw [zrm_len]; omega
  have hL1 : Ev (fun k => zone_Labels.f k l0) (zLab E []) := by
    unfold zone_Labels.f
    rw [hX]
    exact Ev.pos ⟨by omega, oct_all ho⟩ (Ev.opt (g := fun E => zLab E []) hE)
  have hL2 : Ev (fun k => zone_Labels.f k (zrm X)) (zLab (E.map zmv) []) := by
    unfold zone_Labels.f
    rw [zrm_spl X hX10]
    exact Ev.pos ⟨by omega, oct_all hoz⟩ (Ev.opt (g := fun E => zLab E []) hE2)
  have hEl : E.length ≤ X.length := by
    obtain ⟨N, hN⟩ := hE
    exact zEnts_len N X 0 [] E (hN N (Nat.le_refl _))
  have hn : (zLab E []).1.length ≤ 601 := by have := zLab_len E []; simp only [List.length_nil] at this; omega
  obtain ⟨m1, m2, m3⟩ := zLab_mv E [] (fun e he => by have := hEb e he; omega)
  have tail : Ev (fun k => (zone_Labels.f k l0).bind fun bt107 => ((bytesOf.f (strOfNums (zrm X))).bind fun t112 => ((zone_Labels.f k t112).bind fun bt115 => (if bt107.2.1 = bt115.2.1 then ((paronymref26_Texts.f k bt107.1).bind fun t120 => ((paronymref26_Texts.f k bt115.1).bind fun t123 => ((paronymref02_Same.f k t120 t123).bind fun t126 => (if t126 = true then (if bt107.2.2 = 0 then (if bt115.2.2 = 0 then (some true) else (some (bt115.2.2 == (wrap64 ((wrap64 (3 * bt107.2.2)) - 2))))) else (some (bt115.2.2 == (wrap64 ((wrap64 (3 * bt107.2.2)) - 2))))) else (some false))))) else (some false))))) true := by
    refine Ev.bind hL1 ?_
    rw [bof_is hoz (by omega)]
    refine Ev.bind (Ev.now _) (Ev.bind hL2 (Ev.pos m2.symm (Ev.bind (texts_ev (by omega)) ?_)))
    rw [m1]
    refine Ev.bind (texts_ev (by omega)) (Ev.bind (same2_self_ev _ (by rw [List.length_map]; omega)) (Ev.pos rfl ?_))
    rcases m3 with ⟨h1, h2⟩ | ⟨h1, h1', h2⟩
    · exact Ev.pos h1 (Ev.pos h2 (Ev.now _))
    · refine Ev.neg (by omega) (Ev.ret ?_)
      rw [h2, w64 (n := 3 * (zLab E []).2.2) (by omega) (by omega), w64 (by omega) (by omega)]
      exact beq_self_eq_true _
  have loop : ∀ (d i : Nat), X.length - i = d → i ≤ X.length → Ev (fun k => paronymlaw27_ZoneRemarks.l0 k l0 (X.map strOfNums) (strOfNums (zrm (X.take i))) (i : Int)) true := by
    intro d
    induction d with
    | zero =>
      intro i h1 h2
      refine Ev.step (fun k => rfl) (Ev.neg (by rw [List.length_map]; omega) ?_)
      rw [List.take_of_length_le (by omega)]
      exact tail
    | succ d ih =>
      intro i h1 h2
      have hi : i < X.length := by omega
      have hxl := (hXo X[i] (List.getElem_mem hi)).2
      have htl : (zrm (X.take i)).length ≤ 20000 := by
        have h3 := zrm_len X
        have h4 : zrm X = zrm (X.take i) ++ zrm (X.drop i) := by
          conv => lhs; rw [← List.take_append_drop i X]
          unfold zrm
          rw [List.flatMap_append]
        have h5 := congrArg List.length h4
        rw [List.length_append] at h5
        omega
      refine Ev.step (fun k => rfl) (Ev.pos (by rw [List.length_map]; omega) (Ev.pos (by omega) ?_))
      rw [rdOf_map2 X i hi]
      refine Ev.pos (by rw [size_str, size_str]; omega) (Ev.pos (by rw [str_append, size_str, List.length_append]; omega) ?_)
      rw [show (⟨#[10, 59, 32, 114, 101, 109, 97, 114, 107, 10, 32, 73, 78, 32, 84, 88, 84, 32, 120, 10]⟩ : ByteArray) = strOfNums zrL from rfl, str_append, str_append, w64 (by omega) (by omega), List.append_assoc, ← zrm_snoc, ← List.take_succ_eq_append_getElem hi]
      exact ih (i + 1) (by omega) (by omega)
  exact loop X.length 0 (by omega) (Nat.zero_le _)
theorem ZoneRemarks : paronymlaw27_ZoneRemarks.Pure := by
  intro l0 h1 h2 h3
  obtain ⟨N, hN⟩ := ZoneRemarks_ev (oct_of_wf h3)
  exact ⟨N, hN N (Nat.le_refl _)⟩
end Go.Proofs.YtdnfmilnkoocdaaDoor.Pure

-- from LawZoneRemarks
-- Made by hp.py, a program of this session, with the kit's printer. Not trusted: Lean checks it.
namespace Go.Proofs.YtdnfmilnkoocdaaDoor.zoneRemarks
open Go.ChangeShapes Go.WideShapes Go.ChangeAt Go.RowKit
open Go.ChangeMaps (open_string shut_string)
set_option linter.unusedVariables false
theorem own : ownKnob Tryd.prog.godebug = none := by kernel_rfl
theorem laidOut : laidOutB Tryd.prog = true := by kernel_rfl
def IsRow (k : IntKind) (w : World) (a : Option Addr) (len cap : Nat) (zs : List Int) : Prop :=
  (a = none ∧ len = 0 ∧ cap = 0 ∧ zs = []) ∨
  ∃ x, a = some x ∧ len ≤ cap ∧ cap ≤ maxLen ∧ zs.length = cap ∧ (∀ i, i < zs.length → w.cell? (x.add i) = some (.int k (zs.getD i 0))) ∧ ∀ n ∈ zs, (Lit.int k n).wf = true
set_option maxRecDepth 100000 in
theorem lifted (os : Os) (started : os.Started) (H : Type) (enc : TypeId × Value → H) :
    ReturnsInHanded {} Tryd.checked os 7 .any (fun w args => (Rows.zoneRemarksSpec.pre enc Tryd.prog Tryd.f7 Rows.zoneRemarksRow.domain false w args ∧ laidMetH Tryd.prog Rows.zoneRemarksRow.laid w) ∧ sizedMet enc Tryd.prog Tryd.f7 (OpenSpec.ofChange Rows.zoneRemarksSpec) false w args) (Rows.zoneRemarksSpec.post enc Tryd.prog Tryd.f7 false true false false) := by
  refine returnsInHanded_of_change_and (C := Tryd.checked) (X := fun w _ => laidMetH Tryd.prog Rows.zoneRemarksRow.laid w) (fun _ _ _ hh h => h.of_heap hh) own started (by kernel_rfl) Tryd.func7
    (ChangeSpec.witness_shaped (enc := enc) (C := Tryd.checked) (os := os) (X := fun w _ => laidMetH Tryd.prog Rows.zoneRemarksRow.laid w) false (World.laidAll Tryd.prog os Rows.zoneRemarksRow.laid) #[.slice none 0 0] 8 (World.laidAll_os _ _ _)
      (World.shaped_of_ZipB (by kernel_rfl) (by kernel_rfl)) (by kernel_rfl) (by kernel_rfl) (by kernel_rfl)
      (by rw [MakeChecks.laidMetH_plain _ _ _ (by kernel_rfl)]; exact laidMet_laidAll _ (by kernel_rfl) (by kernel_rfl))) ?_
  intro W base args ds gs before hval0 hW hcnd hsz0 hL _
  have hsz : (DataW.weightsEach Tryd.prog (Tryd.f7.params.toList ++ Rows.zoneRemarksSpec.plain.varTypes Tryd.prog) (ds ++ gs)).all (· ≤ reachBytes) = true := hsz0
  have hval : ∀ (j : Nat) t v, Tryd.f7.params[j]? = some t → args[j]? = some v → Value.okWide Tryd.prog W .any base t v := hval0
  have hW' := hW
  obtain ⟨p, q, hA0, hV, rfl, hfz, hnd⟩ := hW
  have hA : DataW.TrodAll enc Tryd.prog W 0 (fun _ => true) true Tryd.f7.params.toList args.toList ds p := hA0
  rw [Tryd.params7] at hA hval hsz
  obtain ⟨v0, vs0, d0, ds0, p0, q0, hargs, rfl, rfl, h0, r0⟩ := trodAll_cons hA
  obtain ⟨rfl, rfl, rfl⟩ := trodAll_nil r0
  obtain rfl : args = #[v0] := by cases args; simp_all
  obtain ⟨rfl, rfl⟩ := trodVars_none hV
  obtain ⟨a0, len0, cap0, rfl⟩ := okWide_slice Tryd.underlying22 (hval 0 22 v0 rfl rfl)
  have k0 := h0
  have lt0 : ∀ x ∈ p0, x.block < W.heap.size := by obtain ⟨m, hm⟩ := k0; exact DataW.trod_lt m _ _ _ hm
  obtain ⟨z0, w0⟩ : ∃ zs, IsRow .u8 W a0 len0 cap0 zs := by
    obtain ⟨fuel, hf⟩ := h0
    rcases open_ints Tryd.underlying22 Tryd.underlying5 (by kernel_rfl) hf with ⟨hcs, _⟩ | ⟨x, l, c, zs, hcs, _, hl, hm, hz, _, hcell, hwz⟩
    · simp [Value.cells] at hcs
      obtain ⟨rfl, rfl, rfl⟩ := hcs
      exact ⟨[], .inl ⟨rfl, rfl, rfl, rfl⟩⟩
    · simp [Value.cells] at hcs
      obtain ⟨rfl, rfl, rfl⟩ := hcs
      exact ⟨zs, .inr ⟨_, rfl, hl, hm, by simpa using hz, hcell, hwz⟩⟩
  have y0 : len0 * 1 ≤ 140737488351232 := Go.Proofs.YtdnfmilnkoocdaaDoorW.PrintWords.sized_ints hsz (j := 0) (t := 22) rfl rfl Tryd.underlying22 Tryd.underlying5 (by kernel_rfl) (by kernel_rfl) h0
  clear hA0 hval0 hsz0 hsz
  refine (Q.paronymlaw27_ZoneRemarks.walk Pure.ZoneRemarks a0 len0 cap0 z0 W w0 y0).mono fun e W' ⟨he, bel⟩ => ?_
  subst he
  exact ⟨_, rfl, _, _, _, [], _, [], hW', trodAll_mk1 (shut_bool Tryd.underlying4 _), (trodAll_cons_mk (Below.trod laidOut (by kernel_rfl) (of_decide_eq_true (by kernel_rfl)) k0 bel lt0) trodAll_mk0), rfl, bel.frame _, fun h => by cases h⟩
theorem over : Rows.zoneRemarksRow.holds Tryd.pinned (OpenSpec.ofChange Rows.zoneRemarksSpec) :=
  OpenClaim.holds_of_wide 7 Tryd.f7 rfl rfl rfl rfl rfl rfl rfl ⟨rfl, rfl, rfl, rfl, rfl⟩ rfl rfl rfl rfl rfl (by kernel_rfl) Tryd.func7 (by kernel_rfl)
    (of_decide_eq_true (by kernel_rfl)) (by unfold Func.isWrapper; first | (rw [if_pos (by decide +kernel)]; kernel_rfl) | (rw [if_neg (by decide +kernel)]; exact ⟨rfl, rfl⟩))
    (fun os started H enc _ => lifted os started H enc)
theorem card : Rows.ZoneRemarksCardSaid :=
  Claim7.holds_tied_plain_at .later [] [.data, .pinned] true (true, "c8db116255ca7d8a9a063ea87309dbd31f94f59187fe20dbf876020a6bd752c6") false over (fun _ h => by cases h) (by kernel_rfl) (fun _ h => by cases h) zoneRemarks_row_tie rfl ⟨rfl, rfl⟩ (by kernel_rfl) rfl
    (fun f fn hf hfn => by
      obtain rfl : f = 7 := Option.some.inj ((show Tryd.prog.funcNamed "paronym/paronymlaw27.ZoneRemarks" = some 7 by kernel_rfl).symm.trans hf) |>.symm
      obtain rfl : fn = Tryd.f7 := (Option.some.inj (Tryd.func7.symm.trans hfn)).symm
      exact ⟨by kernel_rfl, fun j t ht => by
        rw [Tryd.params7] at ht
        have hm : t ∈ ([22] : List Nat) := by have := Array.mem_of_getElem? ht; simp at this ⊢; omega
        have hall : (([22] : List Nat).all fun u => !Tryd.prog.wantsStandIn u) = true := by kernel_rfl
        exact (show Tryd.prog.wantsStandIn t = false by simpa using List.all_eq_true.1 hall t hm)⟩)
    (by kernel_rfl)
#print axioms card
end Go.Proofs.YtdnfmilnkoocdaaDoor.zoneRemarks
namespace Go.Proofs.YtdnfmilnkoocdaaDoor
/-- The row, under a short name, for the claim. -/
theorem zoneRemarks_holds : Rows.ZoneRemarksCardSaid := zoneRemarks.card
end Go.Proofs.YtdnfmilnkoocdaaDoor
