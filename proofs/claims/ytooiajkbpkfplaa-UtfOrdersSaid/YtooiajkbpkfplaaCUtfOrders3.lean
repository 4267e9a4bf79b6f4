/- Part 3 of 3 of the proof of UtfOrders: Compare, Lower, Scalar, Ascii agree with the reference. For every input; no condition. -/
import Derived.Test.YtooiajkbpkfplaaCUtfOrders2
import Derived.Test.YtooiajkbpkfplaaCUtfOrders1
import Derived.Test.YtooiajkbpkfplaaRows
import Derived.WalkKit
import Derived.ProofKit
import Derived.OpenShut
import Derived.ShutString
import Derived.ChangeOld
import Derived.Below
import Derived.SizedLaws
import Derived.Test.YtooiajkbpkfplaaWSized

-- from Pdec2
/- Decode and the reference's Decode: a text of octets is scalars' octets and a rest with none ahead. -/
namespace Go.Proofs.Ytooiajkbpkfplaa.K
set_option linter.unusedVariables false
set_option linter.unusedSimpArgs false
open Go.RowKit Go.Proofs.YtooiajkbpkfplaaW.PrintWords Go.Proofs.YtooiajkbpkfplaaW.PrintMore Go.Proofs.Ytooiajkbpkfplaa.Q

theorem Ev.same {α : Type} {f : Nat → Option α} {r r' : α} (h : Ev f r) (h' : Ev f r') : r = r' := by
  obtain ⟨n, hn⟩ := h
  obtain ⟨m, hm⟩ := h'
  have a := hn (max n m) (by omega)
  have b := hm (max n m) (by omega)
  rw [a] at b
  exact Option.some.inj b
theorem oct_ahead {c d : Int} {m n : List Int} (hc : scalar c = true) (hd : scalar d = true) (ho : Oct (oct c ++ m)) (h : oct c ++ m = oct d ++ n) : c = d := by
  have a := next_hit hc ho
  have b := next_hit (c := d) (m := n) hd (h ▸ ho)
  rw [← h] at b
  exact congrArg Prod.fst (Ev.same a b)
theorem maxdec : ∀ (n : Nat) (l : List Int), l.length ≤ n → Oct l → ∃ s rest, s.all scalar = true ∧ l = enc s ++ rest ∧ Stuck rest := by
  intro n
  induction n with
  | zero =>
    intro l hl _
    refine ⟨[], l, rfl, by simp [enc], ?_⟩
    intro c m hs e
    have hc := (scalar_iff c).1 hs
    have := oct_len hc.1 hc.2.1
    have : l.length = (oct c ++ m).length := by rw [e]
    rw [List.length_append] at this
    omega
  | succ n ih =>
    intro l hl ho
    by_cases h : Stuck l
    · exact ⟨[], l, rfl, by simp [enc], h⟩
    · have : ∃ c m, scalar c = true ∧ l = oct c ++ m := by
        apply Classical.byContradiction
        intro q
        exact h fun c m hs e => q ⟨c, m, hs, e⟩
      obtain ⟨c, m, hs, rfl⟩ := this
      have hc := (scalar_iff c).1 hs
      have := oct_len hc.1 hc.2.1
      rw [List.length_append] at hl
      obtain ⟨s, rest, h1, rfl, h2⟩ := ih m (by omega) (fun x hx => ho x (List.mem_append_right _ hx))
      exact ⟨c :: s, rest, by rw [List.all_cons, hs, h1]; rfl, by rw [enc_cons, List.append_assoc], h2⟩
def places : Int → List Int → List (Int × Int)
  | _, [] => []
  | at_, c :: s => (at_, c) :: places (at_ + (oct c).length) s
theorem places_snd : ∀ (s : List Int) (at_ : Int), (places at_ s).map Prod.snd = s
  | [], _ => rfl
  | c :: s, at_ => by simp [places, places_snd s]
theorem places_len : ∀ (s : List Int) (at_ : Int), (places at_ s).length = s.length
  | [], _ => rfl
  | c :: s, at_ => by simp [places, places_len s]
theorem places_snoc : ∀ (s : List Int) (at_ : Int) (c : Int), places at_ (s ++ [c]) = places at_ s ++ [(at_ + (enc s).length, c)]
  | [], _, _ => by simp [places, enc]
  | d :: s, at_, c => by
    rw [List.cons_append, places, places, places_snoc s, enc_cons, List.length_append, List.cons_append]
    congr 3
    simp
    omega
theorem snoc_cases {α : Type} (l : List α) : l = [] ∨ ∃ m x, l = m ++ [x] := by
  cases h : l.reverse with
  | nil => left; simpa using h
  | cons x m => right; exact ⟨m.reverse, x, by rw [← List.reverse_reverse l, h]; simp⟩
theorem end_places {s : List Int} (h : s.all scalar = true) (hl : (enc s).length ≤ 1099511627776) : utf_Decode.end_ (places 0 s) = (enc s).length := by
  rcases snoc_cases s with rfl | ⟨m, c, rfl⟩
  · simp [places, enc, utf_Decode.end_]
  · rw [List.all_append, Bool.and_eq_true, List.all_cons, Bool.and_eq_true] at h
    have hc := (scalar_iff c).1 h.2.1
    rw [places_snoc, utf_Decode.end_snoc]
    simp only
    rw [oct_is hc.1 hc.2.1, enc_snoc, Option.getD_some]
    rw [enc_snoc] at hl
    rw [List.length_append] at hl ⊢
    rw [w64 (by omega) (by omega)]
    simp
theorem pts_ev {s rest : List Int} (hr : Stuck rest) (hrl : rest.length ≤ 1099511627776) : ∀ (d i : Nat), s.length - i = d → i ≤ s.length → s.all scalar = true → Oct (enc s ++ rest) → Ev (fun k => utf_Points.pts k (enc s ++ rest) ((enc (s.take i)).length : Int)) (places (enc (s.take i)).length (s.drop i)) := by
  intro d
  induction d with
  | zero =>
    intro i h1 h2 hs ho
    have : i = s.length := by omega
    subst this
    rw [List.take_length, List.drop_length]
    by_cases z : rest.length = 0
    · exact Ev.step (fun k => rfl) (Ev.neg (by rw [List.length_append]; omega) (Ev.now _))
    · refine Ev.step (fun k => rfl) (Ev.pos (by rw [List.length_append]; omega) (Ev.pos (by omega) ?_))
      rw [Int.toNat_natCast, List.drop_left]
      refine Ev.bind (next_miss (fun x hx => ho x (List.mem_append_right _ hx)) (by omega) hr) (Ev.pos rfl (Ev.now _))
  | succ d ih =>
    intro i h1 h2 hs ho
    have hi : i < s.length := by omega
    have hsi : scalar (rd s i) = true := by
      rw [List.all_eq_true] at hs
      exact hs _ (rd_mem (by omega) (by omega))
    have hc := (scalar_iff _).1 hsi
    have hol := oct_len hc.1 hc.2.1
    have e : enc s = enc (s.take i) ++ (oct (rd s i) ++ enc (s.drop (i + 1))) := by
      rw [← enc_cons, ← drop_cons s i hi, ← enc_append, List.take_append_drop]
    have hlen : (enc s ++ rest).length = (enc (s.take i)).length + (oct (rd s i)).length + (enc (s.drop (i + 1))).length + rest.length := by
      rw [e]; simp; omega
    refine Ev.step (fun k => rfl) (Ev.pos (by rw [hlen]; omega) (Ev.pos (by omega) ?_))
    have ed : (enc s ++ rest).drop (((enc (s.take i)).length : Int)).toNat = oct (rd s i) ++ (enc (s.drop (i + 1)) ++ rest) := by
      rw [Int.toNat_natCast]
      conv => lhs; rw [e]
      rw [List.append_assoc, List.drop_left, List.append_assoc]
    rw [ed]
    have ho2 : Oct (oct (rd s i) ++ (enc (s.drop (i + 1)) ++ rest)) := by
      rw [← ed]; exact ho.drop _
    refine Ev.bind (next_hit hsi ho2) (Ev.neg (by show ¬ (((oct (rd s i)).length : Int) = 0); omega) (Ev.pos (by show 0 < ((oct (rd s i)).length : Int) ∧ _ + ((oct (rd s i)).length : Int) ≤ _; omega) ?_))
    have en : ((enc (s.take i)).length : Int) + ((oct (rd s i)).length : Int) = (enc (s.take (i + 1))).length := by
      rw [take_snoc s i hi, enc_snoc, List.length_append]; simp
    have := ih (i + 1) (by omega) (by omega) hs ho
    rw [drop_cons s i hi, places, en]
    exact Ev.bind this (Ev.ret rfl)
theorem clone_is (l : List Int) (hl : l.length ≤ 1099511627776) : slices_Clone_byte_byte.f l = some l := by
  unfold slices_Clone_byte_byte.f
  simp
  omega
theorem Decode_ev {s rest : List Int} (hr : Stuck rest) (hs : s.all scalar = true) (ho : Oct (enc s ++ rest)) (hl : (enc s ++ rest).length ≤ 1099511627776) : Ev (fun k => utf_Decode.f k (enc s ++ rest)) (if rest.length = 0 then (s, 0, ((enc s).length : Int)) else ([], 10, ((enc s).length : Int))) := by
  unfold utf_Decode.f
  rw [List.length_append] at hl
  have el := enc_len hs
  refine Ev.bindS (clone_is _ (by rw [List.length_append]; omega)) ?_
  have := pts_ev hr (by omega) s.length 0 (by omega) (by omega) hs ho
  rw [List.take_zero, List.drop_zero] at this
  refine Ev.bind this (Ev.pos (by rw [places_len]; omega) ?_)
  have ep : utf_Decode.end_ (places ((enc []).length : Int) s) = (enc s).length := end_places hs (by omega)
  rw [ep, places_snd, List.length_append]
  by_cases z : rest.length = 0
  · rw [if_pos z]; exact Ev.neg (by omega) (Ev.ret rfl)
  · rw [if_neg z]; exact Ev.pos (by omega) (Ev.ret rfl)

/-! the reference's Next -/
def cand (l : List Int) : Nat → Int
  | 2 => (rd l 0 % 32) * 64 + rd l 1 % 64
  | 3 => ((rd l 0 % 16) * 64 + rd l 1 % 64) * 64 + rd l 2 % 64
  | 4 => (((rd l 0 % 8) * 64 + rd l 1 % 64) * 64 + rd l 2 % 64) * 64 + rd l 3 % 64
  | _ => rd l 0
theorem rn_step {l : List Int} {n : Int} {x : Int} {i : Nat} {r : Int × Int} (ho : Oct l) (hi : (i : Int) < n) (hl : i < l.length) (hi2 : i ≤ 1000) (h0 : 0 ≤ x) (h1 : x < 65536) (h : Ev (fun k => paronymref01_Next.l1 k (strOfNums l) n (x * 64 + rd l i % 64) ((i + 1 : Nat) : Int)) r) : Ev (fun k => paronymref01_Next.l1 k (strOfNums l) n x i) r := by
  have hb := ho.rd (i := (i : Int)) (by omega) (by omega)
  refine Ev.step (fun k => rfl) (Ev.pos hi (Ev.pos (by omega) (Ev.pos (by rw [size_str]; omega) ?_)))
  have e : wrap64 (wrap64 (x * 64) + Int.tmod (wrap64 (bt (strOfNums l) (i : Int))) 64) = x * 64 + rd l i % 64 := by
    rw [bt_str ho (by omega) (by omega), w64 (n := rd l i) (by omega) (by omega), Int.tmod_eq_emod_of_nonneg hb.1, w64 (n := x * 64) (by omega) (by omega), w64 (by omega) (by omega)]
  rw [e, w64 (n := (i : Int) + 1) (by omega) (by omega)]
  exact h
theorem rn_end {l : List Int} {n : Nat} {x : Int} {r : Int × Int} (ho : Oct l) (hn : n ≤ l.length) (hn2 : n ≤ 1000) (h : scalar x = true → oct x = l.take n → r = (x, (n : Int))) (g : (scalar x = true → oct x ≠ l.take n) → Ev (fun k => paronymref01_Next.l0 k (strOfNums l) ((n + 1 : Nat) : Int)) r) : Ev (fun k => paronymref01_Next.l1 k (strOfNums l) n x n) r := by
  have ew : wrap64 ((n : Int) + 1) = ((n + 1 : Nat) : Int) := w64 (by omega) (by omega)
  refine Ev.step (fun k => rfl) (Ev.neg (by omega) (Ev.bindS (refScalar_is x) ?_))
  by_cases hs : scalar x = true
  · have hc := (scalar_iff x).1 hs
    refine Ev.pos hs (Ev.bind (refOctets_ev hc.1 hc.2.1) (Ev.pos (by omega) (Ev.pos (by rw [size_str]; omega) ?_)))
    rw [extract_str, List.drop_zero, Int.toNat_natCast]
    by_cases q : oct x = l.take n
    · exact Ev.pos (by rw [q]) (Ev.ret (h hs q).symm)
    · refine Ev.neg ?_ ?_
      · rw [toList_eq_iff]
        exact fun e => q (str_inj (oct_oct hc.1 hc.2.1) (ho.take _) e)
      · rw [ew]; exact g fun _ => q
  · refine Ev.neg hs ?_
    rw [ew]; exact g fun e => absurd e hs
theorem rn_start {l : List Int} {n : Nat} {r : Int × Int} (ho : Oct l) (h1 : 1 ≤ n) (h4 : n ≤ 4) (hn : n ≤ l.length) (h : Ev (fun k => paronymref01_Next.l1 k (strOfNums l) n (cand l n) n) r) : Ev (fun k => paronymref01_Next.l0 k (strOfNums l) n) r := by
  have hb := ho.rd (i := 0) (by omega) (by omega)
  refine Ev.step (fun k => rfl) (Ev.pos (by omega) (Ev.step (fun k => rfl) (Ev.pos (by rw [size_str]; simp; omega) (Ev.pos (by rw [size_str]; omega) ?_))))
  rw [bt_str ho (by omega) (by omega), w64 (n := rd l 0) (by omega) (by omega)]
  have tm : ∀ m : Int, Int.tmod (rd l 0) m = rd l 0 % m := fun m => Int.tmod_eq_emod_of_nonneg hb.1
  have one : ((1 : Nat) : Int) = 1 := rfl
  by_cases e2 : n = 2
  · refine Ev.pos (by omega) (Ev.step (fun k => rfl) (Ev.neg (by omega) (Ev.step (fun k => rfl) (Ev.neg (by omega) (Ev.step (fun k => rfl) ?_)))))
    show Ev (fun k => paronymref01_Next.l1 k _ _ _ 1) _
    subst e2
    rw [tm, ← one]
    exact rn_step ho (by decide) (by omega) (by omega) (by omega) (by omega) h
  · by_cases e3 : n = 3
    · refine Ev.neg (by omega) (Ev.step (fun k => rfl) (Ev.pos (by omega) (Ev.step (fun k => rfl) (Ev.neg (by omega) (Ev.step (fun k => rfl) ?_)))))
      show Ev (fun k => paronymref01_Next.l1 k _ _ _ 1) _
      subst e3
      have hb1 := ho.rd (i := ((1 : Nat) : Int)) (by omega) (by omega)
      rw [tm, ← one]
      exact rn_step ho (by decide) (by omega) (by omega) (by omega) (by omega) (rn_step ho (by decide) (by omega) (by omega) (by omega) (by omega) h)
    · by_cases e4 : n = 4
      · refine Ev.neg (by omega) (Ev.step (fun k => rfl) (Ev.neg (by omega) (Ev.step (fun k => rfl) (Ev.pos (by omega) (Ev.step (fun k => rfl) ?_)))))
        show Ev (fun k => paronymref01_Next.l1 k _ _ _ 1) _
        subst e4
        have hb1 := ho.rd (i := ((1 : Nat) : Int)) (by omega) (by omega)
        have hb2 := ho.rd (i := ((1 + 1 : Nat) : Int)) (by omega) (by omega)
        rw [tm, ← one]
        exact rn_step ho (by decide) (by omega) (by omega) (by omega) (by omega) (rn_step ho (by decide) (by omega) (by omega) (by omega) (by omega) (rn_step ho (by decide) (by omega) (by omega) (by omega) (by omega) h))
      · refine Ev.neg (by omega) (Ev.step (fun k => rfl) (Ev.neg (by omega) (Ev.step (fun k => rfl) (Ev.neg (by omega) (Ev.step (fun k => rfl) ?_)))))
        show Ev (fun k => paronymref01_Next.l1 k _ _ _ 1) _
        have e1 : n = 1 := by omega
        subst e1
        exact h
theorem rn_over {l : List Int} {n : Nat} (h : 4 < n ∨ l.length < n) : Ev (fun k => paronymref01_Next.l0 k (strOfNums l) n) (0, 0) := by
  by_cases a : (n : Int) ≤ 4
  · have e : decide ((n : Int) ≤ ((strOfNums l).size : Int)) = false := by rw [size_str]; simp; omega
    exact Ev.step (fun k => rfl) (Ev.pos a (Ev.step (fun k => rfl) (Ev.neg (by rw [e]; decide) (Ev.now _))))
  · exact Ev.step (fun k => rfl) (Ev.neg a (Ev.step (fun k => rfl) (Ev.now _)))
theorem refNext_miss {l : List Int} (ho : Oct l) (hs : Stuck l) : Ev (fun k => paronymref01_Next.f k (strOfNums l)) (0, 0) := by
  have key : ∀ (d n : Nat), 5 - n = d → 1 ≤ n → Ev (fun k => paronymref01_Next.l0 k (strOfNums l) n) (0, 0) := by
    intro d
    induction d with
    | zero => intro n h1 h2; exact rn_over (.inl (by omega))
    | succ d ih =>
      intro n h1 h2
      by_cases q : l.length < n
      · exact rn_over (.inr q)
      · refine rn_start ho h2 (by omega) (by omega) (rn_end ho (by omega) (by omega) ?_ ?_)
        · intro a b
          exact absurd (by rw [b, List.take_append_drop]) (hs _ (l.drop n) a)
        · intro _
          exact ih (n + 1) (by omega) (by omega)
  exact key 4 1 rfl (by omega)
theorem cand_hit {c : Int} {m : List Int} (hs : scalar c = true) : cand (oct c ++ m) (oct c).length = c := by
  have hc := (scalar_iff c).1 hs
  by_cases a : c < 128
  · have e : oct c = [c] := if_pos a
    rw [e]; rfl
  · by_cases b : c < 2048
    · have e : oct c = [192 + c / 64, 128 + c % 64] := by unfold oct; rw [if_neg a, if_pos b]
      rw [e]
      show ((192 + c / 64) % 32) * 64 + (128 + c % 64) % 64 = c
      omega
    · by_cases d : c < 65536
      · have e : oct c = [224 + c / 4096, 128 + c / 64 % 64, 128 + c % 64] := by unfold oct; rw [if_neg a, if_neg b, if_pos d]
        rw [e]
        show (((224 + c / 4096) % 16) * 64 + (128 + c / 64 % 64) % 64) * 64 + (128 + c % 64) % 64 = c
        omega
      · have e : oct c = [240 + c / 262144, 128 + c / 4096 % 64, 128 + c / 64 % 64, 128 + c % 64] := by unfold oct; rw [if_neg a, if_neg b, if_neg d]
        rw [e]
        show ((((240 + c / 262144) % 8) * 64 + (128 + c / 4096 % 64) % 64) * 64 + (128 + c / 64 % 64) % 64) * 64 + (128 + c % 64) % 64 = c
        omega
theorem refNext_hit {c : Int} {m : List Int} (hs : scalar c = true) (ho : Oct (oct c ++ m)) : Ev (fun k => paronymref01_Next.f k (strOfNums (oct c ++ m))) (c, (oct c).length) := by
  have hc := (scalar_iff c).1 hs
  have hl := oct_len hc.1 hc.2.1
  have key : ∀ (d n : Nat), (oct c).length - n = d → 1 ≤ n → n ≤ (oct c).length → Ev (fun k => paronymref01_Next.l0 k (strOfNums (oct c ++ m)) n) (c, (oct c).length) := by
    intro d
    induction d with
    | zero =>
      intro n h1 h2 h3
      have e : n = (oct c).length := by omega
      subst e
      refine rn_start ho h2 (by omega) (by simp) ?_
      rw [cand_hit hs]
      refine rn_end ho (by simp) (by omega) (fun _ _ => rfl) ?_
      intro q
      exact absurd (by simp) (q hs)
    | succ d ih =>
      intro n h1 h2 h3
      refine rn_start ho h2 (by omega) (by rw [List.length_append]; omega) (rn_end ho (by rw [List.length_append]; omega) (by omega) ?_ ?_)
      · intro a b
        have hcand := (scalar_iff _).1 a
        have e : oct c ++ m = oct (cand (oct c ++ m) n) ++ (oct c ++ m).drop n := by rw [b, List.take_append_drop]
        have := oct_ahead hs a ho e
        rw [← this] at b
        have : (oct c).length = ((oct c ++ m).take n).length := by rw [← b]
        rw [List.length_take, List.length_append] at this
        omega
      · intro _
        exact ih (n + 1) (by omega) (by omega) (by omega)
  exact key _ 1 rfl (by omega) (by omega)
theorem refDecode_ev {s rest : List Int} (hr : Stuck rest) (hs : s.all scalar = true) (ho : Oct (enc s ++ rest)) (hl : (enc s ++ rest).length ≤ 1099511627776) : Ev (fun k => paronymref01_Decode.f k (strOfNums (enc s ++ rest))) (s, ((enc s).length : Int)) := by
  have hl' := hl
  rw [List.length_append] at hl
  have el := enc_len hs
  have key : ∀ (d i : Nat), s.length - i = d → i ≤ s.length → Ev (fun k => paronymref01_Decode.l0 k (strOfNums (enc s ++ rest)) (s.take i) ((enc (s.take i)).length : Int)) (s, ((enc s).length : Int)) := by
    intro d
    induction d with
    | zero =>
      intro i h1 h2
      have : i = s.length := by omega
      subst this
      rw [List.take_length]
      by_cases z : rest.length = 0
      · exact Ev.step (fun k => rfl) (Ev.neg (by rw [size_str, List.length_append]; omega) (Ev.now _))
      · refine Ev.step (fun k => rfl) (Ev.pos (by rw [size_str, List.length_append]; omega) (Ev.pos (by omega) (Ev.pos (by rw [size_str, List.length_append]; omega) ?_)))
        rw [extract_str, size_str, List.take_length, Int.toNat_natCast, List.drop_left]
        exact Ev.bind (refNext_miss (fun x hx => ho x (List.mem_append_right _ hx)) hr) (Ev.pos rfl (Ev.now _))
    | succ d ih =>
      intro i h1 h2
      have hi : i < s.length := by omega
      have hsi : scalar (rd s i) = true := by
        rw [List.all_eq_true] at hs
        exact hs _ (rd_mem (by omega) (by omega))
      have hc := (scalar_iff _).1 hsi
      have hol := oct_len hc.1 hc.2.1
      have e : enc s = enc (s.take i) ++ (oct (rd s i) ++ enc (s.drop (i + 1))) := by
        rw [← enc_cons, ← drop_cons s i hi, ← enc_append, List.take_append_drop]
      have hlen : (enc s ++ rest).length = (enc (s.take i)).length + (oct (rd s i)).length + (enc (s.drop (i + 1))).length + rest.length := by
        rw [e]; simp; omega
      refine Ev.step (fun k => rfl) (Ev.pos (by rw [size_str, hlen]; omega) (Ev.pos (by omega) (Ev.pos (by rw [size_str, hlen]; omega) ?_)))
      have ed : (enc s ++ rest).drop (enc (s.take i)).length = oct (rd s i) ++ (enc (s.drop (i + 1)) ++ rest) := by
        conv => lhs; rw [e]
        rw [List.append_assoc, List.drop_left, List.append_assoc]
      rw [extract_str, size_str, List.take_length, Int.toNat_natCast, ed]
      have ho2 : Oct (oct (rd s i) ++ (enc (s.drop (i + 1)) ++ rest)) := by
        rw [← ed]; exact ho.drop _
      refine Ev.bind (refNext_hit hsi ho2) (Ev.neg (by show ¬ (((oct (rd s i)).length : Int) = 0); omega) (Ev.pos (by rw [List.length_take]; omega) ?_))
      have en : wrap64 (((enc (s.take i)).length : Int) + ((oct (rd s i)).length : Int)) = (enc (s.take (i + 1))).length := by
        rw [take_snoc s i hi, enc_snoc, List.length_append, w64 (by omega) (by omega)]; simp
      have := ih (i + 1) (by omega) (by omega)
      rw [← take_snoc s i hi, en]
      exact this
  have := key s.length 0 (by omega) (by omega)
  rw [List.take_zero] at this
  exact this

end Go.Proofs.Ytooiajkbpkfplaa.K

-- from Pdec3
/- UTF: what the laws need at once. -/
namespace Go.Proofs.Ytooiajkbpkfplaa.K
set_option linter.unusedVariables false
set_option linter.unusedSimpArgs false
open Go.RowKit Go.Proofs.YtooiajkbpkfplaaW.PrintWords Go.Proofs.YtooiajkbpkfplaaW.PrintMore Go.Proofs.Ytooiajkbpkfplaa.Q

theorem stuck_nil : Stuck [] := by
  intro c m hs e
  have hc := (scalar_iff c).1 hs
  have := oct_len hc.1 hc.2.1
  have : ([] : List Int).length = (oct c ++ m).length := by rw [← e]
  rw [List.length_append, List.length_nil] at this
  omega
theorem Decode_enc {s : List Int} (hs : s.all scalar = true) (hl : s.length ≤ 1048576) : Ev (fun k => utf_Decode.f k (enc s)) (s, 0, ((enc s).length : Int)) := by
  have h := enc_len hs
  have := Decode_ev (s := s) (rest := []) stuck_nil hs (by rw [List.append_nil]; exact enc_oct hs) (by rw [List.append_nil]; omega)
  rw [List.append_nil, if_pos (c := ([] : List Int).length = 0) rfl] at this
  exact this
theorem all_append_scalar (s t : List Int) : (s ++ t).all scalar = (s.all scalar && t.all scalar) := List.all_append
end Go.Proofs.Ytooiajkbpkfplaa.K

-- from PureUtfOrders
/- UtfOrders: for every input. -/
namespace Go.Proofs.Ytooiajkbpkfplaa.Pure
set_option linter.unusedVariables false
set_option linter.unusedSimpArgs false
open Go.RowKit Go.Proofs.Ytooiajkbpkfplaa.Q Go.Proofs.YtooiajkbpkfplaaW.PrintWords Go.Proofs.YtooiajkbpkfplaaW.PrintLast Go.Proofs.Ytooiajkbpkfplaa.K

theorem cmp_is (x y : Int) : cmp_Compare_int.f x y = some (if x < y then -1 else if x > y then 1 else 0) := by
  unfold cmp_Compare_int.f cmp_isNaN_int.f
  simp
  by_cases a : x < y
  · simp [a]
  · by_cases b : y < x <;> simp [a, b]
theorem Compare_ev (l m : List Int) (hl : l.length ≤ 1099511627776) (hm : m.length ≤ 1099511627776) : Ev (fun k => utf_Compare.f k l m) (cmpL l m) := by
  have key : ∀ (d i : Nat), l.length - i = d → i ≤ l.length → i ≤ m.length → Ev (fun k => slices_Compare_int_int.l0 k l m l l.length i) (cmpL (l.drop i) (m.drop i)) := by
    intro d
    induction d with
    | zero =>
      intro i h1 h2 h3
      have : i = l.length := by omega
      subst this
      refine Ev.step (fun k => rfl) (Ev.neg (by omega) ?_)
      rw [List.drop_length]
      by_cases a : l.length < m.length
      · rw [drop_cons m _ a]
        exact Ev.pos (by omega) (Ev.ret rfl)
      · rw [List.drop_of_length_le (by omega)]
        exact Ev.neg (by omega) (Ev.ret rfl)
    | succ d ih =>
      intro i h1 h2 h3
      have hi : i < l.length := by omega
      refine Ev.step (fun k => rfl) (Ev.pos (by omega) (Ev.pos (by omega) (Ev.pos (by omega) ?_)))
      rw [drop_cons l i hi]
      by_cases a : i < m.length
      · refine Ev.neg (by omega) (Ev.pos (by omega) (Ev.bindS (cmp_is _ _) ?_))
        rw [drop_cons m i a]
        unfold cmpL
        by_cases b : rd l i < rd m i
        · rw [if_pos b]
          exact Ev.neg (by decide) (Ev.ret (if_pos b).symm)
        · rw [if_neg b]
          rw [show (if rd l i < rd m i then (-1 : Int) else if rd l i > rd m i then 1 else cmpL (l.drop (i + 1)) (m.drop (i + 1))) = (if rd l i > rd m i then 1 else cmpL (l.drop (i + 1)) (m.drop (i + 1))) from if_neg b]
          by_cases e : rd l i > rd m i
          · rw [if_pos e]
            exact Ev.neg (by decide) (Ev.ret (if_pos e).symm)
          · rw [if_neg e]
            rw [show (if rd l i > rd m i then (1 : Int) else cmpL (l.drop (i + 1)) (m.drop (i + 1))) = cmpL (l.drop (i + 1)) (m.drop (i + 1)) from if_neg e]
            refine Ev.pos rfl ?_
            rw [w64 (by omega) (by omega)]
            exact ih (i + 1) (by omega) (by omega) (by omega)
      · rw [show m.drop i = [] from List.drop_of_length_le (by omega)]
        exact Ev.pos (by omega) (Ev.ret rfl)
  have := key l.length 0 (by omega) (by omega) (by omega)
  unfold utf_Compare.f slices_Compare_int_int.f
  exact Ev.bind this (Ev.ret rfl)
theorem cmpL_turn : ∀ (l m : List Int), cmpL m l = wrap64 (-cmpL l m)
  | [], [] => by simp only [cmpL]; decide +kernel
  | [], _ :: _ => by simp only [cmpL]; decide +kernel
  | _ :: _, [] => by simp only [cmpL]; decide +kernel
  | x :: l, y :: m => by
    have e : cmpL (y :: m) (x :: l) = if y < x then -1 else if x < y then 1 else cmpL m l := rfl
    have e2 : cmpL (x :: l) (y :: m) = if x < y then -1 else if y < x then 1 else cmpL l m := rfl
    rw [e, e2, cmpL_turn l m]
    by_cases a : x < y
    · rw [if_neg (show ¬ y < x by omega), if_pos a, if_pos a]; decide +kernel
    · rw [if_neg a, if_neg a]
      by_cases b : y < x
      · rw [if_pos b, if_pos b]; decide +kernel
      · rw [if_neg b, if_neg b]
def odd (c : Int) : Bool := decide (c < 0) || decide (c > 127)
theorem ascii1_is (c : Int) : utf_Ascii_1.f c = some (odd c) := by
  unfold utf_Ascii_1.f odd
  by_cases a : c < 0 <;> simp [a]
theorem Ascii_ev (l : List Int) (hl : l.length ≤ 1099511627776) : Ev (fun k => utf_Ascii.f k l) (!l.any odd) := by
  unfold utf_Ascii.f slices_ContainsFunc_int_int_at_utf_Ascii_1.f slices_IndexFunc_int_int_at_utf_Ascii_1.f
  exact Ev.bind (contains_ev (p := utf_Ascii_1.f) (q := odd) (fun k x n i => rfl) l (by omega) (fun y _ => ascii1_is y)) (Ev.now _)
theorem refAscii_ev (l : List Int) (hl : l.length ≤ 1099511627776) : Ev (fun k => paronymref01_Ascii.f k l) (!l.any odd) := by
  have key : ∀ (d i : Nat), l.length - i = d → i ≤ l.length → Ev (fun k => paronymref01_Ascii.l0 k l i) (!(l.drop i).any odd) := by
    intro d
    induction d with
    | zero =>
      intro i h1 h2
      have : i = l.length := by omega
      subst this
      rw [List.drop_length]
      exact Ev.step (fun k => rfl) (Ev.neg (by omega) (Ev.now _))
    | succ d ih =>
      intro i h1 h2
      have hi : i < l.length := by omega
      rw [drop_cons l i hi, List.any_cons]
      refine Ev.step (fun k => rfl) (Ev.pos (by omega) (Ev.pos (by omega) ?_))
      by_cases a : rd l i < 0
      · exact Ev.pos a (Ev.ret (by simp [odd, a]))
      · refine Ev.neg a ?_
        by_cases b : rd l i > 127
        · exact Ev.pos b (Ev.ret (by unfold odd; rw [decide_eq_true b]; simp))
        · refine Ev.neg b ?_
          have e : odd (rd l i) = false := by unfold odd; rw [decide_eq_false a, decide_eq_false b]; rfl
          rw [e, Bool.false_or, w64 (by omega) (by omega)]
          exact ih (i + 1) (by omega) (by omega)
  have := key l.length 0 (by omega) (by omega)
  unfold paronymref01_Ascii.f
  exact this

theorem UtfOrders : paronymlaw01_UtfOrders.Pure := by
  intro s t a _ _ _ _ _ _ _
  apply Ev.rounds
  unfold paronymlaw01_UtfOrders.f
  refine Ev.bind awake01_ev (Ev.pos rfl ?_)
  have big : ∀ z : Bool, z = true → Ev (fun k => paronymlaw01_UtfOrders.j0 k s t a z) true := fun z hz => Ev.step (fun k => rfl) (Ev.pos hz (Ev.bind awake01_ev (Ev.now _)))
  by_cases c1 : (s.length : Int) > 100
  · exact Ev.pos c1 (big _ rfl)
  refine Ev.neg c1 ?_
  generalize hz : decide ((t.length : Int) > 100) = z
  by_cases c : z = true
  · exact big z c
  refine Ev.step (fun k => rfl) (Ev.neg c ?_)
  rw [← hz, decide_eq_true_eq] at c
  clear hz z big
  have c0 := Compare_ev s t (by omega) (by omega)
  have low : utf_Lower.f a = paronymref01_Lower.f a := rfl
  have lows : ∃ v, utf_Lower.f a = some v := by
    unfold utf_Lower.f
    split
    · split <;> exact ⟨_, rfl⟩
    · exact ⟨_, rfl⟩
  obtain ⟨v, hv⟩ := lows
  refine Ev.bind c0 (Ev.bind (refCompare_ev s t (by omega) (by omega)) (Ev.pos rfl (Ev.bind (Compare_ev t s (by omega) (by omega)) (Ev.bind c0 (Ev.pos (cmpL_turn s t) ?_)))))
  refine Ev.bindS hv (Ev.bindS (low ▸ hv) (Ev.pos rfl (Ev.bindS (utf_Scalar_is a) (Ev.bindS (refScalar_is a) (Ev.pos (by simp) ?_)))))
  exact Ev.bind (Ascii_ev s (by omega)) (Ev.bind (refAscii_ev s (by omega)) (Ev.ret (by simp)))

end Go.Proofs.Ytooiajkbpkfplaa.Pure

-- from LawUtfOrders
-- Made by hp.py, a program of this session, with the kit's printer. Not trusted: Lean checks it.
namespace Go.Proofs.Ytooiajkbpkfplaa.utfOrders
open Go.ChangeShapes Go.WideShapes Go.ChangeAt Go.RowKit
open Go.ChangeMaps (open_string shut_string)
set_option linter.unusedVariables false
theorem own : ownKnob Try.prog.godebug = none := by kernel_rfl
theorem laidOut : laidOutB Try.prog = true := by kernel_rfl
def IsRow (k : IntKind) (w : World) (a : Option Addr) (len cap : Nat) (zs : List Int) : Prop :=
  (a = none ∧ len = 0 ∧ cap = 0 ∧ zs = []) ∨
  ∃ x, a = some x ∧ len ≤ cap ∧ cap ≤ maxLen ∧ zs.length = cap ∧ (∀ i, i < zs.length → w.cell? (x.add i) = some (.int k (zs.getD i 0))) ∧ ∀ n ∈ zs, (Lit.int k n).wf = true
set_option maxRecDepth 100000 in
theorem lifted (os : Os) (started : os.Started) (H : Type) (enc : TypeId × Value → H) :
    ReturnsInHanded {} Try.checked os 11 .any (Rows.utfOrdersSpec.pre6 enc Try.prog Try.f11 Rows.utfOrdersRow.domain false) (Rows.utfOrdersSpec.post enc Try.prog Try.f11 false true false false) := by
  refine returnsInHanded_of_change_sized (C := Try.checked) own started (by kernel_rfl) Try.func11
    (ChangeSpec.witness6 (enc := enc) (C := Try.checked) false ⟨#[], #[.slice none 0 0, .slice none 0 0, .int .i64 0], []⟩ 8 (by kernel_rfl) (by kernel_rfl) (by kernel_rfl) (by kernel_rfl)) ?_
  intro W base args ds gs before hval0 hW hcnd hsz0 _
  have hsz : (DataW.weightsEach Try.prog (Try.f11.params.toList ++ Rows.utfOrdersSpec.plain.varTypes Try.prog) (ds ++ gs)).all (· ≤ reachBytes) = true := hsz0
  have hval : ∀ (j : Nat) t v, Try.f11.params[j]? = some t → args[j]? = some v → Value.okWide Try.prog W .any base t v := hval0
  have hW' := hW
  obtain ⟨p, q, hA0, hV, rfl, hfz, hnd⟩ := hW
  have hA : DataW.TrodAll enc Try.prog W 0 (fun _ => true) true Try.f11.params.toList args.toList ds p := hA0
  rw [Try.params11] at hA hval hsz
  obtain ⟨v0, vs0, d0, ds0, p0, q0, hargs, rfl, rfl, h0, r0⟩ := trodAll_cons hA
  obtain ⟨v1, vs1, d1, ds1, p1, q1, rfl, rfl, rfl, h1, r1⟩ := trodAll_cons r0
  obtain ⟨v2, vs2, d2, ds2, p2, q2, rfl, rfl, rfl, h2, r2⟩ := trodAll_cons r1
  obtain ⟨rfl, rfl, rfl⟩ := trodAll_nil r2
  obtain rfl : args = #[v0, v1, v2] := by cases args; simp_all
  obtain ⟨rfl, rfl⟩ := trodVars_none hV
  obtain ⟨a0, len0, cap0, rfl⟩ := okWide_slice Try.underlying31 (hval 0 31 v0 rfl rfl)
  have k0 := h0
  have lt0 : ∀ x ∈ p0, x.block < W.heap.size := by obtain ⟨m, hm⟩ := k0; exact DataW.trod_lt m _ _ _ hm
  obtain ⟨z0, w0⟩ : ∃ zs, IsRow .i64 W a0 len0 cap0 zs := by
    obtain ⟨fuel, hf⟩ := h0
    rcases open_ints Try.underlying31 Try.underlying3 (by kernel_rfl) hf with ⟨hcs, _⟩ | ⟨x, l, c, zs, hcs, _, hl, hm, hz, _, hcell, hwz⟩
    · simp [Value.cells] at hcs
      obtain ⟨rfl, rfl, rfl⟩ := hcs
      exact ⟨[], .inl ⟨rfl, rfl, rfl, rfl⟩⟩
    · simp [Value.cells] at hcs
      obtain ⟨rfl, rfl, rfl⟩ := hcs
      exact ⟨zs, .inr ⟨_, rfl, hl, hm, by simpa using hz, hcell, hwz⟩⟩
  have y0 : len0 * 8 ≤ 140737488351232 := Go.Proofs.YtooiajkbpkfplaaW.PrintWords.sized_ints hsz (j := 0) (t := 31) rfl rfl Try.underlying31 Try.underlying3 (by kernel_rfl) (by kernel_rfl) h0
  obtain ⟨a1, len1, cap1, rfl⟩ := okWide_slice Try.underlying31 (hval 1 31 v1 rfl rfl)
  have k1 := h1
  have lt1 : ∀ x ∈ p1, x.block < W.heap.size := by obtain ⟨m, hm⟩ := k1; exact DataW.trod_lt m _ _ _ hm
  obtain ⟨z1, w1⟩ : ∃ zs, IsRow .i64 W a1 len1 cap1 zs := by
    obtain ⟨fuel, hf⟩ := h1
    rcases open_ints Try.underlying31 Try.underlying3 (by kernel_rfl) hf with ⟨hcs, _⟩ | ⟨x, l, c, zs, hcs, _, hl, hm, hz, _, hcell, hwz⟩
    · simp [Value.cells] at hcs
      obtain ⟨rfl, rfl, rfl⟩ := hcs
      exact ⟨[], .inl ⟨rfl, rfl, rfl, rfl⟩⟩
    · simp [Value.cells] at hcs
      obtain ⟨rfl, rfl, rfl⟩ := hcs
      exact ⟨zs, .inr ⟨_, rfl, hl, hm, by simpa using hz, hcell, hwz⟩⟩
  have y1 : len1 * 8 ≤ 140737488351232 := Go.Proofs.YtooiajkbpkfplaaW.PrintWords.sized_ints hsz (j := 1) (t := 31) rfl rfl Try.underlying31 Try.underlying3 (by kernel_rfl) (by kernel_rfl) h1
  obtain ⟨a2, rfl, rfl, rfl, w2⟩ := open_int Try.underlying3 (hval 2 3 v2 rfl rfl) h2
  clear hA0 hval0 hsz0 hsz
  refine (Q.paronymlaw01_UtfOrders.walk Pure.UtfOrders a0 len0 cap0 z0 a1 len1 cap1 z1 a2 W w0 y0 w1 y1 w2).mono fun e W' ⟨he, bel⟩ => ?_
  subst he
  exact ⟨_, rfl, _, _, _, [], _, [], hW', trodAll_mk1 (shut_bool Try.underlying4 _), (trodAll_cons_mk (Below.trod laidOut (by kernel_rfl) (of_decide_eq_true (by kernel_rfl)) k0 bel lt0) (trodAll_cons_mk (Below.trod laidOut (by kernel_rfl) (of_decide_eq_true (by kernel_rfl)) k1 bel lt1) (trodAll_cons_mk (shut_int Try.underlying3 w2) trodAll_mk0))), rfl, bel.frame _, fun h => by cases h⟩
theorem over : Rows.utfOrdersRow.holds Try.pinned (OpenSpec.ofChange Rows.utfOrdersSpec) :=
  OpenClaim.holds_of_wide 11 Try.f11 rfl rfl rfl rfl rfl rfl rfl ⟨rfl, rfl, rfl, rfl, rfl⟩ rfl rfl rfl rfl rfl (by kernel_rfl) Try.func11 (by kernel_rfl)
    (of_decide_eq_true (by kernel_rfl)) (by unfold Func.isWrapper; first | (rw [if_pos (by decide +kernel)]; kernel_rfl) | (rw [if_neg (by decide +kernel)]; exact ⟨rfl, rfl⟩))
    (fun os started H enc _ => lifted os started H enc)
theorem proved : Rows.UtfOrdersSaid := over
#print axioms proved
end Go.Proofs.Ytooiajkbpkfplaa.utfOrders
namespace Go.Proofs.Ytooiajkbpkfplaa
/-- The row, under a short name, for the claim. -/
theorem utfOrders_holds : Rows.UtfOrdersSaid := utfOrders.proved
end Go.Proofs.Ytooiajkbpkfplaa
