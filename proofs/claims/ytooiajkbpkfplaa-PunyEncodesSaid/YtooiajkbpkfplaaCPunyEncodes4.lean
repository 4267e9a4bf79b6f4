/- Part 4 of 4 of the proof of PunyEncodes: PunyEncodes: a text's form For every input; no condition. -/
import Derived.Test.YtooiajkbpkfplaaCPunyEncodes2
import Derived.Test.YtooiajkbpkfplaaCPunyEncodes3
import Derived.Test.YtooiajkbpkfplaaCPunyEncodes1
import Derived.Test.YtooiajkbpkfplaaRows
import Derived.WalkKit
import Derived.ProofKit
import Derived.OpenShut
import Derived.ShutString
import Derived.ChangeOld
import Derived.Below
import Derived.SizedLaws
import Derived.Test.YtooiajkbpkfplaaWSized

-- from Putf
/- UTF-8 on lists of numbers: oct c are a scalar's octets; what the program's and the reference's Octets, Encode, next come to. -/
namespace Go.Proofs.Ytooiajkbpkfplaa.K
set_option linter.unusedVariables false
set_option linter.unusedSimpArgs false
open Go.RowKit Go.Proofs.YtooiajkbpkfplaaW.PrintWords Go.Proofs.YtooiajkbpkfplaaW.PrintMore Go.Proofs.Ytooiajkbpkfplaa.Q

theorem wraps_i64 (n : Int) (h₀ : 0 ≤ n) (h₁ : n < 2 ^ 40) : IntKind.i64.wrap n = n := by rw [IntKind.wrap_i64]; omega
theorem and63 {x : Int} (h0 : 0 ≤ x) (h1 : x < 1099511627776) : Go.bits .and .i64 x 63 = x % 64 := bits_mask .i64 40 (by decide) wraps_i64 6 (by decide) x h0 h1
theorem or_join {x y : Int} (i : Nat) (hx0 : 0 ≤ x) (hx : x % 2 ^ i = 0) (hx1 : x < 1099511627776) (hy0 : 0 ≤ y) (hy : y < 2 ^ i) (hy1 : y < 1099511627776) : Go.bits .or .i64 x y = x + y := bits_join .i64 40 (by decide) wraps_i64 i x y hx0 hx hx1 hy0 hy hy1
theorem or128 {y : Int} (h0 : 0 ≤ y) (h1 : y < 64) : Go.bits .or .i64 128 y = 128 + y := or_join 6 (by decide) (by decide) (by decide) h0 h1 (by omega)
theorem or192 {y : Int} (h0 : 0 ≤ y) (h1 : y < 32) : Go.bits .or .i64 192 y = 192 + y := or_join 5 (by decide) (by decide) (by decide) h0 h1 (by omega)
theorem or224 {y : Int} (h0 : 0 ≤ y) (h1 : y < 16) : Go.bits .or .i64 224 y = 224 + y := or_join 4 (by decide) (by decide) (by decide) h0 h1 (by omega)
theorem or240 {y : Int} (h0 : 0 ≤ y) (h1 : y < 8) : Go.bits .or .i64 240 y = 240 + y := or_join 3 (by decide) (by decide) (by decide) h0 h1 (by omega)
def oct (c : Int) : List Int :=
  if c < 128 then [c] else if c < 2048 then [192 + c / 64, 128 + c % 64] else if c < 65536 then [224 + c / 4096, 128 + c / 64 % 64, 128 + c % 64] else [240 + c / 262144, 128 + c / 4096 % 64, 128 + c / 64 % 64, 128 + c % 64]
theorem scalar_iff (c : Int) : scalar c = true ↔ 0 ≤ c ∧ c ≤ 1114111 ∧ (c < 55296 ∨ 57343 < c) := by
  unfold scalar
  simp [Bool.and_eq_true, Bool.or_eq_true]
theorem oct_is {c : Int} (h0 : 0 ≤ c) (h1 : c ≤ 1114111) : utf_octets.f c = some (oct c) := by
  unfold utf_octets.f oct
  by_cases a : c < 128
  · rw [if_pos a, if_pos a]
    have : c % 256 = c := by omega
    rw [this]
  · rw [if_neg a, if_neg a]
    by_cases b : c < 2048
    · rw [if_pos b, if_pos b, and63 (by omega) (by omega), or192 (by omega) (by omega), or128 (by omega) (by omega)]
      have e1 : (192 + c / 64) % 256 = 192 + c / 64 := by omega
      have e2 : (128 + c % 64) % 256 = 128 + c % 64 := by omega
      rw [e1, e2]
    · rw [if_neg b, if_neg b]
      by_cases d : c < 65536
      · rw [if_pos d, if_pos d, and63 (by omega) (by omega), and63 (by omega) (by omega), or224 (by omega) (by omega), or128 (by omega) (by omega), or128 (by omega) (by omega)]
        have e1 : (224 + c / 4096) % 256 = 224 + c / 4096 := by omega
        have e2 : (128 + c / 64 % 64) % 256 = 128 + c / 64 % 64 := by omega
        have e3 : (128 + c % 64) % 256 = 128 + c % 64 := by omega
        rw [e1, e2, e3]
      · rw [if_neg d, if_neg d, and63 (by omega) (by omega), and63 (by omega) (by omega), and63 (by omega) (by omega), or240 (by omega) (by omega), or128 (by omega) (by omega), or128 (by omega) (by omega), or128 (by omega) (by omega)]
        have e1 : (240 + c / 262144) % 256 = 240 + c / 262144 := by omega
        have e2 : (128 + c / 4096 % 64) % 256 = 128 + c / 4096 % 64 := by omega
        have e3 : (128 + c / 64 % 64) % 256 = 128 + c / 64 % 64 := by omega
        have e4 : (128 + c % 64) % 256 = 128 + c % 64 := by omega
        rw [e1, e2, e3, e4]
theorem oct_oct {c : Int} (h0 : 0 ≤ c) (h1 : c ≤ 1114111) : Oct (oct c) := by
  intro x hx
  unfold oct at hx
  split at hx
  · simp at hx; omega
  · split at hx
    · simp at hx; omega
    · split at hx
      · simp at hx; omega
      · simp at hx; omega
theorem oct_len {c : Int} (h0 : 0 ≤ c) (h1 : c ≤ 1114111) : 1 ≤ (oct c).length ∧ (oct c).length ≤ 4 := by
  unfold oct
  split
  · simp
  · split
    · simp
    · split <;> simp

/-! the reference's Octets -/
theorem refOctets_ev {c : Int} (h0 : 0 ≤ c) (h1 : c ≤ 1114111) : Ev (fun k => paronymref01_Octets.f k c) (strOfNums (oct c)) := by
  unfold paronymref01_Octets.f oct
  have nil : (⟨#[]⟩ : ByteArray) = strOfNums [] := rfl
  have td : ∀ x : Int, 0 ≤ x → Int.tdiv x 64 = x / 64 := fun x hx => Int.tdiv_eq_ediv_of_nonneg hx
  have tm : ∀ x : Int, 0 ≤ x → Int.tmod x 64 = x % 64 := fun x hx => Int.tmod_eq_emod_of_nonneg hx
  have t2 : ∀ x : Int, 0 ≤ x → Int.tdiv x 2 = x / 2 := fun x hx => Int.tdiv_eq_ediv_of_nonneg hx
  by_cases a : c < 128
  · refine Ev.pos a (Ev.ret ?_)
    rw [if_pos a]
    have : c % 256 = c := by omega
    rw [this]
  · refine Ev.neg a ?_
    rw [if_neg a, nil]
    have e0 : wrap64 (128 + Int.tmod c 64) % 256 = 128 + c % 64 := by rw [tm c h0, w64 (by omega) (by omega)]; omega
    have d0 : wrap64 (Int.tdiv c 64) = c / 64 := by rw [td c h0, w64 (by omega) (by omega)]
    refine Ev.step (fun k => rfl) (Ev.pos (by omega) (Ev.bindS rfl (Ev.pos (by simp [size_str]) (Ev.pos rfl ?_))))
    rw [e0, d0, str_append]
    by_cases b : c < 2048
    · rw [if_pos b]
      refine Ev.step (fun k => rfl) (Ev.neg (by omega) (Ev.bindS rfl (Ev.pos (by simp [size_str]) (Ev.ret ?_))))
      have : wrap64 (192 + c / 64) % 256 = 192 + c / 64 := by rw [w64 (by omega) (by omega)]; omega
      rw [this, str_append]; rfl
    · rw [if_neg b]
      have e1 : wrap64 (128 + Int.tmod (c / 64) 64) % 256 = 128 + c / 64 % 64 := by rw [tm _ (by omega), w64 (by omega) (by omega)]; omega
      have d1 : wrap64 (Int.tdiv (c / 64) 64) = c / 4096 := by rw [td _ (by omega), w64 (by omega) (by omega)]; omega
      have l1 : wrap64 (Int.tdiv 32 2) = 16 := by decide +kernel
      have f1 : wrap64 (192 + 32) = 224 := by decide +kernel
      refine Ev.step (fun k => rfl) (Ev.pos (by omega) (Ev.bindS rfl (Ev.pos (by simp [size_str]) (Ev.neg (by decide) ?_))))
      rw [e1, d1, l1, f1, str_append]
      by_cases d : c < 65536
      · rw [if_pos d]
        refine Ev.step (fun k => rfl) (Ev.neg (by omega) (Ev.bindS rfl (Ev.pos (by simp [size_str]) (Ev.ret ?_))))
        have : wrap64 (224 + c / 4096) % 256 = 224 + c / 4096 := by rw [w64 (by omega) (by omega)]; omega
        rw [this, str_append]; rfl
      · rw [if_neg d]
        have e2 : wrap64 (128 + Int.tmod (c / 4096) 64) % 256 = 128 + c / 4096 % 64 := by rw [tm _ (by omega), w64 (by omega) (by omega)]; omega
        have d2 : wrap64 (Int.tdiv (c / 4096) 64) = c / 262144 := by rw [td _ (by omega), w64 (by omega) (by omega)]; omega
        have l2 : wrap64 (Int.tdiv 16 2) = 8 := by decide +kernel
        have f2 : wrap64 (224 + 16) = 240 := by decide +kernel
        refine Ev.step (fun k => rfl) (Ev.pos (by omega) (Ev.bindS rfl (Ev.pos (by simp [size_str]) (Ev.neg (by decide) ?_))))
        rw [e2, d2, l2, f2, str_append]
        refine Ev.step (fun k => rfl) (Ev.neg (by omega) (Ev.bindS rfl (Ev.pos (by simp [size_str]) (Ev.ret ?_))))
        have : wrap64 (240 + c / 262144) % 256 = 240 + c / 262144 := by rw [w64 (by omega) (by omega)]; omega
        rw [this, str_append]; rfl

/-! Encode -/
def enc (s : List Int) : List Int := (s.map oct).flatten
theorem enc_snoc (s : List Int) (c : Int) : enc (s ++ [c]) = enc s ++ oct c := by simp [enc]
theorem enc_append (s t : List Int) : enc (s ++ t) = enc s ++ enc t := by simp [enc]
theorem enc_cons (c : Int) (s : List Int) : enc (c :: s) = oct c ++ enc s := by simp [enc]
theorem enc_oct : ∀ {s : List Int}, s.all scalar = true → Oct (enc s)
  | [], _ => by intro x hx; simp [enc] at hx
  | c :: s, h => by
    rw [List.all_cons, Bool.and_eq_true] at h
    have hc := (scalar_iff c).1 h.1
    rw [enc_cons]
    exact (oct_oct hc.1 hc.2.1).append (enc_oct h.2)
theorem enc_len : ∀ {s : List Int}, s.all scalar = true → s.length ≤ (enc s).length ∧ (enc s).length ≤ 4 * s.length
  | [], _ => by simp [enc]
  | c :: s, h => by
    rw [List.all_cons, Bool.and_eq_true] at h
    have hc := (scalar_iff c).1 h.1
    have hl := oct_len hc.1 hc.2.1
    have ih := enc_len h.2
    rw [enc_cons, List.length_append, List.length_cons]
    omega
theorem take_all {s : List Int} (h : s.all scalar = true) (i : Nat) : (s.take i).all scalar = true := by
  rw [List.all_eq_true] at h ⊢
  exact fun x hx => h x (List.mem_of_mem_take hx)
theorem all_drop {s : List Int} (i : Nat) (hi : i < s.length) : (s.drop i).all scalar = (scalar (rd s i) && (s.drop (i + 1)).all scalar) := by
  rw [drop_cons s i hi, List.all_cons]
theorem Encode_ev (s : List Int) (hl : s.length ≤ 1048576) : Ev (fun k => utf_Encode.f k s) (if s.all scalar = true then (enc s, true) else ([], false)) := by
  have key : ∀ (d i : Nat), s.length - i = d → i ≤ s.length → (s.take i).all scalar = true → Ev (fun k => utf_Encode.l0 k (enc (s.take i)) s (s.length : Int) i) (if (s.drop i).all scalar = true then (enc s, true) else ([], false)) := by
    intro d
    induction d with
    | zero =>
      intro i h1 h2 h3
      have : i = s.length := by omega
      subst this
      refine Ev.step (fun k => rfl) (Ev.neg (by omega) (Ev.ret ?_))
      simp
    | succ d ih =>
      intro i h1 h2 h3
      have hi : i < s.length := by omega
      refine Ev.step (fun k => rfl) (Ev.pos (by omega) (Ev.pos (by omega) (Ev.pos (by omega) (Ev.bindS (utf_Scalar_is _) ?_))))
      rw [all_drop i hi]
      cases hs : scalar (rd s i) with
      | false => exact Ev.neg (by decide) (Ev.ret (by simp))
      | true =>
        have hc := (scalar_iff _).1 hs
        have hlen := (enc_len h3).2
        have htl : (s.take i).length ≤ 1048576 := by rw [List.length_take]; omega
        have hol := (oct_len hc.1 hc.2.1).2
        refine Ev.pos rfl (Ev.bindS (oct_is hc.1 hc.2.1) (Ev.pos (by omega) ?_))
        rw [← enc_snoc, ← take_snoc s i hi, w64 (by omega) (by omega)]
        have ht : (s.take (i + 1)).all scalar = true := by
          rw [take_snoc s i hi, List.all_append, h3]; simp [hs]
        have := ih (i + 1) (by omega) (by omega) ht
        simpa using this
  have := key s.length 0 (by omega) (by omega) (by simp)
  unfold utf_Encode.f
  simpa [enc] using this
theorem refScalar_is (c : Int) : paronymref01_Scalar.f c = some (scalar c) := utf_Scalar_is c
theorem refEncode_ev (s : List Int) (hl : s.length ≤ 1048576) : Ev (fun k => paronymref01_Encode.f k s) (if s.all scalar = true then (strOfNums (enc s), true) else (⟨#[]⟩, false)) := by
  have key : ∀ (d i : Nat), s.length - i = d → i ≤ s.length → (s.take i).all scalar = true → Ev (fun k => paronymref01_Encode.l0 k s (strOfNums (enc (s.take i))) i) (if (s.drop i).all scalar = true then (strOfNums (enc s), true) else (⟨#[]⟩, false)) := by
    intro d
    induction d with
    | zero =>
      intro i h1 h2 h3
      have : i = s.length := by omega
      subst this
      refine Ev.step (fun k => rfl) (Ev.neg (by omega) (Ev.ret ?_))
      simp
    | succ d ih =>
      intro i h1 h2 h3
      have hi : i < s.length := by omega
      refine Ev.step (fun k => rfl) (Ev.pos (by omega) (Ev.pos (by omega) (Ev.bindS (refScalar_is _) ?_)))
      rw [all_drop i hi]
      cases hs : scalar (rd s i) with
      | false => exact Ev.neg (by decide) (Ev.ret (by simp))
      | true =>
        have hc := (scalar_iff _).1 hs
        have hlen := (enc_len h3).2
        have htl : (s.take i).length ≤ 1048576 := by rw [List.length_take]; omega
        have hol := (oct_len hc.1 hc.2.1).2
        refine Ev.pos rfl (Ev.bind (refOctets_ev hc.1 hc.2.1) (Ev.pos (by rw [size_str, size_str]; omega) ?_))
        rw [str_append, ← enc_snoc, ← take_snoc s i hi, w64 (by omega) (by omega)]
        have ht : (s.take (i + 1)).all scalar = true := by
          rw [take_snoc s i hi, List.all_append, h3]; simp [hs]
        have := ih (i + 1) (by omega) (by omega) ht
        simpa using this
  have := key s.length 0 (by omega) (by omega) (by simp)
  unfold paronymref01_Encode.f
  rw [List.take_zero, List.drop_zero] at this
  exact this

/-! Compare, Same -/
def cmpL : List Int → List Int → Int
  | [], [] => 0
  | [], _ :: _ => -1
  | _ :: _, [] => 1
  | x :: l, y :: m => if x < y then -1 else if x > y then 1 else cmpL l m
theorem cmpL_zero : ∀ (l m : List Int), cmpL l m = 0 ↔ l = m
  | [], [] => by simp [cmpL]
  | [], _ :: _ => by simp [cmpL]
  | _ :: _, [] => by simp [cmpL]
  | x :: l, y :: m => by
    unfold cmpL
    by_cases a : x < y
    · rw [if_pos a]; simp; omega
    · rw [if_neg a]
      by_cases b : x > y
      · rw [if_pos b]; simp; omega
      · rw [if_neg b, cmpL_zero l m]
        have : x = y := by omega
        simp [this]
theorem refCompare_ev (l m : List Int) (hl : l.length ≤ 1099511627776) (hm : m.length ≤ 1099511627776) : Ev (fun k => paronymref01_Compare.f k l m) (cmpL l m) := by
  have key : ∀ (d i : Nat), l.length - i = d → i ≤ l.length → i ≤ m.length → Ev (fun k => paronymref01_Compare.l0 k l m i) (cmpL (l.drop i) (m.drop i)) := by
    have hend : ∀ i : Nat, i ≤ l.length → i ≤ m.length → (i = l.length ∨ i = m.length) → ∀ b : Bool, b = false → Ev (fun k => paronymref01_Compare.j1 k l m i b) (cmpL (l.drop i) (m.drop i)) := by
      intro i h1 h2 h3 b hb
      refine Ev.step (fun k => rfl) (Ev.neg (by simp [hb]) ?_)
      by_cases a : l.length < m.length
      · have e : i = l.length := by omega
        subst e
        rw [List.drop_length, drop_cons m l.length a]
        exact Ev.pos (by omega) (Ev.ret (by simp [cmpL]))
      · by_cases b : m.length < l.length
        · have e : i = m.length := by omega
          subst e
          rw [List.drop_length, drop_cons l m.length b]
          exact Ev.neg (by omega) (Ev.pos (by omega) (Ev.ret (by simp [cmpL])))
        · have e : i = l.length := by omega
          have e2 : i = m.length := by omega
          rw [List.drop_of_length_le (by omega), List.drop_of_length_le (by omega)]
          exact Ev.neg (by omega) (Ev.neg (by omega) (Ev.ret (by simp [cmpL])))
    intro d
    induction d with
    | zero =>
      intro i h1 h2 h3
      exact Ev.step (fun k => rfl) (Ev.neg (by omega) (hend i h2 h3 (.inl (by omega)) false rfl))
    | succ d ih =>
      intro i h1 h2 h3
      have hi : i < l.length := by omega
      refine Ev.step (fun k => rfl) (Ev.pos (by omega) ?_)
      by_cases a : i < m.length
      · have e : decide ((i : Int) < (m.length : Int)) = true := by simpa using a
        refine Ev.step (fun k => rfl) (Ev.pos e (Ev.pos (by omega) (Ev.pos (by omega) (Ev.pos (by omega) ?_))))
        rw [drop_cons l i hi, drop_cons m i a]
        unfold cmpL
        by_cases b : rd l i < rd m i
        · exact Ev.pos b (Ev.ret (if_pos b).symm)
        · refine Ev.neg b ?_
          rw [show (if rd l i < rd m i then (-1 : Int) else if rd l i > rd m i then 1 else cmpL (l.drop (i + 1)) (m.drop (i + 1))) = (if rd l i > rd m i then 1 else cmpL (l.drop (i + 1)) (m.drop (i + 1))) from if_neg b]
          by_cases c : rd l i > rd m i
          · exact Ev.pos c (Ev.ret (if_pos c).symm)
          · rw [show (if rd l i > rd m i then (1 : Int) else cmpL (l.drop (i + 1)) (m.drop (i + 1))) = cmpL (l.drop (i + 1)) (m.drop (i + 1)) from if_neg c]
            refine Ev.neg c ?_
            rw [w64 (by omega) (by omega)]
            exact ih (i + 1) (by omega) (by omega) (by omega)
      · have e : decide ((i : Int) < (m.length : Int)) = false := by simpa using a
        exact hend i h2 h3 (.inr (by omega)) _ e
  have := key l.length 0 (by omega) (by omega) (by omega)
  unfold paronymref01_Compare.f
  simpa using this
theorem refSame_ev (l m : List Int) (hl : l.length ≤ 1099511627776) (hm : m.length ≤ 1099511627776) : Ev (fun k => paronymref01_Same.f k l m) (decide (l = m)) := by
  unfold paronymref01_Same.f
  refine Ev.bind (refCompare_ev l m hl hm) (Ev.ret ?_)
  rw [Bool.eq_iff_iff]
  simp [cmpL_zero]

end Go.Proofs.Ytooiajkbpkfplaa.K

-- from PurePunyEncodes
/- PunyEncodes: for every input. -/
namespace Go.Proofs.Ytooiajkbpkfplaa.Pure
set_option linter.unusedVariables false
set_option linter.unusedSimpArgs false
open Go.RowKit Go.Proofs.Ytooiajkbpkfplaa.Q Go.Proofs.YtooiajkbpkfplaaW.PrintWords Go.Proofs.YtooiajkbpkfplaaW.PrintLast Go.Proofs.Ytooiajkbpkfplaa.K

theorem PunyEncodes : paronymlaw12_PunyEncodes.Pure := by
  intro s _ hsz _
  apply Ev.rounds
  have hmax : s.length ≤ 1099511627776 * 16 := by omega
  unfold paronymlaw12_PunyEncodes.f
  refine Ev.bind awake12_ev (Ev.pos rfl ?_)
  have yes : Ev (fun k => paronymlaw12_PunyEncodes.j0 k s true) true := Ev.step (fun k => rfl) (Ev.bind awake12_ev (Ev.now _))
  have go : s.length ≤ 150 ∨ s.length > 1000 → s.length ≤ 3000 → Ev (fun k => paronymlaw12_PunyEncodes.j0 k s false) true := by
    intro hl h3
    refine Ev.step (fun k => rfl) (Ev.bind (Encode12_ev (s := s) (by omega) (by omega)) (Ev.bind (refEncode12_ev (s := s) (by omega) (by omega)) (Ev.pos rfl ?_)))
    have e : ((strOfNums (encode12 s).1).toList != (strOfNums (encode12 s).1).toList) = false := by simp
    show Ev (fun k => paronymlaw12_PunyEncodes.j1 k s (encode12 s).1 (encode12 s).2 ((strOfNums (encode12 s).1).toList != (strOfNums (encode12 s).1).toList)) true
    rw [e]
    refine Ev.step (fun k => rfl) ?_
    unfold encode12
    by_cases c1 : (s.any fun c => !scalar c) = true
    · rw [if_pos c1]
      exact Ev.bind (Decode12_ev (fun x hx => absurd hx (by simp)) (by simp)) (Ev.neg (by simp) (Ev.now _))
    rw [if_neg c1]
    by_cases c2 : (s.length : Int) > 1000
    · rw [if_pos c2]
      exact Ev.bind (Decode12_ev (fun x hx => absurd hx (by simp)) (by simp)) (Ev.neg (by simp) (Ev.now _))
    rw [if_neg c2]
    have hs := all_of_any c1
    have hp := pform_le hs (by omega)
    have hd := decode_pform hs (by omega)
    refine Ev.bind (Decode12_ev (l := pform s) (fun x hx => by have := hp.2 x hx; omega) (by omega)) ?_
    rw [hd]
    exact Ev.pos rfl (Ev.pos rfl (Ev.bind (refSame_ev s s (by omega) (by omega)) (Ev.ret (by simp))))
  by_cases c1 : (s.length : Int) > 150
  · refine Ev.pos c1 ?_
    by_cases c2 : (s.length : Int) ≤ 1000
    · exact Ev.pos c2 yes
    · refine Ev.neg c2 ?_
      by_cases c3 : (s.length : Int) > 3000
      · rw [decide_eq_true c3]; exact yes
      · rw [decide_eq_false c3]; exact go (by omega) (by omega)
  · refine Ev.neg c1 ?_
    rw [decide_eq_false (by omega)]
    exact go (by omega) (by omega)

end Go.Proofs.Ytooiajkbpkfplaa.Pure

-- from LawPunyEncodes
-- Made by hp.py, a program of this session, with the kit's printer. Not trusted: Lean checks it.
namespace Go.Proofs.Ytooiajkbpkfplaa.punyEncodes
open Go.ChangeShapes Go.WideShapes Go.ChangeAt Go.RowKit
open Go.ChangeMaps (open_string shut_string)
set_option linter.unusedVariables false
theorem own : ownKnob Try.prog.godebug = none := by kernel_rfl
theorem laidOut : laidOutB Try.prog = true := by kernel_rfl
def IsRow (k : IntKind) (w : World) (a : Option Addr) (len cap : Nat) (zs : List Int) : Prop :=
  (a = none ∧ len = 0 ∧ cap = 0 ∧ zs = []) ∨
  ∃ x, a = some x ∧ len ≤ cap ∧ cap ≤ maxLen ∧ zs.length = cap ∧ (∀ i, i < zs.length → w.cell? (x.add i) = some (.int k (zs.getD i 0))) ∧ ∀ n ∈ zs, (Lit.int k n).wf = true
set_option maxRecDepth 100000 in
theorem lifted (os : Os) (started : os.Started) (H : Type) (enc : TypeId × Value → H) :
    ReturnsInHanded {} Try.checked os 12 .any (Rows.punyEncodesSpec.pre6 enc Try.prog Try.f12 Rows.punyEncodesRow.domain false) (Rows.punyEncodesSpec.post enc Try.prog Try.f12 false true false false) := by
  refine returnsInHanded_of_change_sized (C := Try.checked) own started (by kernel_rfl) Try.func12
    (ChangeSpec.witness6 (enc := enc) (C := Try.checked) false ⟨#[], #[.slice none 0 0], []⟩ 8 (by kernel_rfl) (by kernel_rfl) (by kernel_rfl) (by kernel_rfl)) ?_
  intro W base args ds gs before hval0 hW hcnd hsz0 _
  have hsz : (DataW.weightsEach Try.prog (Try.f12.params.toList ++ Rows.punyEncodesSpec.plain.varTypes Try.prog) (ds ++ gs)).all (· ≤ reachBytes) = true := hsz0
  have hval : ∀ (j : Nat) t v, Try.f12.params[j]? = some t → args[j]? = some v → Value.okWide Try.prog W .any base t v := hval0
  have hW' := hW
  obtain ⟨p, q, hA0, hV, rfl, hfz, hnd⟩ := hW
  have hA : DataW.TrodAll enc Try.prog W 0 (fun _ => true) true Try.f12.params.toList args.toList ds p := hA0
  rw [Try.params12] at hA hval hsz
  obtain ⟨v0, vs0, d0, ds0, p0, q0, hargs, rfl, rfl, h0, r0⟩ := trodAll_cons hA
  obtain ⟨rfl, rfl, rfl⟩ := trodAll_nil r0
  obtain rfl : args = #[v0] := by cases args; simp_all
  obtain ⟨rfl, rfl⟩ := trodVars_none hV
  obtain ⟨a0, len0, cap0, rfl⟩ := okWide_slice Try.underlying31 (hval 0 31 v0 rfl rfl)
  have k0 := h0
  have lt0 : ∀ x ∈ p0, x.block < W.heap.size := by obtain ⟨m, hm⟩ := k0; exact DataW.trod_lt m _ _ _ hm
  obtain ⟨z0, w0⟩ : ∃ zs, IsRow .i64 W a0 len0 cap0 zs := by
    obtain ⟨fuel, hf⟩ := h0
    rcases open_ints Try.underlying31 Try.underlying3 (by kernel_rfl) hf with ⟨hcs, _⟩ | ⟨x, l, c, zs, hcs, _, hl, hm, hz, _, hcell, hwz⟩
    · simp [Value.cells] at hcs
      obtain ⟨rfl, rfl, rfl⟩ := hcs
      exact ⟨[], .inl ⟨rfl, rfl, rfl, rfl⟩⟩
    · simp [Value.cells] at hcs
      obtain ⟨rfl, rfl, rfl⟩ := hcs
      exact ⟨zs, .inr ⟨_, rfl, hl, hm, by simpa using hz, hcell, hwz⟩⟩
  have y0 : len0 * 8 ≤ 140737488351232 := Go.Proofs.YtooiajkbpkfplaaW.PrintWords.sized_ints hsz (j := 0) (t := 31) rfl rfl Try.underlying31 Try.underlying3 (by kernel_rfl) (by kernel_rfl) h0
  clear hA0 hval0 hsz0 hsz
  refine (Q.paronymlaw12_PunyEncodes.walk Pure.PunyEncodes a0 len0 cap0 z0 W w0 y0).mono fun e W' ⟨he, bel⟩ => ?_
  subst he
  exact ⟨_, rfl, _, _, _, [], _, [], hW', trodAll_mk1 (shut_bool Try.underlying4 _), (trodAll_cons_mk (Below.trod laidOut (by kernel_rfl) (of_decide_eq_true (by kernel_rfl)) k0 bel lt0) trodAll_mk0), rfl, bel.frame _, fun h => by cases h⟩
theorem over : Rows.punyEncodesRow.holds Try.pinned (OpenSpec.ofChange Rows.punyEncodesSpec) :=
  OpenClaim.holds_of_wide 12 Try.f12 rfl rfl rfl rfl rfl rfl rfl ⟨rfl, rfl, rfl, rfl, rfl⟩ rfl rfl rfl rfl rfl (by kernel_rfl) Try.func12 (by kernel_rfl)
    (of_decide_eq_true (by kernel_rfl)) (by unfold Func.isWrapper; first | (rw [if_pos (by decide +kernel)]; kernel_rfl) | (rw [if_neg (by decide +kernel)]; exact ⟨rfl, rfl⟩))
    (fun os started H enc _ => lifted os started H enc)
theorem proved : Rows.PunyEncodesSaid := over
#print axioms proved
end Go.Proofs.Ytooiajkbpkfplaa.punyEncodes
namespace Go.Proofs.Ytooiajkbpkfplaa
/-- The row, under a short name, for the claim. -/
theorem punyEncodes_holds : Rows.PunyEncodesSaid := punyEncodes.proved
end Go.Proofs.Ytooiajkbpkfplaa
