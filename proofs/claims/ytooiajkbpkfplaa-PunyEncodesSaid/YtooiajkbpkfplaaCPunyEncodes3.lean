/- Part 3 of 4 of the proof of PunyEncodes: PunyEncodes: a text's form For every input; no condition. -/
import Derived.Test.YtooiajkbpkfplaaCPunyEncodes2
import Derived.Test.YtooiajkbpkfplaaCPunyEncodes1

-- from Ppuny1
/- Layer 12 on lists of numbers: digits, thresholds, biases, a number read. The program's and the reference's come to the same. -/
namespace Go.Proofs.Ytooiajkbpkfplaa.K
set_option linter.unusedVariables false
set_option linter.unusedSimpArgs false
open Go.RowKit Go.Proofs.YtooiajkbpkfplaaW.PrintWords Go.Proofs.YtooiajkbpkfplaaW.PrintMore Go.Proofs.Ytooiajkbpkfplaa.Q

/-! digits -/
def dig (c : Int) : Int := if 97 ≤ c ∧ c ≤ 122 then c - 97 else if 65 ≤ c ∧ c ≤ 90 then c - 65 else if 48 ≤ c ∧ c ≤ 57 then c - 22 else -1
theorem dig_le (c : Int) : -1 ≤ dig c ∧ dig c ≤ 35 := by
  unfold dig
  split
  · omega
  · split
    · omega
    · split <;> omega
theorem puny_digit_is {c : Int} (h0 : 0 ≤ c) (h1 : c ≤ 255) : puny_digit.f c = some (dig c) := by
  have h : ∀ i : Fin 256, puny_digit.f (i.val : Int) = some (dig (i.val : Int)) := by decide +kernel
  have := h ⟨c.toNat, by omega⟩
  simpa [Int.toNat_of_nonneg h0] using this
theorem refDigit_ev {c : Int} (h0 : 0 ≤ c) (h1 : c ≤ 255) : Ev (fun k => paronymref12_digit.f k c) (dig c) := by
  have h : ∀ i : Fin 256, paronymref12_digit.f 5 (i.val : Int) = some (dig (i.val : Int)) := by decide +kernel
  have := h ⟨c.toNat, by omega⟩
  rw [show (((⟨c.toNat, by omega⟩ : Fin 256).val : Nat) : Int) = c from Int.toNat_of_nonneg h0] at this
  exact Ev.of (fun k => paronymref12_digit.mono c k) this

/-! thresholds -/
def thr (k b : Int) : Int := if k - b < 1 then 1 else if k - b > 26 then 26 else k - b
theorem thr_le (k b : Int) : 1 ≤ thr k b ∧ thr k b ≤ 26 := by
  unfold thr
  split
  · omega
  · split <;> omega
theorem thr_is {k b : Int} (h : -1099511627776 ≤ k - b) (h' : k - b ≤ 1099511627776) : puny_threshold.f k b = some (thr k b) := by
  unfold puny_threshold.f thr
  rw [w64 (by omega) (by omega)]
  unfold mn mx
  congr 1
  split <;> split <;> (try split) <;> omega
theorem reft_is {k b : Int} (h : -1099511627776 ≤ k - b) (h' : k - b ≤ 1099511627776) : paronymref12_t.f k b = some (thr k b) := by
  unfold paronymref12_t.f thr
  rw [w64 (by omega) (by omega)]
  split
  · rfl
  · split <;> rfl

/-! biases -/
def biaL (x y : Int) : Int := if h : x > 455 then biaL (x / 35) (y + 36) else y + 36 * x / (x + 38)
termination_by x.toNat
decreasing_by omega
def bia (d p : Int) (first : Bool) : Int := let e := if first = true then d / 700 else d / 2; biaL (e + e / p) 0
theorem bias_same : ∀ k x y, puny_adapt.l0 k x y = paronymref12_Bias.l0 k x y
  | 0, _, _ => rfl
  | k + 1, x, y => by
    unfold puny_adapt.l0 paronymref12_Bias.l0
    rw [bias_same k]
theorem bias_same' (k : Nat) (a b : Int) (c : Bool) : puny_adapt.f k a b c = paronymref12_Bias.f k a b c := by
  unfold puny_adapt.f paronymref12_Bias.f
  cases k with
  | zero => rfl
  | succ k =>
    unfold puny_adapt.j0 paronymref12_Bias.j0
    simp only [bias_same]
theorem biaL_ev : ∀ (n : Nat) (x y : Int), x.toNat ≤ n → 0 ≤ x → x ≤ 1099511627776 → 0 ≤ y → y ≤ 1099511627776 - x → Ev (fun k => puny_adapt.l0 k x y) (biaL x y) ∧ y ≤ biaL x y ∧ biaL x y ≤ y + 36 * (x + 1) := by
  intro n
  induction n with
  | zero =>
    intro x y hn h0 h1 h2 h3
    have : x = 0 := by omega
    subst this
    rw [biaL, dif_neg (by omega)]
    refine ⟨Ev.step (fun k => rfl) (Ev.neg (by omega) (Ev.neg (by rw [w64 (by omega) (by omega)]; omega) (Ev.ret ?_))), by omega, by omega⟩
    have e1 : wrap64 (36 * (0 : Int)) = 0 := by decide +kernel
    have e2 : wrap64 ((0 : Int) + 38) = 38 := by decide +kernel
    rw [e1, e2]
    rw [show Int.tdiv 0 38 = 0 by decide +kernel, show wrap64 0 = 0 by decide +kernel, w64 (by omega) (by omega)]
    omega
  | succ n ih =>
    intro x y hn h0 h1 h2 h3
    rw [biaL]
    by_cases h : x > 455
    · rw [dif_pos h]
      have := ih (x / 35) (y + 36) (by omega) (by omega) (by omega) (by omega) (by omega)
      refine ⟨Ev.step (fun k => rfl) (Ev.pos h ?_), by omega, by omega⟩
      rw [Int.tdiv_eq_ediv_of_nonneg h0, w64 (n := x / 35) (by omega) (by omega), w64 (n := y + 36) (by omega) (by omega)]
      exact this.1
    · rw [dif_neg h]
      have hq : 0 ≤ 36 * x / (x + 38) ∧ 36 * x / (x + 38) ≤ 36 := by
        constructor
        · exact Int.ediv_nonneg (by omega) (by omega)
        · have := Int.ediv_le_ediv (c := x + 38) (by omega) (show 36 * x ≤ 36 * (x + 38) by omega)
          rw [Int.mul_ediv_cancel _ (by omega)] at this
          exact this
      refine ⟨Ev.step (fun k => rfl) (Ev.neg h (Ev.neg (by rw [w64 (by omega) (by omega)]; omega) (Ev.ret ?_))), by omega, by omega⟩
      rw [w64 (n := 36 * x) (by omega) (by omega), w64 (n := x + 38) (by omega) (by omega), Int.tdiv_eq_ediv_of_nonneg (by omega), w64 (n := 36 * x / (x + 38)) (by omega) (by omega), w64 (by omega) (by omega)]
theorem bia_ev {d p : Int} {first : Bool} (h0 : 0 ≤ d) (h1 : d ≤ 2147483647) (hp : 1 ≤ p) : Ev (fun k => puny_adapt.f k d p first) (bia d p first) ∧ 0 ≤ bia d p first ∧ bia d p first ≤ 309237645312 := by
  have key : ∀ e : Int, 0 ≤ e → e ≤ 2147483647 → Ev (fun k => puny_adapt.j0 k e p) (biaL (e + e / p) 0) ∧ 0 ≤ biaL (e + e / p) 0 ∧ biaL (e + e / p) 0 ≤ 309237645312 := by
    intro e he0 he1
    have hq : 0 ≤ e / p ∧ e / p ≤ e := ⟨Int.ediv_nonneg he0 (by omega), Int.ediv_le_self _ he0⟩
    have := biaL_ev _ (e + e / p) 0 (Nat.le_refl _) (by omega) (by omega) (by omega) (by omega)
    refine ⟨Ev.step (fun k => rfl) (Ev.neg (by omega) ?_), by omega, by omega⟩
    rw [Int.tdiv_eq_ediv_of_nonneg he0, w64 (n := e / p) (by omega) (by omega), w64 (by omega) (by omega)]
    exact this.1
  unfold bia puny_adapt.f
  cases first with
  | true =>
    have := key (d / 700) (by omega) (by omega)
    refine ⟨Ev.pos rfl ?_, this.2⟩
    rw [Int.tdiv_eq_ediv_of_nonneg h0, w64 (by omega) (by omega)]
    exact this.1
  | false =>
    have := key (d / 2) (by omega) (by omega)
    refine ⟨Ev.neg (by decide) ?_, this.2⟩
    rw [Int.tdiv_eq_ediv_of_nonneg h0, w64 (by omega) (by omega)]
    exact this.1

/-! a number read -/
def rdn (b : Int) : List Int → Int → Int → Int → Int × Int × Int
  | [], _, _, _ => (0, 0, 20)
  | c :: l, i, q, w => if dig c < 0 then (0, 0, 20) else if dig c * w > 2147483647 - q then (0, 0, 21) else if dig c < thr (36 * (i + 1)) b then (q + dig c * w, i + 1, 0) else if w * (36 - thr (36 * (i + 1)) b) > 2147483647 then (0, 0, 21) else rdn b l (i + 1) (q + dig c * w) (w * (36 - thr (36 * (i + 1)) b))
theorem read_ev {l : List Int} {b : Int} (ho : Oct l) (hl : l.length ≤ 100000) (hb0 : 0 ≤ b) (hb1 : b ≤ 309237645312) : ∀ (d i : Nat) (q w : Int), l.length - i = d → i ≤ l.length → 0 ≤ q → q ≤ 2147483647 → 1 ≤ w → w ≤ 2147483647 →
    Ev (fun k => puny_read.l0 k b q w l l.length i) (rdn b (l.drop i) i q w) ∧ Ev (fun k => paronymref12_read.l0 k (strOfNums l) b q w i) (rdn b (l.drop i) i q w) := by
  intro d
  induction d with
  | zero =>
    intro i q w h1 h2 h3 h4 h5 h6
    have : i = l.length := by omega
    subst this
    rw [List.drop_length]
    exact ⟨Ev.step (fun k => rfl) (Ev.neg (by omega) (Ev.now _)), Ev.step (fun k => rfl) (Ev.neg (by rw [size_str]; omega) (Ev.now _))⟩
  | succ d ih =>
    intro i q w h1 h2 h3 h4 h5 h6
    have hi : i < l.length := by omega
    have a1 : (i : Int) < (l.length : Int) := by omega
    have a2 : (0 : Int) ≤ (i : Int) := by omega
    have a3 : (i : Int) < ((strOfNums l).size : Int) := by rw [size_str]; exact a1
    have hc := ho.rd (i := (i : Int)) (by omega) (by omega)
    have hd := dig_le (rd l i)
    have ht := thr_le (36 * ((i : Int) + 1)) b
    rw [drop_cons l i hi]
    have et : puny_threshold.f (wrap64 (36 * (wrap64 ((i : Int) + 1)))) b = some (thr (36 * ((i : Int) + 1)) b) := by
      rw [w64 (n := (i : Int) + 1) (by omega) (by omega), w64 (by omega) (by omega)]
      exact thr_is (by omega) (by omega)
    have et2 : paronymref12_t.f (wrap64 ((wrap64 (36 * (i : Int))) + 36)) b = some (thr (36 * ((i : Int) + 1)) b) := by
      rw [w64 (n := 36 * (i : Int)) (by omega) (by omega), w64 (by omega) (by omega), show 36 * (i : Int) + 36 = 36 * ((i : Int) + 1) by omega]
      exact reft_is (by omega) (by omega)
    have eb : Ev (fun k => paronymref12_digit.f k (bt (strOfNums l) (i : Int))) (dig (rd l i)) := by
      rw [bt_str ho (by omega) (by omega)]
      exact refDigit_ev hc.1 hc.2
    unfold rdn
    generalize thr (36 * ((i : Int) + 1)) b = t at *
    have hw0 : ¬ w = 0 := by omega
    have hprod : 0 ≤ dig (rd l i) → 0 ≤ dig (rd l i) * w ∧ dig (rd l i) * w ≤ 35 * 2147483647 := fun h => ⟨Int.mul_nonneg h (by omega), Int.mul_le_mul hd.2 h6 (by omega) (by omega)⟩
    by_cases c1 : dig (rd l i) < 0
    · rw [if_pos c1]
      exact ⟨Ev.step (fun k => rfl) (Ev.pos a1 (Ev.pos a2 (Ev.pos a1 (Ev.bindS (puny_digit_is hc.1 hc.2) (Ev.bindS et (Ev.pos c1 (Ev.now _))))))),
        Ev.step (fun k => rfl) (Ev.pos a3 (Ev.pos a2 (Ev.bind eb (Ev.pos c1 (Ev.now _)))))⟩
    · rw [if_neg c1]
      have hp := hprod (by omega)
      generalize hD : dig (rd l i) = D at *
      have ediv : wrap64 (Int.tdiv (wrap64 (2147483647 - q)) w) = (2147483647 - q) / w := by
        have h0 : 0 ≤ (2147483647 - q) / w := Int.ediv_nonneg (by omega) (by omega)
        have h1 : (2147483647 - q) / w ≤ 2147483647 - q := Int.ediv_le_self _ (by omega)
        rw [w64 (n := 2147483647 - q) (by omega) (by omega), Int.tdiv_eq_ediv_of_nonneg (by omega), w64 (by omega) (by omega)]
      have ecmp : D > (2147483647 - q) / w ↔ D * w > 2147483647 - q := by
        constructor
        · intro h
          exact (Int.ediv_lt_iff_lt_mul (by omega)).1 h
        · intro h
          exact (Int.ediv_lt_iff_lt_mul (by omega)).2 h
      have es : wrap64 (q + wrap64 (D * w)) = q + D * w := by
        rw [w64 (n := D * w) (by omega) (by omega), w64 (by omega) (by omega)]
      by_cases c2 : D * w > 2147483647 - q
      · rw [if_pos c2]
        exact ⟨Ev.step (fun k => rfl) (Ev.pos a1 (Ev.pos a2 (Ev.pos a1 (Ev.bindS (hD ▸ puny_digit_is hc.1 hc.2) (Ev.bindS et (Ev.neg c1 (Ev.neg hw0 (Ev.pos (by rw [ediv]; exact ecmp.2 c2) (Ev.now _))))))))),
          Ev.step (fun k => rfl) (Ev.pos a3 (Ev.pos a2 (Ev.bind eb (Ev.neg c1 (Ev.pos (by rw [es]; omega) (Ev.now _))))))⟩
      · rw [if_neg c2]
        by_cases c3 : D < t
        · rw [if_pos c3]
          exact ⟨Ev.step (fun k => rfl) (Ev.pos a1 (Ev.pos a2 (Ev.pos a1 (Ev.bindS (hD ▸ puny_digit_is hc.1 hc.2) (Ev.bindS et (Ev.neg c1 (Ev.neg hw0 (Ev.neg (by rw [ediv]; exact fun h => c2 (ecmp.1 h)) (Ev.pos c3 (Ev.ret (by rw [es, w64 (n := (i : Int) + 1) (by omega) (by omega)]))))))))))),
            Ev.step (fun k => rfl) (Ev.pos a3 (Ev.pos a2 (Ev.bind eb (Ev.neg c1 (Ev.neg (by rw [es]; omega) (Ev.bindS et2 (Ev.pos c3 (Ev.ret (by rw [es, w64 (n := (i : Int) + 1) (by omega) (by omega)])))))))))⟩
        · rw [if_neg c3]
          have e36 : wrap64 (36 - t) = 36 - t := w64 (by omega) (by omega)
          have hp2 : 0 ≤ w * (36 - t) ∧ w * (36 - t) ≤ 2147483647 * 35 := ⟨Int.mul_nonneg (by omega) (by omega), Int.mul_le_mul h6 (by omega) (by omega) (by omega)⟩
          have ew : wrap64 (w * (wrap64 (36 - t))) = w * (36 - t) := by rw [e36, w64 (by omega) (by omega)]
          have ediv2 : wrap64 (Int.tdiv (2147483647 : Int) (wrap64 (36 - t))) = 2147483647 / (36 - t) := by
            have h0 : 0 ≤ (2147483647 : Int) / (36 - t) := Int.ediv_nonneg (by omega) (by omega)
            have h1 : (2147483647 : Int) / (36 - t) ≤ 2147483647 := Int.ediv_le_self _ (by omega)
            rw [e36, Int.tdiv_eq_ediv_of_nonneg (by omega), w64 (by omega) (by omega)]
          have ecmp2 : w > 2147483647 / (36 - t) ↔ w * (36 - t) > 2147483647 := by
            constructor
            · intro h
              exact (Int.ediv_lt_iff_lt_mul (by omega)).1 h
            · intro h
              exact (Int.ediv_lt_iff_lt_mul (by omega)).2 h
          by_cases c4 : w * (36 - t) > 2147483647
          · rw [if_pos c4]
            exact ⟨Ev.step (fun k => rfl) (Ev.pos a1 (Ev.pos a2 (Ev.pos a1 (Ev.bindS (hD ▸ puny_digit_is hc.1 hc.2) (Ev.bindS et (Ev.neg c1 (Ev.neg hw0 (Ev.neg (by rw [ediv]; exact fun h => c2 (ecmp.1 h)) (Ev.neg c3 (Ev.neg (by rw [e36]; omega) (Ev.pos (by rw [ediv2]; exact ecmp2.2 c4) (Ev.now _)))))))))))),
              Ev.step (fun k => rfl) (Ev.pos a3 (Ev.pos a2 (Ev.bind eb (Ev.neg c1 (Ev.neg (by rw [es]; omega) (Ev.bindS et2 (Ev.neg c3 (Ev.pos (by rw [ew]; exact c4) (Ev.now _)))))))))⟩
          · rw [if_neg c4]
            have hw1 : 1 ≤ w * (36 - t) := by
              have := Int.mul_le_mul h5 (show (1 : Int) ≤ 36 - t by omega) (by omega) (by omega)
              omega
            have := ih (i + 1) (q + D * w) (w * (36 - t)) (by omega) (by omega) (by omega) (by omega) hw1 (by omega)
            have en : wrap64 ((i : Int) + 1) = ((i + 1 : Nat) : Int) := w64 (by omega) (by omega)
            refine ⟨Ev.step (fun k => rfl) (Ev.pos a1 (Ev.pos a2 (Ev.pos a1 (Ev.bindS (hD ▸ puny_digit_is hc.1 hc.2) (Ev.bindS et (Ev.neg c1 (Ev.neg hw0 (Ev.neg (by rw [ediv]; exact fun h => c2 (ecmp.1 h)) (Ev.neg c3 (Ev.neg (by rw [e36]; omega) (Ev.neg (by rw [ediv2]; exact fun h => c4 (ecmp2.1 h)) ?_))))))))))),
              Ev.step (fun k => rfl) (Ev.pos a3 (Ev.pos a2 (Ev.bind eb (Ev.neg c1 (Ev.neg (by rw [es]; omega) (Ev.bindS et2 (Ev.neg c3 (Ev.neg (by rw [ew]; exact c4) ?_))))))))⟩
            · rw [es, ew, en]; exact this.1
            · rw [es, ew, en]; exact this.2

end Go.Proofs.Ytooiajkbpkfplaa.K

-- from Ppuny2
/- Layer 12: a form read back, on lists: the program's and the reference's Decode come to the same. -/
namespace Go.Proofs.Ytooiajkbpkfplaa.K
set_option linter.unusedVariables false
set_option linter.unusedSimpArgs false
open Go.RowKit Go.Proofs.YtooiajkbpkfplaaW.PrintWords Go.Proofs.YtooiajkbpkfplaaW.PrintMore Go.Proofs.Ytooiajkbpkfplaa.Q

theorem rdn_bound (b : Int) : ∀ (l : List Int) (i q w : Int), 0 ≤ q → q ≤ 2147483647 → 1 ≤ w → (rdn b l i q w).2.2 = 0 → 0 ≤ (rdn b l i q w).1 ∧ (rdn b l i q w).1 ≤ 2147483647 ∧ i < (rdn b l i q w).2.1 ∧ (rdn b l i q w).2.1 ≤ i + l.length
  | [], i, q, w, _, _, _, h => by simp [rdn] at h
  | c :: l, i, q, w, h0, h1, h2, h => by
    unfold rdn at h ⊢
    by_cases c1 : dig c < 0
    · rw [if_pos c1] at h; simp at h
    · rw [if_neg c1] at h ⊢
      have hp : 0 ≤ dig c * w := Int.mul_nonneg (by omega) (by omega)
      by_cases c2 : dig c * w > 2147483647 - q
      · rw [if_pos c2] at h; simp at h
      · rw [if_neg c2] at h ⊢
        by_cases c3 : dig c < thr (36 * (i + 1)) b
        · rw [if_pos c3]
          simp
          omega
        · rw [if_neg c3] at h ⊢
          by_cases c4 : w * (36 - thr (36 * (i + 1)) b) > 2147483647
          · rw [if_pos c4] at h; simp at h
          · rw [if_neg c4] at h ⊢
            have ht := thr_le (36 * (i + 1)) b
            have hw1 : 1 ≤ w * (36 - thr (36 * (i + 1)) b) := by
              have := Int.mul_le_mul h2 (show (1 : Int) ≤ 36 - thr (36 * (i + 1)) b by omega) (by omega) (by omega)
              omega
            have := rdn_bound b l (i + 1) (q + dig c * w) (w * (36 - thr (36 * (i + 1)) b)) (by omega) (by omega) hw1 h
            simp only [List.length_cons]
            omega
def dec : Nat → List Int → List Int → Int → Int → Int → Bool → List Int × Int
  | 0, _, out, _, _, _, _ => (out, 0)
  | f + 1, l, out, n, b, i, first =>
    if l.length = 0 then (out, 0) else
    if (rdn b l 0 0 1).2.2 = 0 then
      if i + (rdn b l 0 0 1).1 > 2147483647 then ([], 21) else
      if n + (i + (rdn b l 0 0 1).1) / ((out.length : Int) + 1) > 2147483647 then ([], 21) else
      if scalar (n + (i + (rdn b l 0 0 1).1) / ((out.length : Int) + 1)) = true then
        dec f (l.drop (rdn b l 0 0 1).2.1.toNat) (out.take ((i + (rdn b l 0 0 1).1) % ((out.length : Int) + 1)).toNat ++ [n + (i + (rdn b l 0 0 1).1) / ((out.length : Int) + 1)] ++ out.drop ((i + (rdn b l 0 0 1).1) % ((out.length : Int) + 1)).toNat) (n + (i + (rdn b l 0 0 1).1) / ((out.length : Int) + 1)) (bia (rdn b l 0 0 1).1 ((out.length : Int) + 1) first) ((i + (rdn b l 0 0 1).1) % ((out.length : Int) + 1) + 1) false
      else ([], 10)
    else ([], (rdn b l 0 0 1).2.2)
theorem refScalar_is' (c : Int) : paronymref01_Scalar.f c = some (scalar c) := utf_Scalar_is c
theorem w31 {x : Int} (h0 : 0 ≤ x) (h1 : x ≤ 2147483647) : wrap64 (2147483647 - x) = 2147483647 - x := w64 (by omega) (by omega)
/-- The numbers of one step; not taken apart where numbers are compared. -/
def DecN (n i q L : Int) : Prop := wrap64 L = L ∧ wrap64 (i + q) = i + q ∧ wrap64 (Int.tdiv (wrap64 (i + q)) (wrap64 L)) = (i + q) / L ∧ Int.tmod (wrap64 (i + q)) (wrap64 L) = (i + q) % L ∧ wrap64 (n + (i + q) / L) = n + (i + q) / L ∧ wrap64 ((i + q) % L + 1) = (i + q) % L + 1
theorem dec_n {n i q L : Int} (hL1 : 1 ≤ L) (hL2 : L ≤ 100001) (hn0 : 0 ≤ n) (hn1 : n ≤ 2147483647) (hi0 : 0 ≤ i) (hi1 : i ≤ 2147483647) (hq0 : 0 ≤ q) (hq1 : q ≤ 2147483647) : DecN n i q L ∧ 0 ≤ (i + q) / L ∧ (i + q) / L ≤ i + q ∧ 0 ≤ (i + q) % L ∧ (i + q) % L < L := by
  have hm0 : 0 ≤ (i + q) / L := Int.ediv_nonneg (by omega) (by omega)
  have hm1 : (i + q) / L ≤ i + q := Int.ediv_le_self _ (by omega)
  have hr0 : 0 ≤ (i + q) % L := Int.emod_nonneg _ (by omega)
  have hr3 : (i + q) % L < L := Int.emod_lt_of_pos _ (by omega)
  refine ⟨⟨w64 (by omega) (by omega), w64 (by omega) (by omega), ?_, ?_, w64 (by omega) (by omega), w64 (by omega) (by omega)⟩, hm0, hm1, hr0, hr3⟩
  · rw [w64 (n := i + q) (by omega) (by omega), w64 (n := L) (by omega) (by omega), Int.tdiv_eq_ediv_of_nonneg (by omega), w64 (by omega) (by omega)]
  · rw [w64 (n := i + q) (by omega) (by omega), w64 (n := L) (by omega) (by omega), Int.tmod_eq_emod_of_nonneg (by omega)]
theorem gt_sub {a b c : Int} (h : a + b > c) : b > c - a := by omega
theorem ngt_sub {a b c : Int} (h : ¬ a + b > c) : ¬ b > c - a := by omega
theorem dec_ev : ∀ (f : Nat) (l out : List Int) (n b i : Int) (first : Bool), l.length ≤ f → Oct l → l.length ≤ 12000 → out.length + l.length ≤ 100000 → 0 ≤ n → n ≤ 2147483647 → 0 ≤ b → b ≤ 309237645312 → 0 ≤ i → i ≤ 2147483647 →
    Ev (fun k => puny_Decode.l1 k l out n b i first) (dec f l out n b i first) ∧ Ev (fun k => paronymref12_Decode.l2 k (strOfNums l) out n b i first) (dec f l out n b i first) := by
  intro f
  induction f with
  | zero =>
    intro l out n b i first hl ho hl2 hol hn0 hn1 hb0 hb1 hi0 hi1
    have z : l = [] := List.eq_nil_of_length_eq_zero (by omega)
    subst z
    exact ⟨Ev.step (fun k => rfl) (Ev.neg (by simp) (Ev.now _)), Ev.step (fun k => rfl) (Ev.neg (by rw [size_str]; simp) (Ev.now _))⟩
  | succ f ih =>
    intro l out n b i first hl ho hl2 hol hn0 hn1 hb0 hb1 hi0 hi1
    unfold dec
    by_cases z : l.length = 0
    · rw [if_pos z]
      exact ⟨Ev.step (fun k => rfl) (Ev.neg (by omega) (Ev.now _)), Ev.step (fun k => rfl) (Ev.neg (by rw [size_str]; omega) (Ev.now _))⟩
    · rw [if_neg z]
      have hr := read_ev ho (by omega) hb0 hb1 l.length 0 0 1 (by omega) (by omega) (by omega) (by omega) (by omega) (by omega)
      rw [List.drop_zero] at hr
      have hr1 : Ev (fun k => puny_read.f k l b) (rdn b l 0 0 1) := hr.1
      have hr2 : Ev (fun k => paronymref12_read.f k (strOfNums l) b) (rdn b l 0 0 1) := hr.2
      have hbd := rdn_bound b l 0 0 1 (by omega) (by omega) (by omega)
      clear hr
      generalize rdn b l 0 0 1 = r at *
      obtain ⟨q, s, e⟩ := r
      simp only at hbd ⊢
      have z1 : (l.length : Int) > 0 := by omega
      have z2 : ((strOfNums l).size : Int) > 0 := by rw [size_str]; exact z1
      by_cases ce : e = 0
      · have hb := hbd ce
        clear hbd
        rw [if_pos ce]
        have hLl : (1 : Int) ≤ (out.length : Int) + 1 := Int.le_add_of_nonneg_left (Int.natCast_nonneg _)
        have hLu : (out.length : Int) + 1 ≤ 100001 := by clear hb0 hb1 hn0 hn1 hi0 hi1 hb ih hr1 hr2; omega
        obtain ⟨hD, hm0, hm1, hr0, hr3⟩ := dec_n hLl hLu hn0 hn1 hi0 hi1 hb.1 hb.2.1
        have hbia := bia_ev (d := q) (p := (out.length : Int) + 1) (first := first) hb.1 hb.2.1 (Int.le_add_of_nonneg_left (Int.natCast_nonneg _))
        have hbia2 : Ev (fun k => paronymref12_Bias.f k q ((out.length : Int) + 1) first) (bia q ((out.length : Int) + 1) first) := Ev.congr (fun k => (bias_same' k _ _ _).symm) hbia.1
        by_cases c1 : i + q > 2147483647
        · rw [if_pos c1]
          exact ⟨Ev.step (fun k => rfl) (Ev.pos z1 (Ev.bind hr1 (Ev.pos ce (Ev.pos (by rw [w31 hi0 hi1]; exact gt_sub c1) (Ev.now _))))),
            Ev.step (fun k => rfl) (Ev.pos z2 (Ev.bind hr2 (Ev.pos ce (Ev.pos (by rw [hD.2.1]; exact c1) (Ev.now _)))))⟩
        · rw [if_neg c1]
          have hpz : ¬ wrap64 ((out.length : Int) + 1) = 0 := by rw [hD.1]; omega
          have hg1 : Ev (fun k => puny_adapt.f k q (wrap64 ((out.length : Int) + 1)) first) (bia q ((out.length : Int) + 1) first) := by rw [hD.1]; exact hbia.1
          have hg2 : Ev (fun k => paronymref12_Bias.f k q (wrap64 ((out.length : Int) + 1)) first) (bia q ((out.length : Int) + 1) first) := by rw [hD.1]; exact hbia2
          by_cases c2 : n + (i + q) / ((out.length : Int) + 1) > 2147483647
          · rw [if_pos c2]
            exact ⟨Ev.step (fun k => rfl) (Ev.pos z1 (Ev.bind hr1 (Ev.pos ce (Ev.neg (by rw [w31 hi0 hi1]; exact ngt_sub c1) (Ev.bind hg1 (Ev.neg hpz (Ev.pos (by show wrap64 (Int.tdiv (wrap64 (i + q)) _) > _; rw [hD.2.2.1, w31 hn0 hn1]; exact gt_sub c2) (Ev.now _)))))))),
              Ev.step (fun k => rfl) (Ev.pos z2 (Ev.bind hr2 (Ev.pos ce (Ev.neg (by rw [hD.2.1]; exact c1) (Ev.bind hg2 (Ev.neg hpz (Ev.pos (by show wrap64 (n + wrap64 (Int.tdiv (wrap64 (i + q)) _)) > _; rw [hD.2.2.1, hD.2.2.2.2.1]; exact c2) (Ev.now _))))))))⟩
          · rw [if_neg c2]
            have hsc : utf_Scalar.f (wrap64 (n + wrap64 (Int.tdiv (wrap64 (i + q)) (wrap64 ((out.length : Int) + 1))))) = some (scalar (n + (i + q) / ((out.length : Int) + 1))) := by rw [hD.2.2.1, hD.2.2.2.2.1]; exact utf_Scalar_is _
            have hsc2 : paronymref01_Scalar.f (wrap64 (n + wrap64 (Int.tdiv (wrap64 (i + q)) (wrap64 ((out.length : Int) + 1))))) = some (scalar (n + (i + q) / ((out.length : Int) + 1))) := hsc
            by_cases c3 : scalar (n + (i + q) / ((out.length : Int) + 1)) = true
            · rw [if_pos c3]
              have hlen : (out.take ((i + q) % ((out.length : Int) + 1)).toNat ++ [n + (i + q) / ((out.length : Int) + 1)] ++ out.drop ((i + q) % ((out.length : Int) + 1)).toNat).length = out.length + 1 := by
                simp; omega
              have hdl : (l.drop s.toNat).length = l.length - s.toNat := List.length_drop
              have := ih (l.drop s.toNat) (out.take ((i + q) % ((out.length : Int) + 1)).toNat ++ [n + (i + q) / ((out.length : Int) + 1)] ++ out.drop ((i + q) % ((out.length : Int) + 1)).toNat) (n + (i + q) / ((out.length : Int) + 1)) (bia q ((out.length : Int) + 1) first) ((i + q) % ((out.length : Int) + 1) + 1) false (by omega) (ho.drop _) (by omega) (by omega) (by omega) (by omega) hbia.2.1 hbia.2.2 (by omega) (by omega)
              have hins : slices_Insert_int_int.f out (Int.tmod (wrap64 (i + q)) (wrap64 ((out.length : Int) + 1))) [wrap64 (n + wrap64 (Int.tdiv (wrap64 (i + q)) (wrap64 ((out.length : Int) + 1))))] = some (out.take ((i + q) % ((out.length : Int) + 1)).toNat ++ [n + (i + q) / ((out.length : Int) + 1)] ++ out.drop ((i + q) % ((out.length : Int) + 1)).toNat) := by
                rw [hD.2.2.2.1, hD.2.2.1, hD.2.2.2.2.1]
                unfold slices_Insert_int_int.f
                exact if_pos ⟨hr0, by omega, by simp, by simp; omega⟩
              have hsl : s ≤ (l.length : Int) := by omega
              refine ⟨Ev.step (fun k => rfl) (Ev.pos z1 (Ev.bind hr1 (Ev.pos ce (Ev.neg (by rw [w31 hi0 hi1]; exact ngt_sub c1) (Ev.bind hg1 (Ev.neg hpz (Ev.neg (by show ¬ wrap64 (Int.tdiv (wrap64 (i + q)) _) > _; rw [hD.2.2.1, w31 hn0 hn1]; exact ngt_sub c2) (Ev.bindS hsc (Ev.pos c3 (Ev.bindS hins (Ev.pos (show 0 ≤ s by omega) (Ev.pos (show s ≤ (l.length : Int) from hsl) ?_)))))))))))),
                Ev.step (fun k => rfl) (Ev.pos z2 (Ev.bind hr2 (Ev.pos ce (Ev.neg (by rw [hD.2.1]; exact c1) (Ev.bind hg2 (Ev.neg hpz (Ev.neg (by show ¬ wrap64 (n + wrap64 (Int.tdiv (wrap64 (i + q)) _)) > _; rw [hD.2.2.1, hD.2.2.2.2.1]; exact c2) (Ev.bindS hsc2 (Ev.pos c3 (Ev.pos (by show 0 ≤ Int.tmod (wrap64 (i + q)) _; rw [hD.2.2.2.1]; exact hr0) (Ev.pos (by show Int.tmod (wrap64 (i + q)) _ ≤ _; rw [hD.2.2.2.1]; omega) (Ev.bindS rfl (Ev.pos ?a1 (Ev.bindS rfl (Ev.pos ?a2 (Ev.bindS rfl (Ev.bindS rfl (Ev.pos ?a3 (Ev.pos (show 0 ≤ s by omega) (Ev.pos (by show s ≤ ((strOfNums l).size : Int); rw [size_str]; exact hsl) ?_))))))))))))))))))))⟩
              · show Ev (fun k => puny_Decode.l1 k (l.drop s.toNat) _ (wrap64 (n + wrap64 (Int.tdiv (wrap64 (i + q)) (wrap64 ((out.length : Int) + 1))))) _ (wrap64 (Int.tmod (wrap64 (i + q)) (wrap64 ((out.length : Int) + 1)) + 1)) false) _
                rw [hD.2.2.2.1, hD.2.2.1, hD.2.2.2.2.1, hD.2.2.2.2.2]
                exact this.1
              case a1 => simp; omega
              case a2 => simp; omega
              case a3 => simp; omega
              · show Ev (fun k => paronymref12_Decode.l2 k ((strOfNums l).extract s.toNat (strOfNums l).size) (([] ++ out.take (Int.tmod (wrap64 (i + q)) (wrap64 ((out.length : Int) + 1))).toNat ++ [wrap64 (n + wrap64 (Int.tdiv (wrap64 (i + q)) (wrap64 ((out.length : Int) + 1))))]) ++ out.drop (Int.tmod (wrap64 (i + q)) (wrap64 ((out.length : Int) + 1))).toNat) (wrap64 (n + wrap64 (Int.tdiv (wrap64 (i + q)) (wrap64 ((out.length : Int) + 1))))) _ (wrap64 (Int.tmod (wrap64 (i + q)) (wrap64 ((out.length : Int) + 1)) + 1)) false) _
                rw [hD.2.2.2.1, hD.2.2.1, hD.2.2.2.2.1, hD.2.2.2.2.2, extract_str, size_str, List.take_length, List.nil_append]
                exact this.2
            · rw [if_neg c3]
              exact ⟨Ev.step (fun k => rfl) (Ev.pos z1 (Ev.bind hr1 (Ev.pos ce (Ev.neg (by rw [w31 hi0 hi1]; exact ngt_sub c1) (Ev.bind hg1 (Ev.neg hpz (Ev.neg (by show ¬ wrap64 (Int.tdiv (wrap64 (i + q)) _) > _; rw [hD.2.2.1, w31 hn0 hn1]; exact ngt_sub c2) (Ev.bindS hsc (Ev.neg c3 (Ev.now _)))))))))),
                Ev.step (fun k => rfl) (Ev.pos z2 (Ev.bind hr2 (Ev.pos ce (Ev.neg (by rw [hD.2.1]; exact c1) (Ev.bind hg2 (Ev.neg hpz (Ev.neg (by show ¬ wrap64 (n + wrap64 (Int.tdiv (wrap64 (i + q)) _)) > _; rw [hD.2.2.1, hD.2.2.2.2.1]; exact c2) (Ev.bindS hsc2 (Ev.neg c3 (Ev.now _))))))))))⟩
      · rw [if_neg ce]
        exact ⟨Ev.step (fun k => rfl) (Ev.pos z1 (Ev.bind hr1 (Ev.neg ce (Ev.now _)))), Ev.step (fun k => rfl) (Ev.pos z2 (Ev.bind hr2 (Ev.neg ce (Ev.now _))))⟩

end Go.Proofs.Ytooiajkbpkfplaa.K

-- from Ppuny3
/- Layer 12: Decode from its start: the last hyphen, the plain part. -/
namespace Go.Proofs.Ytooiajkbpkfplaa.K
set_option linter.unusedVariables false
set_option linter.unusedSimpArgs false
open Go.RowKit Go.Proofs.YtooiajkbpkfplaaW.PrintWords Go.Proofs.YtooiajkbpkfplaaW.PrintMore Go.Proofs.Ytooiajkbpkfplaa.Q

/-- The place of the last hyphen of the first i octets; none: -1. -/
def lastH (l : List Int) : Nat → Int
  | 0 => -1
  | i + 1 => if rd l (i : Int) = 45 then (i : Int) else lastH l i
theorem lastH_le (l : List Int) : ∀ i, -1 ≤ lastH l i ∧ lastH l i < (i : Int)
  | 0 => by simp [lastH]
  | i + 1 => by
    unfold lastH
    have := lastH_le l i
    split <;> omega
theorem last_ev {l : List Int} (hl : l.length ≤ 1099511627776) : ∀ (i : Nat), i ≤ l.length → Ev (fun k => bytealg_LastIndexByte.l0 k l 45 ((i : Int) - 1)) (lastH l i) := by
  intro i
  induction i with
  | zero =>
    intro h
    exact Ev.step (fun k => rfl) (Ev.neg (by omega) (Ev.now _))
  | succ i ih =>
    intro h
    have e : ((i + 1 : Nat) : Int) - 1 = (i : Int) := by omega
    rw [e]
    unfold lastH
    refine Ev.step (fun k => rfl) (Ev.pos (by omega) (Ev.pos (by omega) (Ev.pos (by omega) ?_)))
    by_cases c : rd l (i : Int) = 45
    · rw [if_pos c]
      exact Ev.pos c (Ev.now _)
    · rw [if_neg c]
      refine Ev.neg c ?_
      rw [w64 (by omega) (by omega)]
      exact ih (by omega)
theorem LastIndexByte_ev {l : List Int} (hl : l.length ≤ 1099511627776) : Ev (fun k => bytes_LastIndexByte.f k l 45) (lastH l l.length) := by
  unfold bytes_LastIndexByte.f bytealg_LastIndexByte.f
  refine Ev.bind ?_ (Ev.ret rfl)
  rw [w64 (by omega) (by omega)]
  exact last_ev hl l.length (Nat.le_refl _)
theorem any_high_ev (l : List Int) (hl : l.length ≤ 1099511627776) : Ev (fun k => slices_ContainsFunc_byte_byte_at_puny_Decode_1.f k l) (l.any fun c => decide (c ≥ 128)) := by
  unfold slices_ContainsFunc_byte_byte_at_puny_Decode_1.f slices_IndexFunc_byte_byte_at_puny_Decode_1.f
  exact contains_ev (p := puny_Decode_1.f) (q := fun c => decide (c ≥ 128)) (fun k x n i => rfl) l (by omega) (fun y _ => rfl)
/-- What a form is read to. -/
def decode (l : List Int) : List Int × Int :=
  if l.length > 12000 then ([], 36) else if (l.any fun c => decide (c ≥ 128)) = true then ([], 20) else if lastH l l.length > 0 then dec l.length (l.drop ((lastH l l.length).toNat + 1)) (l.take (lastH l l.length).toNat) 128 72 0 true else dec l.length l [] 128 72 0 true
theorem Decode12_ev {l : List Int} (ho : Oct l) (hl : l.length ≤ 1099511627776) : Ev (fun k => puny_Decode.f k l) (decode l) := by
  unfold decode puny_Decode.f
  by_cases c1 : l.length > 12000
  · rw [if_pos c1]
    exact Ev.pos (by omega) (Ev.now _)
  rw [if_neg c1]
  refine Ev.neg (by omega) (Ev.bind (any_high_ev l hl) ?_)
  by_cases c2 : (l.any fun c => decide (c ≥ 128)) = true
  · rw [if_pos c2]
    exact Ev.pos c2 (Ev.now _)
  rw [if_neg c2]
  refine Ev.neg c2 (Ev.bind (LastIndexByte_ev hl) ?_)
  have hle := lastH_le l l.length
  by_cases c3 : lastH l l.length > 0
  · rw [if_pos c3]
    refine Ev.pos c3 (Ev.pos (by omega) (Ev.pos (by omega) (Ev.bindS rfl ?_)))
    have hh : ∃ h : Nat, lastH l l.length = (h : Int) := ⟨(lastH l l.length).toNat, by omega⟩
    obtain ⟨h, hh⟩ := hh
    rw [hh] at hle c3 ⊢
    rw [Int.toNat_natCast]
    have hlt : (l.take h).length = h := by rw [List.length_take]; omega
    have key : ∀ (d i : Nat), h - i = d → i ≤ h → Ev (fun k => puny_Decode.l0 k l ((l.take h).take i) h (l.take h) h i) (dec l.length (l.drop (h + 1)) (l.take h) 128 72 0 true) := by
      intro d
      induction d with
      | zero =>
        intro i h1 h2
        have : i = h := by omega
        subst this
        have e1 : wrap64 ((i : Int) + 1) = ((i + 1 : Nat) : Int) := w64 (by omega) (by omega)
        refine Ev.step (fun k => rfl) (Ev.neg (by omega) (Ev.pos (by rw [e1]; omega) (Ev.pos (by rw [e1]; omega) ?_)))
        rw [e1, Int.toNat_natCast, List.take_take, Nat.min_self]
        refine Ev.step (fun k => rfl) ?_
        exact (dec_ev l.length (l.drop (i + 1)) (l.take i) 128 72 0 true (by rw [List.length_drop]; omega) (ho.drop _) (by rw [List.length_drop]; omega) (by rw [List.length_drop, List.length_take]; omega) (by omega) (by omega) (by omega) (by omega) (by omega) (by omega)).1
      | succ d ih =>
        intro i h1 h2
        have hx := (ho.take h).rd (i := (i : Int)) (by omega) (by omega)
        refine Ev.step (fun k => rfl) (Ev.pos (by omega) (Ev.pos (by omega) (Ev.pos (by omega) (Ev.pos (by rw [List.length_take]; omega) ?_))))
        rw [w64 (n := rd (l.take h) i) (by omega) (by omega), ← take_snoc (l.take h) i (by omega), w64 (by omega) (by omega)]
        exact ih (i + 1) (by omega) (by omega)
    have := key h 0 (by omega) (by omega)
    rw [hlt]
    simpa using this
  · rw [if_neg c3]
    refine Ev.neg c3 (Ev.step (fun k => rfl) ?_)
    exact (dec_ev l.length l [] 128 72 0 true (by omega) ho (by omega) (by simp; omega) (by omega) (by omega) (by omega) (by omega) (by omega) (by omega)).1
theorem refDecode12_ev {l : List Int} (ho : Oct l) (hl : l.length ≤ 1099511627776) : Ev (fun k => paronymref12_Decode.f k (strOfNums l)) (decode l) := by
  unfold decode paronymref12_Decode.f
  by_cases c1 : l.length > 12000
  · rw [if_pos c1]
    exact Ev.pos (by rw [size_str]; omega) (Ev.now _)
  rw [if_neg c1]
  refine Ev.neg (by rw [size_str]; omega) ?_
  have hle := lastH_le l l.length
  have last : Ev (fun k => if lastH l l.length > 0 then paronymref12_Decode.l1 k (strOfNums l) (lastH l l.length) [] 0 else paronymref12_Decode.j2 k (strOfNums l) []) (if lastH l l.length > 0 then dec l.length (l.drop ((lastH l l.length).toNat + 1)) (l.take (lastH l l.length).toNat) 128 72 0 true else dec l.length l [] 128 72 0 true) := by
    by_cases c3 : lastH l l.length > 0
    · rw [if_pos c3]
      refine Ev.pos c3 ?_
      have hh : ∃ h : Nat, lastH l l.length = (h : Int) := ⟨(lastH l l.length).toNat, by omega⟩
      obtain ⟨h, hh⟩ := hh
      rw [hh] at hle c3 ⊢
      rw [Int.toNat_natCast]
      have key : ∀ (d i : Nat), h - i = d → i ≤ h → Ev (fun k => paronymref12_Decode.l1 k (strOfNums l) h (l.take i) i) (dec l.length (l.drop (h + 1)) (l.take h) 128 72 0 true) := by
        intro d
        induction d with
        | zero =>
          intro i h1 h2
          have : i = h := by omega
          subst this
          have e1 : wrap64 ((i : Int) + 1) = ((i + 1 : Nat) : Int) := w64 (by omega) (by omega)
          refine Ev.step (fun k => rfl) (Ev.neg (by omega) (Ev.pos (by rw [e1]; omega) (Ev.pos (by rw [e1, size_str]; omega) ?_)))
          rw [e1, Int.toNat_natCast, extract_str, size_str, List.take_length]
          refine Ev.step (fun k => rfl) ?_
          exact (dec_ev l.length (l.drop (i + 1)) (l.take i) 128 72 0 true (by rw [List.length_drop]; omega) (ho.drop _) (by rw [List.length_drop]; omega) (by rw [List.length_drop, List.length_take]; omega) (by omega) (by omega) (by omega) (by omega) (by omega) (by omega)).2
        | succ d ih =>
          intro i h1 h2
          have hx := ho.rd (i := (i : Int)) (by omega) (by omega)
          refine Ev.step (fun k => rfl) (Ev.pos (by omega) (Ev.pos (by omega) (Ev.pos (by rw [size_str]; omega) (Ev.pos (by rw [List.length_take]; omega) ?_))))
          rw [bt_str ho (by omega) (by omega), w64 (n := rd l i) (by omega) (by omega), ← take_snoc l i (by omega), w64 (by omega) (by omega)]
          exact ih (i + 1) (by omega) (by omega)
      have := key h 0 (by omega) (by omega)
      simpa using this
    · rw [if_neg c3]
      refine Ev.neg c3 (Ev.step (fun k => rfl) ?_)
      exact (dec_ev l.length l [] 128 72 0 true (by omega) ho (by omega) (by simp; omega) (by omega) (by omega) (by omega) (by omega) (by omega) (by omega)).2
  have key : ∀ (d i : Nat), l.length - i = d → i ≤ l.length → Ev (fun k => paronymref12_Decode.l0 k (strOfNums l) (lastH l i) i) (if ((l.drop i).any fun c => decide (c ≥ 128)) = true then ([], 20) else if lastH l l.length > 0 then dec l.length (l.drop ((lastH l l.length).toNat + 1)) (l.take (lastH l l.length).toNat) 128 72 0 true else dec l.length l [] 128 72 0 true) := by
    intro d
    induction d with
    | zero =>
      intro i h1 h2
      have : i = l.length := by omega
      subst this
      rw [List.drop_length]
      exact Ev.step (fun k => rfl) (Ev.neg (by rw [size_str]; omega) last)
    | succ d ih =>
      intro i h1 h2
      have hi : i < l.length := by omega
      have hx := ho.rd (i := (i : Int)) (by omega) (by omega)
      have hb : bt (strOfNums l) (i : Int) = rd l i := bt_str ho (by omega) (by omega)
      rw [drop_cons l i hi, List.any_cons]
      refine Ev.step (fun k => rfl) (Ev.pos (by rw [size_str]; omega) (Ev.pos (by omega) ?_))
      by_cases c : rd l (i : Int) > 127
      · have e : decide (rd l (i : Int) ≥ 128) = true := decide_eq_true (by omega)
        rw [e]
        exact Ev.pos (by rw [hb]; exact c) (Ev.ret (by simp))
      · have e : decide (rd l (i : Int) ≥ 128) = false := decide_eq_false (by omega)
        rw [e, Bool.false_or]
        refine Ev.neg (by rw [hb]; exact c) ?_
        have en : wrap64 ((i : Int) + 1) = ((i + 1 : Nat) : Int) := w64 (by omega) (by omega)
        have := ih (i + 1) (by omega) (by omega)
        by_cases c2 : rd l (i : Int) = 45
        · have el : lastH l (i + 1) = (i : Int) := by unfold lastH; rw [if_pos c2]
          rw [el] at this
          refine Ev.pos (by rw [hb]; exact c2) ?_
          rw [en]
          exact this
        · have el : lastH l (i + 1) = lastH l i := by rw [lastH, if_neg c2]
          rw [el] at this
          refine Ev.neg (by rw [hb]; exact c2) ?_
          rw [en]
          exact this
  have := key l.length 0 (by omega) (by omega)
  rw [List.drop_zero] at this
  exact this

end Go.Proofs.Ytooiajkbpkfplaa.K

-- from Ppuny4
/- Layer 12: a text written, and its form read back: decode (pform s) = s, for texts of at most 150 scalars. -/
namespace Go.Proofs.Ytooiajkbpkfplaa.K
set_option linter.unusedVariables false
set_option linter.unusedSimpArgs false
open Go.RowKit Go.Proofs.YtooiajkbpkfplaaW.PrintWords Go.Proofs.YtooiajkbpkfplaaW.PrintMore Go.Proofs.Ytooiajkbpkfplaa.Q

theorem bia_le {d p : Int} {first : Bool} (h0 : 0 ≤ d) (h1 : d ≤ 2147483647) (hp : 1 ≤ p) : 0 ≤ bia d p first ∧ bia d p first ≤ 309237645312 := (bia_ev h0 h1 hp).2
/-! numbers written -/
def lett (d : Int) : Int := if d < 26 then 97 + d else 22 + d
theorem lett_dig {d : Int} (h0 : 0 ≤ d) (h1 : d < 36) : dig (lett d) = d := by
  unfold dig lett
  split
  · rw [if_pos (by omega)]; omega
  · rw [if_neg (by omega), if_neg (by omega), if_pos (by omega)]; omega
theorem lett_le {d : Int} (h0 : 0 ≤ d) (h1 : d < 36) : 48 ≤ lett d ∧ lett d ≤ 122 := by
  unfold lett
  split <;> omega
theorem num_step {t q : Int} (h1 : 1 ≤ t) (h2 : t ≤ 26) (h : ¬ q < t) : 0 ≤ (q - t) / (36 - t) ∧ (q - t) / (36 - t) < q ∧ 10 * ((q - t) / (36 - t)) ≤ q ∧ 0 ≤ (q - t) % (36 - t) ∧ (q - t) % (36 - t) < 36 - t ∧ (36 - t) * ((q - t) / (36 - t)) + (q - t) % (36 - t) = q - t := by
  have a : 0 ≤ (q - t) / (36 - t) := Int.ediv_nonneg (by omega) (by omega)
  have b : 0 ≤ (q - t) % (36 - t) := Int.emod_nonneg _ (by omega)
  have c : (q - t) % (36 - t) < 36 - t := Int.emod_lt_of_pos _ (by omega)
  have d : (36 - t) * ((q - t) / (36 - t)) + (q - t) % (36 - t) = q - t := Int.mul_ediv_add_emod _ _
  generalize (q - t) / (36 - t) = x at *
  generalize (q - t) % (36 - t) = y at *
  have e : 10 * x ≤ (36 - t) * x := Int.mul_le_mul_of_nonneg_right (by omega) a
  refine ⟨a, ?_, ?_, b, c, d⟩ <;> omega
def num12 (b k q : Int) : List Int := if h : q < thr k b then [lett q] else lett (thr k b + (q - thr k b) % (36 - thr k b)) :: num12 b (k + 36) ((q - thr k b) / (36 - thr k b))
termination_by q.toNat
decreasing_by
  have := num_step (thr_le k b).1 (thr_le k b).2 h
  omega
theorem num12_lett (b : Int) : ∀ (n : Nat) (k q : Int), q.toNat ≤ n → 0 ≤ q → ∀ x ∈ num12 b k q, 48 ≤ x ∧ x ≤ 122 := by
  intro n
  induction n with
  | zero =>
    intro k q hn h0 x hx
    have ht := thr_le k b
    rw [num12, dif_pos (by omega)] at hx
    rw [List.mem_singleton.1 hx]
    exact lett_le h0 (by omega)
  | succ n ih =>
    intro k q hn h0 x hx
    have ht := thr_le k b
    rw [num12] at hx
    by_cases h : q < thr k b
    · rw [dif_pos h] at hx
      rw [List.mem_singleton.1 hx]
      exact lett_le h0 (by omega)
    · rw [dif_neg h] at hx
      have hs := num_step ht.1 ht.2 h
      rcases List.mem_cons.1 hx with hx | hx
      · rw [hx]
        exact lett_le (by omega) (by omega)
      · exact ih _ _ (by omega) (by omega) x hx
theorem num12_pos (b k q : Int) : 1 ≤ (num12 b k q).length := by
  rw [num12]
  split <;> simp
theorem num12_len (b : Int) : ∀ (j : Nat) (k q : Int), q < 10 ^ j → (num12 b k q).length ≤ j + 1 := by
  intro j
  induction j with
  | zero =>
    intro k q h
    have ht := thr_le k b
    have : (10 : Int) ^ 0 = 1 := rfl
    rw [num12, dif_pos (by omega)]
    simp
  | succ j ih =>
    intro k q h
    have ht := thr_le k b
    rw [num12]
    by_cases c : q < thr k b
    · rw [dif_pos c]; simp
    · rw [dif_neg c]
      have hs := num_step ht.1 ht.2 c
      have hp : (10 : Int) ^ (j + 1) = 10 ^ j * 10 := Int.pow_succ _ _
      have := ih (k + 36) ((q - thr k b) / (36 - thr k b)) (by omega)
      simp only [List.length_cons]
      omega
theorem pow35 (i : Nat) (h : (35 : Int) ^ i ≤ 169000000) : (35 : Int) ^ i * 35 ≤ 2147483647 := by
  by_cases c : i ≤ 5
  · have : i = 0 ∨ i = 1 ∨ i = 2 ∨ i = 3 ∨ i = 4 ∨ i = 5 := by omega
    rcases this with r | r | r | r | r | r <;> subst r <;> decide
  · exfalso
    have h1 : (35 : Nat) ^ 6 ≤ 35 ^ i := Nat.pow_le_pow_right (by decide) (by omega)
    have h2 : ((35 ^ i : Nat) : Int) = (35 : Int) ^ i := by simp
    have h3 : (35 : Nat) ^ 6 = 1838265625 := by decide
    omega
theorem rdn_num (b : Int) (rest : List Int) : ∀ (n : Nat) (q' : Int) (i : Nat) (q w : Int), q'.toNat ≤ n → 0 ≤ q' → 0 ≤ q → 1 ≤ w → w * q' + q ≤ 169000000 → (w = 35 ^ i ∨ 26 ≤ 36 * ((i : Int) + 1) - b) →
    rdn b (num12 b (36 * ((i : Int) + 1)) q' ++ rest) i q w = (q + w * q', (i : Int) + ((num12 b (36 * ((i : Int) + 1)) q').length : Int), 0) := by
  have last : ∀ (q' : Int) (i : Nat) (q w : Int), 0 ≤ q' → 0 ≤ q → 1 ≤ w → w * q' + q ≤ 169000000 → q' < thr (36 * ((i : Int) + 1)) b → rdn b (num12 b (36 * ((i : Int) + 1)) q' ++ rest) i q w = (q + w * q', (i : Int) + ((num12 b (36 * ((i : Int) + 1)) q').length : Int), 0) := by
    intro q' i q w h0 h1 h2 h3 h
    have ht := thr_le (36 * ((i : Int) + 1)) b
    rw [num12, dif_pos h, List.singleton_append, rdn, lett_dig h0 (by omega), if_neg (by omega)]
    have hm := Int.mul_comm q' w
    rw [hm, if_neg (by omega), if_pos h]
    rfl
  intro n
  induction n with
  | zero =>
    intro q' i q w hn h0 h1 h2 h3 h4
    have ht := thr_le (36 * ((i : Int) + 1)) b
    exact last q' i q w h0 h1 h2 h3 (by omega)
  | succ n ih =>
    intro q' i q w hn h0 h1 h2 h3 h4
    by_cases h : q' < thr (36 * ((i : Int) + 1)) b
    · exact last q' i q w h0 h1 h2 h3 h
    · have ht := thr_le (36 * ((i : Int) + 1)) b
      have hA : ∀ t, thr (36 * ((i : Int) + 1)) b = t → 26 ≤ 36 * ((i : Int) + 1) - b → t = 26 := by
        intro t e hh
        rw [← e]
        unfold thr
        rw [if_neg (by omega)]
        split <;> omega
      have hB : ∀ t, thr (36 * ((i : Int) + 1)) b = t → t = 1 ∨ 2 ≤ 36 * ((i : Int) + 1) - b := by
        intro t e
        rw [← e]
        unfold thr
        split
        · exact Or.inl rfl
        · split <;> omega
      rw [num12, dif_neg h, List.cons_append, rdn]
      generalize thr (36 * ((i : Int) + 1)) b = t at *
      have hA := hA t rfl
      have hB := hB t rfl
      have hs := num_step ht.1 ht.2 h
      generalize (q' - t) / (36 - t) = y at *
      generalize (q' - t) % (36 - t) = r at *
      have hd0 : 0 ≤ t + r := by omega
      have hd1 : t + r < 36 := by omega
      rw [lett_dig hd0 hd1, if_neg (by omega)]
      have e1 : w * q' = (t + r) * w + w * (36 - t) * y := by
        have : q' = (t + r) + (36 - t) * y := by omega
        rw [this, Int.mul_add, Int.mul_assoc, Int.mul_comm w (t + r)]
      have hw36 : 1 ≤ w * (36 - t) := by
        have := Int.mul_le_mul h2 (show (1 : Int) ≤ 36 - t by omega) (by omega) (by omega)
        omega
      have hy : 0 ≤ w * (36 - t) * y := Int.mul_nonneg (by omega) (by omega)
      have hdw : 0 ≤ (t + r) * w := Int.mul_nonneg hd0 (by omega)
      have htw : t * w ≤ (t + r) * w := Int.mul_le_mul_of_nonneg_right (by omega) (by omega)
      have hw : w * (36 - t) ≤ 2147483647 := by
        have e2 : w * (36 - t) = 36 * w - t * w := by rw [Int.mul_sub, Int.mul_comm w 36, Int.mul_comm w t]
        rcases h4 with h4 | h4
        · by_cases c : 3 ≤ t
          · have : 3 * w ≤ t * w := Int.mul_le_mul_of_nonneg_right c (by omega)
            omega
          · have h5 : 1 * w ≤ t * w := Int.mul_le_mul_of_nonneg_right ht.1 (by omega)
            have h6 := pow35 i (by rw [← h4]; omega)
            rw [← h4] at h6
            omega
        · have := hA h4
          subst this
          omega
      rw [if_neg (by omega), if_neg (by omega), if_neg (by omega)]
      have ei : (i : Int) + 1 = ((i + 1 : Nat) : Int) := by omega
      have ek : 36 * ((i : Int) + 1) + 36 = 36 * (((i + 1 : Nat) : Int) + 1) := by omega
      rw [ek, ei]
      have hrec := ih y (i + 1) (q + (t + r) * w) (w * (36 - t)) (by omega) (by omega) (by omega) hw36 (by omega) (by
        rcases h4 with h4 | h4
        · rcases hB with hB | hB
          · refine Or.inl ?_
            rw [hB, h4, Int.pow_succ]
            rfl
          · exact Or.inr (by omega)
        · exact Or.inr (by omega))
      rw [hrec, e1]
      simp only [List.length_cons, Prod.mk.injEq, and_true]
      refine ⟨?_, ?_⟩ <;> omega
theorem rdn_num0 {b q : Int} (rest : List Int) (h0 : 0 ≤ q) (h1 : q ≤ 169000000) : rdn b (num12 b 36 q ++ rest) 0 0 1 = (q, ((num12 b 36 q).length : Int), 0) := by
  have := rdn_num b rest _ q 0 0 1 (Nat.le_refl _) h0 (by omega) (by omega) (by omega) (Or.inl rfl)
  simpa using this
/-! a text written -/
/-- One round through the text: what is written for the code point m; the delta, the bias, how many are written. -/
def pass (m basic : Int) : List Int → Int → Int → Int → List Int × Int × Int × Int
  | [], d, b, h => ([], d, b, h)
  | c :: l, d, b, h => if c < m then pass m basic l (d + 1) b h else if c = m then (num12 b 36 d ++ (pass m basic l 0 (bia d (h + 1) (decide (h = basic))) (h + 1)).1, (pass m basic l 0 (bia d (h + 1) (decide (h = basic))) (h + 1)).2) else pass m basic l d b h
def leastP (n : Int) : List Int → Int → Int
  | [], m => m
  | c :: l, m => leastP n l (if c ≥ n ∧ c < m then c else m)
def penc (s : List Int) (basic : Int) : Nat → Int → Int → Int → Int → List Int
  | 0, _, _, _, _ => []
  | f + 1, n, b, d, h => if h < s.length then
      (pass (leastP n s 2000000) basic s (d + (leastP n s 2000000 - n) * (h + 1)) b h).1 ++ penc s basic f (leastP n s 2000000 + 1) (pass (leastP n s 2000000) basic s (d + (leastP n s 2000000 - n) * (h + 1)) b h).2.2.1 ((pass (leastP n s 2000000) basic s (d + (leastP n s 2000000 - n) * (h + 1)) b h).2.1 + 1) (pass (leastP n s 2000000) basic s (d + (leastP n s 2000000 - n) * (h + 1)) b h).2.2.2
    else []
def ascii12 (s : List Int) : List Int := s.filter fun c => decide (c < 128)
def pform (s : List Int) : List Int := ascii12 s ++ (if (ascii12 s).length > 0 then [45] else []) ++ penc s (ascii12 s).length (s.length + 1) 128 72 0 (ascii12 s).length

/-- The least is one of the text, or the number it begins with. -/
theorem leastP_spec (n : Int) : ∀ (s : List Int) (m : Int), (leastP n s m = m ∨ (leastP n s m ∈ s ∧ n ≤ leastP n s m)) ∧ leastP n s m ≤ m ∧ ∀ c ∈ s, n ≤ c → leastP n s m ≤ c
  | [], m => ⟨Or.inl rfl, Int.le_refl _, fun c hc => absurd hc (by simp)⟩
  | x :: l, m => by
    unfold leastP
    have := leastP_spec n l (if x ≥ n ∧ x < m then x else m)
    generalize leastP n l (if x ≥ n ∧ x < m then x else m) = r at *
    by_cases c : x ≥ n ∧ x < m
    · rw [if_pos c] at this
      refine ⟨Or.inr ?_, by omega, ?_⟩
      · rcases this.1 with h | h
        · rw [h]; exact ⟨List.mem_cons_self, c.1⟩
        · exact ⟨List.mem_cons_of_mem _ h.1, h.2⟩
      · intro y hy hn
        rcases List.mem_cons.1 hy with hy | hy
        · omega
        · exact this.2.2 y hy hn
    · rw [if_neg c] at this
      refine ⟨?_, this.2.1, ?_⟩
      · rcases this.1 with h | h
        · exact Or.inl h
        · exact Or.inr ⟨List.mem_cons_of_mem _ h.1, h.2⟩
      · intro y hy hn
        rcases List.mem_cons.1 hy with hy | hy
        · have := this.2.1
          omega
        · exact this.2.2 y hy hn

/-- Bounds of one round. -/
theorem pass_bound {m basic : Int} (hm0 : 0 ≤ m) (hm1 : m ≤ 1114111) : ∀ (l : List Int) (j : Nat) (d b h : Int), 0 ≤ d → d ≤ 151 * m + j → j + l.length ≤ 150 → 0 ≤ h → 0 ≤ b → b ≤ 309237645312 →
    0 ≤ (pass m basic l d b h).2.1 ∧ (pass m basic l d b h).2.1 ≤ 151 * m + (j + l.length : Nat) ∧ h ≤ (pass m basic l d b h).2.2.2 ∧ 0 ≤ (pass m basic l d b h).2.2.1 ∧ (pass m basic l d b h).2.2.1 ≤ 309237645312 ∧ ((pass m basic l d b h).1.length : Int) ≤ 10 * ((pass m basic l d b h).2.2.2 - h) ∧ (∀ x ∈ (pass m basic l d b h).1, 48 ≤ x ∧ x ≤ 122)
  | [], j, d, b, h, h1, h2, h3, h4, h5, h6 => by
    unfold pass
    refine ⟨h1, by simpa using h2, Int.le_refl _, h5, h6, ?_, fun x hx => absurd hx (by simp)⟩
    simp
  | c :: l, j, d, b, h, h1, h2, h3, h4, h5, h6 => by
    rw [List.length_cons] at h3
    have e : (j + (c :: l).length : Nat) = j + 1 + l.length := by rw [List.length_cons]; omega
    rw [e]
    unfold pass
    by_cases c1 : c < m
    · rw [if_pos c1]
      exact pass_bound hm0 hm1 l (j + 1) (d + 1) b h (by omega) (by omega) (by omega) h4 h5 h6
    · rw [if_neg c1]
      by_cases c2 : c = m
      · rw [if_pos c2]
        have hb := (bia_le (d := d) (p := h + 1) (first := decide (h = basic)) h1 (by omega) (by omega))
        have := pass_bound hm0 hm1 (basic := basic) l (j + 1) 0 (bia d (h + 1) (decide (h = basic))) (h + 1) (by omega) (by omega) (by omega) (by omega) hb.1 hb.2
        generalize pass m basic l 0 (bia d (h + 1) (decide (h = basic))) (h + 1) = r at *
        obtain ⟨a1, a2, a3, a4, a5, a6, a7⟩ := this
        have hl : (num12 b 36 d).length ≤ 9 + 1 := num12_len b 9 36 d (by have : (10 : Int) ^ 9 = 1000000000 := by decide
                                                                          omega)
        refine ⟨a1, a2, by show h ≤ r.2.2.2; omega, a4, a5, ?_, ?_⟩
        · show ((num12 b 36 d ++ r.1).length : Int) ≤ 10 * (r.2.2.2 - h)
          simp only [List.length_append]
          omega
        · intro x hx
          rcases List.mem_append.1 hx with hx | hx
          · exact num12_lett b _ 36 d (Nat.le_refl _) h1 x hx
          · exact a7 x hx
      · rw [if_neg c2]
        exact pass_bound hm0 hm1 l (j + 1) d b h (by omega) (by omega) (by omega) h4 h5 h6

/-- How many are not above a number. -/
theorem filter_snoc (p : Int → Bool) (l : List Int) (c : Int) : (l ++ [c]).filter p = l.filter p ++ (if p c = true then [c] else []) := by
  rw [List.filter_append]
  congr 1
  by_cases h : p c = true <;> simp [h]
/-- One round read back. -/
theorem pass_dec {m basic : Int} (hm0 : 128 ≤ m) (hm1 : scalar m = true) (F : List Int) : ∀ (l A : List Int) (j : Nat) (d b h nd ip : Int) (f : Nat),
    0 ≤ d → d ≤ 151 * m + j → j + l.length ≤ 150 → 0 ≤ h → 0 ≤ b → b ≤ 309237645312 → 0 ≤ nd → nd ≤ m → 0 ≤ ip →
    h = ((A ++ l.filter fun c => decide (c < m)).length : Int) → d = (m - nd) * (h + 1) + A.length - ip → A.length + l.length ≤ 150 → basic ≤ h → ((pass m basic l d b h).1 ++ F).length ≤ f →
    ∃ f' nd' ip', F.length ≤ f' ∧ 0 ≤ nd' ∧ nd' ≤ m ∧ 0 ≤ ip' ∧ (pass m basic l d b h).2.2.2 = ((A ++ l.filter fun c => decide (c ≤ m)).length : Int) ∧ (pass m basic l d b h).2.1 = (m - nd') * ((pass m basic l d b h).2.2.2 + 1) + (pass m basic l d b h).2.2.2 - ip' ∧
      dec f ((pass m basic l d b h).1 ++ F) (A ++ l.filter fun c => decide (c < m)) nd b ip (decide (h = basic)) = dec f' F (A ++ l.filter fun c => decide (c ≤ m)) nd' (pass m basic l d b h).2.2.1 ip' (decide ((pass m basic l d b h).2.2.2 = basic))
  | [], A, j, d, b, h, nd, ip, f, h1, h2, h3, h4, h5, h6, h7, h8, h9, hh, hd, hl, hbs, hf => by
    refine ⟨f, nd, ip, by simpa [pass] using hf, h7, h8, h9, by simpa [pass] using hh, ?_, rfl⟩
    simp only [List.filter_nil, List.append_nil] at hh
    simp only [pass]
    omega
  | c :: l, A, j, d, b, h, nd, ip, f, h1, h2, h3, h4, h5, h6, h7, h8, h9, hh, hd, hl, hbs, hf => by
    rw [List.length_cons] at h3 hl
    unfold pass at hf ⊢
    by_cases c1 : c < m
    · have e1 : (c :: l).filter (fun c => decide (c < m)) = c :: l.filter fun c => decide (c < m) := by rw [List.filter_cons_of_pos (by simpa using c1)]
      have e2 : (c :: l).filter (fun c => decide (c ≤ m)) = c :: l.filter fun c => decide (c ≤ m) := by rw [List.filter_cons_of_pos (by simp; omega)]
      rw [if_pos c1] at hf ⊢
      rw [e1] at hh ⊢
      rw [e2]
      have a1 : A ++ c :: l.filter (fun c => decide (c < m)) = (A ++ [c]) ++ l.filter (fun c => decide (c < m)) := by simp
      have a2 : A ++ c :: l.filter (fun c => decide (c ≤ m)) = (A ++ [c]) ++ l.filter (fun c => decide (c ≤ m)) := by simp
      rw [a1] at hh ⊢
      rw [a2]
      exact pass_dec hm0 hm1 F l (A ++ [c]) (j + 1) (d + 1) b h nd ip f (by omega) (by omega) (by omega) h4 h5 h6 h7 h8 h9 hh (by simp; omega) (by simp; omega) hbs hf
    · have e1 : (c :: l).filter (fun c => decide (c < m)) = l.filter fun c => decide (c < m) := by rw [List.filter_cons_of_neg (by simpa using c1)]
      rw [if_neg c1] at hf ⊢
      rw [e1] at hh ⊢
      by_cases c2 : c = m
      · rw [if_pos c2] at hf ⊢
        subst c2
        have e2 : (c :: l).filter (fun x => decide (x ≤ c)) = c :: l.filter fun x => decide (x ≤ c) := by rw [List.filter_cons_of_pos (by simp)]
        rw [e2]
        have hsc : 0 ≤ c ∧ c ≤ 1114111 := by
          simp only [scalar, Bool.and_eq_true, decide_eq_true_eq] at hm1
          omega
        have hb := (bia_le (d := d) (p := h + 1) (first := decide (h = basic)) h1 (by omega) (by omega))
        generalize hB : l.filter (fun x => decide (x < c)) = B at *
        have hlen : (A ++ B).length = A.length + B.length := List.length_append
        have hnp := num12_pos b 36 d
        simp only [List.length_append] at hf
        obtain ⟨f0, rfl⟩ : ∃ f0, f = f0 + 1 := ⟨f - 1, by omega⟩
        have hrec := pass_dec (basic := basic) hm0 hm1 F l (A ++ [c]) (j + 1) 0 (bia d (h + 1) (decide (h = basic))) (h + 1) c ((A.length : Int) + 1) f0 (by omega) (by omega) (by omega) (by omega) hb.1 hb.2 (by omega) (by omega) (by omega) (by rw [hB, hh]; simp; omega) (by simp) (by simp; omega) (by omega) (by simp only [List.length_append]; omega)
        generalize pass c basic l 0 (bia d (h + 1) (decide (h = basic))) (h + 1) = r at *
        obtain ⟨f', nd', ip', k1, k2, k3, k4, k5, k6, k7⟩ := hrec
        have a2 : A ++ c :: l.filter (fun x => decide (x ≤ c)) = (A ++ [c]) ++ l.filter (fun x => decide (x ≤ c)) := by simp
        refine ⟨f', nd', ip', k1, k2, k3, k4, by rw [a2]; exact k5, k6, ?_⟩
        rw [a2, ← k7]
        -- one number read
        have hr := rdn_num0 (b := b) (q := d) (r.1 ++ F) h1 (by omega)
        rw [List.append_assoc]
        rw [dec, hr]
        have z : ¬ (num12 b 36 d ++ (r.1 ++ F)).length = 0 := by simp only [List.length_append]; omega
        simp only [if_neg z, if_true]
        have hh1 : ((A ++ B).length : Int) + 1 = h + 1 := by rw [hh]
        have eid : ip + d = (c - nd) * (h + 1) + A.length := by omega
        have hA : (A.length : Int) < h + 1 := by omega
        have ediv : (ip + d) / (h + 1) = c - nd := by
          rw [eid, Int.add_comm, Int.add_mul_ediv_right _ _ (by omega), Int.ediv_eq_zero_of_lt (by omega) hA]
          omega
        have emod : (ip + d) % (h + 1) = A.length := by
          rw [eid, Int.add_comm, Int.add_mul_emod_self_right, Int.emod_eq_of_lt (by omega) hA]
        have hBl : B.length ≤ l.length := by rw [← hB]; exact List.length_filter_le _ _
        have hbig : (c - nd) * (h + 1) ≤ 1114111 * 151 := Int.mul_le_mul (by omega) (by omega) (by omega) (by omega)
        have hci : nd + (c - nd) = c := by omega
        rw [hh1, ediv, emod, hci]
        rw [if_neg (by omega), if_neg (by omega), if_pos hm1]
        have hdrop : (num12 b 36 d ++ (r.1 ++ F)).drop ((num12 b 36 d).length : Int).toNat = r.1 ++ F := by simp
        rw [hdrop]
        have hins : (A ++ B).take ((A.length : Int)).toNat ++ [c] ++ (A ++ B).drop ((A.length : Int)).toNat = (A ++ [c]) ++ B := by simp
        rw [hins]
        have hf1 : decide (h + 1 = basic) = false := decide_eq_false (by omega)
        rw [hf1, hB]
      · have e2 : (c :: l).filter (fun c => decide (c ≤ m)) = l.filter fun c => decide (c ≤ m) := by rw [List.filter_cons_of_neg (by simp; omega)]
        rw [if_neg c2] at hf ⊢
        rw [e2]
        exact pass_dec hm0 hm1 F l A (j + 1) d b h nd ip f h1 (by omega) (by omega) h4 h5 h6 h7 h8 h9 hh hd (by omega) hbs hf
theorem dec_nil (f : Nat) (out : List Int) (n b i : Int) (first : Bool) : dec f [] out n b i first = (out, 0) := by
  cases f <;> simp [dec]
theorem filter_lt_le (m : Int) : ∀ s : List Int, (s.filter fun c => decide (c < m)).length ≤ (s.filter fun c => decide (c ≤ m)).length
  | [] => Nat.le_refl _
  | x :: l => by
    have := filter_lt_le m l
    by_cases c : x < m
    · rw [List.filter_cons_of_pos (by simpa using c), List.filter_cons_of_pos (by simp; omega)]
      simpa using this
    · rw [List.filter_cons_of_neg (by simpa using c)]
      by_cases d : x ≤ m
      · rw [List.filter_cons_of_pos (by simpa using d)]
        simp; omega
      · rw [List.filter_cons_of_neg (by simpa using d)]
        exact this
theorem filter_lt_lt {m : Int} : ∀ s : List Int, m ∈ s → (s.filter fun c => decide (c < m)).length < (s.filter fun c => decide (c ≤ m)).length
  | [], h => absurd h (by simp)
  | x :: l, h => by
    have h0 := filter_lt_le m l
    by_cases e : x = m
    · rw [List.filter_cons_of_neg (by simp; omega), List.filter_cons_of_pos (by simp; omega)]
      simp; omega
    · have := filter_lt_lt l (by
        rcases List.mem_cons.1 h with h | h
        · exact absurd h.symm e
        · exact h)
      by_cases c : x < m
      · rw [List.filter_cons_of_pos (by simpa using c), List.filter_cons_of_pos (by simp; omega)]
        simpa using this
      · rw [List.filter_cons_of_neg (by simpa using c), List.filter_cons_of_neg (by simp; omega)]
        exact this
theorem filter_full {p : Int → Bool} {s : List Int} (h : s.length ≤ (s.filter p).length) : s.filter p = s := by
  have h1 := List.length_filter_le p s
  exact List.filter_eq_self.2 (List.length_filter_eq_length_iff.1 (by omega))
theorem not_full {p : Int → Bool} {s : List Int} (h : (s.filter p).length < s.length) : ∃ x ∈ s, p x = false := by
  apply Classical.byContradiction
  intro hn
  have : s.filter p = s := List.filter_eq_self.2 fun x hx => by
    cases hp : p x with
    | true => rfl
    | false => exact absurd ⟨x, hx, hp⟩ hn
  rw [this] at h
  omega
theorem scalar_le {c : Int} (h : scalar c = true) : 0 ≤ c ∧ c ≤ 1114111 := by
  simp only [scalar, Bool.and_eq_true, decide_eq_true_eq] at h
  omega
/-- The text's least above n, when some are left. -/
theorem leastP_mem {s : List Int} {n : Int} (hs : s.all scalar = true) (h : (s.filter fun c => decide (c < n)).length < s.length) : leastP n s 2000000 ∈ s ∧ n ≤ leastP n s 2000000 ∧ scalar (leastP n s 2000000) = true ∧ (s.filter fun c => decide (c < n)) = (s.filter fun c => decide (c < leastP n s 2000000)) := by
  obtain ⟨h1, h2, h3⟩ := leastP_spec n s 2000000
  obtain ⟨x, hx, hp⟩ := not_full h
  have hx1 := scalar_le (List.all_eq_true.1 hs x hx)
  have hx2 : n ≤ x := by simpa using hp
  have := h3 x hx hx2
  generalize leastP n s 2000000 = m at *
  have hm : m ∈ s ∧ n ≤ m := by
    rcases h1 with h1 | h1
    · omega
    · exact h1
  refine ⟨hm.1, hm.2, List.all_eq_true.1 hs m hm.1, List.filter_congr fun y hy => ?_⟩
  by_cases c : n ≤ y
  · have := h3 y hy c
    rw [decide_eq_false (by omega), decide_eq_false (by omega)]
  · rw [decide_eq_true (by omega), decide_eq_true (by omega)]
theorem penc_dec {s : List Int} {basic : Int} (hs : s.all scalar = true) (hlen : s.length ≤ 150) (_h0b : 0 ≤ basic) : ∀ (fu : Nat) (n b d h nd ip : Int),
    0 ≤ d → d ≤ 151 * n → 128 ≤ n → h = ((s.filter fun c => decide (c < n)).length : Int) → (s.length : Int) - h ≤ fu → 0 ≤ b → b ≤ 309237645312 → 0 ≤ nd → nd ≤ n → 0 ≤ ip → d = (n - nd) * (h + 1) - ip → basic ≤ h →
    ((penc s basic fu n b d h).length : Int) ≤ 10 * (s.length - h) ∧ (∀ x ∈ penc s basic fu n b d h, 48 ≤ x ∧ x ≤ 122) ∧
    ∀ f, (penc s basic fu n b d h).length ≤ f → dec f (penc s basic fu n b d h) (s.filter fun c => decide (c < n)) nd b ip (decide (h = basic)) = (s, 0) := by
  intro fu
  have done : ∀ (n b h nd ip : Int), h = ((s.filter fun c => decide (c < n)).length : Int) → ¬ h < s.length → (([] : List Int).length : Int) ≤ 10 * (s.length - h) ∧ (∀ x ∈ ([] : List Int), 48 ≤ x ∧ x ≤ 122) ∧
    ∀ f, ([] : List Int).length ≤ f → dec f [] (s.filter fun c => decide (c < n)) nd b ip (decide (h = basic)) = (s, 0) := by
    intro n b h nd ip hh hn
    have hfl := List.length_filter_le (fun c => decide (c < n)) s
    refine ⟨by rw [List.length_nil]; omega, fun x hx => absurd hx (by simp), fun f _ => ?_⟩
    rw [dec_nil, filter_full (by omega)]
  induction fu with
  | zero =>
    intro n b d h nd ip h1 h2 h3 hh hfu h4 h5 h6 h7 h8 hd hb
    exact done n b h nd ip hh (by omega)
  | succ fu ih =>
    intro n b d h nd ip h1 h2 h3 hh hfu h4 h5 h6 h7 h8 hd hb
    unfold penc
    by_cases c : h < s.length
    · rw [if_pos c]
      have hm := leastP_mem (n := n) hs (by omega)
      generalize leastP n s 2000000 = m at *
      obtain ⟨m1, m2, m3, m4⟩ := hm
      have m5 := scalar_le m3
      rw [m4] at hh ⊢
      have g0 : 0 ≤ (m - n) * (h + 1) := Int.mul_nonneg (by omega) (by omega)
      have g1 : (m - n) * (h + 1) ≤ (m - n) * 151 := Int.mul_le_mul_of_nonneg_left (by omega) (by omega)
      have g2 : (m - nd) * (h + 1) = (m - n) * (h + 1) + (n - nd) * (h + 1) := by rw [← Int.add_mul]; congr 1; omega
      generalize hD : d + (m - n) * (h + 1) = D at *
      have hbd := pass_bound (m := m) (basic := basic) (by omega) m5.2 s 0 D b h (by omega) (by omega) (by omega) (by omega) h4 h5
      have hpd := fun F f hf => pass_dec (m := m) (basic := basic) (by omega) m3 F s [] 0 D b h nd ip f (by omega) (by omega) (by omega) (by omega) h4 h5 h6 (by omega) h8 hh (by rw [List.length_nil, g2]; omega) (by rw [List.length_nil]; omega) hb hf
      generalize pass m basic s D b h = r at *
      have hfl := List.length_filter_le (fun c => decide (c ≤ m)) s
      have hlt := filter_lt_lt s m1
      have hr2 : r.2.2.2 = ((s.filter fun c => decide (c ≤ m)).length : Int) := by
        obtain ⟨_, _, _, _, _, _, _, h', _⟩ := hpd [] _ (Nat.le_refl _)
        simpa using h'
      have em : (s.filter fun c => decide (c ≤ m)) = s.filter fun c => decide (c < m + 1) := List.filter_congr fun y _ => by
        by_cases e : y ≤ m
        · rw [decide_eq_true (by omega), decide_eq_true (by omega)]
        · rw [decide_eq_false (by omega), decide_eq_false (by omega)]
      obtain ⟨b1, b2, b3, b4, b5, b6, b7⟩ := hbd
      have hrec := fun nd' ip' q1 q2 q3 q4 => ih (m + 1) r.2.2.1 (r.2.1 + 1) r.2.2.2 nd' ip' (by omega) (by omega) (by omega) (by rw [hr2, em]) (by omega) b4 b5 q1 q2 q3 q4 (by omega)
      have e1 : ∀ nd' ip' : Int, r.2.1 = (m - nd') * (r.2.2.2 + 1) + r.2.2.2 - ip' → r.2.1 + 1 = (m + 1 - nd') * (r.2.2.2 + 1) - ip' := by
        intro nd' ip' hq
        have : (m + 1 - nd') * (r.2.2.2 + 1) = (m - nd') * (r.2.2.2 + 1) + (r.2.2.2 + 1) := by
          rw [show m + 1 - nd' = (m - nd') + 1 by omega, Int.add_mul, Int.one_mul]
        omega
      obtain ⟨f1, nd1, ip1, k1, k2, k3, k4, k5, k6, k7⟩ := hpd (penc s basic fu (m + 1) r.2.2.1 (r.2.1 + 1) r.2.2.2) _ (Nat.le_refl _)
      have hx := hrec nd1 ip1 k2 (by omega) k4 (e1 _ _ k6)
      refine ⟨?_, ?_, ?_⟩
      · have := hx.1
        rw [List.length_append]
        omega
      · intro x hx'
        rcases List.mem_append.1 hx' with hx' | hx'
        · exact b7 x hx'
        · exact hx.2.1 x hx'
      · intro f hf
        obtain ⟨f2, nd2, ip2, j1, j2, j3, j4, j5, j6, j7⟩ := hpd (penc s basic fu (m + 1) r.2.2.1 (r.2.1 + 1) r.2.2.2) f hf
        rw [List.nil_append] at j7
        rw [j7, List.nil_append, em]
        exact (hrec nd2 ip2 j2 (by omega) j4 (e1 _ _ j6)).2.2 f2 j1
    · rw [if_neg c]
      exact done n b h nd ip hh c
/-- A text's form: how long, of which octets, and what it is read to. -/
theorem pform_dec {s : List Int} (hs : s.all scalar = true) (hlen : s.length ≤ 150) :
    let E := penc s (ascii12 s).length (s.length + 1) 128 72 0 (ascii12 s).length
    E.length ≤ 1500 ∧ (∀ x ∈ E, 48 ≤ x ∧ x ≤ 122) ∧ ∀ f, E.length ≤ f → dec f E (ascii12 s) 128 72 0 true = (s, 0) := by
  intro E
  have h := penc_dec (basic := ((ascii12 s).length : Int)) hs hlen (by omega) (s.length + 1) 128 72 0 ((ascii12 s).length : Int) 128 0 (by omega) (by omega) (by omega) rfl (by omega) (by omega) (by omega) (by omega) (by omega) (by omega) (by omega) (by omega)
  rw [decide_eq_true rfl] at h
  refine ⟨?_, h.2.1, h.2.2⟩
  have h1 := h.1
  show (penc s (ascii12 s).length (s.length + 1) 128 72 0 (ascii12 s).length).length ≤ 1500
  omega
theorem lastH_skip (l : List Int) (p : Nat) : ∀ (i : Nat), p < i → (∀ j : Nat, p < j → j < i → rd l (j : Int) ≠ 45) → lastH l i = lastH l (p + 1)
  | 0, h, _ => absurd h (by omega)
  | i + 1, h, hj => by
    by_cases e : i = p
    · rw [e]
    · rw [lastH, if_neg (hj i (by omega) (by omega))]
      exact lastH_skip l p i (by omega) fun j h1 h2 => hj j h1 (by omega)
theorem lastH_none (l : List Int) : ∀ (i : Nat), (∀ j : Nat, j < i → rd l (j : Int) ≠ 45) → lastH l i = -1
  | 0, _ => rfl
  | i + 1, hj => by
    rw [lastH, if_neg (hj i (by omega))]
    exact lastH_none l i fun j h => hj j (by omega)
theorem lastH_form (A E : List Int) (hE : ∀ x ∈ E, x ≠ 45) : lastH (A ++ [45] ++ E) (A ++ [45] ++ E).length = (A.length : Int) := by
  rw [lastH_skip (A ++ [45] ++ E) A.length _ (by simp) (fun j h1 h2 => by
    rw [rd_append_right (by simp; omega)]
    refine hE _ (rd_mem (by simp; omega) ?_)
    simp at h2 ⊢
    omega)]
  rw [lastH, if_pos]
  rw [List.append_assoc, rd_append_right (by omega), Int.sub_self]
  rfl
theorem ascii_le {s : List Int} (hs : s.all scalar = true) : ∀ x ∈ ascii12 s, 0 ≤ x ∧ x < 128 := fun x hx => by
  have h := List.mem_filter.1 hx
  have := scalar_le (List.all_eq_true.1 hs x h.1)
  exact ⟨this.1, by simpa using h.2⟩
theorem any_high_none {l : List Int} (h : ∀ x ∈ l, 0 ≤ x ∧ x < 128) : ¬ (l.any fun c => decide (c ≥ 128)) = true := fun hh => by
  obtain ⟨x, hx, hp⟩ := List.any_eq_true.1 hh
  have := h x hx
  have : x ≥ 128 := by simpa using hp
  omega
theorem pform_le {s : List Int} (hs : s.all scalar = true) (hlen : s.length ≤ 150) : (pform s).length ≤ 1700 ∧ ∀ x ∈ pform s, 0 ≤ x ∧ x < 128 := by
  have h := pform_dec hs hlen
  have hA := List.length_filter_le (fun c => decide (c < 128)) s
  have hA : (ascii12 s).length ≤ s.length := hA
  unfold pform
  refine ⟨?_, ?_⟩
  · have := h.1
    simp only [List.length_append]
    split
    · simp; omega
    · simp; omega
  · intro x hx
    rcases List.mem_append.1 hx with hx | hx
    · rcases List.mem_append.1 hx with hx | hx
      · exact ascii_le hs x hx
      · split at hx
        · rw [List.mem_singleton.1 hx]; omega
        · exact absurd hx (by simp)
    · have := h.2.1 x hx
      omega
/-- Every text of scalars is read from its form. -/
theorem decode_pform {s : List Int} (hs : s.all scalar = true) (hlen : s.length ≤ 150) : decode (pform s) = (s, 0) := by
  have h := pform_dec hs hlen
  have hl := pform_le hs hlen
  unfold decode
  rw [if_neg (by omega), if_neg (any_high_none hl.2)]
  unfold pform
  generalize hE : penc s (ascii12 s).length (s.length + 1) 128 72 0 (ascii12 s).length = E at *
  have hE45 : ∀ x ∈ E, x ≠ 45 := fun x hx => by have := h.2.1 x hx; omega
  by_cases c : (ascii12 s).length > 0
  · rw [if_pos c, lastH_form _ _ hE45, if_pos (by omega)]
    have e1 : (ascii12 s ++ [45] ++ E).drop (((ascii12 s).length : Int).toNat + 1) = E := by
      rw [Int.toNat_natCast, List.drop_append_of_le_length (by simp)]
      simp
    have e2 : (ascii12 s ++ [45] ++ E).take (((ascii12 s).length : Int).toNat) = ascii12 s := by
      rw [Int.toNat_natCast, List.append_assoc, List.take_left']
      rfl
    rw [e1, e2]
    exact h.2.2 _ (by simp; omega)
  · have e0 : ascii12 s = [] := List.eq_nil_of_length_eq_zero (by omega)
    rw [e0] at h ⊢
    have z : (if ([] : List Int).length > 0 then [(45 : Int)] else []) = [] := rfl
    simp only [z, List.nil_append]
    rw [lastH_none E E.length (fun j hj => hE45 _ (rd_mem (by omega) (by omega))), if_neg (by omega)]
    exact h.2.2 _ (Nat.le_refl _)

end Go.Proofs.Ytooiajkbpkfplaa.K

-- from Ppuny6
/- Layer 12: both Encodes come to pform, for texts of at most 300 scalars, and refuse the others. -/
namespace Go.Proofs.Ytooiajkbpkfplaa.K
set_option linter.unusedVariables false
set_option linter.unusedSimpArgs false
open Go.RowKit Go.Proofs.YtooiajkbpkfplaaW.PrintWords Go.Proofs.YtooiajkbpkfplaaW.PrintMore Go.Proofs.Ytooiajkbpkfplaa.Q

def DIG : ByteArray := ⟨#[97, 98, 99, 100, 101, 102, 103, 104, 105, 106, 107, 108, 109, 110, 111, 112, 113, 114, 115, 116, 117, 118, 119, 120, 121, 122, 48, 49, 50, 51, 52, 53, 54, 55, 56, 57]⟩
theorem digits_bt {d : Int} (h0 : 0 ≤ d) (h1 : d < 36) : bt DIG d = lett d := by
  have h : ∀ i : Fin 36, bt DIG (i.val : Int) = lett (i.val : Int) := by decide +kernel
  have := h ⟨d.toNat, by omega⟩
  simpa [Int.toNat_of_nonneg h0] using this
theorem letter_of {d : Int} (h0 : 0 ≤ d) (h1 : d < 36) : paronymref12_letter.f d = some (strOfNums [lett d]) := by
  unfold paronymref12_letter.f lett
  by_cases c : d < 26
  · rw [if_pos c, if_pos c, w64 (by omega) (by omega), show (97 + d) % 256 = 97 + d by omega]
  · rw [if_neg c, if_neg c, w64 (by omega) (by omega), show (22 + d) % 256 = 22 + d by omega]
/-- One digit's numbers. -/
theorem digit_nums {t q : Int} (h1 : 1 ≤ t) (h2 : t ≤ 26) (h : ¬ q < t) (hq : q ≤ 1000000000) : wrap64 (36 - t) = 36 - t ∧ wrap64 (t + Int.tmod (wrap64 (q - t)) (wrap64 (36 - t))) = t + (q - t) % (36 - t) ∧ wrap64 (Int.tdiv (wrap64 (q - t)) (wrap64 (36 - t))) = (q - t) / (36 - t) := by
  have hs := num_step h1 h2 h
  have e1 : wrap64 (q - t) = q - t := w64 (by omega) (by omega)
  have e2 : wrap64 (36 - t) = 36 - t := w64 (by omega) (by omega)
  refine ⟨e2, ?_, ?_⟩
  · rw [e1, e2, Int.tmod_eq_emod_of_nonneg (by omega), w64 (by omega) (by omega)]
  · rw [e1, e2, Int.tdiv_eq_ediv_of_nonneg (by omega), w64 (by omega) (by omega)]
theorem number_ev {b : Int} (hb0 : 0 ≤ b) (hb1 : b ≤ 309237645312) : ∀ (j : Nat) (q kk : Int) (out : List Int), 0 ≤ q → q < 10 ^ j → q ≤ 1000000000 → 36 ≤ kk → kk + 36 * j ≤ 1000 → out.length + j ≤ 1000 → Ev (fun k => puny_number.l0 k q b out kk) (out ++ num12 b kk q) := by
  have last : ∀ (q kk : Int) (out : List Int), 0 ≤ q → 36 ≤ kk → kk ≤ 1000 → out.length ≤ 1000 → q < thr kk b → Ev (fun k => puny_number.l0 k q b out kk) (out ++ num12 b kk q) := by
    intro q kk out h0 h1 h2 h3 h
    have ht := thr_le kk b
    refine Ev.step (fun k => rfl) (Ev.bindS (thr_is (by omega) (by omega)) (Ev.pos h (Ev.pos h0 (Ev.pos (by omega) (Ev.pos (by omega) (Ev.ret ?_))))))
    rw [num12, dif_pos h]
    show out ++ [bt DIG q] = _
    rw [digits_bt h0 (by omega)]
  intro j
  induction j with
  | zero =>
    intro q kk out h0 h1 h2 h3 h4 h5
    have ht := thr_le kk b
    have : (10 : Int) ^ 0 = 1 := rfl
    exact last q kk out h0 h3 (by omega) (by omega) (by omega)
  | succ j ih =>
    intro q kk out h0 h1 h2 h3 h4 h5
    have ht := thr_le kk b
    by_cases h : q < thr kk b
    · exact last q kk out h0 h3 (by omega) (by omega) h
    · have hs := num_step ht.1 ht.2 h
      have hp : (10 : Int) ^ (j + 1) = 10 ^ j * 10 := Int.pow_succ _ _
      rw [num12, dif_neg h]
      refine Ev.step (fun k => rfl) (Ev.bindS (thr_is (by omega) (by omega)) (Ev.neg h ?_))
      generalize thr kk b = t at *
      obtain ⟨e2, em, ed⟩ := digit_nums ht.1 ht.2 h h2
      rw [em, ed, w64 (n := kk + 36) (by omega) (by omega)]
      refine Ev.neg (by rw [e2]; omega) (Ev.pos (by omega) (Ev.pos (by omega) (Ev.pos (by omega) ?_)))
      have := ih ((q - t) / (36 - t)) (kk + 36) (out ++ [lett (t + (q - t) % (36 - t))]) (by omega) (by omega) (by omega) (by omega) (by omega) (by simp; omega)
      rw [List.append_assoc, List.singleton_append] at this
      show Ev (fun k => puny_number.l0 k ((q - t) / (36 - t)) b (out ++ [bt DIG (t + (q - t) % (36 - t))]) (kk + 36)) _
      rw [digits_bt (by omega) (by omega)]
      exact this
theorem refNumber_ev {b : Int} (hb0 : 0 ≤ b) (hb1 : b ≤ 309237645312) : ∀ (j : Nat) (q kk : Int) (out : List Int), 0 ≤ q → q < 10 ^ j → q ≤ 1000000000 → 36 ≤ kk → kk + 36 * j ≤ 1000 → out.length + j ≤ 1000 → Ev (fun k => paronymref12_Number.l0 k q b (strOfNums out) kk) (strOfNums (out ++ num12 b kk q)) := by
  have last : ∀ (q kk : Int) (out : List Int), 0 ≤ q → 36 ≤ kk → kk ≤ 1000 → out.length ≤ 1000 → q < thr kk b → Ev (fun k => paronymref12_Number.l0 k q b (strOfNums out) kk) (strOfNums (out ++ num12 b kk q)) := by
    intro q kk out h0 h1 h2 h3 h
    have ht := thr_le kk b
    refine Ev.step (fun k => rfl) (Ev.bindS (reft_is (by omega) (by omega)) (Ev.neg (by omega) (Ev.bindS (letter_of h0 (by omega)) (Ev.pos (by rw [size_str, size_str]; simp; omega) (Ev.ret ?_)))))
    rw [num12, dif_pos h, str_append]
  intro j
  induction j with
  | zero =>
    intro q kk out h0 h1 h2 h3 h4 h5
    have ht := thr_le kk b
    have : (10 : Int) ^ 0 = 1 := rfl
    exact last q kk out h0 h3 (by omega) (by omega) (by omega)
  | succ j ih =>
    intro q kk out h0 h1 h2 h3 h4 h5
    have ht := thr_le kk b
    by_cases h : q < thr kk b
    · exact last q kk out h0 h3 (by omega) (by omega) h
    · have hs := num_step ht.1 ht.2 h
      have hp : (10 : Int) ^ (j + 1) = 10 ^ j * 10 := Int.pow_succ _ _
      rw [num12, dif_neg h]
      have hthr : paronymref12_t.f kk b = some (thr kk b) := reft_is (by omega) (by omega)
      refine Ev.step (fun k => rfl) (Ev.bindS hthr (Ev.pos (by omega) (Ev.bindS hthr ?_)))
      generalize thr kk b = t at *
      obtain ⟨e2, em, ed⟩ := digit_nums ht.1 ht.2 h h2
      rw [em, ed, w64 (n := kk + 36) (by omega) (by omega)]
      refine Ev.neg (by rw [e2]; omega) (Ev.bindS (letter_of (by omega) (by omega)) (Ev.pos (by rw [size_str, size_str]; simp; omega) ?_))
      have := ih ((q - t) / (36 - t)) (kk + 36) (out ++ [lett (t + (q - t) % (36 - t))]) (by omega) (by omega) (by omega) (by omega) (by omega) (by simp; omega)
      rw [List.append_assoc, List.singleton_append] at this
      rw [str_append]
      exact this
theorem number_is {b q : Int} (hb0 : 0 ≤ b) (hb1 : b ≤ 309237645312) (h0 : 0 ≤ q) (h1 : q < 1000000000) : Ev (fun k => puny_number.f k q b) (num12 b 36 q) ∧ Ev (fun k => paronymref12_Number.f k q b) (strOfNums (num12 b 36 q)) ∧ (num12 b 36 q).length ≤ 10 := by
  have hp : (10 : Int) ^ 9 = 1000000000 := by decide
  refine ⟨?_, ?_, num12_len b 9 36 q (by omega)⟩
  · have := number_ev hb0 hb1 9 q 36 [] h0 (by omega) (by omega) (by omega) (by omega) (by simp)
    rw [List.nil_append] at this
    exact this
  · have := refNumber_ev hb0 hb1 9 q 36 [] h0 (by omega) (by omega) (by omega) (by omega) (by simp)
    rw [List.nil_append] at this
    exact this

/-! the least -/
theorem leastP_top {s : List Int} {n x a b : Int} (hx : x ∈ s) (hn : n ≤ x) (ha : x < a) (hb : x < b) : leastP n s a = leastP n s b := by
  obtain ⟨a1, _, a3⟩ := leastP_spec n s a
  obtain ⟨b1, _, b3⟩ := leastP_spec n s b
  have := a3 x hx hn
  have := b3 x hx hn
  rcases a1 with a1 | a1
  · omega
  · rcases b1 with b1 | b1
    · omega
    · have := a3 _ b1.1 b1.2
      have := b3 _ a1.1 a1.2
      omega
theorem least_ev {s : List Int} (hl : s.length ≤ 1000) (n : Int) : ∀ (d i : Nat) (m : Int), s.length - i = d → i ≤ s.length → Ev (fun k => puny_least.l0 k n m s s.length i) (leastP n (s.drop i) m) := by
  intro d
  induction d with
  | zero =>
    intro i m h1 h2
    have : i = s.length := by omega
    subst this
    rw [List.drop_length]
    exact Ev.step (fun k => rfl) (Ev.neg (by omega) (Ev.now _))
  | succ d ih =>
    intro i m h1 h2
    have hi : i < s.length := by omega
    rw [drop_cons s i hi]
    unfold leastP
    have en : wrap64 ((i : Int) + 1) = ((i + 1 : Nat) : Int) := w64 (by omega) (by omega)
    refine Ev.step (fun k => rfl) (Ev.pos (by omega) (Ev.pos (by omega) (Ev.pos (by omega) ?_)))
    rw [en]
    by_cases c : rd s (i : Int) ≥ n
    · refine Ev.pos c ?_
      have e : mn m (rd s (i : Int)) = if rd s (i : Int) ≥ n ∧ rd s (i : Int) < m then rd s (i : Int) else m := by
        unfold mn
        split <;> split <;> omega
      rw [e]
      exact ih (i + 1) _ (by omega) (by omega)
    · rw [if_neg (by omega)]
      exact Ev.neg c (ih (i + 1) m (by omega) (by omega))

/-! one round -/
theorem pass_h (m basic : Int) : ∀ (l : List Int) (d b h : Int), (pass m basic l d b h).2.2.2 + ((l.filter fun c => decide (c < m)).length : Int) = h + ((l.filter fun c => decide (c ≤ m)).length : Int)
  | [], d, b, h => by simp [pass]
  | c :: l, d, b, h => by
    unfold pass
    by_cases c1 : c < m
    · rw [if_pos c1, List.filter_cons_of_pos (by simpa using c1), List.filter_cons_of_pos (by simp; omega)]
      have := pass_h m basic l (d + 1) b h
      simp only [List.length_cons]
      omega
    · rw [if_neg c1, List.filter_cons_of_neg (by simpa using c1)]
      by_cases c2 : c = m
      · rw [if_pos c2, List.filter_cons_of_pos (by simp; omega)]
        have := pass_h m basic l 0 (bia d (h + 1) (decide (h = basic))) (h + 1)
        simp only [List.length_cons]
        omega
      · rw [if_neg c2, List.filter_cons_of_neg (by simp; omega)]
        exact pass_h m basic l d b h
/-- Bounds of one round, texts of at most 300. -/
theorem pass_bound3 {m basic : Int} (hm0 : 0 ≤ m) (hm1 : m ≤ 1114111) : ∀ (l : List Int) (j : Nat) (d b h : Int), 0 ≤ d → d ≤ 301 * m + j → j + l.length ≤ 300 → 0 ≤ h → 0 ≤ b → b ≤ 309237645312 →
    0 ≤ (pass m basic l d b h).2.1 ∧ (pass m basic l d b h).2.1 ≤ 301 * m + (j + l.length : Nat) ∧ 0 ≤ (pass m basic l d b h).2.2.1 ∧ (pass m basic l d b h).2.2.1 ≤ 309237645312 ∧ (pass m basic l d b h).1.length ≤ 10 * l.length
  | [], j, d, b, h, h1, h2, h3, h4, h5, h6 => by
    unfold pass
    exact ⟨h1, by simpa using h2, h5, h6, Nat.le_refl _⟩
  | c :: l, j, d, b, h, h1, h2, h3, h4, h5, h6 => by
    rw [List.length_cons] at h3
    have e : (j + (c :: l).length : Nat) = j + 1 + l.length := by rw [List.length_cons]; omega
    rw [e, List.length_cons]
    unfold pass
    by_cases c1 : c < m
    · rw [if_pos c1]
      have := pass_bound3 hm0 hm1 (basic := basic) l (j + 1) (d + 1) b h (by omega) (by omega) (by omega) h4 h5 h6
      exact ⟨this.1, this.2.1, this.2.2.1, this.2.2.2.1, by omega⟩
    · rw [if_neg c1]
      by_cases c2 : c = m
      · rw [if_pos c2]
        have hb := (bia_le (d := d) (p := h + 1) (first := decide (h = basic)) h1 (by omega) (by omega))
        have := pass_bound3 hm0 hm1 (basic := basic) l (j + 1) 0 (bia d (h + 1) (decide (h = basic))) (h + 1) (by omega) (by omega) (by omega) (by omega) hb.1 hb.2
        generalize pass m basic l 0 (bia d (h + 1) (decide (h = basic))) (h + 1) = r at *
        have hl := (number_is h5 h6 h1 (by omega)).2.2
        refine ⟨this.1, this.2.1, this.2.2.1, this.2.2.2.1, ?_⟩
        show (num12 b 36 d ++ r.1).length ≤ _
        rw [List.length_append]
        omega
      · rw [if_neg c2]
        have := pass_bound3 hm0 hm1 (basic := basic) l (j + 1) d b h (by omega) (by omega) (by omega) h4 h5 h6
        exact ⟨this.1, this.2.1, this.2.2.1, this.2.2.2.1, by omega⟩
theorem pass_ev {s : List Int} (hl : s.length ≤ 300) {m basic : Int} (hm0 : 0 ≤ m) (hm1 : m ≤ 1114111) (R : List Int × Int) : ∀ (dd i : Nat) (out : List Int) (d b h : Int), s.length - i = dd → i ≤ s.length → 0 ≤ d → d ≤ 301 * m + i → 0 ≤ h → h ≤ 300 + i → 0 ≤ b → b ≤ 309237645312 → out.length + 10 * (s.length - i) ≤ 10000000 →
    Ev (fun k => puny_Encode.l1 k s (out ++ (pass m basic (s.drop i) d b h).1) basic (m + 1) (pass m basic (s.drop i) d b h).2.2.1 ((pass m basic (s.drop i) d b h).2.1 + 1) (pass m basic (s.drop i) d b h).2.2.2) R →
    Ev (fun k => puny_Encode.l2 k s out basic m b d h s s.length i) R := by
  intro dd
  induction dd with
  | zero =>
    intro i out d b h h1 h2 h3 h4 h5 h6 h7 h8 h9 hR
    have : i = s.length := by omega
    subst this
    rw [List.drop_length] at hR
    simp only [pass, List.append_nil] at hR
    refine Ev.step (fun k => rfl) (Ev.neg (by omega) ?_)
    rw [w64 (n := m + 1) (by omega) (by omega), w64 (n := d + 1) (by omega) (by omega)]
    exact hR
  | succ dd ih =>
    intro i out d b h h1 h2 h3 h4 h5 h6 h7 h8 h9 hR
    have hi : i < s.length := by omega
    rw [drop_cons s i hi] at hR
    unfold pass at hR
    have en : wrap64 ((i : Int) + 1) = ((i + 1 : Nat) : Int) := w64 (by omega) (by omega)
    refine Ev.step (fun k => rfl) (Ev.pos (by omega) (Ev.pos (by omega) (Ev.pos (by omega) ?_)))
    rw [en]
    by_cases c1 : rd s (i : Int) < m
    · rw [if_pos c1] at hR
      refine Ev.pos c1 ?_
      rw [w64 (n := d + 1) (by omega) (by omega)]
      exact ih (i + 1) out (d + 1) b h (by omega) (by omega) (by omega) (by omega) h5 (by omega) h7 h8 (by omega) hR
    · rw [if_neg c1] at hR
      refine Ev.neg c1 ?_
      by_cases c2 : rd s (i : Int) = m
      · rw [if_pos c2] at hR
        have hn := number_is h7 h8 h3 (show d < 1000000000 by omega)
        have e1 : wrap64 (h + 1) = h + 1 := w64 (by omega) (by omega)
        have hbi := bia_ev (d := d) (p := h + 1) (first := decide (h = basic)) h3 (by omega) (by omega)
        refine Ev.pos c2 (Ev.bind hn.1 (Ev.pos (by omega) ?_))
        rw [e1]
        refine Ev.bind (show Ev (fun k => puny_adapt.f k d (h + 1) (h == basic)) _ from hbi.1) ?_
        rw [← List.append_assoc] at hR
        exact ih (i + 1) (out ++ num12 b 36 d) 0 _ (h + 1) (by omega) (by omega) (by omega) (by omega) (by omega) (by omega) hbi.2.1 hbi.2.2 (by rw [List.length_append]; omega) hR
      · rw [if_neg c2] at hR
        exact Ev.neg c2 (ih (i + 1) out d b h (by omega) (by omega) h3 (by omega) h5 (by omega) h7 h8 (by omega) hR)
theorem refpass_ev {s : List Int} (hl : s.length ≤ 300) {m basic : Int} (hm0 : 0 ≤ m) (hm1 : m ≤ 1114111) (R : ByteArray × Int) : ∀ (dd i : Nat) (out : List Int) (d b h : Int), s.length - i = dd → i ≤ s.length → 0 ≤ d → d ≤ 301 * m + i → 0 ≤ h → h ≤ 300 + i → 0 ≤ b → b ≤ 309237645312 → out.length + 10 * (s.length - i) ≤ 10000000 →
    Ev (fun k => paronymref12_Encode.l2 k s (strOfNums (out ++ (pass m basic (s.drop i) d b h).1)) (pass m basic (s.drop i) d b h).2.2.2 basic (m + 1) (pass m basic (s.drop i) d b h).2.2.1 ((pass m basic (s.drop i) d b h).2.1 + 1)) R →
    Ev (fun k => paronymref12_Encode.l4 k s (strOfNums out) h basic m b d i) R := by
  intro dd
  induction dd with
  | zero =>
    intro i out d b h h1 h2 h3 h4 h5 h6 h7 h8 h9 hR
    have : i = s.length := by omega
    subst this
    rw [List.drop_length] at hR
    simp only [pass, List.append_nil] at hR
    refine Ev.step (fun k => rfl) (Ev.neg (by omega) ?_)
    rw [w64 (n := m + 1) (by omega) (by omega), w64 (n := d + 1) (by omega) (by omega)]
    exact hR
  | succ dd ih =>
    intro i out d b h h1 h2 h3 h4 h5 h6 h7 h8 h9 hR
    have hi : i < s.length := by omega
    rw [drop_cons s i hi] at hR
    unfold pass at hR
    have en : wrap64 ((i : Int) + 1) = ((i + 1 : Nat) : Int) := w64 (by omega) (by omega)
    refine Ev.step (fun k => rfl) (Ev.pos (by omega) (Ev.pos (by omega) ?_))
    by_cases c1 : rd s (i : Int) < m
    · rw [if_pos c1] at hR
      refine Ev.pos c1 (Ev.step (fun k => rfl) (Ev.pos (by omega) ?_))
      refine Ev.neg (by omega) ?_
      rw [en, w64 (n := d + 1) (by omega) (by omega)]
      exact ih (i + 1) out (d + 1) b h (by omega) (by omega) (by omega) (by omega) h5 (by omega) h7 h8 (by omega) hR
    · rw [if_neg c1] at hR
      refine Ev.neg c1 (Ev.step (fun k => rfl) (Ev.pos (by omega) ?_))
      by_cases c2 : rd s (i : Int) = m
      · rw [if_pos c2] at hR
        have hn := number_is h7 h8 h3 (show d < 1000000000 by omega)
        have e1 : wrap64 (h + 1) = h + 1 := w64 (by omega) (by omega)
        have hbi := bia_ev (d := d) (p := h + 1) (first := decide (h = basic)) h3 (by omega) (by omega)
        refine Ev.pos c2 (Ev.bind hn.2.1 (Ev.pos (by rw [size_str, size_str]; omega) ?_))
        rw [e1, en, str_append]
        refine Ev.bind (show Ev (fun k => paronymref12_Bias.f k d (h + 1) (h == basic)) _ from Ev.congr (fun k => (bias_same' k _ _ _).symm) hbi.1) ?_
        rw [← List.append_assoc] at hR
        exact ih (i + 1) (out ++ num12 b 36 d) 0 _ (h + 1) (by omega) (by omega) (by omega) (by omega) (by omega) (by omega) hbi.2.1 hbi.2.2 (by rw [List.length_append]; omega) hR
      · rw [if_neg c2] at hR
        refine Ev.neg c2 ?_
        rw [en]
        exact ih (i + 1) out d b h (by omega) (by omega) h3 (by omega) h5 (by omega) h7 h8 (by omega) hR
theorem refleast_ev {s : List Int} (hl : s.length ≤ 300) {n basic b d h : Int} {str : ByteArray} (R : ByteArray × Int) : ∀ (dd i : Nat) (m : Int), s.length - i = dd → i ≤ s.length →
    Ev (fun k => paronymref12_Encode.l4 k s str h basic (leastP n (s.drop i) m) b (wrap64 (d + wrap64 (wrap64 (leastP n (s.drop i) m - n) * wrap64 (h + 1)))) 0) R → Ev (fun k => paronymref12_Encode.l3 k s str h basic n b d m i) R := by
  intro dd
  induction dd with
  | zero =>
    intro i m h1 h2 hR
    have : i = s.length := by omega
    subst this
    rw [List.drop_length] at hR
    exact Ev.step (fun k => rfl) (Ev.neg (by omega) hR)
  | succ dd ih =>
    intro i m h1 h2 hR
    have hi : i < s.length := by omega
    rw [drop_cons s i hi] at hR
    unfold leastP at hR
    have en : wrap64 ((i : Int) + 1) = ((i + 1 : Nat) : Int) := w64 (by omega) (by omega)
    refine Ev.step (fun k => rfl) (Ev.pos (by omega) (Ev.pos (by omega) ?_))
    rw [en]
    by_cases c : rd s (i : Int) ≥ n
    · refine Ev.pos c ?_
      by_cases c2 : rd s (i : Int) < m
      · rw [if_pos ⟨c, c2⟩] at hR
        exact Ev.pos c2 (ih (i + 1) _ (by omega) (by omega) hR)
      · rw [if_neg (fun h => c2 h.2)] at hR
        exact Ev.neg c2 (ih (i + 1) m (by omega) (by omega) hR)
    · rw [if_neg (fun h => c h.1)] at hR
      exact Ev.neg c (ih (i + 1) m (by omega) (by omega) hR)

/-! all rounds -/
theorem penc_ev {s : List Int} {basic : Int} (hs : s.all scalar = true) (hl : s.length ≤ 300) : ∀ (fu : Nat) (n b d h : Int) (out : List Int), 0 ≤ d → d ≤ 301 * n → 0 ≤ n → h = ((s.filter fun c => decide (c < n)).length : Int) → (s.length : Int) - h ≤ fu → 0 ≤ b → b ≤ 309237645312 → out.length + 3000 * fu ≤ 5000000 →
    Ev (fun k => puny_Encode.l1 k s out basic n b d h) (out ++ penc s basic fu n b d h, 0) ∧ Ev (fun k => paronymref12_Encode.l2 k s (strOfNums out) h basic n b d) (strOfNums (out ++ penc s basic fu n b d h), 0) := by
  intro fu
  induction fu with
  | zero =>
    intro n b d h out h1 h2 h3 hh hfu h4 h5 hout
    have hn : ¬ h < s.length := by omega
    rw [penc, List.append_nil]
    exact ⟨Ev.step (fun k => rfl) (Ev.neg hn (Ev.now _)), Ev.step (fun k => rfl) (Ev.neg hn (Ev.now _))⟩
  | succ fu ih =>
    intro n b d h out h1 h2 h3 hh hfu h4 h5 hout
    unfold penc
    by_cases c : h < s.length
    · rw [if_pos c]
      obtain ⟨m1, m2, m3, m4⟩ := leastP_mem (n := n) hs (by omega)
      have m5 := scalar_le m3
      have htop : leastP n s 9223372036854775807 = leastP n s 2000000 := leastP_top m1 m2 (by omega) (by omega)
      have hleast : Ev (fun k => puny_least.f k s n) (leastP n s 2000000) := by
        have := least_ev (show s.length ≤ 1000 by omega) n s.length 0 9223372036854775807 (by omega) (by omega)
        rw [List.drop_zero, htop] at this
        exact this
      have hrl := fun R hR => refleast_ev (s := s) hl (n := n) (basic := basic) (b := b) (d := d) (h := h) (str := strOfNums out) R s.length 0 2000000 (by omega) (by omega) hR
      rw [List.drop_zero] at hrl
      generalize leastP n s 2000000 = m at *
      rw [m4] at hh
      have g0 : 0 ≤ (m - n) * (h + 1) := Int.mul_nonneg (by omega) (by omega)
      have g1 : (m - n) * (h + 1) ≤ (m - n) * 301 := Int.mul_le_mul_of_nonneg_left (by omega) (by omega)
      have ew : wrap64 (d + wrap64 (wrap64 (m - n) * wrap64 (h + 1))) = d + (m - n) * (h + 1) := by
        rw [w64 (n := m - n) (by omega) (by omega), w64 (n := h + 1) (by omega) (by omega), w64 (n := (m - n) * (h + 1)) (by omega) (by omega), w64 (by omega) (by omega)]
      rw [ew] at hrl
      have hbd := pass_bound3 (m := m) (basic := basic) (by omega) m5.2 s 0 (d + (m - n) * (h + 1)) b h (by omega) (by omega) (by omega) (by omega) h4 h5
      have hph := pass_h m basic s (d + (m - n) * (h + 1)) b h
      have hlt := filter_lt_lt s m1
      have hp1 := fun R => pass_ev (s := s) hl (m := m) (basic := basic) (by omega) m5.2 R s.length 0 out (d + (m - n) * (h + 1)) b h (by omega) (by omega) (by omega) (by omega) (by omega) (by omega) h4 h5 (by omega)
      have hp2 := fun R => refpass_ev (s := s) hl (m := m) (basic := basic) (by omega) m5.2 R s.length 0 out (d + (m - n) * (h + 1)) b h (by omega) (by omega) (by omega) (by omega) (by omega) (by omega) h4 h5 (by omega)
      rw [List.drop_zero] at hp1 hp2
      have em : (s.filter fun c => decide (c ≤ m)) = s.filter fun c => decide (c < m + 1) := List.filter_congr fun y _ => by
        by_cases e : y ≤ m
        · rw [decide_eq_true (by omega), decide_eq_true (by omega)]
        · rw [decide_eq_false (by omega), decide_eq_false (by omega)]
      generalize pass m basic s (d + (m - n) * (h + 1)) b h = r at *
      obtain ⟨b1, b2, b3, b4, b5⟩ := hbd
      have hr2 : r.2.2.2 = ((s.filter fun c => decide (c ≤ m)).length : Int) := by omega
      have hrec := ih (m + 1) r.2.2.1 (r.2.1 + 1) r.2.2.2 (out ++ r.1) (by omega) (by omega) (by omega) (by rw [hr2, em]) (by omega) b3 b4 (by rw [List.length_append]; omega)
      rw [← List.append_assoc]
      refine ⟨Ev.step (fun k => rfl) (Ev.pos c (Ev.bind hleast ?_)), Ev.step (fun k => rfl) (Ev.pos c (hrl _ (hp2 _ hrec.2)))⟩
      show Ev (fun k => puny_Encode.l2 k s out basic m b (wrap64 (d + wrap64 (wrap64 (m - n) * wrap64 (h + 1)))) h s s.length 0) _
      rw [ew]
      exact hp1 _ hrec.1
    · rw [if_neg c, List.append_nil]
      exact ⟨Ev.step (fun k => rfl) (Ev.neg c (Ev.now _)), Ev.step (fun k => rfl) (Ev.neg c (Ev.now _))⟩

/-! from the start -/
def encode12 (s : List Int) : List Int × Int := if (s.any fun c => !scalar c) = true then ([], 10) else if (s.length : Int) > 1000 then ([], 36) else (pform s, 0)
theorem all_of_any {s : List Int} (h : ¬ (s.any fun c => !scalar c) = true) : s.all scalar = true := List.all_eq_true.2 fun x hx => by
  cases e : scalar x with
  | true => rfl
  | false => exact absurd (List.any_eq_true.2 ⟨x, hx, by rw [e]; rfl⟩) h
theorem ascii_snoc (s : List Int) (i : Nat) (h : i < s.length) : ascii12 (s.take (i + 1)) = ascii12 (s.take i) ++ (if rd s (i : Int) < 128 then [rd s (i : Int)] else []) := by
  unfold ascii12
  rw [take_snoc s i h, filter_snoc]
  congr 1
  by_cases c : rd s (i : Int) < 128 <;> simp [c]
theorem Encode12_ev {s : List Int} (hmax : s.length ≤ 1099511627776) (hl : s.length ≤ 300 ∨ s.length > 1000) : Ev (fun k => puny_Encode.f k s) (encode12 s) := by
  unfold puny_Encode.f encode12
  refine Ev.bind (any_unscalar_ev s hmax) ?_
  by_cases c1 : (s.any fun c => !scalar c) = true
  · rw [if_pos c1]
    exact Ev.pos c1 (Ev.now _)
  rw [if_neg c1]
  refine Ev.neg c1 ?_
  by_cases c2 : (s.length : Int) > 1000
  · rw [if_pos c2]
    exact Ev.pos c2 (Ev.now _)
  rw [if_neg c2]
  refine Ev.neg c2 ?_
  have hs := all_of_any c1
  have hl3 : s.length ≤ 300 := by omega
  have hA := List.length_filter_le (fun c => decide (c < 128)) s
  have hA : (ascii12 s).length ≤ s.length := hA
  have fin : ∀ out : List Int, out.length ≤ 400 → Ev (fun k => puny_Encode.j1 k s out (ascii12 s).length) (out ++ penc s (ascii12 s).length (s.length + 1) 128 72 0 (ascii12 s).length, 0) := fun out ho =>
    Ev.step (fun k => rfl) (penc_ev hs hl3 (s.length + 1) 128 72 0 _ out (by omega) (by omega) (by omega) rfl (by omega) (by omega) (by omega) (by omega)).1
  have key : ∀ (d i : Nat), s.length - i = d → i ≤ s.length → Ev (fun k => puny_Encode.l0 k s (ascii12 (s.take i)) s s.length i) (pform s, 0) := by
    intro d
    induction d with
    | zero =>
      intro i h1 h2
      have : i = s.length := by omega
      subst this
      rw [List.take_length]
      unfold pform
      refine Ev.step (fun k => rfl) (Ev.neg (by omega) ?_)
      by_cases c : (ascii12 s).length > 0
      · rw [if_pos c]
        exact Ev.pos (by omega) (Ev.pos (by omega) (fin _ (by simp; omega)))
      · rw [if_neg c, List.append_nil]
        exact Ev.neg (by omega) (fin _ (by omega))
    | succ d ih =>
      intro i h1 h2
      have hi : i < s.length := by omega
      have hsc := scalar_le (List.all_eq_true.1 hs _ (rd_mem (l := s) (i := (i : Int)) (by omega) (by omega)))
      have en : wrap64 ((i : Int) + 1) = ((i + 1 : Nat) : Int) := w64 (by omega) (by omega)
      have hrec := ih (i + 1) (by omega) (by omega)
      rw [ascii_snoc s i hi] at hrec
      have hAi : (ascii12 (s.take i)).length ≤ (s.take i).length := List.length_filter_le _ _
      rw [List.length_take] at hAi
      refine Ev.step (fun k => rfl) (Ev.pos (by omega) (Ev.pos (by omega) (Ev.pos (by omega) ?_)))
      rw [en]
      by_cases c : rd s (i : Int) < 128
      · rw [if_pos c] at hrec
        refine Ev.pos c (Ev.pos (by omega) ?_)
        rw [show rd s (i : Int) % 256 = rd s i by omega]
        exact hrec
      · rw [if_neg c, List.append_nil] at hrec
        exact Ev.neg c hrec
  have := key s.length 0 (by omega) (by omega)
  rw [List.take_zero] at this
  exact this
theorem refEncode12_ev {s : List Int} (hmax : s.length ≤ 1099511627776) (hl : s.length ≤ 300 ∨ s.length > 1000) : Ev (fun k => paronymref12_Encode.f k s) (strOfNums (encode12 s).1, (encode12 s).2) := by
  unfold paronymref12_Encode.f
  have last : (s.any fun c => !scalar c) = false → Ev (fun k => if (s.length : Int) > 1000 then some ((⟨#[]⟩ : ByteArray), (36 : Int)) else paronymref12_Encode.l1 k s (⟨#[]⟩ : ByteArray) 0 0) (strOfNums (encode12 s).1, (encode12 s).2) := by
    intro hany
    unfold encode12
    rw [if_neg (by rw [hany]; simp)]
    by_cases c2 : (s.length : Int) > 1000
    · rw [if_pos c2]
      exact Ev.pos c2 (Ev.now _)
    rw [if_neg c2]
    refine Ev.neg c2 ?_
    have hs := all_of_any (show ¬ (s.any fun c => !scalar c) = true by rw [hany]; simp)
    have hl3 : s.length ≤ 300 := by omega
    have hA := List.length_filter_le (fun c => decide (c < 128)) s
    have hA : (ascii12 s).length ≤ s.length := hA
    have fin : ∀ out : List Int, out.length ≤ 400 → Ev (fun k => paronymref12_Encode.j2 k s (strOfNums out) (ascii12 s).length (ascii12 s).length) (strOfNums (out ++ penc s (ascii12 s).length (s.length + 1) 128 72 0 (ascii12 s).length), 0) := fun out ho =>
      Ev.step (fun k => rfl) (penc_ev hs hl3 (s.length + 1) 128 72 0 _ out (by omega) (by omega) (by omega) rfl (by omega) (by omega) (by omega) (by omega)).2
    have key : ∀ (d i : Nat), s.length - i = d → i ≤ s.length → Ev (fun k => paronymref12_Encode.l1 k s (strOfNums (ascii12 (s.take i))) (ascii12 (s.take i)).length i) (strOfNums (pform s), 0) := by
      intro d
      induction d with
      | zero =>
        intro i h1 h2
        have : i = s.length := by omega
        subst this
        rw [List.take_length]
        unfold pform
        refine Ev.step (fun k => rfl) (Ev.neg (by omega) ?_)
        by_cases c : (ascii12 s).length > 0
        · rw [if_pos c]
          refine Ev.pos (by omega) (Ev.pos (by rw [size_str]; omega) ?_)
          have e : strOfNums (ascii12 s) ++ (⟨#[45]⟩ : ByteArray) = strOfNums (ascii12 s ++ [45]) := str_append _ [45]
          rw [e]
          exact fin _ (by simp; omega)
        · rw [if_neg c, List.append_nil]
          exact Ev.neg (by omega) (fin _ (by omega))
      | succ d ih =>
        intro i h1 h2
        have hi : i < s.length := by omega
        have hsc := scalar_le (List.all_eq_true.1 hs _ (rd_mem (l := s) (i := (i : Int)) (by omega) (by omega)))
        have en : wrap64 ((i : Int) + 1) = ((i + 1 : Nat) : Int) := w64 (by omega) (by omega)
        have hrec := ih (i + 1) (by omega) (by omega)
        rw [ascii_snoc s i hi] at hrec
        have hAi : (ascii12 (s.take i)).length ≤ (s.take i).length := List.length_filter_le _ _
        rw [List.length_take] at hAi
        refine Ev.step (fun k => rfl) (Ev.pos (by omega) (Ev.pos (by omega) ?_))
        rw [en]
        by_cases c : rd s (i : Int) < 128
        · rw [if_pos c] at hrec
          refine Ev.pos c (Ev.bindS rfl (Ev.pos (by rw [size_str, size_str]; simp; omega) ?_))
          rw [show rd s (i : Int) % 256 = rd s i by omega, str_append, w64 (by omega) (by omega)]
          rw [List.length_append] at hrec
          exact hrec
        · rw [if_neg c, List.append_nil] at hrec
          exact Ev.neg c hrec
    have := key s.length 0 (by omega) (by omega)
    rw [List.take_zero] at this
    exact this
  have key : ∀ (d i : Nat), s.length - i = d → i ≤ s.length → (∀ x ∈ s.take i, scalar x = true) → Ev (fun k => paronymref12_Encode.l0 k s (⟨#[]⟩ : ByteArray) i) (strOfNums (encode12 s).1, (encode12 s).2) := by
    intro d
    induction d with
    | zero =>
      intro i h1 h2 h3
      have : i = s.length := by omega
      subst this
      rw [List.take_length] at h3
      refine Ev.step (fun k => rfl) (Ev.neg (by omega) (last ?_))
      rw [List.any_eq_false]
      intro x hx
      rw [h3 x hx]
      simp
    | succ d ih =>
      intro i h1 h2 h3
      have hi : i < s.length := by omega
      have en : wrap64 ((i : Int) + 1) = ((i + 1 : Nat) : Int) := w64 (by omega) (by omega)
      refine Ev.step (fun k => rfl) (Ev.pos (by omega) (Ev.pos (by omega) (Ev.bindS (refScalar_is' _) ?_)))
      by_cases c : scalar (rd s (i : Int)) = true
      · refine Ev.pos c ?_
        rw [en]
        refine ih (i + 1) (by omega) (by omega) fun x hx => ?_
        rw [take_snoc s i hi] at hx
        rcases List.mem_append.1 hx with hx | hx
        · exact h3 x hx
        · rw [List.mem_singleton.1 hx]; exact c
      · have : (s.any fun c => !scalar c) = true := List.any_eq_true.2 ⟨_, rd_mem (l := s) (i := (i : Int)) (by omega) (by omega), by
          simpa using c⟩
        unfold encode12
        rw [if_pos this]
        exact Ev.neg c (Ev.now _)
  exact key s.length 0 (by omega) (by omega) (fun x hx => absurd hx (by simp))

end Go.Proofs.Ytooiajkbpkfplaa.K

-- from Qf54
-- Made by hp.py, a program of this session, with the kit's printer. Not trusted: Lean checks it.
namespace Go.Proofs.Ytooiajkbpkfplaa.Q
open Go.RowKit Go.Proofs.YtooiajkbpkfplaaW.PrintWords Go.Proofs.YtooiajkbpkfplaaW.PrintLast Go.Proofs.YtooiajkbpkfplaaW.PrintMore
attribute [local go_sem] max2_int min2_int max_two min_two max_three min_three max_four min_four   -- for this text's walks alone
set_option linter.unusedVariables false
set_option linter.unusedSimpArgs false

/-! ### utf_octets: function 54 -/
def utf_octets.f (a0 : Int) : Option (List Int) := if a0 < 128 then (some (([(a0) % 256] : List Int))) else (if a0 < 2048 then (some (([(Go.bits .or .i64 192 (a0 / 64)) % 256, (Go.bits .or .i64 128 (Go.bits .and .i64 a0 63)) % 256] : List Int))) else (if a0 < 65536 then (some (([(Go.bits .or .i64 224 (a0 / 4096)) % 256, (Go.bits .or .i64 128 (Go.bits .and .i64 (a0 / 64) 63)) % 256, (Go.bits .or .i64 128 (Go.bits .and .i64 a0 63)) % 256] : List Int))) else (some (([(Go.bits .or .i64 240 (a0 / 262144)) % 256, (Go.bits .or .i64 128 (Go.bits .and .i64 (a0 / 4096) 63)) % 256, (Go.bits .or .i64 128 (Go.bits .and .i64 (a0 / 64) 63)) % 256, (Go.bits .or .i64 128 (Go.bits .and .i64 a0 63)) % 256] : List Int)))))
set_option maxHeartbeats 8000000 in
set_option maxRecDepth 100000 in
theorem utf_octets.calls (a0 : Int) (r : List Int) (w : World) (h : utf_octets.f a0 = some r) :
    Calls Try.prog 54 #[.int .i64 a0] w fun e w' => ∃ v0_ : Value, e = .returned (v0_) ∧ Kd.R (Kd.int .u8) 5 w' w.heap.size (fun _ => True) v0_ r ∧ Below w.heap.size w w' := by
  have HB := Aside0.mk (Below.refl w.heap.size w)
  have H : (if a0 < 128 then (some (([(a0) % 256] : List Int))) else (if a0 < 2048 then (some (([(Go.bits .or .i64 192 (a0 / 64)) % 256, (Go.bits .or .i64 128 (Go.bits .and .i64 a0 63)) % 256] : List Int))) else (if a0 < 65536 then (some (([(Go.bits .or .i64 224 (a0 / 4096)) % 256, (Go.bits .or .i64 128 (Go.bits .and .i64 (a0 / 64) 63)) % 256, (Go.bits .or .i64 128 (Go.bits .and .i64 a0 63)) % 256] : List Int))) else (some (([(Go.bits .or .i64 240 (a0 / 262144)) % 256, (Go.bits .or .i64 128 (Go.bits .and .i64 (a0 / 4096) 63)) % 256, (Go.bits .or .i64 128 (Go.bits .and .i64 (a0 / 64) 63)) % 256, (Go.bits .or .i64 128 (Go.bits .and .i64 a0 63)) % 256] : List Int)))))) = some r := h
  clear h
  by_cases c2 : a0 < 128
  · rw [if_pos c2] at H
    have c2b0 : decide (a0 < 128) = true := decide_eq_true c2
    clear c2
    obtain ⟨y101, hy101⟩ : ∃ y_ : List Int, y_ = (([(a0) % 256] : List Int)) := ⟨_, rfl⟩
    replace H : (some y101) = some r := by first | (rw [hy101]; with_reducible exact H) | (have H2_ := (Option.bind_some _ _).symm.trans H; rw [hy101]; with_reducible exact H2_) | (have H2_ := (Option.bind_some _ _).symm.trans H; with_reducible exact H2_) | with_reducible exact H | (rw [hy101]; exact H) | exact H
    have Ny101 := Aside0.mk hy101
    clear hy101
    obtain rfl := Option.some.inj H
    go_enter Try.func54, Try.ntmps54
    go_wp2_with (first | ((with_reducible refine gate_dst (N := 8) rfl ?_); refine Kd.R_lit (Kd.int .u8) _ 5 ?hg (N := 8) ?hd (xs := ([(a0) % 256] : List Int)) (inner := [.int .u8 ((a0) % 256)]) (ok := fun _ => True) (okp := fun _ => True) ?hr ?hp (fun _ hk => hk) trivial (Below.refl _ _) (Nat.le_refl _) (by simp) ?_; (case hd => rfl); (case hg => rfl); (case hr => first | (go_simp; done) | (go_simp; rfl)); (case hp => exact (Reps.one (show Kd.M (Kd.int .u8) _ _ _ ((a0) % 256) [.int .u8 ((a0) % 256)] from rfl) (Reps.none _ _))); intro v102 w3 ho4 hb hg_ hnew_; clear hg_ hnew_; (first | rw [← Ny101.out] at ho4 | (simp only [Int.reduceToNat] at ho4; rw [← Ny101.out] at ho4)); have n0_ := Aside0.mk (Kd.R_lower ho4 (below_size (by repeat (first | (with_reducible first | exact HB.out | apply below_alloc | apply pw_below_drewN | apply below_drew1) | exact HB.out)))); have n1_ := Aside0.mk (below_step (by repeat (first | (with_reducible first | exact HB.out | apply below_alloc | apply pw_below_drewN | apply below_drew1) | exact HB.out)) hb); clear HB; have HO103 := n0_; have HB := n1_; clear n0_ n1_; clear hb ho4))
    go_ret
    exact ⟨_, by first | rfl | (simp [errW_none, errW_some] <;> rfl) | (simp [*, errW_none, errW_some] <;> rfl), by (with_reducible repeat (first | apply Kd.R_alloc | apply Kd.R_drewN | apply Kd.R_drew)); exact HO103.out, by repeat (first | (with_reducible first | exact HB.out | apply below_alloc | apply pw_below_drewN | apply below_drew1) | exact HB.out)⟩
  · rw [if_neg c2] at H
    have c2b0 : decide (a0 < 128) = false := decide_eq_false c2
    clear c2
    by_cases c5 : a0 < 2048
    · rw [if_pos c5] at H
      have c5b0 : decide (a0 < 2048) = true := decide_eq_true c5
      clear c5
      obtain ⟨y104, hy104⟩ : ∃ y_ : List Int, y_ = (([(Go.bits .or .i64 192 (a0 / 64)) % 256, (Go.bits .or .i64 128 (Go.bits .and .i64 a0 63)) % 256] : List Int)) := ⟨_, rfl⟩
      replace H : (some y104) = some r := by first | (rw [hy104]; with_reducible exact H) | (have H2_ := (Option.bind_some _ _).symm.trans H; rw [hy104]; with_reducible exact H2_) | (have H2_ := (Option.bind_some _ _).symm.trans H; with_reducible exact H2_) | with_reducible exact H | (rw [hy104]; exact H) | exact H
      have Ny104 := Aside0.mk hy104
      clear hy104
      obtain rfl := Option.some.inj H
      go_enter Try.func54, Try.ntmps54
      go_wp2_with (first | ((with_reducible refine gate_dst (N := 20) rfl ?_); refine Kd.R_lit (Kd.int .u8) _ 5 ?hg (N := 20) ?hd (xs := ([(Go.bits .or .i64 192 (a0 / 64)) % 256, (Go.bits .or .i64 128 (Go.bits .and .i64 a0 63)) % 256] : List Int)) (inner := [.int .u8 ((Go.bits .or .i64 192 (a0 / 64)) % 256), .int .u8 ((Go.bits .or .i64 128 (Go.bits .and .i64 a0 63)) % 256)]) (ok := fun _ => True) (okp := fun _ => True) ?hr ?hp (fun _ hk => hk) trivial (Below.refl _ _) (Nat.le_refl _) (by simp) ?_; (case hd => rfl); (case hg => rfl); (case hr => first | (go_simp; done) | (go_simp; rfl)); (case hp => exact (Reps.one (show Kd.M (Kd.int .u8) _ _ _ ((Go.bits .or .i64 192 (a0 / 64)) % 256) [.int .u8 ((Go.bits .or .i64 192 (a0 / 64)) % 256)] from rfl) (Reps.one (show Kd.M (Kd.int .u8) _ _ _ ((Go.bits .or .i64 128 (Go.bits .and .i64 a0 63)) % 256) [.int .u8 ((Go.bits .or .i64 128 (Go.bits .and .i64 a0 63)) % 256)] from rfl) (Reps.none _ _)))); intro v105 w6 ho7 hb hg_ hnew_; clear hg_ hnew_; (first | rw [← Ny104.out] at ho7 | (simp only [Int.reduceToNat] at ho7; rw [← Ny104.out] at ho7)); have n0_ := Aside0.mk (Kd.R_lower ho7 (below_size (by repeat (first | (with_reducible first | exact HB.out | apply below_alloc | apply pw_below_drewN | apply below_drew1) | exact HB.out)))); have n1_ := Aside0.mk (below_step (by repeat (first | (with_reducible first | exact HB.out | apply below_alloc | apply pw_below_drewN | apply below_drew1) | exact HB.out)) hb); clear HB; have HO106 := n0_; have HB := n1_; clear n0_ n1_; clear hb ho7))
      go_ret
      exact ⟨_, by first | rfl | (simp [errW_none, errW_some] <;> rfl) | (simp [*, errW_none, errW_some] <;> rfl), by (with_reducible repeat (first | apply Kd.R_alloc | apply Kd.R_drewN | apply Kd.R_drew)); exact HO106.out, by repeat (first | (with_reducible first | exact HB.out | apply below_alloc | apply pw_below_drewN | apply below_drew1) | exact HB.out)⟩
    · rw [if_neg c5] at H
      have c5b0 : decide (a0 < 2048) = false := decide_eq_false c5
      clear c5
      by_cases c8 : a0 < 65536
      · rw [if_pos c8] at H
        have c8b0 : decide (a0 < 65536) = true := decide_eq_true c8
        clear c8
        obtain ⟨y107, hy107⟩ : ∃ y_ : List Int, y_ = (([(Go.bits .or .i64 224 (a0 / 4096)) % 256, (Go.bits .or .i64 128 (Go.bits .and .i64 (a0 / 64) 63)) % 256, (Go.bits .or .i64 128 (Go.bits .and .i64 a0 63)) % 256] : List Int)) := ⟨_, rfl⟩
        replace H : (some y107) = some r := by first | (rw [hy107]; with_reducible exact H) | (have H2_ := (Option.bind_some _ _).symm.trans H; rw [hy107]; with_reducible exact H2_) | (have H2_ := (Option.bind_some _ _).symm.trans H; with_reducible exact H2_) | with_reducible exact H | (rw [hy107]; exact H) | exact H
        have Ny107 := Aside0.mk hy107
        clear hy107
        obtain rfl := Option.some.inj H
        go_enter Try.func54, Try.ntmps54
        go_wp2_with (first | ((with_reducible refine gate_dst (N := 37) rfl ?_); refine Kd.R_lit (Kd.int .u8) _ 5 ?hg (N := 37) ?hd (xs := ([(Go.bits .or .i64 224 (a0 / 4096)) % 256, (Go.bits .or .i64 128 (Go.bits .and .i64 (a0 / 64) 63)) % 256, (Go.bits .or .i64 128 (Go.bits .and .i64 a0 63)) % 256] : List Int)) (inner := [.int .u8 ((Go.bits .or .i64 224 (a0 / 4096)) % 256), .int .u8 ((Go.bits .or .i64 128 (Go.bits .and .i64 (a0 / 64) 63)) % 256), .int .u8 ((Go.bits .or .i64 128 (Go.bits .and .i64 a0 63)) % 256)]) (ok := fun _ => True) (okp := fun _ => True) ?hr ?hp (fun _ hk => hk) trivial (Below.refl _ _) (Nat.le_refl _) (by simp) ?_; (case hd => rfl); (case hg => rfl); (case hr => first | (go_simp; done) | (go_simp; rfl)); (case hp => exact (Reps.one (show Kd.M (Kd.int .u8) _ _ _ ((Go.bits .or .i64 224 (a0 / 4096)) % 256) [.int .u8 ((Go.bits .or .i64 224 (a0 / 4096)) % 256)] from rfl) (Reps.one (show Kd.M (Kd.int .u8) _ _ _ ((Go.bits .or .i64 128 (Go.bits .and .i64 (a0 / 64) 63)) % 256) [.int .u8 ((Go.bits .or .i64 128 (Go.bits .and .i64 (a0 / 64) 63)) % 256)] from rfl) (Reps.one (show Kd.M (Kd.int .u8) _ _ _ ((Go.bits .or .i64 128 (Go.bits .and .i64 a0 63)) % 256) [.int .u8 ((Go.bits .or .i64 128 (Go.bits .and .i64 a0 63)) % 256)] from rfl) (Reps.none _ _))))); intro v108 w9 ho10 hb hg_ hnew_; clear hg_ hnew_; (first | rw [← Ny107.out] at ho10 | (simp only [Int.reduceToNat] at ho10; rw [← Ny107.out] at ho10)); have n0_ := Aside0.mk (Kd.R_lower ho10 (below_size (by repeat (first | (with_reducible first | exact HB.out | apply below_alloc | apply pw_below_drewN | apply below_drew1) | exact HB.out)))); have n1_ := Aside0.mk (below_step (by repeat (first | (with_reducible first | exact HB.out | apply below_alloc | apply pw_below_drewN | apply below_drew1) | exact HB.out)) hb); clear HB; have HO109 := n0_; have HB := n1_; clear n0_ n1_; clear hb ho10))
        go_ret
        exact ⟨_, by first | rfl | (simp [errW_none, errW_some] <;> rfl) | (simp [*, errW_none, errW_some] <;> rfl), by (with_reducible repeat (first | apply Kd.R_alloc | apply Kd.R_drewN | apply Kd.R_drew)); exact HO109.out, by repeat (first | (with_reducible first | exact HB.out | apply below_alloc | apply pw_below_drewN | apply below_drew1) | exact HB.out)⟩
      · rw [if_neg c8] at H
        have c8b0 : decide (a0 < 65536) = false := decide_eq_false c8
        clear c8
        obtain ⟨y110, hy110⟩ : ∃ y_ : List Int, y_ = (([(Go.bits .or .i64 240 (a0 / 262144)) % 256, (Go.bits .or .i64 128 (Go.bits .and .i64 (a0 / 4096) 63)) % 256, (Go.bits .or .i64 128 (Go.bits .and .i64 (a0 / 64) 63)) % 256, (Go.bits .or .i64 128 (Go.bits .and .i64 a0 63)) % 256] : List Int)) := ⟨_, rfl⟩
        replace H : (some y110) = some r := by first | (rw [hy110]; with_reducible exact H) | (have H2_ := (Option.bind_some _ _).symm.trans H; rw [hy110]; with_reducible exact H2_) | (have H2_ := (Option.bind_some _ _).symm.trans H; with_reducible exact H2_) | with_reducible exact H | (rw [hy110]; exact H) | exact H
        have Ny110 := Aside0.mk hy110
        clear hy110
        obtain rfl := Option.some.inj H
        go_enter Try.func54, Try.ntmps54
        go_wp2_with (first | ((with_reducible refine gate_dst (N := 56) rfl ?_); refine Kd.R_lit (Kd.int .u8) _ 5 ?hg (N := 56) ?hd (xs := ([(Go.bits .or .i64 240 (a0 / 262144)) % 256, (Go.bits .or .i64 128 (Go.bits .and .i64 (a0 / 4096) 63)) % 256, (Go.bits .or .i64 128 (Go.bits .and .i64 (a0 / 64) 63)) % 256, (Go.bits .or .i64 128 (Go.bits .and .i64 a0 63)) % 256] : List Int)) (inner := [.int .u8 ((Go.bits .or .i64 240 (a0 / 262144)) % 256), .int .u8 ((Go.bits .or .i64 128 (Go.bits .and .i64 (a0 / 4096) 63)) % 256), .int .u8 ((Go.bits .or .i64 128 (Go.bits .and .i64 (a0 / 64) 63)) % 256), .int .u8 ((Go.bits .or .i64 128 (Go.bits .and .i64 a0 63)) % 256)]) (ok := fun _ => True) (okp := fun _ => True) ?hr ?hp (fun _ hk => hk) trivial (Below.refl _ _) (Nat.le_refl _) (by simp) ?_; (case hd => rfl); (case hg => rfl); (case hr => first | (go_simp; done) | (go_simp; rfl)); (case hp => exact (Reps.one (show Kd.M (Kd.int .u8) _ _ _ ((Go.bits .or .i64 240 (a0 / 262144)) % 256) [.int .u8 ((Go.bits .or .i64 240 (a0 / 262144)) % 256)] from rfl) (Reps.one (show Kd.M (Kd.int .u8) _ _ _ ((Go.bits .or .i64 128 (Go.bits .and .i64 (a0 / 4096) 63)) % 256) [.int .u8 ((Go.bits .or .i64 128 (Go.bits .and .i64 (a0 / 4096) 63)) % 256)] from rfl) (Reps.one (show Kd.M (Kd.int .u8) _ _ _ ((Go.bits .or .i64 128 (Go.bits .and .i64 (a0 / 64) 63)) % 256) [.int .u8 ((Go.bits .or .i64 128 (Go.bits .and .i64 (a0 / 64) 63)) % 256)] from rfl) (Reps.one (show Kd.M (Kd.int .u8) _ _ _ ((Go.bits .or .i64 128 (Go.bits .and .i64 a0 63)) % 256) [.int .u8 ((Go.bits .or .i64 128 (Go.bits .and .i64 a0 63)) % 256)] from rfl) (Reps.none _ _)))))); intro v111 w11 ho12 hb hg_ hnew_; clear hg_ hnew_; (first | rw [← Ny110.out] at ho12 | (simp only [Int.reduceToNat] at ho12; rw [← Ny110.out] at ho12)); have n0_ := Aside0.mk (Kd.R_lower ho12 (below_size (by repeat (first | (with_reducible first | exact HB.out | apply below_alloc | apply pw_below_drewN | apply below_drew1) | exact HB.out)))); have n1_ := Aside0.mk (below_step (by repeat (first | (with_reducible first | exact HB.out | apply below_alloc | apply pw_below_drewN | apply below_drew1) | exact HB.out)) hb); clear HB; have HO112 := n0_; have HB := n1_; clear n0_ n1_; clear hb ho12))
        go_ret
        exact ⟨_, by first | rfl | (simp [errW_none, errW_some] <;> rfl) | (simp [*, errW_none, errW_some] <;> rfl), by (with_reducible repeat (first | apply Kd.R_alloc | apply Kd.R_drewN | apply Kd.R_drew)); exact HO112.out, by repeat (first | (with_reducible first | exact HB.out | apply below_alloc | apply pw_below_drewN | apply below_drew1) | exact HB.out)⟩

end Go.Proofs.Ytooiajkbpkfplaa.Q

-- from Qf28
-- Made by hp.py, a program of this session, with the kit's printer. Not trusted: Lean checks it.
namespace Go.Proofs.Ytooiajkbpkfplaa.Q
open Go.RowKit Go.Proofs.YtooiajkbpkfplaaW.PrintWords Go.Proofs.YtooiajkbpkfplaaW.PrintLast Go.Proofs.YtooiajkbpkfplaaW.PrintMore
attribute [local go_sem] max2_int min2_int max_two min_two max_three min_three max_four min_four   -- for this text's walks alone
set_option linter.unusedVariables false
set_option linter.unusedSimpArgs false

/-! ### utf_Encode: function 28 -/
def utf_Encode.l0 : Nat → List Int → List Int → Int → Int → Option (List Int × Bool)
  | 0, _, _, _, _ => none
  | k + 1, x4, x7, x8, x9 => if x9 < x8 then (if 0 ≤ x9 then (if x9 < (x7.length : Int) then ((utf_Scalar.f (rd x7 x9)).bind fun t102 => (if t102 = true then ((utf_octets.f (rd x7 x9)).bind fun t103 => (if x4.length + t103.length < 140737488355328 then (utf_Encode.l0 k (x4 ++ t103) x7 x8 (wrap64 (x9 + 1))) else (none))) else (some (([] : List Int), false)))) else (none)) else (none)) else (some (x4, true))
def utf_Encode.f (k : Nat) (l0 : List Int) : Option (List Int × Bool) := utf_Encode.l0 k ([] : List Int) l0 (l0.length : Int) 0
theorem utf_Encode.mono_l : ∀ k, (∀ y0 y1 y2 y3, LeO (utf_Encode.l0 k y0 y1 y2 y3) (utf_Encode.l0 (k + 1) y0 y1 y2 y3))
  | 0 => fun _ _ _ _ r h => by simp [utf_Encode.l0] at h
  | k + 1 => by
    have ih0 := utf_Encode.mono_l k
    · intro y0 y1 y2 y3
      unfold utf_Encode.l0
      repeat' first
      | (with_reducible exact ih0 _ _ _ _)
      | (with_reducible exact LeO.refl _)
      | (with_reducible exact LeO.none _)
      | (with_reducible refine LeO.ite ?_ ?_)
      | (with_reducible refine LeO.bind ?_ (fun _ => ?_))
      | exact ih0 _ _ _ _
      | exact LeO.none _
      | refine LeO.ite ?_ ?_
      | refine LeO.bind ?_ (fun _ => ?_)
theorem utf_Encode.mono : ∀ a0 k, LeO (utf_Encode.f k a0) (utf_Encode.f (k + 1) a0) := by
  intro a0 k
  have ih0 := utf_Encode.mono_l k
  unfold utf_Encode.f
  repeat' first
      | (with_reducible exact ih0 _ _ _ _)
      | (with_reducible exact LeO.refl _)
      | (with_reducible exact LeO.none _)
      | (with_reducible refine LeO.ite ?_ ?_)
      | (with_reducible refine LeO.bind ?_ (fun _ => ?_))
      | exact ih0 _ _ _ _
      | exact LeO.none _
      | refine LeO.ite ?_ ?_
      | refine LeO.bind ?_ (fun _ => ?_)
set_option maxHeartbeats 8000000 in
set_option maxRecDepth 100000 in
theorem utf_Encode.calls (k : Nat) (A0 : Option Addr) (c0 : Nat) (l0 : List Int) (r1 : List Int) (r2 : Bool) (w : World) (hr0 : Kd.C (Kd.int .i64) w A0 l0.length l0) (hc0 : l0.length ≤ c0) (h : utf_Encode.f k l0 = some (r1, r2)) :
    Calls Try.prog 28 #[.slice A0 l0.length c0] w fun e w' => ∃ v0_ : Value, e = .returned (.tuple #[v0_, .bool r2]) ∧ Kd.R (Kd.int .u8) 5 w' w.heap.size (fun _ => True) v0_ r1 ∧ Below w.heap.size w w' := by
  have HR0 := Aside0.mk hr0
  have HC0 := Aside0.mk hc0
  clear hr0 hc0
  have HB := Aside0.mk (Below.refl w.heap.size w)
  have H : (utf_Encode.l0 k ([] : List Int) l0 (l0.length : Int) 0) = some (r1, r2) := h
  clear h
  have H' := Aside0.mk H
  clear H
  go_enter Try.func28, Try.ntmps28
  go_wp2
  go_loopg [4, 9] k (fun kq v4 v9 w' => ∃ (x4_1 : List Int) (x9_1 : Int), v9 = .int .i64 x9_1 ∧ Aside0 (utf_Encode.l0 kq x4_1 l0 (l0.length : Int) x9_1 = some (r1, r2)) ∧ Aside0 (kq ≤ k) ∧ Aside0 (Kd.R (Kd.int .u8) 5 w' w.heap.size (fun _ => True) v4 x4_1) ∧ Aside0 (Below w.heap.size w w'))
  case atStart => exact ⟨(([] : List Int)), (0), (by first | rfl | (simp; done) | (simp [*]; done)), H', ⟨Nat.le_refl _⟩, ⟨by first | exact Kd.R_nil _ _ _ _ _ | exact Kd.N_nil _ _ _ _ _ | exact Kd.V_nil _ _ _ _ _ | exact Kd.Q_nil _ _ _ _ _ | exact Kd.S_nil _ _ _ _ _⟩, ⟨by repeat (first | (with_reducible first | exact HB.out | apply below_alloc | apply pw_below_drewN | apply below_drew1) | exact HB.out)⟩⟩
  case round =>
    clear H'
    obtain ⟨x4_1, x9_1, rfl, HA, HK1, HO_4, HB⟩ := hrel
    cases gk with
    | zero => exact absurd HA.out (by simp [utf_Encode.l0])
    | succ k1 =>
      have H := HA.out
      clear HA
      simp only [utf_Encode.l0] at H
      by_cases c2 : x9_1 < (l0.length : Int)
      · rw [if_pos c2] at H
        have c2b0 : decide (x9_1 < (l0.length : Int)) = true := decide_eq_true c2
        clear c2
        by_cases c3 : 0 ≤ x9_1
        · rw [if_pos c3] at H
          have c3b0 : decide (0 ≤ x9_1) = true := decide_eq_true c3
          clear c3
          by_cases c4 : x9_1 < (l0.length : Int)
          · rw [if_pos c4] at H
            have c4b0 : decide (x9_1 < (l0.length : Int)) = true := decide_eq_true c4
            clear c4
            replace H := Option.bind_eq_some_iff.mp H
            obtain ⟨t102, A50, H⟩ := H
            replace H : (if t102 = true then ((utf_octets.f (rd l0 x9_1)).bind fun t103 => (if x4_1.length + t103.length < 140737488355328 then (utf_Encode.l0 k1 (x4_1 ++ t103) l0 (l0.length : Int) (wrap64 (x9_1 + 1))) else (none))) else (some (([] : List Int), false))) = some (r1, r2) := H
            have A5 := Aside0.mk A50
            clear A50
            by_cases c6 : t102 = true
            · subst c6
              have H1 : ((utf_octets.f (rd l0 x9_1)).bind fun t103 => (if x4_1.length + t103.length < 140737488355328 then (utf_Encode.l0 k1 (x4_1 ++ t103) l0 (l0.length : Int) (wrap64 (x9_1 + 1))) else (none))) = some (r1, r2) := by rw [if_pos rfl] at H; exact H
              clear H
              have H := H1
              clear H1
              replace H := Option.bind_eq_some_iff.mp H
              obtain ⟨t103, A70, H⟩ := H
              replace H : (if x4_1.length + t103.length < 140737488355328 then (utf_Encode.l0 k1 (x4_1 ++ t103) l0 (l0.length : Int) (wrap64 (x9_1 + 1))) else (none)) = some (r1, r2) := H
              have A7 := Aside0.mk A70
              clear A70
              by_cases c8 : x4_1.length + t103.length < 140737488355328
              · rw [if_pos c8] at H
                have LMc8 := Aside0.mk c8
                clear c8
                obtain ⟨y106, hy106⟩ : ∃ y_ : List Int, y_ = (x4_1 ++ t103) := ⟨_, rfl⟩
                replace H : (utf_Encode.l0 k1 y106 l0 (l0.length : Int) (wrap64 (x9_1 + 1))) = some (r1, r2) := by first | (rw [hy106]; with_reducible exact H) | (have H2_ := (Option.bind_some _ _).symm.trans H; rw [hy106]; with_reducible exact H2_) | (have H2_ := (Option.bind_some _ _).symm.trans H; with_reducible exact H2_) | with_reducible exact H | (rw [hy106]; exact H) | exact H
                have Ny106 := Aside0.mk hy106
                clear hy106
                have H' := Aside0.mk H
                clear H
                have p101 : 0 ≤ (x9_1 : Int) := of_decide_eq_true (by first | (with_reducible assumption) | assumption)
                have q101 : x9_1 < (l0.length : Int) := of_decide_eq_true (by first | (with_reducible assumption) | assumption)
                obtain ⟨ad101, e101, hx101_0⟩ := Kd.at_int HR0.out x9_1 p101 q101
                cases e101
                replace hx101_0 := (HB.out.cell (World.block_lt_of_cell? w _ hx101_0)).trans hx101_0
                replace p101 := eq_true p101
                replace q101 := eq_true q101
                go_wp2_with (first | ((with_reducible refine gate_callee (f := 39) rfl ?_); refine goesL_ (some 14) rfl rfl Try.func39 (by kernel_rfl) rfl #[.int .i64 (rd l0 x9_1)] rfl (by (try simp only [List.map_toArray, List.map_cons, List.map_nil]); first | done | rfl | (simp only [List.length_drop, List.length_take]; rfl)) ?_; (with_reducible refine (utf_Scalar.calls (rd l0 x9_1) true _ A5.out).mono ?_); rintro e w' ⟨rfl, ⟨nd, rfl⟩⟩; refine ⟨_, rfl, ?_⟩) | ((with_reducible refine gate_callee (f := 54) rfl ?_); refine goesL_ (some 18) rfl rfl Try.func54 (by kernel_rfl) rfl #[.int .i64 (rd l0 x9_1)] rfl (by (try simp only [List.map_toArray, List.map_cons, List.map_nil]); first | done | rfl | (simp only [List.length_drop, List.length_take]; rfl)) ?_; (with_reducible refine (utf_octets.calls (rd l0 x9_1) t103 _ A7.out).mono ?_); rintro e w9 ⟨v104, rfl, ho0, hb⟩; refine ⟨_, rfl, ?_⟩; have n0_ := Aside0.mk (Kd.R_elder' (by (with_reducible repeat (first | apply Kd.R_alloc | apply Kd.R_drewN | apply Kd.R_drew)); exact HO_4.out) (Kd.R_base ho0) hb); have n1_ := Aside0.mk (Kd.R_lower (Kd.R_new' ho0 (Kd.R_lt (by (with_reducible repeat (first | apply Kd.R_alloc | apply Kd.R_drewN | apply Kd.R_drew)); exact HO_4.out))) (below_size (by repeat (first | (with_reducible first | exact HB.out | apply below_alloc | apply pw_below_drewN | apply below_drew1) | exact HB.out)))); have n2_ := Aside0.mk (below_step (by repeat (first | (with_reducible first | exact HB.out | apply below_alloc | apply pw_below_drewN | apply below_drew1) | exact HB.out)) hb); clear HO_4; clear HB; have HO_4 := n0_; have HO105 := n1_; have HB := n2_; clear n0_ n1_ n2_; (try clear hb); (try clear hb2); (try clear hk); (try clear hi); (try clear ho0); obtain ⟨Ao11, co11, eo11⟩ := Kd.R_slice HO105.out; subst eo11) | ((with_reducible refine gate_builtin (b := .append) (xs := #[.tmp 16, .tmp 18]) rfl ?_); at_builtin; refine Kd.R_append_rows (Kd.int .u8) (w0 := w) w.heap.size rfl (.tmp 16) (.tmp 18) 22 5 (.int .u8 0) 1 rfl Try.underlying22 info5 rfl (by decide) (by omega) u4 x4_1 t103 _ _ _ (fun k_ => some k_ ≠ (.slice Ao11 t103.length co11 : Value).ownBlock) (fun _ => False) rfl rfl ?aO ?aR (fun _ _ h => h) (fun _ h => h.elim) ?aF ?aB ?aS ?aL ?_; (case aR => repeat (first | exact (Kd.R_reads' HO105.out).2.2 | (with_reducible refine Kd.C_alloc ?_ _) | (with_reducible refine Kd.C_drewN ?_ _) | (with_reducible refine Kd.C_drew ?_))); (case aB => exact (by repeat (first | (with_reducible first | exact HB.out | apply below_alloc | apply pw_below_drewN | apply below_drew1) | exact HB.out))); (case aF => exact (fun k_ hk => Kd.fresh' (Kd.R_lt (by (with_reducible repeat (first | apply Kd.R_alloc | apply Kd.R_drewN | apply Kd.R_drew)); exact HO105.out)) k_ hk)); (case aO => exact (by (with_reducible repeat (first | apply Kd.R_alloc | apply Kd.R_drewN | apply Kd.R_drew)); exact Kd.R_mono HO_4.out (fun _ hk => hk.2))); (case aS => exact (below_size (by repeat (first | (with_reducible first | exact HB.out | apply below_alloc | apply pw_below_drewN | apply below_drew1) | exact HB.out)))); (case aL => have := LMc8.out; omega); intro v107 w10 ho hb hg hat; rw [← Ny106.out] at ho; have n0_ := Aside0.mk (Kd.R_after (ok := (fun _ => True)) (by (with_reducible repeat (first | apply Kd.R_alloc | apply Kd.R_drewN | apply Kd.R_drew)); exact HO105.out) hg hat); have n1_ := Aside0.mk (hb); have n2_ := Aside0.mk (ho); clear HO105; clear HB; clear HO_4; have HO105 := n0_; have HB := n1_; have HO108 := n2_; clear n0_ n1_ n2_; clear ho hb hg hat))
                go_roundg k1
                case measure => have := HK1.out; omega
                case rel => exact ⟨(y106), (wrap64 (x9_1 + 1)), (by first | rfl | (simp; done) | (simp [*]; done)), H', ⟨by have := HK1.out; omega⟩, ⟨by (with_reducible repeat (first | apply Kd.R_alloc | apply Kd.R_drewN | apply Kd.R_drew)); exact Kd.R_mono HO108.out (fun _ hk => trivial)⟩, ⟨by repeat (first | (with_reducible first | exact HB.out | apply below_alloc | apply pw_below_drewN | apply below_drew1) | exact HB.out)⟩⟩
              · rw [if_neg c8] at H
                exact absurd H (by simp)
            · replace c6 := Bool.eq_false_iff.mpr c6
              subst c6
              have H1 : (some (([] : List Int), false)) = some (r1, r2) := by rw [if_neg (show ¬ (false = true) by decide)] at H; exact H
              clear H
              have H := H1
              clear H1
              simp only [Option.some.injEq, Prod.mk.injEq] at H
              obtain ⟨rfl, rfl⟩ := H
              have p101 : 0 ≤ (x9_1 : Int) := of_decide_eq_true (by first | (with_reducible assumption) | assumption)
              have q101 : x9_1 < (l0.length : Int) := of_decide_eq_true (by first | (with_reducible assumption) | assumption)
              obtain ⟨ad101, e101, hx101_0⟩ := Kd.at_int HR0.out x9_1 p101 q101
              cases e101
              replace hx101_0 := (HB.out.cell (World.block_lt_of_cell? w _ hx101_0)).trans hx101_0
              replace p101 := eq_true p101
              replace q101 := eq_true q101
              go_wp2_with (first | ((with_reducible refine gate_callee (f := 39) rfl ?_); refine goesL_ (some 14) rfl rfl Try.func39 (by kernel_rfl) rfl #[.int .i64 (rd l0 x9_1)] rfl (by (try simp only [List.map_toArray, List.map_cons, List.map_nil]); first | done | rfl | (simp only [List.length_drop, List.length_take]; rfl)) ?_; (with_reducible refine (utf_Scalar.calls (rd l0 x9_1) false _ A5.out).mono ?_); rintro e w' ⟨rfl, ⟨nd, rfl⟩⟩; refine ⟨_, rfl, ?_⟩))
              go_ret2
              exact ⟨_, by first | rfl | (simp [errW_none, errW_some] <;> rfl) | (simp [*, errW_none, errW_some] <;> rfl), by first | exact Kd.R_nil _ _ _ _ _ | exact Kd.N_nil _ _ _ _ _ | exact Kd.V_nil _ _ _ _ _ | exact Kd.Q_nil _ _ _ _ _ | exact Kd.S_nil _ _ _ _ _, by repeat (first | (with_reducible first | exact HB.out | apply below_alloc | apply pw_below_drewN | apply below_drew1) | exact HB.out)⟩
          · rw [if_neg c4] at H
            exact absurd H (by simp)
        · rw [if_neg c3] at H
          exact absurd H (by simp)
      · rw [if_neg c2] at H
        have c2b0 : decide (x9_1 < (l0.length : Int)) = false := decide_eq_false c2
        clear c2
        simp only [Option.some.injEq, Prod.mk.injEq] at H
        obtain ⟨rfl, rfl⟩ := H
        go_wp2
        go_ret2
        exact ⟨_, by first | rfl | (simp [errW_none, errW_some] <;> rfl) | (simp [*, errW_none, errW_some] <;> rfl), by (with_reducible repeat (first | apply Kd.R_alloc | apply Kd.R_drewN | apply Kd.R_drew)); exact HO_4.out, by repeat (first | (with_reducible first | exact HB.out | apply below_alloc | apply pw_below_drewN | apply below_drew1) | exact HB.out)⟩

end Go.Proofs.Ytooiajkbpkfplaa.Q

-- from Qf73
-- Made by hp.py, a program of this session, with the kit's printer. Not trusted: Lean checks it.
namespace Go.Proofs.Ytooiajkbpkfplaa.Q
open Go.RowKit Go.Proofs.YtooiajkbpkfplaaW.PrintWords Go.Proofs.YtooiajkbpkfplaaW.PrintLast Go.Proofs.YtooiajkbpkfplaaW.PrintMore
attribute [local go_sem] max2_int min2_int max_two min_two max_three min_three max_four min_four   -- for this text's walks alone
set_option linter.unusedVariables false
set_option linter.unusedSimpArgs false

/-! ### utf_size: function 73 -/
mutual
def utf_size.j0 : Nat → Int → Bool → Option (Int)
  | 0, _, _ => none
  | k + 1, x0, x6 => if x6 = true then (some 2) else (if x0 ≥ 224 then (utf_size.j1 k x0 (decide (x0 < 240))) else (utf_size.j1 k x0 false))
def utf_size.j1 : Nat → Int → Bool → Option (Int)
  | 0, _, _ => none
  | k + 1, x0, x13 => if x13 = true then (some 3) else (if x0 ≥ 240 then (if x0 < 245 then (some 4) else (some 0)) else (some 0))
end
def utf_size.f (k : Nat) (a0 : Int) : Option (Int) := if a0 < 128 then (some 1) else (if a0 ≥ 194 then (utf_size.j0 k a0 (decide (a0 < 224))) else (utf_size.j0 k a0 false))
theorem utf_size.mono_l : ∀ k, (∀ y0 y1, LeO (utf_size.j0 k y0 y1) (utf_size.j0 (k + 1) y0 y1)) ∧ (∀ y0 y1, LeO (utf_size.j1 k y0 y1) (utf_size.j1 (k + 1) y0 y1))
  | 0 => ⟨fun _ _ r h => by simp [utf_size.j0] at h, fun _ _ r h => by simp [utf_size.j1] at h⟩
  | k + 1 => by
    obtain ⟨ih0, ih1⟩ := utf_size.mono_l k
    refine ⟨?_, ?_⟩
    · intro y0 y1
      unfold utf_size.j0
      repeat' first
      | (with_reducible exact ih0 _ _)
      | (with_reducible exact ih1 _ _)
      | (with_reducible exact LeO.refl _)
      | (with_reducible exact LeO.none _)
      | (with_reducible refine LeO.ite ?_ ?_)
      | (with_reducible refine LeO.bind ?_ (fun _ => ?_))
      | exact ih0 _ _
      | exact ih1 _ _
      | exact LeO.none _
      | refine LeO.ite ?_ ?_
      | refine LeO.bind ?_ (fun _ => ?_)
    · intro y0 y1
      unfold utf_size.j1
      repeat' first
      | (with_reducible exact ih0 _ _)
      | (with_reducible exact ih1 _ _)
      | (with_reducible exact LeO.refl _)
      | (with_reducible exact LeO.none _)
      | (with_reducible refine LeO.ite ?_ ?_)
      | (with_reducible refine LeO.bind ?_ (fun _ => ?_))
      | exact ih0 _ _
      | exact ih1 _ _
      | exact LeO.none _
      | refine LeO.ite ?_ ?_
      | refine LeO.bind ?_ (fun _ => ?_)
theorem utf_size.mono : ∀ a0 k, LeO (utf_size.f k a0) (utf_size.f (k + 1) a0) := by
  intro a0 k
  obtain ⟨ih0, ih1⟩ := utf_size.mono_l k
  unfold utf_size.f
  repeat' first
      | (with_reducible exact ih0 _ _)
      | (with_reducible exact ih1 _ _)
      | (with_reducible exact LeO.refl _)
      | (with_reducible exact LeO.none _)
      | (with_reducible refine LeO.ite ?_ ?_)
      | (with_reducible refine LeO.bind ?_ (fun _ => ?_))
      | exact ih0 _ _
      | exact ih1 _ _
      | exact LeO.none _
      | refine LeO.ite ?_ ?_
      | refine LeO.bind ?_ (fun _ => ?_)
set_option maxHeartbeats 8000000 in
set_option maxRecDepth 100000 in
theorem utf_size.calls (k : Nat) (a0 : Int) (r : Int) (w : World) (h : utf_size.f k a0 = some r) :
    Calls Try.prog 73 #[.int .u8 a0] w fun e w' => e = .returned (.int .i64 r) ∧ Drawn0 w w' := by
  have H : (if a0 < 128 then (some 1) else (if a0 ≥ 194 then (utf_size.j0 k a0 (decide (a0 < 224))) else (utf_size.j0 k a0 false))) = some r := h
  clear h
  by_cases c2 : a0 < 128
  · rw [if_pos c2] at H
    have c2b0 : decide (a0 < 128) = true := decide_eq_true c2
    clear c2
    obtain rfl := Option.some.inj H
    go_enter Try.func73, Try.ntmps73
    go_wp2
    go_ret
    exact ⟨by first | rfl | (simp; done) | (simp [*]; done), by repeat (first | exact Drawn0.refl _ | apply Drawn0.step)⟩
  · rw [if_neg c2] at H
    have c2b0 : decide (a0 < 128) = false := decide_eq_false c2
    clear c2
    have HC3 := Aside0.mk H
    clear H
    go_enter Try.func73, Try.ntmps73
    go_upto_region 3 with (fail)
    go_cut [6] (fun v6 wc => ∃ (kq : Nat) (x6_2 : Bool), v6 = .bool x6_2 ∧ Aside0 (utf_size.j0 kq a0 x6_2 = some r) ∧ Aside0 (kq ≤ k) ∧ Drawn0 w wc)
    case first =>
      have H := HC3.out
      clear HC3
      by_cases c4 : a0 ≥ 194
      · rw [if_pos c4] at H
        have c4b0 : decide (194 ≤ a0) = true := decide_eq_true c4
        clear c4
        (first | rw [c4b0] | (simp only [i64_w, i32_w]; rw [c4b0]) | rw [c4b1] | (simp only [i64_w, i32_w]; rw [c4b1]) | skip)
        have H' := Aside0.mk H
        clear H
        go_wp2
        go_meet
        case rel => exact ⟨_, (decide (a0 < 224)), (by first | rfl | (simp; done) | (simp [*]; done)), H', ⟨by first | omega | exact Nat.le_refl _⟩, by repeat (first | exact Drawn0.refl _ | apply Drawn0.step)⟩
      · rw [if_neg c4] at H
        have c4b0 : decide (194 ≤ a0) = false := decide_eq_false c4
        clear c4
        (first | rw [c4b0] | (simp only [i64_w, i32_w]; rw [c4b0]) | rw [c4b1] | (simp only [i64_w, i32_w]; rw [c4b1]) | skip)
        have H' := Aside0.mk H
        clear H
        go_wp2
        go_meet
        case rel => exact ⟨_, (false), (by first | rfl | (simp; done) | (simp [*]; done)), H', ⟨by first | omega | exact Nat.le_refl _⟩, by repeat (first | exact Drawn0.refl _ | apply Drawn0.step)⟩
    case rest =>
      clear HC3
      try clear c2
      try clear c2b0
      try clear p2
      try clear c4
      try clear c4b0
      try clear c4b1
      obtain ⟨kq, x6_2, rfl, HA, HJ2, ⟨mc2, rfl⟩⟩ := hcut
      cases kq with
      | zero => exact absurd HA.out (by simp [utf_size.j0])
      | succ kj2 =>
        have H := HA.out
        clear HA
        simp only [utf_size.j0] at H
        by_cases c5 : x6_2 = true
        · subst c5
          have H1 : (some 2) = some r := by rw [if_pos rfl] at H; exact H
          clear H
          have H := H1
          clear H1
          obtain rfl := Option.some.inj H
          go_wp2
          go_ret
          exact ⟨by first | rfl | (simp; done) | (simp [*]; done), by repeat (first | exact Drawn0.refl _ | apply Drawn0.step)⟩
        · replace c5 := Bool.eq_false_iff.mpr c5
          subst c5
          have H1 : (if a0 ≥ 224 then (utf_size.j1 kj2 a0 (decide (a0 < 240))) else (utf_size.j1 kj2 a0 false)) = some r := by rw [if_neg (show ¬ (false = true) by decide)] at H; exact H
          clear H
          have H := H1
          clear H1
          have HC6 := Aside0.mk H
          clear H
          go_upto_region 5 with (fail)
          go_cut [13] (fun v13 wc => ∃ (kq : Nat) (x13_5 : Bool), v13 = .bool x13_5 ∧ Aside0 (utf_size.j1 kq a0 x13_5 = some r) ∧ Aside0 (kq ≤ kj2) ∧ Drawn0 w wc)
          case first =>
            have H := HC6.out
            clear HC6
            by_cases c7 : a0 ≥ 224
            · rw [if_pos c7] at H
              have c7b0 : decide (224 ≤ a0) = true := decide_eq_true c7
              clear c7
              (first | rw [c7b0] | (simp only [i64_w, i32_w]; rw [c7b0]) | rw [c7b1] | (simp only [i64_w, i32_w]; rw [c7b1]) | skip)
              have H' := Aside0.mk H
              clear H
              go_wp2
              go_meet
              case rel => exact ⟨_, (decide (a0 < 240)), (by first | rfl | (simp; done) | (simp [*]; done)), H', ⟨by have := HJ2.out; first | omega | exact Nat.le_refl _⟩, by repeat (first | exact Drawn0.refl _ | apply Drawn0.step)⟩
            · rw [if_neg c7] at H
              have c7b0 : decide (224 ≤ a0) = false := decide_eq_false c7
              clear c7
              (first | rw [c7b0] | (simp only [i64_w, i32_w]; rw [c7b0]) | rw [c7b1] | (simp only [i64_w, i32_w]; rw [c7b1]) | skip)
              have H' := Aside0.mk H
              clear H
              go_wp2
              go_meet
              case rel => exact ⟨_, (false), (by first | rfl | (simp; done) | (simp [*]; done)), H', ⟨by have := HJ2.out; first | omega | exact Nat.le_refl _⟩, by repeat (first | exact Drawn0.refl _ | apply Drawn0.step)⟩
          case rest =>
            clear HC6
            try clear c2
            try clear c2b0
            try clear p2
            try clear c4
            try clear c4b0
            try clear c4b1
            try clear c5
            try clear c7
            try clear c7b0
            try clear c7b1
            try clear p2
            obtain ⟨kq, x13_5, rfl, HA, HJ5, ⟨mc5, rfl⟩⟩ := hcut
            cases kq with
            | zero => exact absurd HA.out (by simp [utf_size.j1])
            | succ kj5 =>
              have H := HA.out
              clear HA
              simp only [utf_size.j1] at H
              by_cases c8 : x13_5 = true
              · subst c8
                have H1 : (some 3) = some r := by rw [if_pos rfl] at H; exact H
                clear H
                have H := H1
                clear H1
                obtain rfl := Option.some.inj H
                go_wp2
                go_ret
                exact ⟨by first | rfl | (simp; done) | (simp [*]; done), by repeat (first | exact Drawn0.refl _ | apply Drawn0.step)⟩
              · replace c8 := Bool.eq_false_iff.mpr c8
                subst c8
                have H1 : (if a0 ≥ 240 then (if a0 < 245 then (some 4) else (some 0)) else (some 0)) = some r := by rw [if_neg (show ¬ (false = true) by decide)] at H; exact H
                clear H
                have H := H1
                clear H1
                by_cases c9 : a0 ≥ 240
                · rw [if_pos c9] at H
                  have c9b0 : decide (240 ≤ a0) = true := decide_eq_true c9
                  clear c9
                  by_cases c10 : a0 < 245
                  · rw [if_pos c10] at H
                    have c10b0 : decide (a0 < 245) = true := decide_eq_true c10
                    clear c10
                    obtain rfl := Option.some.inj H
                    go_wp2
                    go_ret
                    exact ⟨by first | rfl | (simp; done) | (simp [*]; done), by repeat (first | exact Drawn0.refl _ | apply Drawn0.step)⟩
                  · rw [if_neg c10] at H
                    have c10b0 : decide (a0 < 245) = false := decide_eq_false c10
                    clear c10
                    obtain rfl := Option.some.inj H
                    go_wp2
                    go_ret
                    exact ⟨by first | rfl | (simp; done) | (simp [*]; done), by repeat (first | exact Drawn0.refl _ | apply Drawn0.step)⟩
                · rw [if_neg c9] at H
                  have c9b0 : decide (240 ≤ a0) = false := decide_eq_false c9
                  clear c9
                  obtain rfl := Option.some.inj H
                  go_wp2
                  go_ret
                  exact ⟨by first | rfl | (simp; done) | (simp [*]; done), by repeat (first | exact Drawn0.refl _ | apply Drawn0.step)⟩

end Go.Proofs.Ytooiajkbpkfplaa.Q

-- from Qf58
-- Made by hp.py, a program of this session, with the kit's printer. Not trusted: Lean checks it.
namespace Go.Proofs.Ytooiajkbpkfplaa.Q
open Go.RowKit Go.Proofs.YtooiajkbpkfplaaW.PrintWords Go.Proofs.YtooiajkbpkfplaaW.PrintLast Go.Proofs.YtooiajkbpkfplaaW.PrintMore
attribute [local go_sem] max2_int min2_int max_two min_two max_three min_three max_four min_four   -- for this text's walks alone
set_option linter.unusedVariables false
set_option linter.unusedSimpArgs false

/-! ### utf_next: function 58 -/
mutual
def utf_next.j0 : Nat → List Int → Int → Bool → Option (Int × Int)
  | 0, _, _, _ => none
  | k + 1, x0, x4, x19 => if x19 = true then (some (0, 0)) else (if 0 < (x0.length : Int) then (if x4 > 1 then (if 0 ≤ x4 then (utf_next.j1 k x0 x4 (Go.bits .and .i64 (wrap64 (rd x0 0)) (shr .i64 127 x4))) else (none)) else (utf_next.j1 k x0 x4 (wrap64 (rd x0 0)))) else (none))
def utf_next.j1 : Nat → List Int → Int → Int → Option (Int × Int)
  | 0, _, _, _ => none
  | k + 1, x0, x4, x5 => if 1 ≤ x4 then (if x4 ≤ (x0.length : Int) then ((some ((x0.take (x4 : Int).toNat).drop 1 : List Int)).bind fun y104 => (utf_next.l0 k x4 x5 y104 (y104.length : Int) 0)) else (none)) else (none)
def utf_next.l0 : Nat → Int → Int → List Int → Int → Int → Option (Int × Int)
  | 0, _, _, _, _, _ => none
  | k + 1, x4, x5, x32, x33, x34 => if x34 < x33 then (if 0 ≤ x34 then (if x34 < (x32.length : Int) then (if (Go.bits .and .u8 (rd x32 x34) 192) = 128 then (utf_next.l0 k x4 (Go.bits .or .i64 (wrap64 (x5 * 64)) (wrap64 (Go.bits .and .u8 (rd x32 x34) 63))) x32 x33 (wrap64 (x34 + 1))) else (some (0, 0))) else (none)) else (none)) else ((utf_Scalar.f x5).bind fun t109 => (if t109 = true then ((utf_octets.f x5).bind fun t110 => (if (t110.length : Int) = x4 then (some (x5, x4)) else (some (0, 0)))) else (some (0, 0))))
end
def utf_next.f (k : Nat) (l0 : List Int) : Option (Int × Int) := if 0 < (l0.length : Int) then ((utf_size.f k (rd l0 0)).bind fun t102 => (if t102 = 0 then (utf_next.j0 k l0 t102 true) else (utf_next.j0 k l0 t102 (decide (t102 > (l0.length : Int)))))) else (none)
theorem utf_next.mono_l : ∀ k, (∀ y0 y1 y2, LeO (utf_next.j0 k y0 y1 y2) (utf_next.j0 (k + 1) y0 y1 y2)) ∧ (∀ y0 y1 y2, LeO (utf_next.j1 k y0 y1 y2) (utf_next.j1 (k + 1) y0 y1 y2)) ∧ (∀ y0 y1 y2 y3 y4, LeO (utf_next.l0 k y0 y1 y2 y3 y4) (utf_next.l0 (k + 1) y0 y1 y2 y3 y4))
  | 0 => ⟨fun _ _ _ r h => by simp [utf_next.j0] at h, fun _ _ _ r h => by simp [utf_next.j1] at h, fun _ _ _ _ _ r h => by simp [utf_next.l0] at h⟩
  | k + 1 => by
    obtain ⟨ih0, ih1, ih2⟩ := utf_next.mono_l k
    refine ⟨?_, ?_, ?_⟩
    · intro y0 y1 y2
      unfold utf_next.j0
      repeat' first
      | (with_reducible exact ih0 _ _ _)
      | (with_reducible exact ih1 _ _ _)
      | (with_reducible exact ih2 _ _ _ _ _)
      | (with_reducible exact utf_size.mono _ _)
      | (with_reducible exact LeO.refl _)
      | (with_reducible exact LeO.none _)
      | (with_reducible refine LeO.ite ?_ ?_)
      | (with_reducible refine LeO.bind ?_ (fun _ => ?_))
      | exact ih0 _ _ _
      | exact ih1 _ _ _
      | exact ih2 _ _ _ _ _
      | exact utf_size.mono _ _
      | exact LeO.none _
      | refine LeO.ite ?_ ?_
      | refine LeO.bind ?_ (fun _ => ?_)
    · intro y0 y1 y2
      unfold utf_next.j1
      repeat' first
      | (with_reducible exact ih0 _ _ _)
      | (with_reducible exact ih1 _ _ _)
      | (with_reducible exact ih2 _ _ _ _ _)
      | (with_reducible exact utf_size.mono _ _)
      | (with_reducible exact LeO.refl _)
      | (with_reducible exact LeO.none _)
      | (with_reducible refine LeO.ite ?_ ?_)
      | (with_reducible refine LeO.bind ?_ (fun _ => ?_))
      | exact ih0 _ _ _
      | exact ih1 _ _ _
      | exact ih2 _ _ _ _ _
      | exact utf_size.mono _ _
      | exact LeO.none _
      | refine LeO.ite ?_ ?_
      | refine LeO.bind ?_ (fun _ => ?_)
    · intro y0 y1 y2 y3 y4
      unfold utf_next.l0
      repeat' first
      | (with_reducible exact ih0 _ _ _)
      | (with_reducible exact ih1 _ _ _)
      | (with_reducible exact ih2 _ _ _ _ _)
      | (with_reducible exact utf_size.mono _ _)
      | (with_reducible exact LeO.refl _)
      | (with_reducible exact LeO.none _)
      | (with_reducible refine LeO.ite ?_ ?_)
      | (with_reducible refine LeO.bind ?_ (fun _ => ?_))
      | exact ih0 _ _ _
      | exact ih1 _ _ _
      | exact ih2 _ _ _ _ _
      | exact utf_size.mono _ _
      | exact LeO.none _
      | refine LeO.ite ?_ ?_
      | refine LeO.bind ?_ (fun _ => ?_)
theorem utf_next.mono : ∀ a0 k, LeO (utf_next.f k a0) (utf_next.f (k + 1) a0) := by
  intro a0 k
  obtain ⟨ih0, ih1, ih2⟩ := utf_next.mono_l k
  unfold utf_next.f
  repeat' first
      | (with_reducible exact ih0 _ _ _)
      | (with_reducible exact ih1 _ _ _)
      | (with_reducible exact ih2 _ _ _ _ _)
      | (with_reducible exact utf_size.mono _ _)
      | (with_reducible exact LeO.refl _)
      | (with_reducible exact LeO.none _)
      | (with_reducible refine LeO.ite ?_ ?_)
      | (with_reducible refine LeO.bind ?_ (fun _ => ?_))
      | exact ih0 _ _ _
      | exact ih1 _ _ _
      | exact ih2 _ _ _ _ _
      | exact utf_size.mono _ _
      | exact LeO.none _
      | refine LeO.ite ?_ ?_
      | refine LeO.bind ?_ (fun _ => ?_)
set_option maxHeartbeats 8000000 in
set_option maxRecDepth 100000 in
theorem utf_next.calls (k : Nat) (A0 : Option Addr) (c0 : Nat) (l0 : List Int) (r1 : Int) (r2 : Int) (w : World) (hr0 : Kd.C (Kd.int .u8) w A0 l0.length l0) (hc0 : l0.length ≤ c0) (h : utf_next.f k l0 = some (r1, r2)) :
    Calls Try.prog 58 #[.slice A0 l0.length c0] w fun e w' => e = .returned (.tuple #[.int .i64 r1, .int .i64 r2]) ∧ Below w.heap.size w w' := by
  have HR0 := Aside0.mk hr0
  have HC0 := Aside0.mk hc0
  clear hr0 hc0
  have HB := Aside0.mk (Below.refl w.heap.size w)
  have H : (if 0 < (l0.length : Int) then ((utf_size.f k (rd l0 0)).bind fun t102 => (if t102 = 0 then (utf_next.j0 k l0 t102 true) else (utf_next.j0 k l0 t102 (decide (t102 > (l0.length : Int)))))) else (none)) = some (r1, r2) := h
  clear h
  by_cases c2 : 0 < (l0.length : Int)
  · rw [if_pos c2] at H
    have c2b0 : decide (0 < (l0.length : Int)) = true := decide_eq_true c2
    have c2b1 : decide (0 < l0.length) = true := decide_eq_true (by omega)
    clear c2
    replace H := Option.bind_eq_some_iff.mp H
    obtain ⟨t102, A30, H⟩ := H
    replace H : (if t102 = 0 then (utf_next.j0 k l0 t102 true) else (utf_next.j0 k l0 t102 (decide (t102 > (l0.length : Int))))) = some (r1, r2) := H
    have A3 := Aside0.mk A30
    clear A30
    have HC4 := Aside0.mk H
    clear H
    have p101 : 0 ≤ (0 : Int) := (by omega)
    have q101 : 0 < (l0.length : Int) := of_decide_eq_true (by first | (with_reducible assumption) | assumption)
    obtain ⟨ad101, e101, hx101_0⟩ := Kd.at_int HR0.out 0 p101 q101
    cases e101
    have qi101 : (0 < l0.length) = True := eq_true (by omega)
    (try rw [show ((0 : Int)).toNat = 0 from rfl] at hx101_0)
    (try rw [Addr.add_zero'] at hx101_0)
    replace p101 := eq_true p101
    replace q101 := eq_true q101
    go_enter Try.func58, Try.ntmps58
    go_upto_region 2 with (first | ((with_reducible refine gate_callee (f := 73) rfl ?_); refine goesL_ (some 11) rfl rfl Try.func73 (by kernel_rfl) rfl #[.int .u8 (rd l0 0)] rfl (by (try simp only [List.map_toArray, List.map_cons, List.map_nil]); first | done | rfl | (simp only [List.length_drop, List.length_take]; rfl)) ?_; (with_reducible refine (utf_size.calls k (rd l0 0) t102 _ A3.out).mono ?_); rintro e w' ⟨rfl, ⟨nd, rfl⟩⟩; refine ⟨_, rfl, ?_⟩))
    (try simp only [Act.put, List.setIfInBounds_toArray, List.set_cons_zero, List.set_cons_succ])
    go_cut [19] (fun v19 wc => ∃ (kq : Nat) (x19_3 : Bool), v19 = .bool x19_3 ∧ Aside0 (utf_next.j0 kq l0 t102 x19_3 = some (r1, r2)) ∧ Aside0 (kq ≤ k) ∧ Aside0 (Below w.heap.size w wc))
    case first =>
      have H := HC4.out
      clear HC4
      by_cases c5 : t102 = 0
      · rw [if_pos c5] at H
        have c5b0 : (t102 == 0) = true := beq_iff_eq.mpr c5
        have c5b1 : (t102 != 0) = false := bne_eq_false_iff_eq.mpr c5
        clear c5
        (first | rw [c5b0] | (simp only [i64_w, i32_w]; rw [c5b0]) | rw [c5b1] | (simp only [i64_w, i32_w]; rw [c5b1]) | skip)
        have H' := Aside0.mk H
        clear H
        go_wp2
        go_meet
        case rel => exact ⟨_, (true), (by first | rfl | (simp; done) | (simp [*]; done)), H', ⟨by first | omega | exact Nat.le_refl _⟩, ⟨by repeat (first | (with_reducible first | exact HB.out | apply below_alloc | apply pw_below_drewN | apply below_drew1) | exact HB.out)⟩⟩
      · rw [if_neg c5] at H
        have c5b0 : (t102 == 0) = false := beq_eq_false_iff_ne.mpr c5
        have c5b1 : (t102 != 0) = true := bne_iff_ne.mpr c5
        (first | rw [c5b0] | (simp only [i64_w, i32_w]; rw [c5b0]) | rw [c5b1] | (simp only [i64_w, i32_w]; rw [c5b1]) | skip)
        have H' := Aside0.mk H
        clear H
        go_wp2
        go_meet
        case rel => exact ⟨_, (decide (t102 > (l0.length : Int))), (by first | rfl | (simp; done) | (simp [*]; done)), H', ⟨by first | omega | exact Nat.le_refl _⟩, ⟨by repeat (first | (with_reducible first | exact HB.out | apply below_alloc | apply pw_below_drewN | apply below_drew1) | exact HB.out)⟩⟩
    case rest =>
      clear HC4
      try clear p1
      try clear q1
      try clear hx1
      try clear qi1
      try clear c2
      try clear c2b0
      try clear c2b1
      try clear p2
      try clear c5
      try clear c5b0
      try clear c5b1
      try clear hx101_0
      try clear p101
      try clear q101
      obtain ⟨kq, x19_3, rfl, HA, HJ3, HB⟩ := hcut
      cases kq with
      | zero => exact absurd HA.out (by simp [utf_next.j0])
      | succ kj3 =>
        have H := HA.out
        clear HA
        simp only [utf_next.j0] at H
        by_cases c6 : x19_3 = true
        · subst c6
          have H1 : (some (0, 0)) = some (r1, r2) := by rw [if_pos rfl] at H; exact H
          clear H
          have H := H1
          clear H1
          simp only [Option.some.injEq, Prod.mk.injEq] at H
          obtain ⟨rfl, rfl⟩ := H
          go_wp2
          go_ret2
          exact ⟨by first | rfl | (simp [errW_none, errW_some] <;> rfl) | (simp [*, errW_none, errW_some] <;> rfl), by repeat (first | (with_reducible first | exact HB.out | apply below_alloc | apply pw_below_drewN | apply below_drew1) | exact HB.out)⟩
        · replace c6 := Bool.eq_false_iff.mpr c6
          subst c6
          have H1 : (if 0 < (l0.length : Int) then (if t102 > 1 then (if 0 ≤ t102 then (utf_next.j1 kj3 l0 t102 (Go.bits .and .i64 (wrap64 (rd l0 0)) (shr .i64 127 t102))) else (none)) else (utf_next.j1 kj3 l0 t102 (wrap64 (rd l0 0)))) else (none)) = some (r1, r2) := by rw [if_neg (show ¬ (false = true) by decide)] at H; exact H
          clear H
          have H := H1
          clear H1
          by_cases c7 : 0 < (l0.length : Int)
          · rw [if_pos c7] at H
            have c7b0 : decide (0 < (l0.length : Int)) = true := decide_eq_true c7
            have c7b1 : decide (0 < l0.length) = true := decide_eq_true (by omega)
            clear c7
            have HC8 := Aside0.mk H
            clear H
            have p103 : 0 ≤ (0 : Int) := (by omega)
            have q103 : 0 < (l0.length : Int) := of_decide_eq_true (by first | (with_reducible assumption) | assumption)
            obtain ⟨ad103, e103, hx103_0⟩ := Kd.at_int HR0.out 0 p103 q103
            obtain rfl : ad101 = ad103 := (by injection e103)
            have qi103 : (0 < l0.length) = True := eq_true (by omega)
            (try rw [show ((0 : Int)).toNat = 0 from rfl] at hx103_0)
            (try rw [Addr.add_zero'] at hx103_0)
            replace hx103_0 := (HB.out.cell (World.block_lt_of_cell? w _ hx103_0)).trans hx103_0
            replace p103 := eq_true p103
            replace q103 := eq_true q103
            go_upto_if 25 with (fail)
            go_cut [5] (fun v5 wc => ∃ (kq : Nat) (x5_7 : Int), v5 = .int .i64 x5_7 ∧ Aside0 (utf_next.j1 kq l0 t102 x5_7 = some (r1, r2)) ∧ Aside0 (kq ≤ kj3) ∧ Aside0 (Below w.heap.size w wc))
            case first =>
              have H := HC8.out
              clear HC8
              by_cases c9 : t102 > 1
              · rw [if_pos c9] at H
                have c9b0 : decide (1 < t102) = true := decide_eq_true c9
                clear c9
                (first | rw [c9b0] | (simp only [i64_w, i32_w]; rw [c9b0]) | rw [c9b1] | (simp only [i64_w, i32_w]; rw [c9b1]) | skip)
                by_cases c10 : 0 ≤ t102
                · rw [if_pos c10] at H
                  have c10b0 := eq_true c10
                  have c10b1 : decide (0 ≤ t102) = true := decide_eq_true c10
                  clear c10
                  obtain ⟨ji11, hji11⟩ : ∃ j_ : Int, (shr .i64 127 t102) = j_ := ⟨_, rfl⟩
                  replace H : (utf_next.j1 kj3 l0 t102 (Go.bits .and .i64 (wrap64 (rd l0 0)) (ji11))) = some (r1, r2) := by first | (rw [hji11] at H; exact H) | (simp only [hji11] at H ⊢; exact H)
                  have hji11_ : (127 / 2 ^ min t102.toNat 64) = ji11 := hji11
                  have hji11z : t102 ≤ 64 → (127 / 2 ^ t102.toNat) = ji11 := shr_small hji11
                  have H' := Aside0.mk H
                  clear H
                  go_wp2
                  go_meet
                  case rel => exact ⟨_, (Go.bits .and .i64 (wrap64 (rd l0 0)) (ji11)), (by first | rfl | (simp; done) | (simp only [← hji11] <;> (first | rfl | simp)) | (simp [*]; done)), H', ⟨by have := HJ3.out; first | omega | exact Nat.le_refl _⟩, ⟨by repeat (first | (with_reducible first | exact HB.out | apply below_alloc | apply pw_below_drewN | apply below_drew1) | exact HB.out)⟩⟩
                · rw [if_neg c10] at H
                  exact absurd H (by simp)
              · rw [if_neg c9] at H
                have c9b0 : decide (1 < t102) = false := decide_eq_false c9
                clear c9
                (first | rw [c9b0] | (simp only [i64_w, i32_w]; rw [c9b0]) | rw [c9b1] | (simp only [i64_w, i32_w]; rw [c9b1]) | skip)
                have H' := Aside0.mk H
                clear H
                go_wp2
                go_meet
                case rel => exact ⟨_, (wrap64 (rd l0 0)), (by first | rfl | (simp; done) | (simp [*]; done)), H', ⟨by have := HJ3.out; first | omega | exact Nat.le_refl _⟩, ⟨by repeat (first | (with_reducible first | exact HB.out | apply below_alloc | apply pw_below_drewN | apply below_drew1) | exact HB.out)⟩⟩
            case rest =>
              clear HC8
              try clear c1
              try clear p1
              try clear q1
              try clear hx1
              try clear qi1
              try clear c2
              try clear c2b0
              try clear c2b1
              try clear p2
              try clear c5
              try clear c5b0
              try clear c5b1
              try clear c6
              try clear p6
              try clear c7
              try clear c7b0
              try clear c7b1
              try clear c9
              try clear c9b0
              try clear c9b1
              try clear c10
              try clear c10b0
              try clear c10b1
              try clear p10
              try clear q10
              try clear hx10
              try clear qi10
              try clear hx101_0
              try clear hx103_0
              try clear p1
              try clear p101
              try clear p103
              try clear p2
              try clear q1
              try clear q101
              try clear q103
              obtain ⟨kq, x5_7, rfl, HA, HJ7, HB⟩ := hcut
              cases kq with
              | zero => exact absurd HA.out (by simp [utf_next.j1])
              | succ kj7 =>
                have H := HA.out
                clear HA
                simp only [utf_next.j1] at H
                by_cases c12 : 1 ≤ t102
                · rw [if_pos c12] at H
                  have c12b0 := eq_true c12
                  have c12b1 : decide (1 ≤ t102) = true := decide_eq_true c12
                  clear c12
                  by_cases c13 : t102 ≤ (l0.length : Int)
                  · rw [if_pos c13] at H
                    have c13b0 := eq_true c13
                    have c13b1 : decide (t102 ≤ (l0.length : Int)) = true := decide_eq_true c13
                    clear c13
                    obtain ⟨y104, hy104⟩ : ∃ y_ : List Int, y_ = ((l0.take (t102 : Int).toNat).drop 1) := ⟨_, rfl⟩
                    replace H : (utf_next.l0 kj7 t102 x5_7 y104 (y104.length : Int) 0) = some (r1, r2) := by first | (rw [hy104]; with_reducible exact H) | (have H2_ := (Option.bind_some _ _).symm.trans H; rw [hy104]; with_reducible exact H2_) | (have H2_ := (Option.bind_some _ _).symm.trans H; with_reducible exact H2_) | with_reducible exact H | (rw [hy104]; exact H) | exact H
                    have Ny104 := Aside0.mk hy104
                    clear hy104
                    have H' := Aside0.mk H
                    clear H
                    have q14 : (t102 : Int) ≤ ((l0.length : Int) : Int) := of_decide_eq_true (by first | (with_reducible assumption) | assumption)
                    obtain ⟨i014, hi014, _, hsz14, _⟩ := info_parts info5
                    have hroom14 : l0.length ≤ c0 := HC0.out
                    have hC14 : Kd.C (Kd.int .u8) _ (some ad101) l0.length l0 := HR0.out
                    have ql14 : (1 : Int) ≤ (t102 : Int) := of_decide_eq_true (by first | (with_reducible assumption) | assumption)
                    have hcut14 := cut_mid (P := Try.prog) 22 5 .i64 .i64 Try.underlying22 hi014 1 hsz14 (some ad101) l0.length c0 1 t102 (by omega) ql14 q14 hroom14
                    have hr14 := Kd.C_mid (lo := (1 : Int).toNat) (hi := (t102 : Int).toNat) (c := c0) hC14 (by omega) (by omega) hroom14
                    obtain ⟨A14, hA14⟩ : ∃ A1, A1 = (if c0 = (1 : Int).toNat then (some ad101) else ((some ad101) : Option Addr).map (·.add ((1 : Int).toNat * 1))) := ⟨_, rfl⟩
                    obtain ⟨c14, hc14⟩ : ∃ c1, c1 = c0 - (1 : Int).toNat := ⟨_, rfl⟩
                    have hy14 : y104.length = (t102 : Int).toNat - (1 : Int).toNat := (by rw [Ny104.out, List.length_drop, List.length_take] <;> omega)
                    rw [show ((l0).take (t102 : Int).toNat).drop (1 : Int).toNat = y104 from Ny104.out.symm] at hr14
                    replace hr14 : Kd.C (Kd.int .u8) _ A14 y104.length y104 := (by rw [hA14]; exact hr14)
                    rw [← hy14, ← hA14, ← hc14] at hcut14
                    have HR107 := Aside0.mk hr14
                    have HC107 := Aside0.mk (show y104.length ≤ c14 from by rw [hy14, hc14]; exact Nat.sub_le_sub_right (Nat.le_trans (by omega) hroom14) _)
                    clear hr14 hC14 hroom14 hi014 hsz14 hc14
                    have KY14 := Aside0.mk hy14
                    have KA14 := Aside0.mk hA14
                    clear hy14 hA14
                    replace q14 := eq_true q14
                    go_wp2
                    go_loopg [5, 34] kj7 (fun kq v5 v34 w' => ∃ (x5_3 : Int) (x34_3 : Int), v5 = .int .i64 x5_3 ∧ v34 = .int .i64 x34_3 ∧ Aside0 (utf_next.l0 kq t102 x5_3 y104 (y104.length : Int) x34_3 = some (r1, r2)) ∧ Aside0 (kq ≤ kj7) ∧ Aside0 (Below w.heap.size w w'))
                    case atStart => exact ⟨(x5_7), (0), (by first | rfl | (simp; done) | (simp [*]; done)), (by first | rfl | (simp; done) | (simp [*]; done)), H', ⟨Nat.le_refl _⟩, ⟨by repeat (first | (with_reducible first | exact HB.out | apply below_alloc | apply pw_below_drewN | apply below_drew1) | exact HB.out)⟩⟩
                    case round =>
                      clear H'
                      try clear c1
                      try clear p1
                      try clear q1
                      try clear hx1
                      try clear qi1
                      try clear c2
                      try clear c2b0
                      try clear c2b1
                      try clear p2
                      try clear c5
                      try clear c5b0
                      try clear c5b1
                      try clear c6
                      try clear p6
                      try clear c7
                      try clear c7b0
                      try clear c7b1
                      try clear c9
                      try clear c9b0
                      try clear c9b1
                      try clear c10
                      try clear c10b0
                      try clear c10b1
                      try clear p10
                      try clear q10
                      try clear hx10
                      try clear qi10
                      try clear c12
                      try clear c12b0
                      try clear c12b1
                      try clear c13
                      try clear c13b0
                      try clear c13b1
                      try clear c14
                      try clear q14
                      try clear hx101_0
                      try clear hx103_0
                      try clear p1
                      try clear p10
                      try clear p101
                      try clear p103
                      try clear p2
                      try clear p6
                      try clear q1
                      try clear q10
                      try clear q101
                      try clear q103
                      try clear q14
                      obtain ⟨x5_3, x34_3, rfl, rfl, HA, HK3, HB⟩ := hrel
                      cases gk with
                      | zero => exact absurd HA.out (by simp [utf_next.l0])
                      | succ k3 =>
                        have H := HA.out
                        clear HA
                        simp only [utf_next.l0] at H
                        by_cases c15 : x34_3 < (y104.length : Int)
                        · rw [if_pos c15] at H
                          have c15b0 : decide (x34_3 < (y104.length : Int)) = true := decide_eq_true c15
                          clear c15
                          by_cases c16 : 0 ≤ x34_3
                          · rw [if_pos c16] at H
                            have c16b0 : decide (0 ≤ x34_3) = true := decide_eq_true c16
                            clear c16
                            by_cases c17 : x34_3 < (y104.length : Int)
                            · rw [if_pos c17] at H
                              have c17b0 : decide (x34_3 < (y104.length : Int)) = true := decide_eq_true c17
                              clear c17
                              by_cases c18 : (Go.bits .and .u8 (rd y104 x34_3) 192) = 128
                              · rw [if_pos c18] at H
                                have c18b0 : ((Go.bits .and .u8 (rd y104 x34_3) 192) == 128) = true := beq_iff_eq.mpr c18
                                have c18b1 : ((Go.bits .and .u8 (rd y104 x34_3) 192) != 128) = false := bne_eq_false_iff_eq.mpr c18
                                clear c18
                                have H' := Aside0.mk H
                                clear H
                                have p108 : 0 ≤ (x34_3 : Int) := of_decide_eq_true (by first | (with_reducible assumption) | assumption)
                                have q108 : x34_3 < (y104.length : Int) := of_decide_eq_true (by first | (with_reducible assumption) | assumption)
                                obtain ⟨ad108, e108, hx108_0⟩ := Kd.at_int HR107.out x34_3 p108 q108
                                cases e108
                                replace hx108_0 := (HB.out.cell (World.block_lt_of_cell? w _ hx108_0)).trans hx108_0
                                replace p108 := eq_true p108
                                replace q108 := eq_true q108
                                go_wp2
                                go_roundg k3
                                case measure => have := HJ3.out; have := HJ7.out; have := HK3.out; omega
                                case rel => exact ⟨(Go.bits .or .i64 (wrap64 (x5_3 * 64)) (wrap64 (Go.bits .and .u8 (rd y104 x34_3) 63))), (wrap64 (x34_3 + 1)), (by first | rfl | (simp; done) | (simp [*]; done)), (by first | rfl | (simp; done) | (simp [*]; done)), H', ⟨by have := HJ3.out; have := HJ7.out; have := HK3.out; omega⟩, ⟨by repeat (first | (with_reducible first | exact HB.out | apply below_alloc | apply pw_below_drewN | apply below_drew1) | exact HB.out)⟩⟩
                              · rw [if_neg c18] at H
                                have c18b0 : ((Go.bits .and .u8 (rd y104 x34_3) 192) == 128) = false := beq_eq_false_iff_ne.mpr c18
                                have c18b1 : ((Go.bits .and .u8 (rd y104 x34_3) 192) != 128) = true := bne_iff_ne.mpr c18
                                simp only [Option.some.injEq, Prod.mk.injEq] at H
                                obtain ⟨rfl, rfl⟩ := H
                                have p108 : 0 ≤ (x34_3 : Int) := of_decide_eq_true (by first | (with_reducible assumption) | assumption)
                                have q108 : x34_3 < (y104.length : Int) := of_decide_eq_true (by first | (with_reducible assumption) | assumption)
                                obtain ⟨ad108, e108, hx108_0⟩ := Kd.at_int HR107.out x34_3 p108 q108
                                cases e108
                                replace hx108_0 := (HB.out.cell (World.block_lt_of_cell? w _ hx108_0)).trans hx108_0
                                replace p108 := eq_true p108
                                replace q108 := eq_true q108
                                go_wp2
                                go_ret2
                                exact ⟨by first | rfl | (simp [errW_none, errW_some] <;> rfl) | (simp [*, errW_none, errW_some] <;> rfl), by repeat (first | (with_reducible first | exact HB.out | apply below_alloc | apply pw_below_drewN | apply below_drew1) | exact HB.out)⟩
                            · rw [if_neg c17] at H
                              exact absurd H (by simp)
                          · rw [if_neg c16] at H
                            exact absurd H (by simp)
                        · rw [if_neg c15] at H
                          have c15b0 : decide (x34_3 < (y104.length : Int)) = false := decide_eq_false c15
                          clear c15
                          replace H := Option.bind_eq_some_iff.mp H
                          obtain ⟨t109, A190, H⟩ := H
                          replace H : (if t109 = true then ((utf_octets.f x5_3).bind fun t110 => (if (t110.length : Int) = t102 then (some (x5_3, t102)) else (some (0, 0)))) else (some (0, 0))) = some (r1, r2) := H
                          have A19 := Aside0.mk A190
                          clear A190
                          by_cases c20 : t109 = true
                          · subst c20
                            have H1 : ((utf_octets.f x5_3).bind fun t110 => (if (t110.length : Int) = t102 then (some (x5_3, t102)) else (some (0, 0)))) = some (r1, r2) := by rw [if_pos rfl] at H; exact H
                            clear H
                            have H := H1
                            clear H1
                            replace H := Option.bind_eq_some_iff.mp H
                            obtain ⟨t110, A210, H⟩ := H
                            replace H : (if (t110.length : Int) = t102 then (some (x5_3, t102)) else (some (0, 0))) = some (r1, r2) := H
                            have A21 := Aside0.mk A210
                            clear A210
                            by_cases c22 : (t110.length : Int) = t102
                            · rw [if_pos c22] at H
                              have c22b0 : ((t110.length : Int) == t102) = true := beq_iff_eq.mpr c22
                              have c22b1 : ((t110.length : Int) != t102) = false := bne_eq_false_iff_eq.mpr c22
                              clear c22
                              simp only [Option.some.injEq, Prod.mk.injEq] at H
                              obtain ⟨rfl, rfl⟩ := H
                              go_wp2_with (first | ((with_reducible refine gate_callee (f := 39) rfl ?_); refine goesL_ (some 49) rfl rfl Try.func39 (by kernel_rfl) rfl #[.int .i64 x5_3] rfl (by (try simp only [List.map_toArray, List.map_cons, List.map_nil]); first | done | rfl | (simp only [List.length_drop, List.length_take]; rfl)) ?_; (with_reducible refine (utf_Scalar.calls x5_3 true _ A19.out).mono ?_); rintro e w' ⟨rfl, ⟨nd, rfl⟩⟩; refine ⟨_, rfl, ?_⟩) | (go_at_call 54; (with_reducible refine (utf_octets.calls x5_3 t110 _ A21.out).mono ?_); rintro e w23 ⟨v111, rfl, ho0, hb⟩; have n0_ := Aside0.mk (Kd.R_lower ho0 (below_size (by repeat (first | (with_reducible first | exact HB.out | apply below_alloc | apply pw_below_drewN | apply below_drew1) | exact HB.out)))); have n1_ := Aside0.mk (below_step (by repeat (first | (with_reducible first | exact HB.out | apply below_alloc | apply pw_below_drewN | apply below_drew1) | exact HB.out)) hb); clear HB; have HO112 := n0_; have HB := n1_; clear n0_ n1_; (try clear hb); (try clear hb2); (try clear hk); (try clear hi); (try clear ho0); obtain ⟨Ao24, co24, eo24⟩ := Kd.R_slice HO112.out; subst eo24))
                              go_ret2
                              exact ⟨by first | rfl | (simp [errW_none, errW_some] <;> rfl) | (simp [*, errW_none, errW_some] <;> rfl), by repeat (first | (with_reducible first | exact HB.out | apply below_alloc | apply pw_below_drewN | apply below_drew1) | exact HB.out)⟩
                            · rw [if_neg c22] at H
                              have c22b0 : ((t110.length : Int) == t102) = false := beq_eq_false_iff_ne.mpr c22
                              have c22b1 : ((t110.length : Int) != t102) = true := bne_iff_ne.mpr c22
                              simp only [Option.some.injEq, Prod.mk.injEq] at H
                              obtain ⟨rfl, rfl⟩ := H
                              go_wp2_with (first | ((with_reducible refine gate_callee (f := 39) rfl ?_); refine goesL_ (some 49) rfl rfl Try.func39 (by kernel_rfl) rfl #[.int .i64 x5_3] rfl (by (try simp only [List.map_toArray, List.map_cons, List.map_nil]); first | done | rfl | (simp only [List.length_drop, List.length_take]; rfl)) ?_; (with_reducible refine (utf_Scalar.calls x5_3 true _ A19.out).mono ?_); rintro e w' ⟨rfl, ⟨nd, rfl⟩⟩; refine ⟨_, rfl, ?_⟩) | (go_at_call 54; (with_reducible refine (utf_octets.calls x5_3 t110 _ A21.out).mono ?_); rintro e w25 ⟨v111, rfl, ho0, hb⟩; have n0_ := Aside0.mk (Kd.R_lower ho0 (below_size (by repeat (first | (with_reducible first | exact HB.out | apply below_alloc | apply pw_below_drewN | apply below_drew1) | exact HB.out)))); have n1_ := Aside0.mk (below_step (by repeat (first | (with_reducible first | exact HB.out | apply below_alloc | apply pw_below_drewN | apply below_drew1) | exact HB.out)) hb); clear HB; have HO112 := n0_; have HB := n1_; clear n0_ n1_; (try clear hb); (try clear hb2); (try clear hk); (try clear hi); (try clear ho0); obtain ⟨Ao26, co26, eo26⟩ := Kd.R_slice HO112.out; subst eo26))
                              go_ret2
                              exact ⟨by first | rfl | (simp [errW_none, errW_some] <;> rfl) | (simp [*, errW_none, errW_some] <;> rfl), by repeat (first | (with_reducible first | exact HB.out | apply below_alloc | apply pw_below_drewN | apply below_drew1) | exact HB.out)⟩
                          · replace c20 := Bool.eq_false_iff.mpr c20
                            subst c20
                            have H1 : (some (0, 0)) = some (r1, r2) := by rw [if_neg (show ¬ (false = true) by decide)] at H; exact H
                            clear H
                            have H := H1
                            clear H1
                            simp only [Option.some.injEq, Prod.mk.injEq] at H
                            obtain ⟨rfl, rfl⟩ := H
                            go_wp2_with (first | ((with_reducible refine gate_callee (f := 39) rfl ?_); refine goesL_ (some 49) rfl rfl Try.func39 (by kernel_rfl) rfl #[.int .i64 x5_3] rfl (by (try simp only [List.map_toArray, List.map_cons, List.map_nil]); first | done | rfl | (simp only [List.length_drop, List.length_take]; rfl)) ?_; (with_reducible refine (utf_Scalar.calls x5_3 false _ A19.out).mono ?_); rintro e w' ⟨rfl, ⟨nd, rfl⟩⟩; refine ⟨_, rfl, ?_⟩))
                            go_ret2
                            exact ⟨by first | rfl | (simp [errW_none, errW_some] <;> rfl) | (simp [*, errW_none, errW_some] <;> rfl), by repeat (first | (with_reducible first | exact HB.out | apply below_alloc | apply pw_below_drewN | apply below_drew1) | exact HB.out)⟩
                  · rw [if_neg c13] at H
                    exact absurd H (by simp)
                · rw [if_neg c12] at H
                  exact absurd H (by simp)
          · rw [if_neg c7] at H
            exact absurd H (by simp)
  · rw [if_neg c2] at H
    exact absurd H (by simp)

end Go.Proofs.Ytooiajkbpkfplaa.Q

-- from Qf34
-- Made by hp.py, a program of this session, with the kit's printer. Not trusted: Lean checks it.
namespace Go.Proofs.Ytooiajkbpkfplaa.Q
open Go.RowKit Go.Proofs.YtooiajkbpkfplaaW.PrintWords Go.Proofs.YtooiajkbpkfplaaW.PrintLast Go.Proofs.YtooiajkbpkfplaaW.PrintMore
attribute [local go_sem] max2_int min2_int max_two min_two max_three min_three max_four min_four   -- for this text's walks alone
set_option linter.unusedVariables false
set_option linter.unusedSimpArgs false

/-! ### paronymref01_Octets: function 34 -/
def paronymref01_Octets.l0 : Nat → Int → ByteArray → Int → Int → Option (ByteArray)
  | 0, _, _, _, _ => none
  | k + 1, x0, x3, x4, x5 => if x0 ≥ x4 then ((some (([(wrap64 (128 + (Int.tmod x0 64))) % 256] : List Int) : List Int)).bind fun y104 => (if (strOfNums y104).size + x3.size ≤ 9223372036854775807 then (if x4 = 64 then (paronymref01_Octets.l0 k (wrap64 (Int.tdiv x0 64)) ((strOfNums y104) ++ x3) 32 x5) else (paronymref01_Octets.l0 k (wrap64 (Int.tdiv x0 64)) ((strOfNums y104) ++ x3) (wrap64 (Int.tdiv x4 2)) (wrap64 (x5 + x4)))) else (none))) else ((some (([(wrap64 (x5 + x0)) % 256] : List Int) : List Int)).bind fun y107 => (if (strOfNums y107).size + x3.size ≤ 9223372036854775807 then (some ((strOfNums y107) ++ x3)) else (none)))
def paronymref01_Octets.f (k : Nat) (a0 : Int) : Option (ByteArray) := if a0 < 128 then (some (strOfNums (([(a0) % 256] : List Int)))) else (paronymref01_Octets.l0 k a0 (⟨#[]⟩ : ByteArray) 64 192)
theorem paronymref01_Octets.mono_l : ∀ k, (∀ y0 y1 y2 y3, LeO (paronymref01_Octets.l0 k y0 y1 y2 y3) (paronymref01_Octets.l0 (k + 1) y0 y1 y2 y3))
  | 0 => fun _ _ _ _ r h => by simp [paronymref01_Octets.l0] at h
  | k + 1 => by
    have ih0 := paronymref01_Octets.mono_l k
    · intro y0 y1 y2 y3
      unfold paronymref01_Octets.l0
      repeat' first
      | (with_reducible exact ih0 _ _ _ _)
      | (with_reducible exact LeO.refl _)
      | (with_reducible exact LeO.none _)
      | (with_reducible refine LeO.ite ?_ ?_)
      | (with_reducible refine LeO.bind ?_ (fun _ => ?_))
      | exact ih0 _ _ _ _
      | exact LeO.none _
      | refine LeO.ite ?_ ?_
      | refine LeO.bind ?_ (fun _ => ?_)
theorem paronymref01_Octets.mono : ∀ a0 k, LeO (paronymref01_Octets.f k a0) (paronymref01_Octets.f (k + 1) a0) := by
  intro a0 k
  have ih0 := paronymref01_Octets.mono_l k
  unfold paronymref01_Octets.f
  repeat' first
      | (with_reducible exact ih0 _ _ _ _)
      | (with_reducible exact LeO.refl _)
      | (with_reducible exact LeO.none _)
      | (with_reducible refine LeO.ite ?_ ?_)
      | (with_reducible refine LeO.bind ?_ (fun _ => ?_))
      | exact ih0 _ _ _ _
      | exact LeO.none _
      | refine LeO.ite ?_ ?_
      | refine LeO.bind ?_ (fun _ => ?_)
set_option maxHeartbeats 8000000 in
set_option maxRecDepth 100000 in
theorem paronymref01_Octets.calls (k : Nat) (a0 : Int) (r : ByteArray) (w : World) (h : paronymref01_Octets.f k a0 = some r) :
    Calls Try.prog 34 #[.int .i64 a0] w fun e w' => e = .returned (.string r) ∧ Below w.heap.size w w' := by
  have HB := Aside0.mk (Below.refl w.heap.size w)
  have H : (if a0 < 128 then (some (strOfNums (([(a0) % 256] : List Int)))) else (paronymref01_Octets.l0 k a0 (⟨#[]⟩ : ByteArray) 64 192)) = some r := h
  clear h
  by_cases c2 : a0 < 128
  · rw [if_pos c2] at H
    have c2b0 : decide (a0 < 128) = true := decide_eq_true c2
    clear c2
    obtain ⟨y101, hy101⟩ : ∃ y_ : List Int, y_ = (([(a0) % 256] : List Int)) := ⟨_, rfl⟩
    replace H : (some (strOfNums y101)) = some r := by first | (rw [hy101]; with_reducible exact H) | (have H2_ := (Option.bind_some _ _).symm.trans H; rw [hy101]; with_reducible exact H2_) | (have H2_ := (Option.bind_some _ _).symm.trans H; with_reducible exact H2_) | with_reducible exact H | (rw [hy101]; exact H) | exact H
    have Ny101 := Aside0.mk hy101
    clear hy101
    obtain rfl := Option.some.inj H
    go_enter Try.func34, Try.ntmps34
    go_wp2_with (first | ((with_reducible refine gate_dst (N := 10) rfl ?_); refine Kd.R_lit (Kd.int .u8) _ 5 ?hg (N := 10) ?hd (xs := ([(a0) % 256] : List Int)) (inner := [.int .u8 ((a0) % 256)]) (ok := fun _ => True) (okp := fun _ => True) ?hr ?hp (fun _ hk => hk) trivial (Below.refl _ _) (Nat.le_refl _) (by simp) ?_; (case hd => rfl); (case hg => rfl); (case hr => first | (go_simp; done) | (go_simp; rfl)); (case hp => exact (Reps.one (show Kd.M (Kd.int .u8) _ _ _ ((a0) % 256) [.int .u8 ((a0) % 256)] from rfl) (Reps.none _ _))); intro v102 w3 ho4 hb hg_ hnew_; clear hg_ hnew_; (first | rw [← Ny101.out] at ho4 | (simp only [Int.reduceToNat] at ho4; rw [← Ny101.out] at ho4)); have n0_ := Aside0.mk (Kd.R_lower ho4 (below_size (by repeat (first | (with_reducible first | exact HB.out | apply below_alloc | apply pw_below_drewN | apply below_drew1) | exact HB.out)))); have n1_ := Aside0.mk (below_step (by repeat (first | (with_reducible first | exact HB.out | apply below_alloc | apply pw_below_drewN | apply below_drew1) | exact HB.out)) hb); clear HB; have HO103 := n0_; have HB := n1_; clear n0_ n1_; clear hb ho4; have hcv5 := own_string (P := Try.prog) Try.underlying22 Try.underlying5 Try.underlying9 (Kd.own_of_R HO103.out); have hcv6 := fun (nd_ : Nat) => own_string (P := Try.prog) Try.underlying22 Try.underlying5 Try.underlying9 (Kd.own_of_R (Kd.R_drewN HO103.out nd_))))
    go_ret
    exact ⟨by first | rfl | (simp [errW_none, errW_some] <;> rfl) | (simp [*, errW_none, errW_some] <;> rfl), by repeat (first | (with_reducible first | exact HB.out | apply below_alloc | apply pw_below_drewN | apply below_drew1) | exact HB.out)⟩
  · rw [if_neg c2] at H
    have c2b0 : decide (a0 < 128) = false := decide_eq_false c2
    clear c2
    have H' := Aside0.mk H
    clear H
    go_enter Try.func34, Try.ntmps34
    go_wp2
    go_loopg [0, 3, 4, 5] k (fun kq v0 v3 v4 v5 w' => ∃ (x0_1 : Int) (x3_1 : ByteArray) (x4_1 : Int) (x5_1 : Int), v0 = .int .i64 x0_1 ∧ v3 = .string x3_1 ∧ v4 = .int .i64 x4_1 ∧ v5 = .int .i64 x5_1 ∧ Aside0 (paronymref01_Octets.l0 kq x0_1 x3_1 x4_1 x5_1 = some r) ∧ Aside0 (kq ≤ k) ∧ Aside0 (Below w.heap.size w w'))
    case atStart => exact ⟨(a0), ((⟨#[]⟩ : ByteArray)), (64), (192), (by first | rfl | (simp; done) | (simp [*]; done)), (by first | rfl | (simp; done) | (simp [*]; done)), (by first | rfl | (simp; done) | (simp [*]; done)), (by first | rfl | (simp; done) | (simp [*]; done)), H', ⟨Nat.le_refl _⟩, ⟨by repeat (first | (with_reducible first | exact HB.out | apply below_alloc | apply pw_below_drewN | apply below_drew1) | exact HB.out)⟩⟩
    case round =>
      clear H'
      try clear c2
      try clear c2b0
      try clear p2
      try clear c3
      try clear hcv5
      try clear hcv6
      obtain ⟨x0_1, x3_1, x4_1, x5_1, rfl, rfl, rfl, rfl, HA, HK1, HB⟩ := hrel
      cases gk with
      | zero => exact absurd HA.out (by simp [paronymref01_Octets.l0])
      | succ k1 =>
        have H := HA.out
        clear HA
        simp only [paronymref01_Octets.l0] at H
        by_cases c7 : x0_1 ≥ x4_1
        · rw [if_pos c7] at H
          have c7b0 : decide (x4_1 ≤ x0_1) = true := decide_eq_true c7
          clear c7
          obtain ⟨y104, hy104⟩ : ∃ y_ : List Int, y_ = (([(wrap64 (128 + (Int.tmod x0_1 64))) % 256] : List Int)) := ⟨_, rfl⟩
          replace H : (if (strOfNums y104).size + x3_1.size ≤ 9223372036854775807 then (if x4_1 = 64 then (paronymref01_Octets.l0 k1 (wrap64 (Int.tdiv x0_1 64)) ((strOfNums y104) ++ x3_1) 32 x5_1) else (paronymref01_Octets.l0 k1 (wrap64 (Int.tdiv x0_1 64)) ((strOfNums y104) ++ x3_1) (wrap64 (Int.tdiv x4_1 2)) (wrap64 (x5_1 + x4_1)))) else (none)) = some r := by first | (rw [hy104]; with_reducible exact H) | (have H2_ := (Option.bind_some _ _).symm.trans H; rw [hy104]; with_reducible exact H2_) | (have H2_ := (Option.bind_some _ _).symm.trans H; with_reducible exact H2_) | with_reducible exact H | (rw [hy104]; exact H) | exact H
          have Ny104 := Aside0.mk hy104
          clear hy104
          by_cases c8 : (strOfNums y104).size + x3_1.size ≤ 9223372036854775807
          · rw [if_pos c8] at H
            have c8b0 := eq_true c8
            have c8b1 : decide ((strOfNums y104).size + x3_1.size ≤ 9223372036854775807) = true := decide_eq_true c8
            try have c8b2 : (9223372036854775807 < (strOfNums y104).size + x3_1.size) = False := eq_false (Nat.not_lt.2 c8)
            by_cases c9 : x4_1 = 64
            · rw [if_pos c9] at H
              have c9b0 : (x4_1 == 64) = true := beq_iff_eq.mpr c9
              have c9b1 : (x4_1 != 64) = false := bne_eq_false_iff_eq.mpr c9
              clear c9
              have H' := Aside0.mk H
              clear H
              go_wp2_with (first | ((with_reducible refine gate_dst (N := 19) rfl ?_); refine Kd.R_lit (Kd.int .u8) _ 5 ?hg (N := 19) ?hd (xs := ([(wrap64 (128 + (Int.tmod x0_1 64))) % 256] : List Int)) (inner := [.int .u8 ((wrap64 (128 + (Int.tmod x0_1 64))) % 256)]) (ok := fun _ => True) (okp := fun _ => True) ?hr ?hp (fun _ hk => hk) trivial (Below.refl _ _) (Nat.le_refl _) (by simp) ?_; (case hd => rfl); (case hg => rfl); (case hr => first | (go_simp; done) | (go_simp; rfl)); (case hp => exact (Reps.one (show Kd.M (Kd.int .u8) _ _ _ ((wrap64 (128 + (Int.tmod x0_1 64))) % 256) [.int .u8 ((wrap64 (128 + (Int.tmod x0_1 64))) % 256)] from rfl) (Reps.none _ _))); intro v105 w10 ho11 hb hg_ hnew_; clear hg_ hnew_; (first | rw [← Ny104.out] at ho11 | (simp only [Int.reduceToNat] at ho11; rw [← Ny104.out] at ho11)); have n0_ := Aside0.mk (Kd.R_lower ho11 (below_size (by repeat (first | (with_reducible first | exact HB.out | apply below_alloc | apply pw_below_drewN | apply below_drew1) | exact HB.out)))); have n1_ := Aside0.mk (below_step (by repeat (first | (with_reducible first | exact HB.out | apply below_alloc | apply pw_below_drewN | apply below_drew1) | exact HB.out)) hb); clear HB; have HO106 := n0_; have HB := n1_; clear n0_ n1_; clear hb ho11; have hcv12 := own_string (P := Try.prog) Try.underlying22 Try.underlying5 Try.underlying9 (Kd.own_of_R HO106.out); have hcv13 := fun (nd_ : Nat) => own_string (P := Try.prog) Try.underlying22 Try.underlying5 Try.underlying9 (Kd.own_of_R (Kd.R_drewN HO106.out nd_))))
              go_roundg k1
              case measure => have := HK1.out; omega
              case rel => exact ⟨(wrap64 (Int.tdiv x0_1 64)), ((strOfNums y104) ++ x3_1), (32), (x5_1), (by first | rfl | (simp; done) | (simp [*]; done)), (by first | rfl | (simp; done) | (simp [*]; done)), (by first | rfl | (simp; done) | (simp [*]; done)), (by first | rfl | (simp; done) | (simp [*]; done)), H', ⟨by have := HK1.out; omega⟩, ⟨by repeat (first | (with_reducible first | exact HB.out | apply below_alloc | apply pw_below_drewN | apply below_drew1) | exact HB.out)⟩⟩
            · rw [if_neg c9] at H
              have c9b0 : (x4_1 == 64) = false := beq_eq_false_iff_ne.mpr c9
              have c9b1 : (x4_1 != 64) = true := bne_iff_ne.mpr c9
              have H' := Aside0.mk H
              clear H
              go_wp2_with (first | ((with_reducible refine gate_dst (N := 19) rfl ?_); refine Kd.R_lit (Kd.int .u8) _ 5 ?hg (N := 19) ?hd (xs := ([(wrap64 (128 + (Int.tmod x0_1 64))) % 256] : List Int)) (inner := [.int .u8 ((wrap64 (128 + (Int.tmod x0_1 64))) % 256)]) (ok := fun _ => True) (okp := fun _ => True) ?hr ?hp (fun _ hk => hk) trivial (Below.refl _ _) (Nat.le_refl _) (by simp) ?_; (case hd => rfl); (case hg => rfl); (case hr => first | (go_simp; done) | (go_simp; rfl)); (case hp => exact (Reps.one (show Kd.M (Kd.int .u8) _ _ _ ((wrap64 (128 + (Int.tmod x0_1 64))) % 256) [.int .u8 ((wrap64 (128 + (Int.tmod x0_1 64))) % 256)] from rfl) (Reps.none _ _))); intro v105 w14 ho15 hb hg_ hnew_; clear hg_ hnew_; (first | rw [← Ny104.out] at ho15 | (simp only [Int.reduceToNat] at ho15; rw [← Ny104.out] at ho15)); have n0_ := Aside0.mk (Kd.R_lower ho15 (below_size (by repeat (first | (with_reducible first | exact HB.out | apply below_alloc | apply pw_below_drewN | apply below_drew1) | exact HB.out)))); have n1_ := Aside0.mk (below_step (by repeat (first | (with_reducible first | exact HB.out | apply below_alloc | apply pw_below_drewN | apply below_drew1) | exact HB.out)) hb); clear HB; have HO106 := n0_; have HB := n1_; clear n0_ n1_; clear hb ho15; have hcv16 := own_string (P := Try.prog) Try.underlying22 Try.underlying5 Try.underlying9 (Kd.own_of_R HO106.out); have hcv17 := fun (nd_ : Nat) => own_string (P := Try.prog) Try.underlying22 Try.underlying5 Try.underlying9 (Kd.own_of_R (Kd.R_drewN HO106.out nd_))))
              go_roundg k1
              case measure => have := HK1.out; omega
              case rel => exact ⟨(wrap64 (Int.tdiv x0_1 64)), ((strOfNums y104) ++ x3_1), (wrap64 (Int.tdiv x4_1 2)), (wrap64 (x5_1 + x4_1)), (by first | rfl | (simp; done) | (simp [*]; done)), (by first | rfl | (simp; done) | (simp [*]; done)), (by first | rfl | (simp; done) | (simp [*]; done)), (by first | rfl | (simp; done) | (simp [*]; done)), H', ⟨by have := HK1.out; omega⟩, ⟨by repeat (first | (with_reducible first | exact HB.out | apply below_alloc | apply pw_below_drewN | apply below_drew1) | exact HB.out)⟩⟩
          · rw [if_neg c8] at H
            exact absurd H (by simp)
        · rw [if_neg c7] at H
          have c7b0 : decide (x4_1 ≤ x0_1) = false := decide_eq_false c7
          clear c7
          obtain ⟨y107, hy107⟩ : ∃ y_ : List Int, y_ = (([(wrap64 (x5_1 + x0_1)) % 256] : List Int)) := ⟨_, rfl⟩
          replace H : (if (strOfNums y107).size + x3_1.size ≤ 9223372036854775807 then (some ((strOfNums y107) ++ x3_1)) else (none)) = some r := by first | (rw [hy107]; with_reducible exact H) | (have H2_ := (Option.bind_some _ _).symm.trans H; rw [hy107]; with_reducible exact H2_) | (have H2_ := (Option.bind_some _ _).symm.trans H; with_reducible exact H2_) | with_reducible exact H | (rw [hy107]; exact H) | exact H
          have Ny107 := Aside0.mk hy107
          clear hy107
          by_cases c18 : (strOfNums y107).size + x3_1.size ≤ 9223372036854775807
          · rw [if_pos c18] at H
            have c18b0 := eq_true c18
            have c18b1 : decide ((strOfNums y107).size + x3_1.size ≤ 9223372036854775807) = true := decide_eq_true c18
            try have c18b2 : (9223372036854775807 < (strOfNums y107).size + x3_1.size) = False := eq_false (Nat.not_lt.2 c18)
            obtain rfl := Option.some.inj H
            go_wp2_with (first | ((with_reducible refine gate_dst (N := 36) rfl ?_); refine Kd.R_lit (Kd.int .u8) _ 5 ?hg (N := 36) ?hd (xs := ([(wrap64 (x5_1 + x0_1)) % 256] : List Int)) (inner := [.int .u8 ((wrap64 (x5_1 + x0_1)) % 256)]) (ok := fun _ => True) (okp := fun _ => True) ?hr ?hp (fun _ hk => hk) trivial (Below.refl _ _) (Nat.le_refl _) (by simp) ?_; (case hd => rfl); (case hg => rfl); (case hr => first | (go_simp; done) | (go_simp; rfl)); (case hp => exact (Reps.one (show Kd.M (Kd.int .u8) _ _ _ ((wrap64 (x5_1 + x0_1)) % 256) [.int .u8 ((wrap64 (x5_1 + x0_1)) % 256)] from rfl) (Reps.none _ _))); intro v108 w19 ho20 hb hg_ hnew_; clear hg_ hnew_; (first | rw [← Ny107.out] at ho20 | (simp only [Int.reduceToNat] at ho20; rw [← Ny107.out] at ho20)); have n0_ := Aside0.mk (Kd.R_lower ho20 (below_size (by repeat (first | (with_reducible first | exact HB.out | apply below_alloc | apply pw_below_drewN | apply below_drew1) | exact HB.out)))); have n1_ := Aside0.mk (below_step (by repeat (first | (with_reducible first | exact HB.out | apply below_alloc | apply pw_below_drewN | apply below_drew1) | exact HB.out)) hb); clear HB; have HO109 := n0_; have HB := n1_; clear n0_ n1_; clear hb ho20; have hcv21 := own_string (P := Try.prog) Try.underlying22 Try.underlying5 Try.underlying9 (Kd.own_of_R HO109.out); have hcv22 := fun (nd_ : Nat) => own_string (P := Try.prog) Try.underlying22 Try.underlying5 Try.underlying9 (Kd.own_of_R (Kd.R_drewN HO109.out nd_))))
            go_ret
            exact ⟨by first | rfl | (simp [errW_none, errW_some] <;> rfl) | (simp [*, errW_none, errW_some] <;> rfl), by repeat (first | (with_reducible first | exact HB.out | apply below_alloc | apply pw_below_drewN | apply below_drew1) | exact HB.out)⟩
          · rw [if_neg c18] at H
            exact absurd H (by simp)

end Go.Proofs.Ytooiajkbpkfplaa.Q

-- from Qf29
-- Made by hp.py, a program of this session, with the kit's printer. Not trusted: Lean checks it.
namespace Go.Proofs.Ytooiajkbpkfplaa.Q
open Go.RowKit Go.Proofs.YtooiajkbpkfplaaW.PrintWords Go.Proofs.YtooiajkbpkfplaaW.PrintLast Go.Proofs.YtooiajkbpkfplaaW.PrintMore
attribute [local go_sem] max2_int min2_int max_two min_two max_three min_three max_four min_four   -- for this text's walks alone
set_option linter.unusedVariables false
set_option linter.unusedSimpArgs false

/-! ### paronymref01_Encode: function 29 -/
def paronymref01_Encode.l0 : Nat → List Int → ByteArray → Int → Option (ByteArray × Bool)
  | 0, _, _, _ => none
  | k + 1, x0, x4, x5 => if x5 < (x0.length : Int) then (if 0 ≤ x5 then ((paronymref01_Scalar.f (rd x0 x5)).bind fun t102 => (if t102 = true then ((paronymref01_Octets.f k (rd x0 x5)).bind fun t104 => (if x4.size + t104.size ≤ 9223372036854775807 then (paronymref01_Encode.l0 k x0 (x4 ++ t104) (wrap64 (x5 + 1))) else (none))) else (some ((⟨#[]⟩ : ByteArray), false)))) else (none)) else (some (x4, true))
def paronymref01_Encode.f (k : Nat) (l0 : List Int) : Option (ByteArray × Bool) := paronymref01_Encode.l0 k l0 (⟨#[]⟩ : ByteArray) 0
theorem paronymref01_Encode.mono_l : ∀ k, (∀ y0 y1 y2, LeO (paronymref01_Encode.l0 k y0 y1 y2) (paronymref01_Encode.l0 (k + 1) y0 y1 y2))
  | 0 => fun _ _ _ r h => by simp [paronymref01_Encode.l0] at h
  | k + 1 => by
    have ih0 := paronymref01_Encode.mono_l k
    · intro y0 y1 y2
      unfold paronymref01_Encode.l0
      repeat' first
      | (with_reducible exact ih0 _ _ _)
      | (with_reducible exact paronymref01_Octets.mono _ _)
      | (with_reducible exact LeO.refl _)
      | (with_reducible exact LeO.none _)
      | (with_reducible refine LeO.ite ?_ ?_)
      | (with_reducible refine LeO.bind ?_ (fun _ => ?_))
      | exact ih0 _ _ _
      | exact paronymref01_Octets.mono _ _
      | exact LeO.none _
      | refine LeO.ite ?_ ?_
      | refine LeO.bind ?_ (fun _ => ?_)
theorem paronymref01_Encode.mono : ∀ a0 k, LeO (paronymref01_Encode.f k a0) (paronymref01_Encode.f (k + 1) a0) := by
  intro a0 k
  have ih0 := paronymref01_Encode.mono_l k
  unfold paronymref01_Encode.f
  repeat' first
      | (with_reducible exact ih0 _ _ _)
      | (with_reducible exact paronymref01_Octets.mono _ _)
      | (with_reducible exact LeO.refl _)
      | (with_reducible exact LeO.none _)
      | (with_reducible refine LeO.ite ?_ ?_)
      | (with_reducible refine LeO.bind ?_ (fun _ => ?_))
      | exact ih0 _ _ _
      | exact paronymref01_Octets.mono _ _
      | exact LeO.none _
      | refine LeO.ite ?_ ?_
      | refine LeO.bind ?_ (fun _ => ?_)
set_option maxHeartbeats 8000000 in
set_option maxRecDepth 100000 in
theorem paronymref01_Encode.calls (k : Nat) (A0 : Option Addr) (c0 : Nat) (l0 : List Int) (r1 : ByteArray) (r2 : Bool) (w : World) (hr0 : Kd.C (Kd.int .i64) w A0 l0.length l0) (hc0 : l0.length ≤ c0) (h : paronymref01_Encode.f k l0 = some (r1, r2)) :
    Calls Try.prog 29 #[.slice A0 l0.length c0] w fun e w' => e = .returned (.tuple #[.string r1, .bool r2]) ∧ Below w.heap.size w w' := by
  have HR0 := Aside0.mk hr0
  have HC0 := Aside0.mk hc0
  clear hr0 hc0
  have HB := Aside0.mk (Below.refl w.heap.size w)
  have H : (paronymref01_Encode.l0 k l0 (⟨#[]⟩ : ByteArray) 0) = some (r1, r2) := h
  clear h
  have H' := Aside0.mk H
  clear H
  go_enter Try.func29, Try.ntmps29
  go_wp2
  go_loopg [4, 5] k (fun kq v4 v5 w' => ∃ (x4_1 : ByteArray) (x5_1 : Int), v4 = .string x4_1 ∧ v5 = .int .i64 x5_1 ∧ Aside0 (paronymref01_Encode.l0 kq l0 x4_1 x5_1 = some (r1, r2)) ∧ Aside0 (kq ≤ k) ∧ Aside0 (Below w.heap.size w w'))
  case atStart => exact ⟨((⟨#[]⟩ : ByteArray)), (0), (by first | rfl | (simp; done) | (simp [*]; done)), (by first | rfl | (simp; done) | (simp [*]; done)), H', ⟨Nat.le_refl _⟩, ⟨by repeat (first | (with_reducible first | exact HB.out | apply below_alloc | apply pw_below_drewN | apply below_drew1) | exact HB.out)⟩⟩
  case round =>
    clear H'
    obtain ⟨x4_1, x5_1, rfl, rfl, HA, HK1, HB⟩ := hrel
    cases gk with
    | zero => exact absurd HA.out (by simp [paronymref01_Encode.l0])
    | succ k1 =>
      have H := HA.out
      clear HA
      simp only [paronymref01_Encode.l0] at H
      by_cases c2 : x5_1 < (l0.length : Int)
      · rw [if_pos c2] at H
        have c2b0 : decide (x5_1 < (l0.length : Int)) = true := decide_eq_true c2
        clear c2
        by_cases c3 : 0 ≤ x5_1
        · rw [if_pos c3] at H
          have c3b0 : decide (0 ≤ x5_1) = true := decide_eq_true c3
          clear c3
          replace H := Option.bind_eq_some_iff.mp H
          obtain ⟨t102, A40, H⟩ := H
          replace H : (if t102 = true then ((paronymref01_Octets.f k1 (rd l0 x5_1)).bind fun t104 => (if x4_1.size + t104.size ≤ 9223372036854775807 then (paronymref01_Encode.l0 k1 l0 (x4_1 ++ t104) (wrap64 (x5_1 + 1))) else (none))) else (some ((⟨#[]⟩ : ByteArray), false))) = some (r1, r2) := H
          have A4 := Aside0.mk A40
          clear A40
          by_cases c5 : t102 = true
          · subst c5
            have H1 : ((paronymref01_Octets.f k1 (rd l0 x5_1)).bind fun t104 => (if x4_1.size + t104.size ≤ 9223372036854775807 then (paronymref01_Encode.l0 k1 l0 (x4_1 ++ t104) (wrap64 (x5_1 + 1))) else (none))) = some (r1, r2) := by rw [if_pos rfl] at H; exact H
            clear H
            have H := H1
            clear H1
            replace H := Option.bind_eq_some_iff.mp H
            obtain ⟨t104, A60, H⟩ := H
            replace H : (if x4_1.size + t104.size ≤ 9223372036854775807 then (paronymref01_Encode.l0 k1 l0 (x4_1 ++ t104) (wrap64 (x5_1 + 1))) else (none)) = some (r1, r2) := H
            have A6 := Aside0.mk A60
            clear A60
            by_cases c7 : x4_1.size + t104.size ≤ 9223372036854775807
            · rw [if_pos c7] at H
              have c7b0 := eq_true c7
              have c7b1 : decide (x4_1.size + t104.size ≤ 9223372036854775807) = true := decide_eq_true c7
              try have c7b2 : (9223372036854775807 < x4_1.size + t104.size) = False := eq_false (Nat.not_lt.2 c7)
              have H' := Aside0.mk H
              clear H
              have p101 : 0 ≤ (x5_1 : Int) := of_decide_eq_true (by first | (with_reducible assumption) | assumption)
              have q101 : x5_1 < (l0.length : Int) := of_decide_eq_true (by first | (with_reducible assumption) | assumption)
              obtain ⟨ad101, e101, hx101_0⟩ := Kd.at_int HR0.out x5_1 p101 q101
              cases e101
              replace hx101_0 := (HB.out.cell (World.block_lt_of_cell? w _ hx101_0)).trans hx101_0
              replace p101 := eq_true p101
              replace q101 := eq_true q101
              go_wp2_with (first | ((with_reducible refine gate_callee (f := 40) rfl ?_); refine goesL_ (some 16) rfl rfl Try.func40 (by kernel_rfl) rfl #[.int .i64 (rd l0 x5_1)] rfl (by (try simp only [List.map_toArray, List.map_cons, List.map_nil]); first | done | rfl | (simp only [List.length_drop, List.length_take]; rfl)) ?_; (with_reducible refine (paronymref01_Scalar.calls (rd l0 x5_1) true _ A4.out).mono ?_); rintro e w' ⟨rfl, ⟨nd, rfl⟩⟩; refine ⟨_, rfl, ?_⟩; have p103 : 0 ≤ (x5_1 : Int) := of_decide_eq_true (by first | (with_reducible assumption) | assumption); have q103 : x5_1 < (l0.length : Int) := of_decide_eq_true (by first | (with_reducible assumption) | assumption); obtain ⟨ad103, e103, hx103_0⟩ := Kd.at_int HR0.out x5_1 p103 q103; obtain rfl : ad101 = ad103 := (by injection e103); replace hx103_0 := (HB.out.cell (World.block_lt_of_cell? w _ hx103_0)).trans hx103_0; replace p103 := eq_true p103; replace q103 := eq_true q103) | ((with_reducible refine gate_callee (f := 34) rfl ?_); refine goesL_ (some 23) rfl rfl Try.func34 (by kernel_rfl) rfl #[.int .i64 (rd l0 x5_1)] rfl (by (try simp only [List.map_toArray, List.map_cons, List.map_nil]); first | done | rfl | (simp only [List.length_drop, List.length_take]; rfl)) ?_; (with_reducible refine (paronymref01_Octets.calls k1 (rd l0 x5_1) t104 _ A6.out).mono ?_); rintro e w8 ⟨rfl, hb⟩; refine ⟨_, rfl, ?_⟩; have n0_ := Aside0.mk (below_step (by repeat (first | (with_reducible first | exact HB.out | apply below_alloc | apply pw_below_drewN | apply below_drew1) | exact HB.out)) hb); clear HB; have HB := n0_; clear n0_; (try clear hb); (try clear hb2); (try clear hk); (try clear hi)))
              go_roundg k1
              case measure => have := HK1.out; omega
              case rel => exact ⟨(x4_1 ++ t104), (wrap64 (x5_1 + 1)), (by first | rfl | (simp; done) | (simp [*]; done)), (by first | rfl | (simp; done) | (simp [*]; done)), H', ⟨by have := HK1.out; omega⟩, ⟨by repeat (first | (with_reducible first | exact HB.out | apply below_alloc | apply pw_below_drewN | apply below_drew1) | exact HB.out)⟩⟩
            · rw [if_neg c7] at H
              exact absurd H (by simp)
          · replace c5 := Bool.eq_false_iff.mpr c5
            subst c5
            have H1 : (some ((⟨#[]⟩ : ByteArray), false)) = some (r1, r2) := by rw [if_neg (show ¬ (false = true) by decide)] at H; exact H
            clear H
            have H := H1
            clear H1
            simp only [Option.some.injEq, Prod.mk.injEq] at H
            obtain ⟨rfl, rfl⟩ := H
            have p101 : 0 ≤ (x5_1 : Int) := of_decide_eq_true (by first | (with_reducible assumption) | assumption)
            have q101 : x5_1 < (l0.length : Int) := of_decide_eq_true (by first | (with_reducible assumption) | assumption)
            obtain ⟨ad101, e101, hx101_0⟩ := Kd.at_int HR0.out x5_1 p101 q101
            cases e101
            replace hx101_0 := (HB.out.cell (World.block_lt_of_cell? w _ hx101_0)).trans hx101_0
            replace p101 := eq_true p101
            replace q101 := eq_true q101
            go_wp2_with (first | ((with_reducible refine gate_callee (f := 40) rfl ?_); refine goesL_ (some 16) rfl rfl Try.func40 (by kernel_rfl) rfl #[.int .i64 (rd l0 x5_1)] rfl (by (try simp only [List.map_toArray, List.map_cons, List.map_nil]); first | done | rfl | (simp only [List.length_drop, List.length_take]; rfl)) ?_; (with_reducible refine (paronymref01_Scalar.calls (rd l0 x5_1) false _ A4.out).mono ?_); rintro e w' ⟨rfl, ⟨nd, rfl⟩⟩; refine ⟨_, rfl, ?_⟩))
            go_ret2
            exact ⟨by first | rfl | (simp [errW_none, errW_some] <;> rfl) | (simp [*, errW_none, errW_some] <;> rfl), by repeat (first | (with_reducible first | exact HB.out | apply below_alloc | apply pw_below_drewN | apply below_drew1) | exact HB.out)⟩
        · rw [if_neg c3] at H
          exact absurd H (by simp)
      · rw [if_neg c2] at H
        have c2b0 : decide (x5_1 < (l0.length : Int)) = false := decide_eq_false c2
        clear c2
        simp only [Option.some.injEq, Prod.mk.injEq] at H
        obtain ⟨rfl, rfl⟩ := H
        go_wp2
        go_ret2
        exact ⟨by first | rfl | (simp [errW_none, errW_some] <;> rfl) | (simp [*, errW_none, errW_some] <;> rfl), by repeat (first | (with_reducible first | exact HB.out | apply below_alloc | apply pw_below_drewN | apply below_drew1) | exact HB.out)⟩

end Go.Proofs.Ytooiajkbpkfplaa.Q

-- from Qf55
-- Made by hp.py, a program of this session, with the kit's printer. Not trusted: Lean checks it.
namespace Go.Proofs.Ytooiajkbpkfplaa.Q
open Go.RowKit Go.Proofs.YtooiajkbpkfplaaW.PrintWords Go.Proofs.YtooiajkbpkfplaaW.PrintLast Go.Proofs.YtooiajkbpkfplaaW.PrintMore
attribute [local go_sem] max2_int min2_int max_two min_two max_three min_three max_four min_four   -- for this text's walks alone
set_option linter.unusedVariables false
set_option linter.unusedSimpArgs false

/-! ### paronymref01_Next: function 55 -/
mutual
def paronymref01_Next.l0 : Nat → ByteArray → Int → Option (Int × Int)
  | 0, _, _ => none
  | k + 1, x0, x4 => if x4 ≤ 4 then (paronymref01_Next.j1 k x0 x4 (decide (x4 ≤ (x0.size : Int)))) else (paronymref01_Next.j1 k x0 x4 false)
def paronymref01_Next.j1 : Nat → ByteArray → Int → Bool → Option (Int × Int)
  | 0, _, _, _ => none
  | k + 1, x0, x4, x14 => if x14 = true then (if 0 < (x0.size : Int) then (if x4 = 2 then (paronymref01_Next.j2 k x0 x4 (Int.tmod (wrap64 (bt x0 0)) 32)) else (paronymref01_Next.j2 k x0 x4 (wrap64 (bt x0 0)))) else (none)) else (some (0, 0))
def paronymref01_Next.j2 : Nat → ByteArray → Int → Int → Option (Int × Int)
  | 0, _, _, _ => none
  | k + 1, x0, x4, x5 => if x4 = 3 then (paronymref01_Next.j3 k x0 x4 (Int.tmod x5 16)) else (paronymref01_Next.j3 k x0 x4 x5)
def paronymref01_Next.j3 : Nat → ByteArray → Int → Int → Option (Int × Int)
  | 0, _, _, _ => none
  | k + 1, x0, x4, x5 => if x4 = 4 then (paronymref01_Next.j4 k x0 x4 (Int.tmod x5 8)) else (paronymref01_Next.j4 k x0 x4 x5)
def paronymref01_Next.j4 : Nat → ByteArray → Int → Int → Option (Int × Int)
  | 0, _, _, _ => none
  | k + 1, x0, x4, x5 => paronymref01_Next.l1 k x0 x4 x5 1
def paronymref01_Next.l1 : Nat → ByteArray → Int → Int → Int → Option (Int × Int)
  | 0, _, _, _, _ => none
  | k + 1, x0, x4, x5, x6 => if x6 < x4 then (if 0 ≤ x6 then (if x6 < (x0.size : Int) then (paronymref01_Next.l1 k x0 x4 (wrap64 ((wrap64 (x5 * 64)) + (Int.tmod (wrap64 (bt x0 x6)) 64))) (wrap64 (x6 + 1))) else (none)) else (none)) else ((paronymref01_Scalar.f x5).bind fun t101 => (if t101 = true then ((paronymref01_Octets.f k x5).bind fun t102 => (if 0 ≤ x4 then (if x4 ≤ (x0.size : Int) then (if t102.toList = (x0.extract 0 (x4 : Int).toNat).toList then (some (x5, x4)) else (paronymref01_Next.l0 k x0 (wrap64 (x4 + 1)))) else (none)) else (none))) else (paronymref01_Next.l0 k x0 (wrap64 (x4 + 1)))))
end
def paronymref01_Next.f (k : Nat) (a0 : ByteArray) : Option (Int × Int) := paronymref01_Next.l0 k a0 1
theorem paronymref01_Next.mono_l : ∀ k, (∀ y0 y1, LeO (paronymref01_Next.l0 k y0 y1) (paronymref01_Next.l0 (k + 1) y0 y1)) ∧ (∀ y0 y1 y2, LeO (paronymref01_Next.j1 k y0 y1 y2) (paronymref01_Next.j1 (k + 1) y0 y1 y2)) ∧ (∀ y0 y1 y2, LeO (paronymref01_Next.j2 k y0 y1 y2) (paronymref01_Next.j2 (k + 1) y0 y1 y2)) ∧ (∀ y0 y1 y2, LeO (paronymref01_Next.j3 k y0 y1 y2) (paronymref01_Next.j3 (k + 1) y0 y1 y2)) ∧ (∀ y0 y1 y2, LeO (paronymref01_Next.j4 k y0 y1 y2) (paronymref01_Next.j4 (k + 1) y0 y1 y2)) ∧ (∀ y0 y1 y2 y3, LeO (paronymref01_Next.l1 k y0 y1 y2 y3) (paronymref01_Next.l1 (k + 1) y0 y1 y2 y3))
  | 0 => ⟨fun _ _ r h => by simp [paronymref01_Next.l0] at h, fun _ _ _ r h => by simp [paronymref01_Next.j1] at h, fun _ _ _ r h => by simp [paronymref01_Next.j2] at h, fun _ _ _ r h => by simp [paronymref01_Next.j3] at h, fun _ _ _ r h => by simp [paronymref01_Next.j4] at h, fun _ _ _ _ r h => by simp [paronymref01_Next.l1] at h⟩
  | k + 1 => by
    obtain ⟨ih0, ih1, ih2, ih3, ih4, ih5⟩ := paronymref01_Next.mono_l k
    refine ⟨?_, ?_, ?_, ?_, ?_, ?_⟩
    · intro y0 y1
      unfold paronymref01_Next.l0
      repeat' first
      | (with_reducible exact ih0 _ _)
      | (with_reducible exact ih1 _ _ _)
      | (with_reducible exact ih2 _ _ _)
      | (with_reducible exact ih3 _ _ _)
      | (with_reducible exact ih4 _ _ _)
      | (with_reducible exact ih5 _ _ _ _)
      | (with_reducible exact paronymref01_Octets.mono _ _)
      | (with_reducible exact LeO.refl _)
      | (with_reducible exact LeO.none _)
      | (with_reducible refine LeO.ite ?_ ?_)
      | (with_reducible refine LeO.bind ?_ (fun _ => ?_))
      | exact ih0 _ _
      | exact ih1 _ _ _
      | exact ih2 _ _ _
      | exact ih3 _ _ _
      | exact ih4 _ _ _
      | exact ih5 _ _ _ _
      | exact paronymref01_Octets.mono _ _
      | exact LeO.none _
      | refine LeO.ite ?_ ?_
      | refine LeO.bind ?_ (fun _ => ?_)
    · intro y0 y1 y2
      unfold paronymref01_Next.j1
      repeat' first
      | (with_reducible exact ih0 _ _)
      | (with_reducible exact ih1 _ _ _)
      | (with_reducible exact ih2 _ _ _)
      | (with_reducible exact ih3 _ _ _)
      | (with_reducible exact ih4 _ _ _)
      | (with_reducible exact ih5 _ _ _ _)
      | (with_reducible exact paronymref01_Octets.mono _ _)
      | (with_reducible exact LeO.refl _)
      | (with_reducible exact LeO.none _)
      | (with_reducible refine LeO.ite ?_ ?_)
      | (with_reducible refine LeO.bind ?_ (fun _ => ?_))
      | exact ih0 _ _
      | exact ih1 _ _ _
      | exact ih2 _ _ _
      | exact ih3 _ _ _
      | exact ih4 _ _ _
      | exact ih5 _ _ _ _
      | exact paronymref01_Octets.mono _ _
      | exact LeO.none _
      | refine LeO.ite ?_ ?_
      | refine LeO.bind ?_ (fun _ => ?_)
    · intro y0 y1 y2
      unfold paronymref01_Next.j2
      repeat' first
      | (with_reducible exact ih0 _ _)
      | (with_reducible exact ih1 _ _ _)
      | (with_reducible exact ih2 _ _ _)
      | (with_reducible exact ih3 _ _ _)
      | (with_reducible exact ih4 _ _ _)
      | (with_reducible exact ih5 _ _ _ _)
      | (with_reducible exact paronymref01_Octets.mono _ _)
      | (with_reducible exact LeO.refl _)
      | (with_reducible exact LeO.none _)
      | (with_reducible refine LeO.ite ?_ ?_)
      | (with_reducible refine LeO.bind ?_ (fun _ => ?_))
      | exact ih0 _ _
      | exact ih1 _ _ _
      | exact ih2 _ _ _
      | exact ih3 _ _ _
      | exact ih4 _ _ _
      | exact ih5 _ _ _ _
      | exact paronymref01_Octets.mono _ _
      | exact LeO.none _
      | refine LeO.ite ?_ ?_
      | refine LeO.bind ?_ (fun _ => ?_)
    · intro y0 y1 y2
      unfold paronymref01_Next.j3
      repeat' first
      | (with_reducible exact ih0 _ _)
      | (with_reducible exact ih1 _ _ _)
      | (with_reducible exact ih2 _ _ _)
      | (with_reducible exact ih3 _ _ _)
      | (with_reducible exact ih4 _ _ _)
      | (with_reducible exact ih5 _ _ _ _)
      | (with_reducible exact paronymref01_Octets.mono _ _)
      | (with_reducible exact LeO.refl _)
      | (with_reducible exact LeO.none _)
      | (with_reducible refine LeO.ite ?_ ?_)
      | (with_reducible refine LeO.bind ?_ (fun _ => ?_))
      | exact ih0 _ _
      | exact ih1 _ _ _
      | exact ih2 _ _ _
      | exact ih3 _ _ _
      | exact ih4 _ _ _
      | exact ih5 _ _ _ _
      | exact paronymref01_Octets.mono _ _
      | exact LeO.none _
      | refine LeO.ite ?_ ?_
      | refine LeO.bind ?_ (fun _ => ?_)
    · intro y0 y1 y2
      unfold paronymref01_Next.j4
      repeat' first
      | (with_reducible exact ih0 _ _)
      | (with_reducible exact ih1 _ _ _)
      | (with_reducible exact ih2 _ _ _)
      | (with_reducible exact ih3 _ _ _)
      | (with_reducible exact ih4 _ _ _)
      | (with_reducible exact ih5 _ _ _ _)
      | (with_reducible exact paronymref01_Octets.mono _ _)
      | (with_reducible exact LeO.refl _)
      | (with_reducible exact LeO.none _)
      | (with_reducible refine LeO.ite ?_ ?_)
      | (with_reducible refine LeO.bind ?_ (fun _ => ?_))
      | exact ih0 _ _
      | exact ih1 _ _ _
      | exact ih2 _ _ _
      | exact ih3 _ _ _
      | exact ih4 _ _ _
      | exact ih5 _ _ _ _
      | exact paronymref01_Octets.mono _ _
      | exact LeO.none _
      | refine LeO.ite ?_ ?_
      | refine LeO.bind ?_ (fun _ => ?_)
    · intro y0 y1 y2 y3
      unfold paronymref01_Next.l1
      repeat' first
      | (with_reducible exact ih0 _ _)
      | (with_reducible exact ih1 _ _ _)
      | (with_reducible exact ih2 _ _ _)
      | (with_reducible exact ih3 _ _ _)
      | (with_reducible exact ih4 _ _ _)
      | (with_reducible exact ih5 _ _ _ _)
      | (with_reducible exact paronymref01_Octets.mono _ _)
      | (with_reducible exact LeO.refl _)
      | (with_reducible exact LeO.none _)
      | (with_reducible refine LeO.ite ?_ ?_)
      | (with_reducible refine LeO.bind ?_ (fun _ => ?_))
      | exact ih0 _ _
      | exact ih1 _ _ _
      | exact ih2 _ _ _
      | exact ih3 _ _ _
      | exact ih4 _ _ _
      | exact ih5 _ _ _ _
      | exact paronymref01_Octets.mono _ _
      | exact LeO.none _
      | refine LeO.ite ?_ ?_
      | refine LeO.bind ?_ (fun _ => ?_)
theorem paronymref01_Next.mono : ∀ a0 k, LeO (paronymref01_Next.f k a0) (paronymref01_Next.f (k + 1) a0) := by
  intro a0 k
  obtain ⟨ih0, ih1, ih2, ih3, ih4, ih5⟩ := paronymref01_Next.mono_l k
  unfold paronymref01_Next.f
  repeat' first
      | (with_reducible exact ih0 _ _)
      | (with_reducible exact ih1 _ _ _)
      | (with_reducible exact ih2 _ _ _)
      | (with_reducible exact ih3 _ _ _)
      | (with_reducible exact ih4 _ _ _)
      | (with_reducible exact ih5 _ _ _ _)
      | (with_reducible exact paronymref01_Octets.mono _ _)
      | (with_reducible exact LeO.refl _)
      | (with_reducible exact LeO.none _)
      | (with_reducible refine LeO.ite ?_ ?_)
      | (with_reducible refine LeO.bind ?_ (fun _ => ?_))
      | exact ih0 _ _
      | exact ih1 _ _ _
      | exact ih2 _ _ _
      | exact ih3 _ _ _
      | exact ih4 _ _ _
      | exact ih5 _ _ _ _
      | exact paronymref01_Octets.mono _ _
      | exact LeO.none _
      | refine LeO.ite ?_ ?_
      | refine LeO.bind ?_ (fun _ => ?_)
def paronymref01_Next.T15 : Bool × List (List Nat × List Nat) := (true, [([], []), ([0], [0]), ([1, 1], [1]), ([2], [2]), ([3, 2, 2], [2, 3]), ([2], [2]), ([2], [2]), ([5, 6, 2], [2, 5, 6]), ([4, 7, 2], [2, 4, 7]), ([2, 8], [2, 8])])
def paronymref01_Next.B15 : List Nat := [0, 1, 3, 7, 15, 7, 7, 103, 255, 511]
theorem paronymref01_Next.tab15 : rtab .any (opsOf Try.f55 15) = paronymref01_Next.T15 := by kernel_rfl
theorem paronymref01_Next.bits15 : waitsOk paronymref01_Next.T15.2 paronymref01_Next.B15 = true := by kernel_rfl
set_option maxHeartbeats 8000000 in
set_option maxRecDepth 100000 in
theorem paronymref01_Next.calls (k : Nat) (a0 : ByteArray) (r1 : Int) (r2 : Int) (w : World) (h : paronymref01_Next.f k a0 = some (r1, r2)) :
    Calls Try.prog 55 #[.string a0] w fun e w' => e = .returned (.tuple #[.int .i64 r1, .int .i64 r2]) ∧ Below w.heap.size w w' := by
  have HB := Aside0.mk (Below.refl w.heap.size w)
  have H : (paronymref01_Next.l0 k a0 1) = some (r1, r2) := h
  clear h
  have H' := Aside0.mk H
  clear H
  go_enter Try.func55, Try.ntmps55
  go_wp2
  go_loopg [4] k (fun kq v4 w' => ∃ (x4_1 : Int), v4 = .int .i64 x4_1 ∧ Aside0 (paronymref01_Next.l0 kq a0 x4_1 = some (r1, r2)) ∧ Aside0 (kq ≤ k) ∧ Aside0 (Below w.heap.size w w'))
  case atStart => exact ⟨(1), (by first | rfl | (simp; done) | (simp [*]; done)), H', ⟨Nat.le_refl _⟩, ⟨by repeat (first | (with_reducible first | exact HB.out | apply below_alloc | apply pw_below_drewN | apply below_drew1) | exact HB.out)⟩⟩
  case round =>
    clear H'
    obtain ⟨x4_1, rfl, HA, HK1, HB⟩ := hrel
    cases gk with
    | zero => exact absurd HA.out (by simp [paronymref01_Next.l0])
    | succ k1 =>
      have H := HA.out
      clear HA
      simp only [paronymref01_Next.l0] at H
      have HC2 := Aside0.mk H
      clear H
      go_upto_region 2 with (fail)
      go_cut [14] (fun v14 wc => ∃ (kq : Nat) (x14_1 : Bool), v14 = .bool x14_1 ∧ Aside0 (paronymref01_Next.j1 kq a0 x4_1 x14_1 = some (r1, r2)) ∧ Aside0 (kq ≤ k1) ∧ Aside0 (Below w.heap.size w wc))
      case first =>
        have H := HC2.out
        clear HC2
        by_cases c3 : x4_1 ≤ 4
        · rw [if_pos c3] at H
          have c3b0 : decide (x4_1 ≤ 4) = true := decide_eq_true c3
          clear c3
          (first | rw [c3b0] | (simp only [i64_w, i32_w]; rw [c3b0]) | rw [c3b1] | (simp only [i64_w, i32_w]; rw [c3b1]) | skip)
          have H' := Aside0.mk H
          clear H
          go_wp2
          go_meet
          case rel => exact ⟨_, (decide (x4_1 ≤ (a0.size : Int))), (by first | rfl | (simp; done) | (simp [*]; done)), H', ⟨by have := HK1.out; first | omega | exact Nat.le_refl _⟩, ⟨by repeat (first | (with_reducible first | exact HB.out | apply below_alloc | apply pw_below_drewN | apply below_drew1) | exact HB.out)⟩⟩
        · rw [if_neg c3] at H
          have c3b0 : decide (x4_1 ≤ 4) = false := decide_eq_false c3
          clear c3
          (first | rw [c3b0] | (simp only [i64_w, i32_w]; rw [c3b0]) | rw [c3b1] | (simp only [i64_w, i32_w]; rw [c3b1]) | skip)
          have H' := Aside0.mk H
          clear H
          go_wp2
          go_meet
          case rel => exact ⟨_, (false), (by first | rfl | (simp; done) | (simp [*]; done)), H', ⟨by have := HK1.out; first | omega | exact Nat.le_refl _⟩, ⟨by repeat (first | (with_reducible first | exact HB.out | apply below_alloc | apply pw_below_drewN | apply below_drew1) | exact HB.out)⟩⟩
      case rest =>
        clear HC2
        try clear p2
        try clear c3
        try clear c3b0
        try clear c3b1
        obtain ⟨kq, x14_1, rfl, HA, HJ1, HB⟩ := hcut
        cases kq with
        | zero => exact absurd HA.out (by simp [paronymref01_Next.j1])
        | succ kj1 =>
          have H := HA.out
          clear HA
          simp only [paronymref01_Next.j1] at H
          by_cases c4 : x14_1 = true
          · subst c4
            have H1 : (if 0 < (a0.size : Int) then (if x4_1 = 2 then (paronymref01_Next.j2 kj1 a0 x4_1 (Int.tmod (wrap64 (bt a0 0)) 32)) else (paronymref01_Next.j2 kj1 a0 x4_1 (wrap64 (bt a0 0)))) else (none)) = some (r1, r2) := by rw [if_pos rfl] at H; exact H
            clear H
            have H := H1
            clear H1
            by_cases c5 : 0 < (a0.size : Int)
            · rw [if_pos c5] at H
              have c5b0 : decide (0 < (a0.size : Int)) = true := decide_eq_true c5
              have c5b1 : decide (0 < a0.size) = true := decide_eq_true (by omega)
              clear c5
              have HC7 := Aside0.mk H
              clear H
              have p6 : 0 ≤ (0 : Int) := (by omega)
              have q6 : 0 < a0.size := (by have : (0 : Int) < (a0.size : Int) := of_decide_eq_true (by first | (with_reducible assumption) | assumption); omega)
              have hx6 : ∀ h : 0 < a0.size, ((a0[0]'h).toNat : Int) = bt a0 0 := bt_at a0 0
              clear p6
              have qi6 : (0 < (a0.size : Int)) = True := eq_true (of_decide_eq_true (by first | (with_reducible assumption) | assumption))
              replace q6 := eq_true q6
              go_upto_if 21 with (fail)
              go_cut [5] (fun v5 wc => ∃ (kq : Nat) (x5_6 : Int), v5 = .int .i64 x5_6 ∧ Aside0 (paronymref01_Next.j2 kq a0 x4_1 x5_6 = some (r1, r2)) ∧ Aside0 (kq ≤ kj1) ∧ Aside0 (Below w.heap.size w wc))
              case first =>
                have H := HC7.out
                clear HC7
                by_cases c8 : x4_1 = 2
                · rw [if_pos c8] at H
                  have c8b0 : (x4_1 == 2) = true := beq_iff_eq.mpr c8
                  have c8b1 : (x4_1 != 2) = false := bne_eq_false_iff_eq.mpr c8
                  clear c8
                  (first | rw [c8b0] | (simp only [i64_w, i32_w]; rw [c8b0]) | rw [c8b1] | (simp only [i64_w, i32_w]; rw [c8b1]) | skip)
                  have H' := Aside0.mk H
                  clear H
                  go_wp2
                  go_meet
                  case rel => exact ⟨_, (Int.tmod (wrap64 (bt a0 0)) 32), (by first | rfl | (simp; done) | (simp [*]; done)), H', ⟨by have := HK1.out; have := HJ1.out; first | omega | exact Nat.le_refl _⟩, ⟨by repeat (first | (with_reducible first | exact HB.out | apply below_alloc | apply pw_below_drewN | apply below_drew1) | exact HB.out)⟩⟩
                · rw [if_neg c8] at H
                  have c8b0 : (x4_1 == 2) = false := beq_eq_false_iff_ne.mpr c8
                  have c8b1 : (x4_1 != 2) = true := bne_iff_ne.mpr c8
                  (first | rw [c8b0] | (simp only [i64_w, i32_w]; rw [c8b0]) | rw [c8b1] | (simp only [i64_w, i32_w]; rw [c8b1]) | skip)
                  have H' := Aside0.mk H
                  clear H
                  go_wp2
                  go_meet
                  case rel => exact ⟨_, (wrap64 (bt a0 0)), (by first | rfl | (simp; done) | (simp [*]; done)), H', ⟨by have := HK1.out; have := HJ1.out; first | omega | exact Nat.le_refl _⟩, ⟨by repeat (first | (with_reducible first | exact HB.out | apply below_alloc | apply pw_below_drewN | apply below_drew1) | exact HB.out)⟩⟩
              case rest =>
                clear HC7
                try clear p2
                try clear c3
                try clear c3b0
                try clear c3b1
                try clear c4
                try clear c5
                try clear c5b0
                try clear c5b1
                try clear p6
                try clear q6
                try clear hx6
                try clear qi6
                try clear c8
                try clear c8b0
                try clear c8b1
                try clear p2
                try clear p6
                try clear q6
                obtain ⟨kq, x5_6, rfl, HA, HJ6, HB⟩ := hcut
                cases kq with
                | zero => exact absurd HA.out (by simp [paronymref01_Next.j2])
                | succ kj6 =>
                  have H := HA.out
                  clear HA
                  simp only [paronymref01_Next.j2] at H
                  have HC9 := Aside0.mk H
                  clear H
                  go_upto_if 25 with (fail)
                  go_cut [5] (fun v5 wc => ∃ (kq : Nat) (x5_8 : Int), v5 = .int .i64 x5_8 ∧ Aside0 (paronymref01_Next.j3 kq a0 x4_1 x5_8 = some (r1, r2)) ∧ Aside0 (kq ≤ kj6) ∧ Aside0 (Below w.heap.size w wc))
                  case first =>
                    have H := HC9.out
                    clear HC9
                    by_cases c10 : x4_1 = 3
                    · rw [if_pos c10] at H
                      have c10b0 : (x4_1 == 3) = true := beq_iff_eq.mpr c10
                      have c10b1 : (x4_1 != 3) = false := bne_eq_false_iff_eq.mpr c10
                      clear c10
                      (first | rw [c10b0] | (simp only [i64_w, i32_w]; rw [c10b0]) | rw [c10b1] | (simp only [i64_w, i32_w]; rw [c10b1]) | skip)
                      have H' := Aside0.mk H
                      clear H
                      go_wp2
                      go_meet
                      case rel => exact ⟨_, (Int.tmod x5_6 16), (by first | rfl | (simp; done) | (simp [*]; done)), H', ⟨by have := HK1.out; have := HJ1.out; have := HJ6.out; first | omega | exact Nat.le_refl _⟩, ⟨by repeat (first | (with_reducible first | exact HB.out | apply below_alloc | apply pw_below_drewN | apply below_drew1) | exact HB.out)⟩⟩
                    · rw [if_neg c10] at H
                      have c10b0 : (x4_1 == 3) = false := beq_eq_false_iff_ne.mpr c10
                      have c10b1 : (x4_1 != 3) = true := bne_iff_ne.mpr c10
                      (first | rw [c10b0] | (simp only [i64_w, i32_w]; rw [c10b0]) | rw [c10b1] | (simp only [i64_w, i32_w]; rw [c10b1]) | skip)
                      have H' := Aside0.mk H
                      clear H
                      go_wp2
                      go_meet
                      case rel => exact ⟨_, (x5_6), (by first | rfl | (simp; done) | (simp [*]; done)), H', ⟨by have := HK1.out; have := HJ1.out; have := HJ6.out; first | omega | exact Nat.le_refl _⟩, ⟨by repeat (first | (with_reducible first | exact HB.out | apply below_alloc | apply pw_below_drewN | apply below_drew1) | exact HB.out)⟩⟩
                  case rest =>
                    clear HC9
                    try clear c1
                    try clear p2
                    try clear c3
                    try clear c3b0
                    try clear c3b1
                    try clear c4
                    try clear c5
                    try clear c5b0
                    try clear c5b1
                    try clear p6
                    try clear q6
                    try clear hx6
                    try clear qi6
                    try clear c8
                    try clear c8b0
                    try clear c8b1
                    try clear c10
                    try clear c10b0
                    try clear c10b1
                    try clear p2
                    try clear p6
                    try clear q6
                    obtain ⟨kq, x5_8, rfl, HA, HJ8, HB⟩ := hcut
                    cases kq with
                    | zero => exact absurd HA.out (by simp [paronymref01_Next.j3])
                    | succ kj8 =>
                      have H := HA.out
                      clear HA
                      simp only [paronymref01_Next.j3] at H
                      have HC11 := Aside0.mk H
                      clear H
                      go_upto_if 29 with (fail)
                      go_cut [5] (fun v5 wc => ∃ (kq : Nat) (x5_10 : Int), v5 = .int .i64 x5_10 ∧ Aside0 (paronymref01_Next.j4 kq a0 x4_1 x5_10 = some (r1, r2)) ∧ Aside0 (kq ≤ kj8) ∧ Aside0 (Below w.heap.size w wc))
                      case first =>
                        have H := HC11.out
                        clear HC11
                        by_cases c12 : x4_1 = 4
                        · rw [if_pos c12] at H
                          have c12b0 : (x4_1 == 4) = true := beq_iff_eq.mpr c12
                          have c12b1 : (x4_1 != 4) = false := bne_eq_false_iff_eq.mpr c12
                          clear c12
                          (first | rw [c12b0] | (simp only [i64_w, i32_w]; rw [c12b0]) | rw [c12b1] | (simp only [i64_w, i32_w]; rw [c12b1]) | skip)
                          have H' := Aside0.mk H
                          clear H
                          go_wp2
                          go_meet
                          case rel => exact ⟨_, (Int.tmod x5_8 8), (by first | rfl | (simp; done) | (simp [*]; done)), H', ⟨by have := HK1.out; have := HJ1.out; have := HJ6.out; have := HJ8.out; first | omega | exact Nat.le_refl _⟩, ⟨by repeat (first | (with_reducible first | exact HB.out | apply below_alloc | apply pw_below_drewN | apply below_drew1) | exact HB.out)⟩⟩
                        · rw [if_neg c12] at H
                          have c12b0 : (x4_1 == 4) = false := beq_eq_false_iff_ne.mpr c12
                          have c12b1 : (x4_1 != 4) = true := bne_iff_ne.mpr c12
                          (first | rw [c12b0] | (simp only [i64_w, i32_w]; rw [c12b0]) | rw [c12b1] | (simp only [i64_w, i32_w]; rw [c12b1]) | skip)
                          have H' := Aside0.mk H
                          clear H
                          go_wp2
                          go_meet
                          case rel => exact ⟨_, (x5_8), (by first | rfl | (simp; done) | (simp [*]; done)), H', ⟨by have := HK1.out; have := HJ1.out; have := HJ6.out; have := HJ8.out; first | omega | exact Nat.le_refl _⟩, ⟨by repeat (first | (with_reducible first | exact HB.out | apply below_alloc | apply pw_below_drewN | apply below_drew1) | exact HB.out)⟩⟩
                      case rest =>
                        clear HC11
                        try clear c1
                        try clear p2
                        try clear c3
                        try clear c3b0
                        try clear c3b1
                        try clear c4
                        try clear c5
                        try clear c5b0
                        try clear c5b1
                        try clear p6
                        try clear q6
                        try clear hx6
                        try clear qi6
                        try clear c8
                        try clear c8b0
                        try clear c8b1
                        try clear c10
                        try clear c10b0
                        try clear c10b1
                        try clear c12
                        try clear c12b0
                        try clear c12b1
                        try clear p2
                        try clear p6
                        try clear q6
                        obtain ⟨kq, x5_10, rfl, HA, HJ10, HB⟩ := hcut
                        cases kq with
                        | zero => exact absurd HA.out (by simp [paronymref01_Next.j4])
                        | succ kj10 =>
                          have H := HA.out
                          clear HA
                          simp only [paronymref01_Next.j4] at H
                          have H' := Aside0.mk H
                          clear H
                          go_wp2
                          go_loopg [5, 6] kj10 (fun kq v5 v6 w' => ∃ (x5_6 : Int) (x6_6 : Int), v5 = .int .i64 x5_6 ∧ v6 = .int .i64 x6_6 ∧ Aside0 (paronymref01_Next.l1 kq a0 x4_1 x5_6 x6_6 = some (r1, r2)) ∧ Aside0 (kq ≤ kj10) ∧ Aside0 (Below w.heap.size w w'))
                          case atStart => exact ⟨(x5_10), (1), (by first | rfl | (simp; done) | (simp [*]; done)), (by first | rfl | (simp; done) | (simp [*]; done)), H', ⟨Nat.le_refl _⟩, ⟨by repeat (first | (with_reducible first | exact HB.out | apply below_alloc | apply pw_below_drewN | apply below_drew1) | exact HB.out)⟩⟩
                          case round =>
                            clear H'
                            try clear c1
                            try clear p2
                            try clear c3
                            try clear c3b0
                            try clear c3b1
                            try clear c4
                            try clear c5
                            try clear c5b0
                            try clear c5b1
                            try clear p6
                            try clear q6
                            try clear hx6
                            try clear qi6
                            try clear c8
                            try clear c8b0
                            try clear c8b1
                            try clear c10
                            try clear c10b0
                            try clear c10b1
                            try clear c12
                            try clear c12b0
                            try clear c12b1
                            try clear p2
                            try clear p6
                            try clear q6
                            obtain ⟨x5_6, x6_6, rfl, rfl, HA, HK6, HB⟩ := hrel
                            cases gk with
                            | zero => exact absurd HA.out (by simp [paronymref01_Next.l1])
                            | succ k6 =>
                              have H := HA.out
                              clear HA
                              simp only [paronymref01_Next.l1] at H
                              by_cases c13 : x6_6 < x4_1
                              · rw [if_pos c13] at H
                                have c13b0 : decide (x6_6 < x4_1) = true := decide_eq_true c13
                                clear c13
                                by_cases c14 : 0 ≤ x6_6
                                · rw [if_pos c14] at H
                                  have c14b0 : decide (0 ≤ x6_6) = true := decide_eq_true c14
                                  clear c14
                                  by_cases c15 : x6_6 < (a0.size : Int)
                                  · rw [if_pos c15] at H
                                    have c15b0 : decide (x6_6 < (a0.size : Int)) = true := decide_eq_true c15
                                    clear c15
                                    have H' := Aside0.mk H
                                    clear H
                                    have p16 : 0 ≤ (x6_6 : Int) := of_decide_eq_true (by first | (with_reducible assumption) | assumption)
                                    have q16 : x6_6 < (a0.size : Int) := of_decide_eq_true (by first | (with_reducible assumption) | assumption)
                                    have hx16 := bt_at a0 x6_6
                                    replace p16 := eq_true p16
                                    replace q16 := eq_true q16
                                    go_wp2
                                    go_roundg k6
                                    case measure => have := HK1.out; have := HJ1.out; have := HJ6.out; have := HJ8.out; have := HJ10.out; have := HK6.out; omega
                                    case rel => exact ⟨(wrap64 ((wrap64 (x5_6 * 64)) + (Int.tmod (wrap64 (bt a0 x6_6)) 64))), (wrap64 (x6_6 + 1)), (by first | rfl | (simp; done) | (simp [*]; done)), (by first | rfl | (simp; done) | (simp [*]; done)), H', ⟨by have := HK1.out; have := HJ1.out; have := HJ6.out; have := HJ8.out; have := HJ10.out; have := HK6.out; omega⟩, ⟨by repeat (first | (with_reducible first | exact HB.out | apply below_alloc | apply pw_below_drewN | apply below_drew1) | exact HB.out)⟩⟩
                                  · rw [if_neg c15] at H
                                    exact absurd H (by simp)
                                · rw [if_neg c14] at H
                                  exact absurd H (by simp)
                              · rw [if_neg c13] at H
                                have c13b0 : decide (x6_6 < x4_1) = false := decide_eq_false c13
                                clear c13
                                replace H := Option.bind_eq_some_iff.mp H
                                obtain ⟨t101, A170, H⟩ := H
                                replace H : (if t101 = true then ((paronymref01_Octets.f k6 x5_6).bind fun t102 => (if 0 ≤ x4_1 then (if x4_1 ≤ (a0.size : Int) then (if t102.toList = (a0.extract 0 (x4_1 : Int).toNat).toList then (some (x5_6, x4_1)) else (paronymref01_Next.l0 k6 a0 (wrap64 (x4_1 + 1)))) else (none)) else (none))) else (paronymref01_Next.l0 k6 a0 (wrap64 (x4_1 + 1)))) = some (r1, r2) := H
                                have A17 := Aside0.mk A170
                                clear A170
                                by_cases c18 : t101 = true
                                · subst c18
                                  have H1 : ((paronymref01_Octets.f k6 x5_6).bind fun t102 => (if 0 ≤ x4_1 then (if x4_1 ≤ (a0.size : Int) then (if t102.toList = (a0.extract 0 (x4_1 : Int).toNat).toList then (some (x5_6, x4_1)) else (paronymref01_Next.l0 k6 a0 (wrap64 (x4_1 + 1)))) else (none)) else (none))) = some (r1, r2) := by rw [if_pos rfl] at H; exact H
                                  clear H
                                  have H := H1
                                  clear H1
                                  replace H := Option.bind_eq_some_iff.mp H
                                  obtain ⟨t102, A190, H⟩ := H
                                  replace H : (if 0 ≤ x4_1 then (if x4_1 ≤ (a0.size : Int) then (if t102.toList = (a0.extract 0 (x4_1 : Int).toNat).toList then (some (x5_6, x4_1)) else (paronymref01_Next.l0 k6 a0 (wrap64 (x4_1 + 1)))) else (none)) else (none)) = some (r1, r2) := H
                                  have A19 := Aside0.mk A190
                                  clear A190
                                  by_cases c20 : 0 ≤ x4_1
                                  · rw [if_pos c20] at H
                                    have c20b0 := eq_true c20
                                    have c20b1 : decide (0 ≤ x4_1) = true := decide_eq_true c20
                                    clear c20
                                    by_cases c21 : x4_1 ≤ (a0.size : Int)
                                    · rw [if_pos c21] at H
                                      have c21b0 := eq_true c21
                                      have c21b1 : decide (x4_1 ≤ (a0.size : Int)) = true := decide_eq_true c21
                                      clear c21
                                      by_cases c22 : t102.toList = (a0.extract 0 (x4_1 : Int).toNat).toList
                                      · rw [if_pos c22] at H
                                        have c22b0 : (t102.toList == (a0.extract 0 (x4_1 : Int).toNat).toList) = true := beq_iff_eq.mpr c22
                                        have c22b1 : (t102.toList != (a0.extract 0 (x4_1 : Int).toNat).toList) = false := bne_eq_false_iff_eq.mpr c22
                                        clear c22
                                        simp only [Option.some.injEq, Prod.mk.injEq] at H
                                        obtain ⟨rfl, rfl⟩ := H
                                        try go_wp2
                                        have n0_ := Aside0.mk (below_drew1 HB.out)
                                        clear HB
                                        have HB := n0_
                                        clear n0_
                                        refine start_ (n := 10) (S := fun w' => True) (ds := []) #[false, false, false, false, false, false, false, false, false, false] (by kernel_rfl) rfl rfl trivial (fun hHeld => ?_); refine with_tabW paronymref01_Next.tab15 paronymref01_Next.bits15 (fun HT_ HW_ => ?_)
                                        generalize wr.drew = w23 at HB hHeld ⊢
                                        refine pure_ (i := 0) (N := some 45) (v := ?_) (a' := ?_) #[true, false, false, false, false, false, false, false, false, false] rfl rfl (any_of HT_.out (by kernel_rfl)) (fun _ _ _ h => h) (Or.inl ⟨by rfl, ?_⟩) ?_ ?_
                                        rotate_left
                                        · intro w'
                                          go_simp
                                          with_reducible rfl
                                        rotate_left
                                        · simp only [Act.put, List.setIfInBounds_toArray, List.set_cons_zero, List.set_cons_succ, i64_w, i32_w]
                                          rfl
                                        refine one_ (i := 1) (N := some 46) #[true, true, false, false, false, false, false, false, false, false] rfl rfl (one_of HT_.out (by kernel_rfl)) (by decide) (fun K hK => ?_)
                                        refine goes_ Try.func40 (by kernel_rfl) rfl #[.int .i64 x5_6] (by rfl) rfl rfl (by (try simp only [List.map_toArray, List.map_cons, List.map_nil]); first | done | rfl | (simp only [List.length_drop, List.length_take]; rfl)) ?_
                                        with_reducible refine (paronymref01_Scalar.calls x5_6 true _ A17.out).mono ?_
                                        rintro e w' ⟨rfl, ⟨nd, rfl⟩⟩
                                        refine ⟨_, rfl, ?_⟩
                                        refine hK.out _ _ trivial (fun hHeld => ?_)
                                        clear hK K
                                        refine norm_ (a' := ?_) ?_ ?_
                                        rotate_left
                                        · show Act.put _ (some 46) _ = _
                                          simp only [Act.put, List.setIfInBounds_toArray, List.set_cons_zero, List.set_cons_succ, i64_w, i32_w]
                                          rfl
                                        refine pure_ (i := 2) (N := some 47) (v := ?_) (a' := ?_) #[true, true, true, false, false, false, false, false, false, false] rfl rfl (any_of HT_.out (by kernel_rfl)) (fun _ _ _ h => h) (Or.inl ⟨by rfl, ?_⟩) ?_ ?_
                                        rotate_left
                                        · intro w'
                                          go_simp
                                          with_reducible rfl
                                        rotate_left
                                        · simp only [Act.put, List.setIfInBounds_toArray, List.set_cons_zero, List.set_cons_succ, i64_w, i32_w]
                                          rfl
                                        refine pure_ (i := 3) (N := some 48) (v := ?_) (a' := ?_) #[true, true, true, true, false, false, false, false, false, false] rfl rfl (any_of HT_.out (by kernel_rfl)) (fun _ _ _ h => h) (Or.inl ⟨by rfl, ?_⟩) ?_ ?_
                                        rotate_left
                                        · intro w'
                                          go_simp
                                          with_reducible rfl
                                        rotate_left
                                        · simp only [Act.put, List.setIfInBounds_toArray, List.set_cons_zero, List.set_cons_succ, i64_w, i32_w]
                                          rfl
                                        refine pure_ (i := 5) (N := some 50) (v := ?_) (a' := ?_) #[true, true, true, true, false, true, false, false, false, false] rfl rfl (any_of HT_.out (by kernel_rfl)) (fun _ _ _ h => h) (Or.inl ⟨by rfl, ?_⟩) ?_ ?_
                                        rotate_left
                                        · intro w'
                                          go_simp
                                          with_reducible rfl
                                        rotate_left
                                        · simp only [Act.put, List.setIfInBounds_toArray, List.set_cons_zero, List.set_cons_succ, i64_w, i32_w]
                                          rfl
                                        refine pure_ (i := 6) (N := some 51) (v := ?_) (a' := ?_) #[true, true, true, true, false, true, true, false, false, false] rfl rfl (any_of HT_.out (by kernel_rfl)) (fun _ _ _ h => h) (Or.inl ⟨by rfl, ?_⟩) ?_ ?_
                                        rotate_left
                                        · intro w'
                                          go_simp
                                          with_reducible rfl
                                        rotate_left
                                        · simp only [Act.put, List.setIfInBounds_toArray, List.set_cons_zero, List.set_cons_succ, i64_w, i32_w]
                                          rfl
                                        refine pure_ (i := 7) (N := some 52) (v := ?_) (a' := ?_) #[true, true, true, true, false, true, true, true, false, false] rfl rfl (any_of HT_.out (by kernel_rfl)) (fun _ _ _ h => h) (Or.inl ⟨by rfl, ?_⟩) ?_ ?_
                                        rotate_left
                                        · intro w'
                                          go_simp
                                          with_reducible rfl
                                        rotate_left
                                        · simp only [Act.put, List.setIfInBounds_toArray, List.set_cons_zero, List.set_cons_succ, i64_w, i32_w]
                                          rfl
                                        refine one_ (i := 4) (N := some 49) #[true, true, true, true, true, true, true, true, false, false] rfl rfl (one_of HT_.out (by kernel_rfl)) (by decide) (fun K hK => ?_)
                                        refine goes_ Try.func34 (by kernel_rfl) rfl #[.int .i64 x5_6] (by rfl) rfl rfl (by (try simp only [List.map_toArray, List.map_cons, List.map_nil]); first | done | rfl | (simp only [List.length_drop, List.length_take]; rfl)) ?_
                                        with_reducible refine (paronymref01_Octets.calls k6 x5_6 t102 _ A19.out).mono ?_
                                        rintro e w24 ⟨rfl, hb⟩
                                        refine ⟨_, rfl, ?_⟩
                                        have n0_ := Aside0.mk (below_step (by repeat (first | (with_reducible first | exact HB.out | apply below_alloc | apply pw_below_drewN | apply below_drew1) | exact HB.out)) hb)
                                        clear HB
                                        have HB := n0_
                                        clear n0_
                                        (try clear hb)
                                        (try clear hb2)
                                        (try clear hk)
                                        (try clear hi)
                                        refine hK.out _ _ trivial (fun hHeld => ?_)
                                        clear hK K
                                        refine norm_ (a' := ?_) ?_ ?_
                                        rotate_left
                                        · show Act.put _ (some 49) _ = _
                                          simp only [Act.put, List.setIfInBounds_toArray, List.set_cons_zero, List.set_cons_succ, i64_w, i32_w]
                                          rfl
                                        refine pure_ (i := 8) (N := some 53) (v := ?_) (a' := ?_) #[true, true, true, true, true, true, true, true, true, false] rfl rfl (any_of HT_.out (by kernel_rfl)) (fun _ _ _ h => h) (Or.inl ⟨by rfl, ?_⟩) ?_ ?_
                                        rotate_left
                                        · intro w'
                                          go_simp
                                          with_reducible rfl
                                        rotate_left
                                        · simp only [Act.put, List.setIfInBounds_toArray, List.set_cons_zero, List.set_cons_succ, i64_w, i32_w]
                                          rfl
                                        refine pure_ (i := 9) (N := some 54) (v := ?_) (a' := ?_) #[true, true, true, true, true, true, true, true, true, true] rfl rfl (any_of HT_.out (by kernel_rfl)) (fun _ _ _ h => h) (Or.inl ⟨by rfl, ?_⟩) ?_ ?_
                                        rotate_left
                                        · intro w'
                                          go_simp
                                          with_reducible rfl
                                        rotate_left
                                        · simp only [Act.put, List.setIfInBounds_toArray, List.set_cons_zero, List.set_cons_succ, i64_w, i32_w]
                                          rfl
                                        refine done_ (done_of HT_.out (by kernel_rfl)) ?_
                                        try go_wp2
                                        go_ret2
                                        exact ⟨by first | rfl | (simp [errW_none, errW_some] <;> rfl) | (simp [*, errW_none, errW_some] <;> rfl), by repeat (first | (with_reducible first | exact HB.out | apply below_alloc | apply pw_below_drewN | apply below_drew1) | exact HB.out)⟩
                                      · rw [if_neg c22] at H
                                        have c22b0 : (t102.toList == (a0.extract 0 (x4_1 : Int).toNat).toList) = false := beq_eq_false_iff_ne.mpr c22
                                        have c22b1 : (t102.toList != (a0.extract 0 (x4_1 : Int).toNat).toList) = true := bne_iff_ne.mpr c22
                                        have H' := Aside0.mk H
                                        clear H
                                        try go_wp2
                                        have n0_ := Aside0.mk (below_drew1 HB.out)
                                        clear HB
                                        have HB := n0_
                                        clear n0_
                                        refine start_ (n := 10) (S := fun w' => True) (ds := []) #[false, false, false, false, false, false, false, false, false, false] (by kernel_rfl) rfl rfl trivial (fun hHeld => ?_); refine with_tabW paronymref01_Next.tab15 paronymref01_Next.bits15 (fun HT_ HW_ => ?_)
                                        generalize wr.drew = w25 at HB hHeld ⊢
                                        refine pure_ (i := 0) (N := some 45) (v := ?_) (a' := ?_) #[true, false, false, false, false, false, false, false, false, false] rfl rfl (any_of HT_.out (by kernel_rfl)) (fun _ _ _ h => h) (Or.inl ⟨by rfl, ?_⟩) ?_ ?_
                                        rotate_left
                                        · intro w'
                                          go_simp
                                          with_reducible rfl
                                        rotate_left
                                        · simp only [Act.put, List.setIfInBounds_toArray, List.set_cons_zero, List.set_cons_succ, i64_w, i32_w]
                                          rfl
                                        refine one_ (i := 1) (N := some 46) #[true, true, false, false, false, false, false, false, false, false] rfl rfl (one_of HT_.out (by kernel_rfl)) (by decide) (fun K hK => ?_)
                                        refine goes_ Try.func40 (by kernel_rfl) rfl #[.int .i64 x5_6] (by rfl) rfl rfl (by (try simp only [List.map_toArray, List.map_cons, List.map_nil]); first | done | rfl | (simp only [List.length_drop, List.length_take]; rfl)) ?_
                                        with_reducible refine (paronymref01_Scalar.calls x5_6 true _ A17.out).mono ?_
                                        rintro e w' ⟨rfl, ⟨nd, rfl⟩⟩
                                        refine ⟨_, rfl, ?_⟩
                                        refine hK.out _ _ trivial (fun hHeld => ?_)
                                        clear hK K
                                        refine norm_ (a' := ?_) ?_ ?_
                                        rotate_left
                                        · show Act.put _ (some 46) _ = _
                                          simp only [Act.put, List.setIfInBounds_toArray, List.set_cons_zero, List.set_cons_succ, i64_w, i32_w]
                                          rfl
                                        refine pure_ (i := 2) (N := some 47) (v := ?_) (a' := ?_) #[true, true, true, false, false, false, false, false, false, false] rfl rfl (any_of HT_.out (by kernel_rfl)) (fun _ _ _ h => h) (Or.inl ⟨by rfl, ?_⟩) ?_ ?_
                                        rotate_left
                                        · intro w'
                                          go_simp
                                          with_reducible rfl
                                        rotate_left
                                        · simp only [Act.put, List.setIfInBounds_toArray, List.set_cons_zero, List.set_cons_succ, i64_w, i32_w]
                                          rfl
                                        refine pure_ (i := 3) (N := some 48) (v := ?_) (a' := ?_) #[true, true, true, true, false, false, false, false, false, false] rfl rfl (any_of HT_.out (by kernel_rfl)) (fun _ _ _ h => h) (Or.inl ⟨by rfl, ?_⟩) ?_ ?_
                                        rotate_left
                                        · intro w'
                                          go_simp
                                          with_reducible rfl
                                        rotate_left
                                        · simp only [Act.put, List.setIfInBounds_toArray, List.set_cons_zero, List.set_cons_succ, i64_w, i32_w]
                                          rfl
                                        refine pure_ (i := 5) (N := some 50) (v := ?_) (a' := ?_) #[true, true, true, true, false, true, false, false, false, false] rfl rfl (any_of HT_.out (by kernel_rfl)) (fun _ _ _ h => h) (Or.inl ⟨by rfl, ?_⟩) ?_ ?_
                                        rotate_left
                                        · intro w'
                                          go_simp
                                          with_reducible rfl
                                        rotate_left
                                        · simp only [Act.put, List.setIfInBounds_toArray, List.set_cons_zero, List.set_cons_succ, i64_w, i32_w]
                                          rfl
                                        refine pure_ (i := 6) (N := some 51) (v := ?_) (a' := ?_) #[true, true, true, true, false, true, true, false, false, false] rfl rfl (any_of HT_.out (by kernel_rfl)) (fun _ _ _ h => h) (Or.inl ⟨by rfl, ?_⟩) ?_ ?_
                                        rotate_left
                                        · intro w'
                                          go_simp
                                          with_reducible rfl
                                        rotate_left
                                        · simp only [Act.put, List.setIfInBounds_toArray, List.set_cons_zero, List.set_cons_succ, i64_w, i32_w]
                                          rfl
                                        refine pure_ (i := 7) (N := some 52) (v := ?_) (a' := ?_) #[true, true, true, true, false, true, true, true, false, false] rfl rfl (any_of HT_.out (by kernel_rfl)) (fun _ _ _ h => h) (Or.inl ⟨by rfl, ?_⟩) ?_ ?_
                                        rotate_left
                                        · intro w'
                                          go_simp
                                          with_reducible rfl
                                        rotate_left
                                        · simp only [Act.put, List.setIfInBounds_toArray, List.set_cons_zero, List.set_cons_succ, i64_w, i32_w]
                                          rfl
                                        refine one_ (i := 4) (N := some 49) #[true, true, true, true, true, true, true, true, false, false] rfl rfl (one_of HT_.out (by kernel_rfl)) (by decide) (fun K hK => ?_)
                                        refine goes_ Try.func34 (by kernel_rfl) rfl #[.int .i64 x5_6] (by rfl) rfl rfl (by (try simp only [List.map_toArray, List.map_cons, List.map_nil]); first | done | rfl | (simp only [List.length_drop, List.length_take]; rfl)) ?_
                                        with_reducible refine (paronymref01_Octets.calls k6 x5_6 t102 _ A19.out).mono ?_
                                        rintro e w26 ⟨rfl, hb⟩
                                        refine ⟨_, rfl, ?_⟩
                                        have n0_ := Aside0.mk (below_step (by repeat (first | (with_reducible first | exact HB.out | apply below_alloc | apply pw_below_drewN | apply below_drew1) | exact HB.out)) hb)
                                        clear HB
                                        have HB := n0_
                                        clear n0_
                                        (try clear hb)
                                        (try clear hb2)
                                        (try clear hk)
                                        (try clear hi)
                                        refine hK.out _ _ trivial (fun hHeld => ?_)
                                        clear hK K
                                        refine norm_ (a' := ?_) ?_ ?_
                                        rotate_left
                                        · show Act.put _ (some 49) _ = _
                                          simp only [Act.put, List.setIfInBounds_toArray, List.set_cons_zero, List.set_cons_succ, i64_w, i32_w]
                                          rfl
                                        refine pure_ (i := 8) (N := some 53) (v := ?_) (a' := ?_) #[true, true, true, true, true, true, true, true, true, false] rfl rfl (any_of HT_.out (by kernel_rfl)) (fun _ _ _ h => h) (Or.inl ⟨by rfl, ?_⟩) ?_ ?_
                                        rotate_left
                                        · intro w'
                                          go_simp
                                          with_reducible rfl
                                        rotate_left
                                        · simp only [Act.put, List.setIfInBounds_toArray, List.set_cons_zero, List.set_cons_succ, i64_w, i32_w]
                                          rfl
                                        refine pure_ (i := 9) (N := some 54) (v := ?_) (a' := ?_) #[true, true, true, true, true, true, true, true, true, true] rfl rfl (any_of HT_.out (by kernel_rfl)) (fun _ _ _ h => h) (Or.inl ⟨by rfl, ?_⟩) ?_ ?_
                                        rotate_left
                                        · intro w'
                                          go_simp
                                          with_reducible rfl
                                        rotate_left
                                        · simp only [Act.put, List.setIfInBounds_toArray, List.set_cons_zero, List.set_cons_succ, i64_w, i32_w]
                                          rfl
                                        refine done_ (done_of HT_.out (by kernel_rfl)) ?_
                                        try go_wp2
                                        go_roundg k6
                                        case measure => have := HK1.out; have := HJ1.out; have := HJ6.out; have := HJ8.out; have := HJ10.out; have := HK6.out; omega
                                        case rel => exact ⟨(wrap64 (x4_1 + 1)), (by first | rfl | (simp; done) | (simp [*]; done)), H', ⟨by have := HK1.out; have := HJ1.out; have := HJ6.out; have := HJ8.out; have := HJ10.out; have := HK6.out; omega⟩, ⟨by repeat (first | (with_reducible first | exact HB.out | apply below_alloc | apply pw_below_drewN | apply below_drew1) | exact HB.out)⟩⟩
                                    · rw [if_neg c21] at H
                                      exact absurd H (by simp)
                                  · rw [if_neg c20] at H
                                    exact absurd H (by simp)
                                · replace c18 := Bool.eq_false_iff.mpr c18
                                  subst c18
                                  have H1 : (paronymref01_Next.l0 k6 a0 (wrap64 (x4_1 + 1))) = some (r1, r2) := by rw [if_neg (show ¬ (false = true) by decide)] at H; exact H
                                  clear H
                                  have H := H1
                                  clear H1
                                  have H' := Aside0.mk H
                                  clear H
                                  try go_wp2
                                  have n0_ := Aside0.mk (below_drew1 HB.out)
                                  clear HB
                                  have HB := n0_
                                  clear n0_
                                  refine start_ (n := 10) (S := fun w' => True) (ds := []) #[false, false, false, false, false, false, false, false, false, false] (by kernel_rfl) rfl rfl trivial (fun hHeld => ?_); refine with_tabW paronymref01_Next.tab15 paronymref01_Next.bits15 (fun HT_ HW_ => ?_)
                                  generalize wr.drew = w27 at HB hHeld ⊢
                                  refine pure_ (i := 0) (N := some 45) (v := ?_) (a' := ?_) #[true, false, false, false, false, false, false, false, false, false] rfl rfl (any_of HT_.out (by kernel_rfl)) (fun _ _ _ h => h) (Or.inl ⟨by rfl, ?_⟩) ?_ ?_
                                  rotate_left
                                  · intro w'
                                    go_simp
                                    with_reducible rfl
                                  rotate_left
                                  · simp only [Act.put, List.setIfInBounds_toArray, List.set_cons_zero, List.set_cons_succ, i64_w, i32_w]
                                    rfl
                                  refine one_ (i := 1) (N := some 46) #[true, true, false, false, false, false, false, false, false, false] rfl rfl (one_of HT_.out (by kernel_rfl)) (by decide) (fun K hK => ?_)
                                  refine goes_ Try.func40 (by kernel_rfl) rfl #[.int .i64 x5_6] (by rfl) rfl rfl (by (try simp only [List.map_toArray, List.map_cons, List.map_nil]); first | done | rfl | (simp only [List.length_drop, List.length_take]; rfl)) ?_
                                  with_reducible refine (paronymref01_Scalar.calls x5_6 false _ A17.out).mono ?_
                                  rintro e w' ⟨rfl, ⟨nd, rfl⟩⟩
                                  refine ⟨_, rfl, ?_⟩
                                  refine hK.out _ _ trivial (fun hHeld => ?_)
                                  clear hK K
                                  refine norm_ (a' := ?_) ?_ ?_
                                  rotate_left
                                  · show Act.put _ (some 46) _ = _
                                    simp only [Act.put, List.setIfInBounds_toArray, List.set_cons_zero, List.set_cons_succ, i64_w, i32_w]
                                    rfl
                                  refine pure_ (i := 2) (N := some 47) (v := ?_) (a' := ?_) #[true, true, true, false, false, false, false, false, false, false] rfl rfl (any_of HT_.out (by kernel_rfl)) (fun _ _ _ h => h) (Or.inl ⟨by rfl, ?_⟩) ?_ ?_
                                  rotate_left
                                  · intro w'
                                    go_simp
                                    with_reducible rfl
                                  rotate_left
                                  · simp only [Act.put, List.setIfInBounds_toArray, List.set_cons_zero, List.set_cons_succ, i64_w, i32_w]
                                    rfl
                                  refine pure_ (i := 3) (N := some 48) (v := undef) (a' := ?_) #[true, true, true, true, false, false, false, false, false, false] rfl rfl (any_of HT_.out (by kernel_rfl)) (fun _ _ _ h => h) (Or.inr ⟨by rfl, rfl⟩) ?_ ?_
                                  rotate_left
                                  · simp only [Act.put, List.setIfInBounds_toArray, List.set_cons_zero, List.set_cons_succ, i64_w, i32_w]
                                    rfl
                                  refine pure_ (i := 4) (N := some 49) (v := undef) (a' := ?_) #[true, true, true, true, true, false, false, false, false, false] rfl rfl (any_of HT_.out (by kernel_rfl)) (fun _ _ _ h => h) (Or.inr ⟨by rfl, rfl⟩) ?_ ?_
                                  rotate_left
                                  · simp only [Act.put, List.setIfInBounds_toArray, List.set_cons_zero, List.set_cons_succ, i64_w, i32_w]
                                    rfl
                                  refine pure_ (i := 5) (N := some 50) (v := undef) (a' := ?_) #[true, true, true, true, true, true, false, false, false, false] rfl rfl (any_of HT_.out (by kernel_rfl)) (fun _ _ _ h => h) (Or.inr ⟨by rfl, rfl⟩) ?_ ?_
                                  rotate_left
                                  · simp only [Act.put, List.setIfInBounds_toArray, List.set_cons_zero, List.set_cons_succ, i64_w, i32_w]
                                    rfl
                                  refine pure_ (i := 6) (N := some 51) (v := undef) (a' := ?_) #[true, true, true, true, true, true, true, false, false, false] rfl rfl (any_of HT_.out (by kernel_rfl)) (fun _ _ _ h => h) (Or.inr ⟨by rfl, rfl⟩) ?_ ?_
                                  rotate_left
                                  · simp only [Act.put, List.setIfInBounds_toArray, List.set_cons_zero, List.set_cons_succ, i64_w, i32_w]
                                    rfl
                                  refine pure_ (i := 7) (N := some 52) (v := undef) (a' := ?_) #[true, true, true, true, true, true, true, true, false, false] rfl rfl (any_of HT_.out (by kernel_rfl)) (fun _ _ _ h => h) (Or.inr ⟨by rfl, rfl⟩) ?_ ?_
                                  rotate_left
                                  · simp only [Act.put, List.setIfInBounds_toArray, List.set_cons_zero, List.set_cons_succ, i64_w, i32_w]
                                    rfl
                                  refine pure_ (i := 8) (N := some 53) (v := undef) (a' := ?_) #[true, true, true, true, true, true, true, true, true, false] rfl rfl (any_of HT_.out (by kernel_rfl)) (fun _ _ _ h => h) (Or.inr ⟨by rfl, rfl⟩) ?_ ?_
                                  rotate_left
                                  · simp only [Act.put, List.setIfInBounds_toArray, List.set_cons_zero, List.set_cons_succ, i64_w, i32_w]
                                    rfl
                                  refine pure_ (i := 9) (N := some 54) (v := ?_) (a' := ?_) #[true, true, true, true, true, true, true, true, true, true] rfl rfl (any_of HT_.out (by kernel_rfl)) (fun _ _ _ h => h) (Or.inl ⟨by rfl, ?_⟩) ?_ ?_
                                  rotate_left
                                  · intro w'
                                    go_simp
                                    with_reducible rfl
                                  rotate_left
                                  · simp only [Act.put, List.setIfInBounds_toArray, List.set_cons_zero, List.set_cons_succ, i64_w, i32_w]
                                    rfl
                                  refine done_ (done_of HT_.out (by kernel_rfl)) ?_
                                  try go_wp2
                                  go_roundg k6
                                  case measure => have := HK1.out; have := HJ1.out; have := HJ6.out; have := HJ8.out; have := HJ10.out; have := HK6.out; omega
                                  case rel => exact ⟨(wrap64 (x4_1 + 1)), (by first | rfl | (simp; done) | (simp [*]; done)), H', ⟨by have := HK1.out; have := HJ1.out; have := HJ6.out; have := HJ8.out; have := HJ10.out; have := HK6.out; omega⟩, ⟨by repeat (first | (with_reducible first | exact HB.out | apply below_alloc | apply pw_below_drewN | apply below_drew1) | exact HB.out)⟩⟩
            · rw [if_neg c5] at H
              exact absurd H (by simp)
          · replace c4 := Bool.eq_false_iff.mpr c4
            subst c4
            have H1 : (some (0, 0)) = some (r1, r2) := by rw [if_neg (show ¬ (false = true) by decide)] at H; exact H
            clear H
            have H := H1
            clear H1
            simp only [Option.some.injEq, Prod.mk.injEq] at H
            obtain ⟨rfl, rfl⟩ := H
            go_wp2
            go_ret2
            exact ⟨by first | rfl | (simp [errW_none, errW_some] <;> rfl) | (simp [*, errW_none, errW_some] <;> rfl), by repeat (first | (with_reducible first | exact HB.out | apply below_alloc | apply pw_below_drewN | apply below_drew1) | exact HB.out)⟩

end Go.Proofs.Ytooiajkbpkfplaa.Q
