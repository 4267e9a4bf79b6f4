/- Part 2 of 2 of the proof of UtfEncodes: Encode agrees with the reference and Decode reads it back. For every input; no condition. -/
import Derived.Test.YtooiajkbpkfplaaCUtfEncodes1
import Derived.Test.YtooiajkbpkfplaaRows
import Derived.WalkKit
import Derived.ProofKit
import Derived.OpenShut
import Derived.ShutString
import Derived.ChangeOld
import Derived.Below
import Derived.SizedLaws
import Derived.Test.YtooiajkbpkfplaaWSized

-- from Qf50
-- Made by hp.py, a program of this session, with the kit's printer. Not trusted: Lean checks it.
namespace Go.Proofs.Ytooiajkbpkfplaa.Q
open Go.RowKit Go.Proofs.YtooiajkbpkfplaaW.PrintWords Go.Proofs.YtooiajkbpkfplaaW.PrintLast Go.Proofs.YtooiajkbpkfplaaW.PrintMore
attribute [local go_sem] max2_int min2_int max_two min_two max_three min_three max_four min_four   -- for this text's walks alone
set_option linter.unusedVariables false
set_option linter.unusedSimpArgs false

/-! ### puny_Encode_1: function 50 -/
def puny_Encode_1.f (a0 : Int) : Option (Bool) := (utf_Scalar.f a0).bind fun t101 => (some (!t101))
set_option maxHeartbeats 8000000 in
set_option maxRecDepth 100000 in
theorem puny_Encode_1.calls (a0 : Int) (r : Bool) (w : World) (h : puny_Encode_1.f a0 = some r) :
    Calls Try.prog 50 #[.int .i64 a0] w fun e w' => e = .returned (.bool r) ∧ Drawn0 w w' := by
  have H : ((utf_Scalar.f a0).bind fun t101 => (some (!t101))) = some r := h
  clear h
  replace H := Option.bind_eq_some_iff.mp H
  obtain ⟨t101, A20, H⟩ := H
  replace H : (some (!t101)) = some r := H
  have A2 := Aside0.mk A20
  clear A20
  obtain rfl := Option.some.inj H
  go_enter Try.func50, Try.ntmps50
  go_wp2_with (first | ((with_reducible refine gate_callee (f := 39) rfl ?_); refine goesL_ (some 4) rfl rfl Try.func39 (by kernel_rfl) rfl #[.int .i64 a0] rfl (by (try simp only [List.map_toArray, List.map_cons, List.map_nil]); first | done | rfl | (simp only [List.length_drop, List.length_take]; rfl)) ?_; (with_reducible refine (utf_Scalar.calls a0 t101 _ A2.out).mono ?_); rintro e w' ⟨rfl, ⟨nd, rfl⟩⟩; refine ⟨_, rfl, ?_⟩))
  go_ret
  exact ⟨by first | rfl | (simp; done) | (simp [*]; done), by repeat (first | exact Drawn0.refl _ | apply Drawn0.step)⟩

end Go.Proofs.Ytooiajkbpkfplaa.Q

-- from Qf71at50
-- Made by hp.py, a program of this session, with the kit's printer. Not trusted: Lean checks it.
namespace Go.Proofs.Ytooiajkbpkfplaa.Q
open Go.RowKit Go.Proofs.YtooiajkbpkfplaaW.PrintWords Go.Proofs.YtooiajkbpkfplaaW.PrintLast Go.Proofs.YtooiajkbpkfplaaW.PrintMore
attribute [local go_sem] max2_int min2_int max_two min_two max_three min_three max_four min_four   -- for this text's walks alone
set_option linter.unusedVariables false
set_option linter.unusedSimpArgs false

/-! ### slices_IndexFunc_int_int_at_puny_Encode_1: function 71 -/
def slices_IndexFunc_int_int_at_puny_Encode_1.l0 : Nat → List Int → Int → Int → Option (Int)
  | 0, _, _, _ => none
  | k + 1, x0, x7, x8 => if x8 < x7 then (if 0 ≤ x8 then (if x8 < (x0.length : Int) then ((puny_Encode_1.f (rd x0 x8)).bind fun t102 => (if t102 = true then (some x8) else (slices_IndexFunc_int_int_at_puny_Encode_1.l0 k x0 x7 (wrap64 (x8 + 1))))) else (none)) else (none)) else (some (-1))
def slices_IndexFunc_int_int_at_puny_Encode_1.f (k : Nat) (l0 : List Int)  : Option (Int) := slices_IndexFunc_int_int_at_puny_Encode_1.l0 k l0 (l0.length : Int) 0
theorem slices_IndexFunc_int_int_at_puny_Encode_1.mono_l : ∀ k, (∀ y0 y1 y2, LeO (slices_IndexFunc_int_int_at_puny_Encode_1.l0 k y0 y1 y2) (slices_IndexFunc_int_int_at_puny_Encode_1.l0 (k + 1) y0 y1 y2))
  | 0 => fun _ _ _ r h => by simp [slices_IndexFunc_int_int_at_puny_Encode_1.l0] at h
  | k + 1 => by
    have ih0 := slices_IndexFunc_int_int_at_puny_Encode_1.mono_l k
    · intro y0 y1 y2
      unfold slices_IndexFunc_int_int_at_puny_Encode_1.l0
      repeat' first
      | (with_reducible exact ih0 _ _ _)
      | (with_reducible exact LeO.refl _)
      | (with_reducible exact LeO.none _)
      | (with_reducible refine LeO.ite ?_ ?_)
      | (with_reducible refine LeO.bind ?_ (fun _ => ?_))
      | exact ih0 _ _ _
      | exact LeO.none _
      | refine LeO.ite ?_ ?_
      | refine LeO.bind ?_ (fun _ => ?_)
theorem slices_IndexFunc_int_int_at_puny_Encode_1.mono : ∀ a0 k, LeO (slices_IndexFunc_int_int_at_puny_Encode_1.f k a0) (slices_IndexFunc_int_int_at_puny_Encode_1.f (k + 1) a0) := by
  intro a0 k
  have ih0 := slices_IndexFunc_int_int_at_puny_Encode_1.mono_l k
  unfold slices_IndexFunc_int_int_at_puny_Encode_1.f
  repeat' first
      | (with_reducible exact ih0 _ _ _)
      | (with_reducible exact LeO.refl _)
      | (with_reducible exact LeO.none _)
      | (with_reducible refine LeO.ite ?_ ?_)
      | (with_reducible refine LeO.bind ?_ (fun _ => ?_))
      | exact ih0 _ _ _
      | exact LeO.none _
      | refine LeO.ite ?_ ?_
      | refine LeO.bind ?_ (fun _ => ?_)
set_option maxHeartbeats 8000000 in
set_option maxRecDepth 100000 in
theorem slices_IndexFunc_int_int_at_puny_Encode_1.calls (k : Nat) (A0 : Option Addr) (c0 : Nat) (l0 : List Int)  (r : Int) (w : World) (hr0 : Kd.C (Kd.int .i64) w A0 l0.length l0) (hc0 : l0.length ≤ c0) (h : slices_IndexFunc_int_int_at_puny_Encode_1.f k l0 = some r) :
    Calls Try.prog 71 #[.slice A0 l0.length c0, .func (.func 50) #[] #[]] w fun e w' => e = .returned (.int .i64 r) ∧ Drawn0 w w' := by
  have HR0 := Aside0.mk hr0
  have HC0 := Aside0.mk hc0
  clear hr0 hc0
  have H : (slices_IndexFunc_int_int_at_puny_Encode_1.l0 k l0 (l0.length : Int) 0) = some r := h
  clear h
  have H' := Aside0.mk H
  clear H
  go_enter Try.func71, Try.ntmps71
  go_wp2
  go_loopg [8] k (fun kq v8 w' => ∃ (x8_1 : Int), v8 = .int .i64 x8_1 ∧ Aside0 (slices_IndexFunc_int_int_at_puny_Encode_1.l0 kq l0 (l0.length : Int) x8_1 = some r) ∧ Aside0 (kq ≤ k) ∧ Drawn0 w w')
  case atStart => exact ⟨(0), (by first | rfl | (simp; done) | (simp [*]; done)), H', ⟨Nat.le_refl _⟩, by repeat (first | exact Drawn0.refl _ | apply Drawn0.step)⟩
  case round =>
    clear H'
    try clear p2
    obtain ⟨x8_1, rfl, HA, HK1, ⟨m1, rfl⟩⟩ := hrel
    cases gk with
    | zero => exact absurd HA.out (by simp [slices_IndexFunc_int_int_at_puny_Encode_1.l0])
    | succ k1 =>
      have H := HA.out
      clear HA
      simp only [slices_IndexFunc_int_int_at_puny_Encode_1.l0] at H
      by_cases c3 : x8_1 < (l0.length : Int)
      · rw [if_pos c3] at H
        have c3b0 : decide (x8_1 < (l0.length : Int)) = true := decide_eq_true c3
        clear c3
        by_cases c4 : 0 ≤ x8_1
        · rw [if_pos c4] at H
          have c4b0 : decide (0 ≤ x8_1) = true := decide_eq_true c4
          clear c4
          by_cases c5 : x8_1 < (l0.length : Int)
          · rw [if_pos c5] at H
            have c5b0 : decide (x8_1 < (l0.length : Int)) = true := decide_eq_true c5
            clear c5
            replace H := Option.bind_eq_some_iff.mp H
            obtain ⟨t102, A60, H⟩ := H
            replace H : (if t102 = true then (some x8_1) else (slices_IndexFunc_int_int_at_puny_Encode_1.l0 k1 l0 (l0.length : Int) (wrap64 (x8_1 + 1)))) = some r := H
            have A6 := Aside0.mk A60
            clear A60
            by_cases c7 : t102 = true
            · subst c7
              have H1 : (some x8_1) = some r := by rw [if_pos rfl] at H; exact H
              clear H
              have H := H1
              clear H1
              obtain rfl := Option.some.inj H
              have p101 : 0 ≤ (x8_1 : Int) := of_decide_eq_true (by first | (with_reducible assumption) | assumption)
              have q101 : x8_1 < (l0.length : Int) := of_decide_eq_true (by first | (with_reducible assumption) | assumption)
              obtain ⟨ad101, e101, hx101_0⟩ := Kd.at_int HR0.out x8_1 p101 q101
              cases e101
              replace p101 := eq_true p101
              replace q101 := eq_true q101
              go_wp2_with (first | (go_at_call 50; (with_reducible refine (puny_Encode_1.calls (rd l0 x8_1) true _ A6.out).mono ?_); rintro e w' ⟨rfl, ⟨nd, rfl⟩⟩))
              go_ret
              exact ⟨by first | rfl | (simp; done) | (simp [*]; done), by repeat (first | exact Drawn0.refl _ | apply Drawn0.step)⟩
            · replace c7 := Bool.eq_false_iff.mpr c7
              subst c7
              have H1 : (slices_IndexFunc_int_int_at_puny_Encode_1.l0 k1 l0 (l0.length : Int) (wrap64 (x8_1 + 1))) = some r := by rw [if_neg (show ¬ (false = true) by decide)] at H; exact H
              clear H
              have H := H1
              clear H1
              have H' := Aside0.mk H
              clear H
              have p101 : 0 ≤ (x8_1 : Int) := of_decide_eq_true (by first | (with_reducible assumption) | assumption)
              have q101 : x8_1 < (l0.length : Int) := of_decide_eq_true (by first | (with_reducible assumption) | assumption)
              obtain ⟨ad101, e101, hx101_0⟩ := Kd.at_int HR0.out x8_1 p101 q101
              cases e101
              replace p101 := eq_true p101
              replace q101 := eq_true q101
              go_wp2_with (first | (go_at_call 50; (with_reducible refine (puny_Encode_1.calls (rd l0 x8_1) false _ A6.out).mono ?_); rintro e w' ⟨rfl, ⟨nd, rfl⟩⟩))
              go_roundg k1
              case measure => have := HK1.out; omega
              case rel => exact ⟨(wrap64 (x8_1 + 1)), (by first | rfl | (simp; done) | (simp [*]; done)), H', ⟨by have := HK1.out; omega⟩, by repeat (first | exact Drawn0.refl _ | apply Drawn0.step)⟩
          · rw [if_neg c5] at H
            exact absurd H (by simp)
        · rw [if_neg c4] at H
          exact absurd H (by simp)
      · rw [if_neg c3] at H
        have c3b0 : decide (x8_1 < (l0.length : Int)) = false := decide_eq_false c3
        clear c3
        obtain rfl := Option.some.inj H
        go_wp2
        go_ret
        exact ⟨by first | rfl | (simp; done) | (simp [*]; done), by repeat (first | exact Drawn0.refl _ | apply Drawn0.step)⟩

end Go.Proofs.Ytooiajkbpkfplaa.Q

-- from Qf49at50
-- Made by hp.py, a program of this session, with the kit's printer. Not trusted: Lean checks it.
namespace Go.Proofs.Ytooiajkbpkfplaa.Q
open Go.RowKit Go.Proofs.YtooiajkbpkfplaaW.PrintWords Go.Proofs.YtooiajkbpkfplaaW.PrintLast Go.Proofs.YtooiajkbpkfplaaW.PrintMore
attribute [local go_sem] max2_int min2_int max_two min_two max_three min_three max_four min_four   -- for this text's walks alone
set_option linter.unusedVariables false
set_option linter.unusedSimpArgs false

/-! ### slices_ContainsFunc_int_int_at_puny_Encode_1: function 49 -/
def slices_ContainsFunc_int_int_at_puny_Encode_1.f (k : Nat) (l0 : List Int)  : Option (Bool) := (slices_IndexFunc_int_int_at_puny_Encode_1.f k l0).bind fun t103 => (some (decide (t103 ≥ 0)))
theorem slices_ContainsFunc_int_int_at_puny_Encode_1.mono : ∀ a0 k, LeO (slices_ContainsFunc_int_int_at_puny_Encode_1.f k a0) (slices_ContainsFunc_int_int_at_puny_Encode_1.f (k + 1) a0) := by
  intro a0 k
  unfold slices_ContainsFunc_int_int_at_puny_Encode_1.f
  repeat' first
      | (with_reducible exact slices_IndexFunc_int_int_at_puny_Encode_1.mono _ _)
      | (with_reducible exact LeO.refl _)
      | (with_reducible exact LeO.none _)
      | (with_reducible refine LeO.ite ?_ ?_)
      | (with_reducible refine LeO.bind ?_ (fun _ => ?_))
      | exact slices_IndexFunc_int_int_at_puny_Encode_1.mono _ _
      | exact LeO.none _
      | refine LeO.ite ?_ ?_
      | refine LeO.bind ?_ (fun _ => ?_)
set_option maxHeartbeats 8000000 in
set_option maxRecDepth 100000 in
theorem slices_ContainsFunc_int_int_at_puny_Encode_1.calls (k : Nat) (A0 : Option Addr) (c0 : Nat) (l0 : List Int)  (r : Bool) (w : World) (hr0 : Kd.C (Kd.int .i64) w A0 l0.length l0) (hc0 : l0.length ≤ c0) (h : slices_ContainsFunc_int_int_at_puny_Encode_1.f k l0 = some r) :
    Calls Try.prog 49 #[.slice A0 l0.length c0, .func (.func 50) #[] #[]] w fun e w' => e = .returned (.bool r) ∧ Drawn0 w w' := by
  have HR0 := Aside0.mk hr0
  have HC0 := Aside0.mk hc0
  clear hr0 hc0
  have H : ((slices_IndexFunc_int_int_at_puny_Encode_1.f k l0).bind fun t103 => (some (decide (t103 ≥ 0)))) = some r := h
  clear h
  replace H := Option.bind_eq_some_iff.mp H
  obtain ⟨t103, A30, H⟩ := H
  replace H : (some (decide (t103 ≥ 0))) = some r := H
  have A3 := Aside0.mk A30
  clear A30
  obtain rfl := Option.some.inj H
  go_enter Try.func49, Try.ntmps49
  go_wp2_with (first | (go_at_call 71; (with_reducible refine (slices_IndexFunc_int_int_at_puny_Encode_1.calls k _ _ l0 t103 _ ?side1 ?side2 A3.out).mono ?_); (case side1 => repeat (first | exact HR0.out | (with_reducible refine Kd.C_alloc ?_ _) | (with_reducible refine Kd.C_drewN ?_ _) | (with_reducible refine Kd.C_drew ?_))); (case side2 => exact HC0.out); rintro e w' ⟨rfl, ⟨nd, rfl⟩⟩))
  go_ret
  exact ⟨by first | rfl | (simp; done) | (simp [*]; done), by repeat (first | exact Drawn0.refl _ | apply Drawn0.step)⟩

end Go.Proofs.Ytooiajkbpkfplaa.Q

-- from Qf26
-- Made by hp.py, a program of this session, with the kit's printer. Not trusted: Lean checks it.
namespace Go.Proofs.Ytooiajkbpkfplaa.Q
open Go.RowKit Go.Proofs.YtooiajkbpkfplaaW.PrintWords Go.Proofs.YtooiajkbpkfplaaW.PrintLast Go.Proofs.YtooiajkbpkfplaaW.PrintMore
attribute [local go_sem] max2_int min2_int max_two min_two max_three min_three max_four min_four   -- for this text's walks alone
set_option linter.unusedVariables false
set_option linter.unusedSimpArgs false

/-! ### puny_Encode: function 26 -/
mutual
def puny_Encode.l0 : Nat → List Int → List Int → List Int → Int → Int → Option (List Int × Int)
  | 0, _, _, _, _, _ => none
  | k + 1, x0, x4, x22, x23, x24 => if x24 < x23 then (if 0 ≤ x24 then (if x24 < (x22.length : Int) then (if (rd x22 x24) < 128 then (if x4.length < 140737488355328 then (puny_Encode.l0 k x0 (x4 ++ [(rd x22 x24) % 256]) x22 x23 (wrap64 (x24 + 1))) else (none)) else (puny_Encode.l0 k x0 x4 x22 x23 (wrap64 (x24 + 1)))) else (none)) else (none)) else (if (x4.length : Int) > 0 then (if x4.length < 140737488355328 then (puny_Encode.j1 k x0 (x4 ++ [45]) (x4.length : Int)) else (none)) else (puny_Encode.j1 k x0 x4 (x4.length : Int)))
def puny_Encode.j1 : Nat → List Int → List Int → Int → Option (List Int × Int)
  | 0, _, _, _ => none
  | k + 1, x0, x4, x7 => puny_Encode.l1 k x0 x4 x7 128 72 0 x7
def puny_Encode.l1 : Nat → List Int → List Int → Int → Int → Int → Int → Int → Option (List Int × Int)
  | 0, _, _, _, _, _, _, _ => none
  | k + 1, x0, x4, x7, x8, x9, x10, x11 => if x11 < (x0.length : Int) then ((puny_least.f k x0 x8).bind fun t112 => (puny_Encode.l2 k x0 x4 x7 t112 x9 (wrap64 (x10 + (wrap64 ((wrap64 (t112 - x8)) * (wrap64 (x11 + 1)))))) x11 x0 (x0.length : Int) 0)) else (some (x4, 0))
def puny_Encode.l2 : Nat → List Int → List Int → Int → Int → Int → Int → Int → List Int → Int → Int → Option (List Int × Int)
  | 0, _, _, _, _, _, _, _, _, _, _ => none
  | k + 1, x0, x4, x7, x8, x9, x10, x11, x60, x61, x62 => if x62 < x61 then (if 0 ≤ x62 then (if x62 < (x60.length : Int) then (if (rd x60 x62) < x8 then (puny_Encode.l2 k x0 x4 x7 x8 x9 (wrap64 (x10 + 1)) x11 x60 x61 (wrap64 (x62 + 1))) else (if (rd x60 x62) = x8 then ((puny_number.f k x10 x9).bind fun t114 => (if x4.length + t114.length < 140737488355328 then ((puny_adapt.f k x10 (wrap64 (x11 + 1)) (x11 == x7)).bind fun t120 => (puny_Encode.l2 k x0 (x4 ++ t114) x7 x8 t120 0 (wrap64 (x11 + 1)) x60 x61 (wrap64 (x62 + 1)))) else (none))) else (puny_Encode.l2 k x0 x4 x7 x8 x9 x10 x11 x60 x61 (wrap64 (x62 + 1))))) else (none)) else (none)) else (puny_Encode.l1 k x0 x4 x7 (wrap64 (x8 + 1)) x9 (wrap64 (x10 + 1)) x11)
end
def puny_Encode.f (k : Nat) (l0 : List Int) : Option (List Int × Int) := (slices_ContainsFunc_int_int_at_puny_Encode_1.f k l0).bind fun t104 => (if t104 = true then (some (([] : List Int), 10)) else (if (l0.length : Int) > 1000 then (some (([] : List Int), 36)) else (puny_Encode.l0 k l0 ([] : List Int) l0 (l0.length : Int) 0)))
theorem puny_Encode.mono_l : ∀ k, (∀ y0 y1 y2 y3 y4, LeO (puny_Encode.l0 k y0 y1 y2 y3 y4) (puny_Encode.l0 (k + 1) y0 y1 y2 y3 y4)) ∧ (∀ y0 y1 y2, LeO (puny_Encode.j1 k y0 y1 y2) (puny_Encode.j1 (k + 1) y0 y1 y2)) ∧ (∀ y0 y1 y2 y3 y4 y5 y6, LeO (puny_Encode.l1 k y0 y1 y2 y3 y4 y5 y6) (puny_Encode.l1 (k + 1) y0 y1 y2 y3 y4 y5 y6)) ∧ (∀ y0 y1 y2 y3 y4 y5 y6 y7 y8 y9, LeO (puny_Encode.l2 k y0 y1 y2 y3 y4 y5 y6 y7 y8 y9) (puny_Encode.l2 (k + 1) y0 y1 y2 y3 y4 y5 y6 y7 y8 y9))
  | 0 => ⟨fun _ _ _ _ _ r h => by simp [puny_Encode.l0] at h, fun _ _ _ r h => by simp [puny_Encode.j1] at h, fun _ _ _ _ _ _ _ r h => by simp [puny_Encode.l1] at h, fun _ _ _ _ _ _ _ _ _ _ r h => by simp [puny_Encode.l2] at h⟩
  | k + 1 => by
    obtain ⟨ih0, ih1, ih2, ih3⟩ := puny_Encode.mono_l k
    refine ⟨?_, ?_, ?_, ?_⟩
    · intro y0 y1 y2 y3 y4
      unfold puny_Encode.l0
      repeat' first
      | (with_reducible exact ih0 _ _ _ _ _)
      | (with_reducible exact ih1 _ _ _)
      | (with_reducible exact ih2 _ _ _ _ _ _ _)
      | (with_reducible exact ih3 _ _ _ _ _ _ _ _ _ _)
      | (with_reducible exact puny_adapt.mono _ _ _ _)
      | (with_reducible exact puny_least.mono _ _ _)
      | (with_reducible exact puny_number.mono _ _ _)
      | (with_reducible exact slices_ContainsFunc_int_int_at_puny_Encode_1.mono _ _)
      | (with_reducible exact LeO.refl _)
      | (with_reducible exact LeO.none _)
      | (with_reducible refine LeO.ite ?_ ?_)
      | (with_reducible refine LeO.bind ?_ (fun _ => ?_))
      | exact ih0 _ _ _ _ _
      | exact ih1 _ _ _
      | exact ih2 _ _ _ _ _ _ _
      | exact ih3 _ _ _ _ _ _ _ _ _ _
      | exact puny_adapt.mono _ _ _ _
      | exact puny_least.mono _ _ _
      | exact puny_number.mono _ _ _
      | exact slices_ContainsFunc_int_int_at_puny_Encode_1.mono _ _
      | exact LeO.none _
      | refine LeO.ite ?_ ?_
      | refine LeO.bind ?_ (fun _ => ?_)
    · intro y0 y1 y2
      unfold puny_Encode.j1
      repeat' first
      | (with_reducible exact ih0 _ _ _ _ _)
      | (with_reducible exact ih1 _ _ _)
      | (with_reducible exact ih2 _ _ _ _ _ _ _)
      | (with_reducible exact ih3 _ _ _ _ _ _ _ _ _ _)
      | (with_reducible exact puny_adapt.mono _ _ _ _)
      | (with_reducible exact puny_least.mono _ _ _)
      | (with_reducible exact puny_number.mono _ _ _)
      | (with_reducible exact slices_ContainsFunc_int_int_at_puny_Encode_1.mono _ _)
      | (with_reducible exact LeO.refl _)
      | (with_reducible exact LeO.none _)
      | (with_reducible refine LeO.ite ?_ ?_)
      | (with_reducible refine LeO.bind ?_ (fun _ => ?_))
      | exact ih0 _ _ _ _ _
      | exact ih1 _ _ _
      | exact ih2 _ _ _ _ _ _ _
      | exact ih3 _ _ _ _ _ _ _ _ _ _
      | exact puny_adapt.mono _ _ _ _
      | exact puny_least.mono _ _ _
      | exact puny_number.mono _ _ _
      | exact slices_ContainsFunc_int_int_at_puny_Encode_1.mono _ _
      | exact LeO.none _
      | refine LeO.ite ?_ ?_
      | refine LeO.bind ?_ (fun _ => ?_)
    · intro y0 y1 y2 y3 y4 y5 y6
      unfold puny_Encode.l1
      repeat' first
      | (with_reducible exact ih0 _ _ _ _ _)
      | (with_reducible exact ih1 _ _ _)
      | (with_reducible exact ih2 _ _ _ _ _ _ _)
      | (with_reducible exact ih3 _ _ _ _ _ _ _ _ _ _)
      | (with_reducible exact puny_adapt.mono _ _ _ _)
      | (with_reducible exact puny_least.mono _ _ _)
      | (with_reducible exact puny_number.mono _ _ _)
      | (with_reducible exact slices_ContainsFunc_int_int_at_puny_Encode_1.mono _ _)
      | (with_reducible exact LeO.refl _)
      | (with_reducible exact LeO.none _)
      | (with_reducible refine LeO.ite ?_ ?_)
      | (with_reducible refine LeO.bind ?_ (fun _ => ?_))
      | exact ih0 _ _ _ _ _
      | exact ih1 _ _ _
      | exact ih2 _ _ _ _ _ _ _
      | exact ih3 _ _ _ _ _ _ _ _ _ _
      | exact puny_adapt.mono _ _ _ _
      | exact puny_least.mono _ _ _
      | exact puny_number.mono _ _ _
      | exact slices_ContainsFunc_int_int_at_puny_Encode_1.mono _ _
      | exact LeO.none _
      | refine LeO.ite ?_ ?_
      | refine LeO.bind ?_ (fun _ => ?_)
    · intro y0 y1 y2 y3 y4 y5 y6 y7 y8 y9
      unfold puny_Encode.l2
      repeat' first
      | (with_reducible exact ih0 _ _ _ _ _)
      | (with_reducible exact ih1 _ _ _)
      | (with_reducible exact ih2 _ _ _ _ _ _ _)
      | (with_reducible exact ih3 _ _ _ _ _ _ _ _ _ _)
      | (with_reducible exact puny_adapt.mono _ _ _ _)
      | (with_reducible exact puny_least.mono _ _ _)
      | (with_reducible exact puny_number.mono _ _ _)
      | (with_reducible exact slices_ContainsFunc_int_int_at_puny_Encode_1.mono _ _)
      | (with_reducible exact LeO.refl _)
      | (with_reducible exact LeO.none _)
      | (with_reducible refine LeO.ite ?_ ?_)
      | (with_reducible refine LeO.bind ?_ (fun _ => ?_))
      | exact ih0 _ _ _ _ _
      | exact ih1 _ _ _
      | exact ih2 _ _ _ _ _ _ _
      | exact ih3 _ _ _ _ _ _ _ _ _ _
      | exact puny_adapt.mono _ _ _ _
      | exact puny_least.mono _ _ _
      | exact puny_number.mono _ _ _
      | exact slices_ContainsFunc_int_int_at_puny_Encode_1.mono _ _
      | exact LeO.none _
      | refine LeO.ite ?_ ?_
      | refine LeO.bind ?_ (fun _ => ?_)
theorem puny_Encode.mono : ∀ a0 k, LeO (puny_Encode.f k a0) (puny_Encode.f (k + 1) a0) := by
  intro a0 k
  obtain ⟨ih0, ih1, ih2, ih3⟩ := puny_Encode.mono_l k
  unfold puny_Encode.f
  repeat' first
      | (with_reducible exact ih0 _ _ _ _ _)
      | (with_reducible exact ih1 _ _ _)
      | (with_reducible exact ih2 _ _ _ _ _ _ _)
      | (with_reducible exact ih3 _ _ _ _ _ _ _ _ _ _)
      | (with_reducible exact puny_adapt.mono _ _ _ _)
      | (with_reducible exact puny_least.mono _ _ _)
      | (with_reducible exact puny_number.mono _ _ _)
      | (with_reducible exact slices_ContainsFunc_int_int_at_puny_Encode_1.mono _ _)
      | (with_reducible exact LeO.refl _)
      | (with_reducible exact LeO.none _)
      | (with_reducible refine LeO.ite ?_ ?_)
      | (with_reducible refine LeO.bind ?_ (fun _ => ?_))
      | exact ih0 _ _ _ _ _
      | exact ih1 _ _ _
      | exact ih2 _ _ _ _ _ _ _
      | exact ih3 _ _ _ _ _ _ _ _ _ _
      | exact puny_adapt.mono _ _ _ _
      | exact puny_least.mono _ _ _
      | exact puny_number.mono _ _ _
      | exact slices_ContainsFunc_int_int_at_puny_Encode_1.mono _ _
      | exact LeO.none _
      | refine LeO.ite ?_ ?_
      | refine LeO.bind ?_ (fun _ => ?_)
set_option maxHeartbeats 8000000 in
set_option maxRecDepth 100000 in
theorem puny_Encode.calls (k : Nat) (A0 : Option Addr) (c0 : Nat) (l0 : List Int) (r1 : List Int) (r2 : Int) (w : World) (hr0 : Kd.C (Kd.int .i64) w A0 l0.length l0) (hc0 : l0.length ≤ c0) (h : puny_Encode.f k l0 = some (r1, r2)) :
    Calls Try.prog 26 #[.slice A0 l0.length c0] w fun e w' => ∃ v0_ : Value, e = .returned (.tuple #[v0_, .int .i64 r2]) ∧ Kd.R (Kd.int .u8) 5 w' w.heap.size (fun _ => True) v0_ r1 ∧ Below w.heap.size w w' := by
  have HR0 := Aside0.mk hr0
  have HC0 := Aside0.mk hc0
  clear hr0 hc0
  have HB := Aside0.mk (Below.refl w.heap.size w)
  have H : ((slices_ContainsFunc_int_int_at_puny_Encode_1.f k l0).bind fun t104 => (if t104 = true then (some (([] : List Int), 10)) else (if (l0.length : Int) > 1000 then (some (([] : List Int), 36)) else (puny_Encode.l0 k l0 ([] : List Int) l0 (l0.length : Int) 0)))) = some (r1, r2) := h
  clear h
  replace H := Option.bind_eq_some_iff.mp H
  obtain ⟨t104, A20, H⟩ := H
  replace H : (if t104 = true then (some (([] : List Int), 10)) else (if (l0.length : Int) > 1000 then (some (([] : List Int), 36)) else (puny_Encode.l0 k l0 ([] : List Int) l0 (l0.length : Int) 0))) = some (r1, r2) := H
  have A2 := Aside0.mk A20
  clear A20
  by_cases c3 : t104 = true
  · subst c3
    have H1 : (some (([] : List Int), 10)) = some (r1, r2) := by rw [if_pos rfl] at H; exact H
    clear H
    have H := H1
    clear H1
    simp only [Option.some.injEq, Prod.mk.injEq] at H
    obtain ⟨rfl, rfl⟩ := H
    go_enter Try.func26, Try.ntmps26
    go_wp2_with (first | (go_at_call 49; (with_reducible refine (slices_ContainsFunc_int_int_at_puny_Encode_1.calls k _ _ l0 true _ ?side1 ?side2 A2.out).mono ?_); (case side1 => repeat (first | exact HR0.out | (with_reducible refine Kd.C_alloc ?_ _) | (with_reducible refine Kd.C_drewN ?_ _) | (with_reducible refine Kd.C_drew ?_))); (case side2 => exact HC0.out); rintro e w' ⟨rfl, ⟨nd, rfl⟩⟩))
    go_ret2
    exact ⟨_, by first | rfl | (simp [errW_none, errW_some] <;> rfl) | (simp [*, errW_none, errW_some] <;> rfl), by first | exact Kd.R_nil _ _ _ _ _ | exact Kd.N_nil _ _ _ _ _ | exact Kd.V_nil _ _ _ _ _ | exact Kd.Q_nil _ _ _ _ _ | exact Kd.S_nil _ _ _ _ _, by repeat (first | (with_reducible first | exact HB.out | apply below_alloc | apply pw_below_drewN | apply below_drew1) | exact HB.out)⟩
  · replace c3 := Bool.eq_false_iff.mpr c3
    subst c3
    have H1 : (if (l0.length : Int) > 1000 then (some (([] : List Int), 36)) else (puny_Encode.l0 k l0 ([] : List Int) l0 (l0.length : Int) 0)) = some (r1, r2) := by rw [if_neg (show ¬ (false = true) by decide)] at H; exact H
    clear H
    have H := H1
    clear H1
    by_cases c4 : (l0.length : Int) > 1000
    · rw [if_pos c4] at H
      have c4b0 : decide (1000 < (l0.length : Int)) = true := decide_eq_true c4
      have c4b1 : decide (1000 < l0.length) = true := decide_eq_true (by omega)
      clear c4
      simp only [Option.some.injEq, Prod.mk.injEq] at H
      obtain ⟨rfl, rfl⟩ := H
      go_enter Try.func26, Try.ntmps26
      go_wp2_with (first | (go_at_call 49; (with_reducible refine (slices_ContainsFunc_int_int_at_puny_Encode_1.calls k _ _ l0 false _ ?side1 ?side2 A2.out).mono ?_); (case side1 => repeat (first | exact HR0.out | (with_reducible refine Kd.C_alloc ?_ _) | (with_reducible refine Kd.C_drewN ?_ _) | (with_reducible refine Kd.C_drew ?_))); (case side2 => exact HC0.out); rintro e w' ⟨rfl, ⟨nd, rfl⟩⟩))
      go_ret2
      exact ⟨_, by first | rfl | (simp [errW_none, errW_some] <;> rfl) | (simp [*, errW_none, errW_some] <;> rfl), by first | exact Kd.R_nil _ _ _ _ _ | exact Kd.N_nil _ _ _ _ _ | exact Kd.V_nil _ _ _ _ _ | exact Kd.Q_nil _ _ _ _ _ | exact Kd.S_nil _ _ _ _ _, by repeat (first | (with_reducible first | exact HB.out | apply below_alloc | apply pw_below_drewN | apply below_drew1) | exact HB.out)⟩
    · rw [if_neg c4] at H
      have c4b0 : decide (1000 < (l0.length : Int)) = false := decide_eq_false c4
      have c4b1 : decide (1000 < l0.length) = false := decide_eq_false (by omega)
      clear c4
      have H' := Aside0.mk H
      clear H
      go_enter Try.func26, Try.ntmps26
      go_wp2_with (first | (go_at_call 49; (with_reducible refine (slices_ContainsFunc_int_int_at_puny_Encode_1.calls k _ _ l0 false _ ?side1 ?side2 A2.out).mono ?_); (case side1 => repeat (first | exact HR0.out | (with_reducible refine Kd.C_alloc ?_ _) | (with_reducible refine Kd.C_drewN ?_ _) | (with_reducible refine Kd.C_drew ?_))); (case side2 => exact HC0.out); rintro e w' ⟨rfl, ⟨nd, rfl⟩⟩))
      go_loopg [4, 24] k (fun kq v4 v24 w' => ∃ (x4_1 : List Int) (x24_1 : Int), v24 = .int .i64 x24_1 ∧ Aside0 (puny_Encode.l0 kq l0 x4_1 l0 (l0.length : Int) x24_1 = some (r1, r2)) ∧ Aside0 (kq ≤ k) ∧ Aside0 (Kd.R (Kd.int .u8) 5 w' w.heap.size (fun _ => True) v4 x4_1) ∧ Aside0 (Below w.heap.size w w'))
      case atStart => exact ⟨(([] : List Int)), (0), (by first | rfl | (simp; done) | (simp [*]; done)), H', ⟨Nat.le_refl _⟩, ⟨by first | exact Kd.R_nil _ _ _ _ _ | exact Kd.N_nil _ _ _ _ _ | exact Kd.V_nil _ _ _ _ _ | exact Kd.Q_nil _ _ _ _ _ | exact Kd.S_nil _ _ _ _ _⟩, ⟨by repeat (first | (with_reducible first | exact HB.out | apply below_alloc | apply pw_below_drewN | apply below_drew1) | exact HB.out)⟩⟩
      case round =>
        clear H'
        try clear c2
        try clear p2
        try clear c3
        try clear c4
        try clear c4b0
        try clear c4b1
        obtain ⟨x4_1, x24_1, rfl, HA, HK1, HO_4, HB⟩ := hrel
        cases gk with
        | zero => exact absurd HA.out (by simp [puny_Encode.l0])
        | succ k1 =>
          have H := HA.out
          clear HA
          simp only [puny_Encode.l0] at H
          by_cases c5 : x24_1 < (l0.length : Int)
          · rw [if_pos c5] at H
            have c5b0 : decide (x24_1 < (l0.length : Int)) = true := decide_eq_true c5
            clear c5
            by_cases c6 : 0 ≤ x24_1
            · rw [if_pos c6] at H
              have c6b0 : decide (0 ≤ x24_1) = true := decide_eq_true c6
              clear c6
              by_cases c7 : x24_1 < (l0.length : Int)
              · rw [if_pos c7] at H
                have c7b0 : decide (x24_1 < (l0.length : Int)) = true := decide_eq_true c7
                clear c7
                by_cases c8 : (rd l0 x24_1) < 128
                · rw [if_pos c8] at H
                  have c8b0 : decide ((rd l0 x24_1) < 128) = true := decide_eq_true c8
                  clear c8
                  by_cases c9 : x4_1.length < 140737488355328
                  · rw [if_pos c9] at H
                    have LMc9 := Aside0.mk c9
                    clear c9
                    obtain ⟨y106, hy106⟩ : ∃ y_ : List Int, y_ = (x4_1 ++ [(rd l0 x24_1) % 256]) := ⟨_, rfl⟩
                    replace H : (puny_Encode.l0 k1 l0 y106 l0 (l0.length : Int) (wrap64 (x24_1 + 1))) = some (r1, r2) := by first | (rw [hy106]; with_reducible exact H) | (have H2_ := (Option.bind_some _ _).symm.trans H; rw [hy106]; with_reducible exact H2_) | (have H2_ := (Option.bind_some _ _).symm.trans H; with_reducible exact H2_) | with_reducible exact H | (rw [hy106]; exact H) | exact H
                    have Ny106 := Aside0.mk hy106
                    clear hy106
                    have H' := Aside0.mk H
                    clear H
                    have p105 : 0 ≤ (x24_1 : Int) := of_decide_eq_true (by first | (with_reducible assumption) | assumption)
                    have q105 : x24_1 < (l0.length : Int) := of_decide_eq_true (by first | (with_reducible assumption) | assumption)
                    obtain ⟨ad105, e105, hx105_0⟩ := Kd.at_int HR0.out x24_1 p105 q105
                    cases e105
                    replace hx105_0 := (HB.out.cell (World.block_lt_of_cell? w _ hx105_0)).trans hx105_0
                    replace p105 := eq_true p105
                    replace q105 := eq_true q105
                    go_wp2_with (first | ((with_reducible refine gate_builtin (b := .append) (xs := #[.tmp 30, .tmp 33]) rfl ?_); at_builtin; refine Kd.R_append (Kd.int .u8) (w0 := w) w.heap.size rfl (.tmp 30) (.tmp 33) 22 5 (.int .u8 0) 1 rfl Try.underlying22 info5 rfl (by decide) (by omega) u4 x4_1 ((rd l0 x24_1) % 256) [.int .u8 ((rd l0 x24_1) % 256)] (fun _ => True) (fun _ => False) rfl rfl ?aP (fun _ hk => hk.elim) ?aF ?aO ?aB ?aS ?aL ?_; (case aP => exact rfl); (case aB => exact (by repeat (first | (with_reducible first | exact HB.out | apply below_alloc | apply pw_below_drewN | apply below_drew1) | exact HB.out))); (case aF => exact (fun _ _ => trivial)); (case aO => exact (by (with_reducible repeat (first | apply Kd.R_alloc | apply Kd.R_drewN | apply Kd.R_drew)); exact HO_4.out)); (case aS => exact (below_size (by repeat (first | (with_reducible first | exact HB.out | apply below_alloc | apply pw_below_drewN | apply below_drew1) | exact HB.out)))); (case aL => have := LMc9.out; omega); intro v107 w10 ho hb hg hat; rw [← Ny106.out] at ho; have n0_ := Aside0.mk (hb); have n1_ := Aside0.mk (ho); clear HB; clear HO_4; have HB := n0_; have HO108 := n1_; clear n0_ n1_; clear ho hb hg hat))
                    go_roundg k1
                    case measure => have := HK1.out; omega
                    case rel => exact ⟨(y106), (wrap64 (x24_1 + 1)), (by first | rfl | (simp; done) | (simp [*]; done)), H', ⟨by have := HK1.out; omega⟩, ⟨by (with_reducible repeat (first | apply Kd.R_alloc | apply Kd.R_drewN | apply Kd.R_drew)); exact HO108.out⟩, ⟨by repeat (first | (with_reducible first | exact HB.out | apply below_alloc | apply pw_below_drewN | apply below_drew1) | exact HB.out)⟩⟩
                  · rw [if_neg c9] at H
                    exact absurd H (by simp)
                · rw [if_neg c8] at H
                  have c8b0 : decide ((rd l0 x24_1) < 128) = false := decide_eq_false c8
                  clear c8
                  have H' := Aside0.mk H
                  clear H
                  have p105 : 0 ≤ (x24_1 : Int) := of_decide_eq_true (by first | (with_reducible assumption) | assumption)
                  have q105 : x24_1 < (l0.length : Int) := of_decide_eq_true (by first | (with_reducible assumption) | assumption)
                  obtain ⟨ad105, e105, hx105_0⟩ := Kd.at_int HR0.out x24_1 p105 q105
                  cases e105
                  replace hx105_0 := (HB.out.cell (World.block_lt_of_cell? w _ hx105_0)).trans hx105_0
                  replace p105 := eq_true p105
                  replace q105 := eq_true q105
                  go_wp2
                  go_roundg k1
                  case measure => have := HK1.out; omega
                  case rel => exact ⟨(x4_1), (wrap64 (x24_1 + 1)), (by first | rfl | (simp; done) | (simp [*]; done)), H', ⟨by have := HK1.out; omega⟩, ⟨by (with_reducible repeat (first | apply Kd.R_alloc | apply Kd.R_drewN | apply Kd.R_drew)); exact HO_4.out⟩, ⟨by repeat (first | (with_reducible first | exact HB.out | apply below_alloc | apply pw_below_drewN | apply below_drew1) | exact HB.out)⟩⟩
              · rw [if_neg c7] at H
                exact absurd H (by simp)
            · rw [if_neg c6] at H
              exact absurd H (by simp)
          · rw [if_neg c5] at H
            have c5b0 : decide (x24_1 < (l0.length : Int)) = false := decide_eq_false c5
            clear c5
            have HC11 := Aside0.mk H
            clear H
            obtain ⟨Ao12, co12, eo12⟩ := Kd.R_slice HO_4.out
            subst eo12
            go_upto_if 39 with (fail)
            go_cut [4] (fun v4 wc => ∃ (kq : Nat) (x4_10 : List Int), Aside0 (puny_Encode.j1 kq l0 x4_10 (x4_1.length : Int) = some (r1, r2)) ∧ Aside0 (kq ≤ k1) ∧ Aside0 (Kd.R (Kd.int .u8) 5 wc w.heap.size (fun _ => True) v4 x4_10) ∧ Aside0 (Below w.heap.size w wc))
            case first =>
              have H := HC11.out
              clear HC11
              by_cases c13 : (x4_1.length : Int) > 0
              · rw [if_pos c13] at H
                have c13b0 : decide (0 < (x4_1.length : Int)) = true := decide_eq_true c13
                have c13b1 : decide (0 < x4_1.length) = true := decide_eq_true (by omega)
                clear c13
                (first | rw [c13b0] | (simp only [i64_w, i32_w]; rw [c13b0]) | rw [c13b1] | (simp only [i64_w, i32_w]; rw [c13b1]) | skip)
                by_cases c14 : x4_1.length < 140737488355328
                · rw [if_pos c14] at H
                  have LMc14 := Aside0.mk c14
                  clear c14
                  obtain ⟨y109, hy109⟩ : ∃ y_ : List Int, y_ = (x4_1 ++ [45]) := ⟨_, rfl⟩
                  replace H : (puny_Encode.j1 k1 l0 y109 (x4_1.length : Int)) = some (r1, r2) := by first | (rw [hy109]; with_reducible exact H) | (have H2_ := (Option.bind_some _ _).symm.trans H; rw [hy109]; with_reducible exact H2_) | (have H2_ := (Option.bind_some _ _).symm.trans H; with_reducible exact H2_) | with_reducible exact H | (rw [hy109]; exact H) | exact H
                  have Ny109 := Aside0.mk hy109
                  clear hy109
                  have H' := Aside0.mk H
                  clear H
                  go_wp2_with (first | ((with_reducible refine gate_builtin (b := .append) (xs := #[.tmp 40, .tmp 41]) rfl ?_); at_builtin; refine Kd.R_append (Kd.int .u8) (w0 := w) w.heap.size rfl (.tmp 40) (.tmp 41) 22 5 (.int .u8 0) 1 rfl Try.underlying22 info5 rfl (by decide) (by omega) (.slice Ao12 x4_1.length co12) x4_1 45 [.int .u8 45] (fun _ => True) (fun _ => False) rfl rfl ?aP (fun _ hk => hk.elim) ?aF ?aO ?aB ?aS ?aL ?_; (case aP => exact rfl); (case aB => exact (by repeat (first | (with_reducible first | exact HB.out | apply below_alloc | apply pw_below_drewN | apply below_drew1) | exact HB.out))); (case aF => exact (fun _ _ => trivial)); (case aO => exact (by (with_reducible repeat (first | apply Kd.R_alloc | apply Kd.R_drewN | apply Kd.R_drew)); exact HO_4.out)); (case aS => exact (below_size (by repeat (first | (with_reducible first | exact HB.out | apply below_alloc | apply pw_below_drewN | apply below_drew1) | exact HB.out)))); (case aL => have := LMc14.out; omega); intro v110 w15 ho hb hg hat; rw [← Ny109.out] at ho; have n0_ := Aside0.mk (hb); have n1_ := Aside0.mk (ho); clear HB; clear HO_4; have HB := n0_; have HO111 := n1_; clear n0_ n1_; clear ho hb hg hat))
                  go_meet
                  case rel => exact ⟨_, (y109), H', ⟨by have := HK1.out; first | omega | exact Nat.le_refl _⟩, ⟨by (with_reducible repeat (first | apply Kd.R_alloc | apply Kd.R_drewN | apply Kd.R_drew)); exact HO111.out⟩, ⟨by repeat (first | (with_reducible first | exact HB.out | apply below_alloc | apply pw_below_drewN | apply below_drew1) | exact HB.out)⟩⟩
                · rw [if_neg c14] at H
                  exact absurd H (by simp)
              · rw [if_neg c13] at H
                have c13b0 : decide (0 < (x4_1.length : Int)) = false := decide_eq_false c13
                have c13b1 : decide (0 < x4_1.length) = false := decide_eq_false (by omega)
                clear c13
                (first | rw [c13b0] | (simp only [i64_w, i32_w]; rw [c13b0]) | rw [c13b1] | (simp only [i64_w, i32_w]; rw [c13b1]) | skip)
                have H' := Aside0.mk H
                clear H
                go_wp2
                go_meet
                case rel => exact ⟨_, (x4_1), H', ⟨by have := HK1.out; first | omega | exact Nat.le_refl _⟩, ⟨by (with_reducible repeat (first | apply Kd.R_alloc | apply Kd.R_drewN | apply Kd.R_drew)); exact HO_4.out⟩, ⟨by repeat (first | (with_reducible first | exact HB.out | apply below_alloc | apply pw_below_drewN | apply below_drew1) | exact HB.out)⟩⟩
            case rest =>
              clear HC11
              try clear c1
              try clear p1
              try clear q1
              try clear hx1
              try clear c2
              try clear p2
              try clear c3
              try clear c4
              try clear c4b0
              try clear c4b1
              try clear c5
              try clear c5b0
              try clear c6
              try clear c6b0
              try clear p6
              try clear c7
              try clear c7b0
              try clear c8
              try clear c8b0
              try clear c9
              try clear p10
              try clear q10
              try clear hx10
              try clear c13
              try clear c13b0
              try clear c13b1
              try clear c14
              try clear hx105_0
              try clear p105
              try clear p2
              try clear q105
              obtain ⟨kq, x4_10, HA, HJ10, HO_4, HB⟩ := hcut
              cases kq with
              | zero => exact absurd HA.out (by simp [puny_Encode.j1])
              | succ kj10 =>
                have H := HA.out
                clear HA
                simp only [puny_Encode.j1] at H
                have H' := Aside0.mk H
                clear H
                go_wp2
                go_loopg [4, 8, 9, 10, 11] kj10 (fun kq v4 v8 v9 v10 v11 w' => ∃ (x4_3 : List Int) (x8_3 : Int) (x9_3 : Int) (x10_3 : Int) (x11_3 : Int), v8 = .int .i64 x8_3 ∧ v9 = .int .i64 x9_3 ∧ v10 = .int .i64 x10_3 ∧ v11 = .int .i64 x11_3 ∧ Aside0 (puny_Encode.l1 kq l0 x4_3 (x4_1.length : Int) x8_3 x9_3 x10_3 x11_3 = some (r1, r2)) ∧ Aside0 (kq ≤ kj10) ∧ Aside0 (Kd.R (Kd.int .u8) 5 w' w.heap.size (fun _ => True) v4 x4_3) ∧ Aside0 (Below w.heap.size w w'))
                case atStart => exact ⟨(x4_10), (128), (72), (0), ((x4_1.length : Int)), (by first | rfl | (simp; done) | (simp [*]; done)), (by first | rfl | (simp; done) | (simp [*]; done)), (by first | rfl | (simp; done) | (simp [*]; done)), (by first | rfl | (simp; done) | (simp [*]; done)), H', ⟨Nat.le_refl _⟩, ⟨by (with_reducible repeat (first | apply Kd.R_alloc | apply Kd.R_drewN | apply Kd.R_drew)); exact HO_4.out⟩, ⟨by repeat (first | (with_reducible first | exact HB.out | apply below_alloc | apply pw_below_drewN | apply below_drew1) | exact HB.out)⟩⟩
                case round =>
                  clear H'
                  try clear c1
                  try clear p1
                  try clear q1
                  try clear hx1
                  try clear c2
                  try clear p2
                  try clear c3
                  try clear c4
                  try clear c4b0
                  try clear c4b1
                  try clear c5
                  try clear c5b0
                  try clear c6
                  try clear c6b0
                  try clear p6
                  try clear c7
                  try clear c7b0
                  try clear c8
                  try clear c8b0
                  try clear c9
                  try clear p10
                  try clear q10
                  try clear hx10
                  try clear c13
                  try clear c13b0
                  try clear c13b1
                  try clear c14
                  try clear hx105_0
                  try clear p1
                  try clear p10
                  try clear p105
                  try clear p2
                  try clear p6
                  try clear q1
                  try clear q10
                  try clear q105
                  obtain ⟨x4_3, x8_3, x9_3, x10_3, x11_3, rfl, rfl, rfl, rfl, HA, HK3, HO_4, HB⟩ := hrel
                  cases gk with
                  | zero => exact absurd HA.out (by simp [puny_Encode.l1])
                  | succ k3 =>
                    have H := HA.out
                    clear HA
                    simp only [puny_Encode.l1] at H
                    by_cases c16 : x11_3 < (l0.length : Int)
                    · rw [if_pos c16] at H
                      have c16b0 : decide (x11_3 < (l0.length : Int)) = true := decide_eq_true c16
                      clear c16
                      replace H := Option.bind_eq_some_iff.mp H
                      obtain ⟨t112, A170, H⟩ := H
                      replace H : (puny_Encode.l2 k3 l0 x4_3 (x4_1.length : Int) t112 x9_3 (wrap64 (x10_3 + (wrap64 ((wrap64 (t112 - x8_3)) * (wrap64 (x11_3 + 1)))))) x11_3 l0 (l0.length : Int) 0) = some (r1, r2) := H
                      have A17 := Aside0.mk A170
                      clear A170
                      have H' := Aside0.mk H
                      clear H
                      go_wp2_with (first | ((with_reducible refine gate_callee (f := 51) rfl ?_); refine goesL_ (some 50) rfl rfl Try.func51 (by kernel_rfl) rfl #[.slice A0 l0.length c0, .int .i64 x8_3] rfl (by (try simp only [List.map_toArray, List.map_cons, List.map_nil]); first | done | rfl | (simp only [List.length_drop, List.length_take]; rfl)) ?_; (with_reducible refine (puny_least.calls k3 _ _ l0 x8_3 t112 _ ?side1 ?side2 A17.out).mono ?_); (case side1 => repeat (first | exact (Kd.C_below HR0.out HB.out) | (with_reducible refine Kd.C_alloc ?_ _) | (with_reducible refine Kd.C_drewN ?_ _) | (with_reducible refine Kd.C_drew ?_))); (case side2 => exact HC0.out); rintro e w18 ⟨rfl, hb⟩; refine ⟨_, rfl, ?_⟩; have n0_ := Aside0.mk (Kd.R_below (by (with_reducible repeat (first | apply Kd.R_alloc | apply Kd.R_drewN | apply Kd.R_drew)); exact HO_4.out) hb); have n1_ := Aside0.mk (below_step (by repeat (first | (with_reducible first | exact HB.out | apply below_alloc | apply pw_below_drewN | apply below_drew1) | exact HB.out)) hb); clear HO_4; clear HB; have HO_4 := n0_; have HB := n1_; clear n0_ n1_; (try clear hb); (try clear hb2); (try clear hk); (try clear hi)))
                      go_loopg [4, 9, 10, 11, 62] k3 (fun kq v4 v9 v10 v11 v62 w' => ∃ (x4_4 : List Int) (x9_4 : Int) (x10_4 : Int) (x11_4 : Int) (x62_4 : Int), v9 = .int .i64 x9_4 ∧ v10 = .int .i64 x10_4 ∧ v11 = .int .i64 x11_4 ∧ v62 = .int .i64 x62_4 ∧ Aside0 (puny_Encode.l2 kq l0 x4_4 (x4_1.length : Int) t112 x9_4 x10_4 x11_4 l0 (l0.length : Int) x62_4 = some (r1, r2)) ∧ Aside0 (kq ≤ k3) ∧ Aside0 (Kd.R (Kd.int .u8) 5 w' w.heap.size (fun _ => True) v4 x4_4) ∧ Aside0 (Below w.heap.size w w'))
                      case atStart => exact ⟨(x4_3), (x9_3), (wrap64 (x10_3 + (wrap64 ((wrap64 (t112 - x8_3)) * (wrap64 (x11_3 + 1)))))), (x11_3), (0), (by first | rfl | (simp; done) | (simp [*]; done)), (by first | rfl | (simp; done) | (simp [*]; done)), (by first | rfl | (simp; done) | (simp [*]; done)), (by first | rfl | (simp; done) | (simp [*]; done)), H', ⟨Nat.le_refl _⟩, ⟨by (with_reducible repeat (first | apply Kd.R_alloc | apply Kd.R_drewN | apply Kd.R_drew)); exact HO_4.out⟩, ⟨by repeat (first | (with_reducible first | exact HB.out | apply below_alloc | apply pw_below_drewN | apply below_drew1) | exact HB.out)⟩⟩
                      case round =>
                        clear H'
                        try clear c1
                        try clear p1
                        try clear q1
                        try clear hx1
                        try clear c2
                        try clear p2
                        try clear c3
                        try clear c4
                        try clear c4b0
                        try clear c4b1
                        try clear c5
                        try clear c5b0
                        try clear c6
                        try clear c6b0
                        try clear p6
                        try clear c7
                        try clear c7b0
                        try clear c8
                        try clear c8b0
                        try clear c9
                        try clear p10
                        try clear q10
                        try clear hx10
                        try clear c13
                        try clear c13b0
                        try clear c13b1
                        try clear c14
                        try clear c16
                        try clear c16b0
                        try clear hx105_0
                        try clear p1
                        try clear p10
                        try clear p105
                        try clear p2
                        try clear p6
                        try clear q1
                        try clear q10
                        try clear q105
                        obtain ⟨x4_4, x9_4, x10_4, x11_4, x62_4, rfl, rfl, rfl, rfl, HA, HK4, HO_4, HB⟩ := hrel
                        cases gk with
                        | zero => exact absurd HA.out (by simp [puny_Encode.l2])
                        | succ k4 =>
                          have H := HA.out
                          clear HA
                          simp only [puny_Encode.l2] at H
                          by_cases c19 : x62_4 < (l0.length : Int)
                          · rw [if_pos c19] at H
                            have c19b0 : decide (x62_4 < (l0.length : Int)) = true := decide_eq_true c19
                            clear c19
                            by_cases c20 : 0 ≤ x62_4
                            · rw [if_pos c20] at H
                              have c20b0 : decide (0 ≤ x62_4) = true := decide_eq_true c20
                              clear c20
                              by_cases c21 : x62_4 < (l0.length : Int)
                              · rw [if_pos c21] at H
                                have c21b0 : decide (x62_4 < (l0.length : Int)) = true := decide_eq_true c21
                                clear c21
                                by_cases c22 : (rd l0 x62_4) < t112
                                · rw [if_pos c22] at H
                                  have c22b0 : decide ((rd l0 x62_4) < t112) = true := decide_eq_true c22
                                  clear c22
                                  have H' := Aside0.mk H
                                  clear H
                                  have p113 : 0 ≤ (x62_4 : Int) := of_decide_eq_true (by first | (with_reducible assumption) | assumption)
                                  have q113 : x62_4 < (l0.length : Int) := of_decide_eq_true (by first | (with_reducible assumption) | assumption)
                                  obtain ⟨ad113, e113, hx113_0⟩ := Kd.at_int HR0.out x62_4 p113 q113
                                  cases e113
                                  replace hx113_0 := (HB.out.cell (World.block_lt_of_cell? w _ hx113_0)).trans hx113_0
                                  replace p113 := eq_true p113
                                  replace q113 := eq_true q113
                                  go_wp2
                                  go_roundg k4
                                  case measure => have := HK1.out; have := HJ10.out; have := HK3.out; have := HK4.out; omega
                                  case rel => exact ⟨(x4_4), (x9_4), (wrap64 (x10_4 + 1)), (x11_4), (wrap64 (x62_4 + 1)), (by first | rfl | (simp; done) | (simp [*]; done)), (by first | rfl | (simp; done) | (simp [*]; done)), (by first | rfl | (simp; done) | (simp [*]; done)), (by first | rfl | (simp; done) | (simp [*]; done)), H', ⟨by have := HK1.out; have := HJ10.out; have := HK3.out; have := HK4.out; omega⟩, ⟨by (with_reducible repeat (first | apply Kd.R_alloc | apply Kd.R_drewN | apply Kd.R_drew)); exact HO_4.out⟩, ⟨by repeat (first | (with_reducible first | exact HB.out | apply below_alloc | apply pw_below_drewN | apply below_drew1) | exact HB.out)⟩⟩
                                · rw [if_neg c22] at H
                                  have c22b0 : decide ((rd l0 x62_4) < t112) = false := decide_eq_false c22
                                  clear c22
                                  by_cases c23 : (rd l0 x62_4) = t112
                                  · rw [if_pos c23] at H
                                    have c23b0 : ((rd l0 x62_4) == t112) = true := beq_iff_eq.mpr c23
                                    have c23b1 : ((rd l0 x62_4) != t112) = false := bne_eq_false_iff_eq.mpr c23
                                    clear c23
                                    replace H := Option.bind_eq_some_iff.mp H
                                    obtain ⟨t114, A240, H⟩ := H
                                    replace H : (if x4_4.length + t114.length < 140737488355328 then ((puny_adapt.f k4 x10_4 (wrap64 (x11_4 + 1)) (x11_4 == (x4_1.length : Int))).bind fun t120 => (puny_Encode.l2 k4 l0 (x4_4 ++ t114) (x4_1.length : Int) t112 t120 0 (wrap64 (x11_4 + 1)) l0 (l0.length : Int) (wrap64 (x62_4 + 1)))) else (none)) = some (r1, r2) := H
                                    have A24 := Aside0.mk A240
                                    clear A240
                                    by_cases c25 : x4_4.length + t114.length < 140737488355328
                                    · rw [if_pos c25] at H
                                      have LMc25 := Aside0.mk c25
                                      clear c25
                                      obtain ⟨y117, hy117⟩ : ∃ y_ : List Int, y_ = (x4_4 ++ t114) := ⟨_, rfl⟩
                                      replace H : ((puny_adapt.f k4 x10_4 (wrap64 (x11_4 + 1)) (x11_4 == (x4_1.length : Int))).bind fun t120 => (puny_Encode.l2 k4 l0 y117 (x4_1.length : Int) t112 t120 0 (wrap64 (x11_4 + 1)) l0 (l0.length : Int) (wrap64 (x62_4 + 1)))) = some (r1, r2) := by first | (rw [hy117]; with_reducible exact H) | (have H2_ := (Option.bind_some _ _).symm.trans H; rw [hy117]; with_reducible exact H2_) | (have H2_ := (Option.bind_some _ _).symm.trans H; with_reducible exact H2_) | with_reducible exact H | (rw [hy117]; exact H) | exact H
                                      have Ny117 := Aside0.mk hy117
                                      clear hy117
                                      replace H := Option.bind_eq_some_iff.mp H
                                      obtain ⟨t120, A260, H⟩ := H
                                      replace H : (puny_Encode.l2 k4 l0 y117 (x4_1.length : Int) t112 t120 0 (wrap64 (x11_4 + 1)) l0 (l0.length : Int) (wrap64 (x62_4 + 1))) = some (r1, r2) := H
                                      have A26 := Aside0.mk A260
                                      clear A260
                                      have H' := Aside0.mk H
                                      clear H
                                      have p113 : 0 ≤ (x62_4 : Int) := of_decide_eq_true (by first | (with_reducible assumption) | assumption)
                                      have q113 : x62_4 < (l0.length : Int) := of_decide_eq_true (by first | (with_reducible assumption) | assumption)
                                      obtain ⟨ad113, e113, hx113_0⟩ := Kd.at_int HR0.out x62_4 p113 q113
                                      cases e113
                                      replace hx113_0 := (HB.out.cell (World.block_lt_of_cell? w _ hx113_0)).trans hx113_0
                                      replace p113 := eq_true p113
                                      replace q113 := eq_true q113
                                      go_wp2_with (first | ((with_reducible refine gate_callee (f := 52) rfl ?_); refine goesL_ (some 79) rfl rfl Try.func52 (by kernel_rfl) rfl #[.int .i64 x10_4, .int .i64 x9_4] rfl (by (try simp only [List.map_toArray, List.map_cons, List.map_nil]); first | done | rfl | (simp only [List.length_drop, List.length_take]; rfl)) ?_; (with_reducible refine (puny_number.calls k4 x10_4 x9_4 t114 _ A24.out).mono ?_); rintro e w27 ⟨v115, rfl, ho0, hb⟩; refine ⟨_, rfl, ?_⟩; have n0_ := Aside0.mk (Kd.R_elder' (by (with_reducible repeat (first | apply Kd.R_alloc | apply Kd.R_drewN | apply Kd.R_drew)); exact HO_4.out) (Kd.R_base ho0) hb); have n1_ := Aside0.mk (Kd.R_lower (Kd.R_new' ho0 (Kd.R_lt (by (with_reducible repeat (first | apply Kd.R_alloc | apply Kd.R_drewN | apply Kd.R_drew)); exact HO_4.out))) (below_size (by repeat (first | (with_reducible first | exact HB.out | apply below_alloc | apply pw_below_drewN | apply below_drew1) | exact HB.out)))); have n2_ := Aside0.mk (below_step (by repeat (first | (with_reducible first | exact HB.out | apply below_alloc | apply pw_below_drewN | apply below_drew1) | exact HB.out)) hb); clear HO_4; clear HB; have HO_4 := n0_; have HO116 := n1_; have HB := n2_; clear n0_ n1_ n2_; (try clear hb); (try clear hb2); (try clear hk); (try clear hi); (try clear ho0); obtain ⟨Ao29, co29, eo29⟩ := Kd.R_slice HO116.out; subst eo29) | ((with_reducible refine gate_builtin (b := .append) (xs := #[.tmp 76, .tmp 79]) rfl ?_); at_builtin; refine Kd.R_append_rows (Kd.int .u8) (w0 := w) w.heap.size rfl (.tmp 76) (.tmp 79) 22 5 (.int .u8 0) 1 rfl Try.underlying22 info5 rfl (by decide) (by omega) u4 x4_4 t114 _ _ _ (fun k_ => some k_ ≠ (.slice Ao29 t114.length co29 : Value).ownBlock) (fun _ => False) rfl rfl ?aO ?aR (fun _ _ h => h) (fun _ h => h.elim) ?aF ?aB ?aS ?aL ?_; (case aR => repeat (first | exact (Kd.R_reads' HO116.out).2.2 | (with_reducible refine Kd.C_alloc ?_ _) | (with_reducible refine Kd.C_drewN ?_ _) | (with_reducible refine Kd.C_drew ?_))); (case aB => exact (by repeat (first | (with_reducible first | exact HB.out | apply below_alloc | apply pw_below_drewN | apply below_drew1) | exact HB.out))); (case aF => exact (fun k_ hk => Kd.fresh' (Kd.R_lt (by (with_reducible repeat (first | apply Kd.R_alloc | apply Kd.R_drewN | apply Kd.R_drew)); exact HO116.out)) k_ hk)); (case aO => exact (by (with_reducible repeat (first | apply Kd.R_alloc | apply Kd.R_drewN | apply Kd.R_drew)); exact Kd.R_mono HO_4.out (fun _ hk => hk.2))); (case aS => exact (below_size (by repeat (first | (with_reducible first | exact HB.out | apply below_alloc | apply pw_below_drewN | apply below_drew1) | exact HB.out)))); (case aL => have := LMc25.out; omega); intro v118 w28 ho hb hg hat; rw [← Ny117.out] at ho; have n0_ := Aside0.mk (Kd.R_after (ok := (fun _ => True)) (by (with_reducible repeat (first | apply Kd.R_alloc | apply Kd.R_drewN | apply Kd.R_drew)); exact HO116.out) hg hat); have n1_ := Aside0.mk (hb); have n2_ := Aside0.mk (ho); clear HO116; clear HB; clear HO_4; have HO116 := n0_; have HB := n1_; have HO119 := n2_; clear n0_ n1_ n2_; clear ho hb hg hat) | ((with_reducible refine gate_callee (f := 53) rfl ?_); refine goesL_ (some 87) rfl rfl Try.func53 (by kernel_rfl) rfl #[.int .i64 x10_4, .int .i64 (wrap64 (x11_4 + 1)), .bool (x11_4 == (x4_1.length : Int))] rfl (by (try simp only [List.map_toArray, List.map_cons, List.map_nil]); first | done | rfl | (simp only [List.length_drop, List.length_take]; rfl)) ?_; (with_reducible refine (puny_adapt.calls k4 x10_4 (wrap64 (x11_4 + 1)) (x11_4 == (x4_1.length : Int)) t120 _ A26.out).mono ?_); rintro e w' ⟨rfl, ⟨nd, rfl⟩⟩; refine ⟨_, rfl, ?_⟩))
                                      go_roundg k4
                                      case measure => have := HK1.out; have := HJ10.out; have := HK3.out; have := HK4.out; omega
                                      case rel => exact ⟨(y117), (t120), (0), (wrap64 (x11_4 + 1)), (wrap64 (x62_4 + 1)), (by first | rfl | (simp; done) | (simp [*]; done)), (by first | rfl | (simp; done) | (simp [*]; done)), (by first | rfl | (simp; done) | (simp [*]; done)), (by first | rfl | (simp; done) | (simp [*]; done)), H', ⟨by have := HK1.out; have := HJ10.out; have := HK3.out; have := HK4.out; omega⟩, ⟨by (with_reducible repeat (first | apply Kd.R_alloc | apply Kd.R_drewN | apply Kd.R_drew)); exact Kd.R_mono HO119.out (fun _ hk => trivial)⟩, ⟨by repeat (first | (with_reducible first | exact HB.out | apply below_alloc | apply pw_below_drewN | apply below_drew1) | exact HB.out)⟩⟩
                                    · rw [if_neg c25] at H
                                      exact absurd H (by simp)
                                  · rw [if_neg c23] at H
                                    have c23b0 : ((rd l0 x62_4) == t112) = false := beq_eq_false_iff_ne.mpr c23
                                    have c23b1 : ((rd l0 x62_4) != t112) = true := bne_iff_ne.mpr c23
                                    have H' := Aside0.mk H
                                    clear H
                                    have p113 : 0 ≤ (x62_4 : Int) := of_decide_eq_true (by first | (with_reducible assumption) | assumption)
                                    have q113 : x62_4 < (l0.length : Int) := of_decide_eq_true (by first | (with_reducible assumption) | assumption)
                                    obtain ⟨ad113, e113, hx113_0⟩ := Kd.at_int HR0.out x62_4 p113 q113
                                    cases e113
                                    replace hx113_0 := (HB.out.cell (World.block_lt_of_cell? w _ hx113_0)).trans hx113_0
                                    replace p113 := eq_true p113
                                    replace q113 := eq_true q113
                                    go_wp2
                                    go_roundg k4
                                    case measure => have := HK1.out; have := HJ10.out; have := HK3.out; have := HK4.out; omega
                                    case rel => exact ⟨(x4_4), (x9_4), (x10_4), (x11_4), (wrap64 (x62_4 + 1)), (by first | rfl | (simp; done) | (simp [*]; done)), (by first | rfl | (simp; done) | (simp [*]; done)), (by first | rfl | (simp; done) | (simp [*]; done)), (by first | rfl | (simp; done) | (simp [*]; done)), H', ⟨by have := HK1.out; have := HJ10.out; have := HK3.out; have := HK4.out; omega⟩, ⟨by (with_reducible repeat (first | apply Kd.R_alloc | apply Kd.R_drewN | apply Kd.R_drew)); exact HO_4.out⟩, ⟨by repeat (first | (with_reducible first | exact HB.out | apply below_alloc | apply pw_below_drewN | apply below_drew1) | exact HB.out)⟩⟩
                              · rw [if_neg c21] at H
                                exact absurd H (by simp)
                            · rw [if_neg c20] at H
                              exact absurd H (by simp)
                          · rw [if_neg c19] at H
                            have c19b0 : decide (x62_4 < (l0.length : Int)) = false := decide_eq_false c19
                            clear c19
                            have H' := Aside0.mk H
                            clear H
                            go_wp2
                            go_roundg k4
                            case measure => have := HK1.out; have := HJ10.out; have := HK3.out; have := HK4.out; omega
                            case rel => exact ⟨(x4_4), (wrap64 (t112 + 1)), (x9_4), (wrap64 (x10_4 + 1)), (x11_4), (by first | rfl | (simp; done) | (simp [*]; done)), (by first | rfl | (simp; done) | (simp [*]; done)), (by first | rfl | (simp; done) | (simp [*]; done)), (by first | rfl | (simp; done) | (simp [*]; done)), H', ⟨by have := HK1.out; have := HJ10.out; have := HK3.out; have := HK4.out; omega⟩, ⟨by (with_reducible repeat (first | apply Kd.R_alloc | apply Kd.R_drewN | apply Kd.R_drew)); exact HO_4.out⟩, ⟨by repeat (first | (with_reducible first | exact HB.out | apply below_alloc | apply pw_below_drewN | apply below_drew1) | exact HB.out)⟩⟩
                    · rw [if_neg c16] at H
                      have c16b0 : decide (x11_3 < (l0.length : Int)) = false := decide_eq_false c16
                      clear c16
                      simp only [Option.some.injEq, Prod.mk.injEq] at H
                      obtain ⟨rfl, rfl⟩ := H
                      go_wp2
                      go_ret2
                      exact ⟨_, by first | rfl | (simp [errW_none, errW_some] <;> rfl) | (simp [*, errW_none, errW_some] <;> rfl), by (with_reducible repeat (first | apply Kd.R_alloc | apply Kd.R_drewN | apply Kd.R_drew)); exact HO_4.out, by repeat (first | (with_reducible first | exact HB.out | apply below_alloc | apply pw_below_drewN | apply below_drew1) | exact HB.out)⟩

end Go.Proofs.Ytooiajkbpkfplaa.Q

-- from Qf25
-- Made by hp.py, a program of this session, with the kit's printer. Not trusted: Lean checks it.
namespace Go.Proofs.Ytooiajkbpkfplaa.Q
open Go.RowKit Go.Proofs.YtooiajkbpkfplaaW.PrintWords Go.Proofs.YtooiajkbpkfplaaW.PrintLast Go.Proofs.YtooiajkbpkfplaaW.PrintMore
attribute [local go_sem] max2_int min2_int max_two min_two max_three min_three max_four min_four   -- for this text's walks alone
set_option linter.unusedVariables false
set_option linter.unusedSimpArgs false

/-! ### paronymlaw12_awake: function 25 -/
def paronymlaw12_awake.f (k : Nat)  : Option (Bool) := (puny_Encode.f k (([98, 252, 99, 104, 101, 114] : List Int))).bind fun bt104 => (if bt104.2 = 0 then (some ((strOfNums bt104.1).toList == ([98, 99, 104, 101, 114, 45, 107, 118, 97] : List UInt8))) else (some false))
theorem paronymlaw12_awake.mono : ∀ k, LeO (paronymlaw12_awake.f k ) (paronymlaw12_awake.f (k + 1) ) := by
  intro  k
  unfold paronymlaw12_awake.f
  repeat' first
      | (with_reducible exact puny_Encode.mono _ _)
      | (with_reducible exact LeO.refl _)
      | (with_reducible exact LeO.none _)
      | (with_reducible refine LeO.ite ?_ ?_)
      | (with_reducible refine LeO.bind ?_ (fun _ => ?_))
      | exact puny_Encode.mono _ _
      | exact LeO.none _
      | refine LeO.ite ?_ ?_
      | refine LeO.bind ?_ (fun _ => ?_)
set_option maxHeartbeats 8000000 in
set_option maxRecDepth 100000 in
theorem paronymlaw12_awake.calls (k : Nat)  (r : Bool) (w : World) (h : paronymlaw12_awake.f k  = some r) :
    Calls Try.prog 25 #[] w fun e w' => e = .returned (.bool r) ∧ Below w.heap.size w w' := by
  have HB := Aside0.mk (Below.refl w.heap.size w)
  have H : ((puny_Encode.f k (([98, 252, 99, 104, 101, 114] : List Int))).bind fun bt104 => (if bt104.2 = 0 then (some ((strOfNums bt104.1).toList == ([98, 99, 104, 101, 114, 45, 107, 118, 97] : List UInt8))) else (some false))) = some r := h
  clear h
  obtain ⟨y101, hy101⟩ : ∃ y_ : List Int, y_ = (([98, 252, 99, 104, 101, 114] : List Int)) := ⟨_, rfl⟩
  replace H : ((puny_Encode.f k y101).bind fun bt104 => (if bt104.2 = 0 then (some ((strOfNums bt104.1).toList == ([98, 99, 104, 101, 114, 45, 107, 118, 97] : List UInt8))) else (some false))) = some r := by first | (rw [hy101]; with_reducible exact H) | (have H2_ := (Option.bind_some _ _).symm.trans H; rw [hy101]; with_reducible exact H2_) | (have H2_ := (Option.bind_some _ _).symm.trans H; with_reducible exact H2_) | with_reducible exact H | (rw [hy101]; exact H) | exact H
  have Ny101 := Aside0.mk hy101
  clear hy101
  replace H := Option.bind_eq_some_iff.mp H
  obtain ⟨⟨t104, t105⟩, A10, H⟩ := H
  replace H : (if t105 = 0 then (some ((strOfNums t104).toList == ([98, 99, 104, 101, 114, 45, 107, 118, 97] : List UInt8))) else (some false)) = some r := H
  have A1 := Aside0.mk A10
  clear A10
  by_cases c2 : t105 = 0
  · rw [if_pos c2] at H
    have c2b0 : (t105 == 0) = true := beq_iff_eq.mpr c2
    have c2b1 : (t105 != 0) = false := bne_eq_false_iff_eq.mpr c2
    clear c2
    obtain rfl := Option.some.inj H
    go_enter Try.func25, Try.ntmps25
    go_wp2_with (first | ((with_reducible refine gate_dst (N := 4) rfl ?_); refine Kd.R_lit (Kd.int .i64) _ 3 ?hg (N := 4) ?hd (xs := ([98, 252, 99, 104, 101, 114] : List Int)) (inner := [.int .i64 98, .int .i64 252, .int .i64 99, .int .i64 104, .int .i64 101, .int .i64 114]) (ok := fun _ => True) (okp := fun _ => True) ?hr ?hp (fun _ hk => hk) trivial (Below.refl _ _) (Nat.le_refl _) (by simp) ?_; (case hd => rfl); (case hg => rfl); (case hr => first | (go_simp; done) | (go_simp; rfl)); (case hp => exact (Reps.one (show Kd.M (Kd.int .i64) _ _ _ 98 [.int .i64 98] from rfl) (Reps.one (show Kd.M (Kd.int .i64) _ _ _ 252 [.int .i64 252] from rfl) (Reps.one (show Kd.M (Kd.int .i64) _ _ _ 99 [.int .i64 99] from rfl) (Reps.one (show Kd.M (Kd.int .i64) _ _ _ 104 [.int .i64 104] from rfl) (Reps.one (show Kd.M (Kd.int .i64) _ _ _ 101 [.int .i64 101] from rfl) (Reps.one (show Kd.M (Kd.int .i64) _ _ _ 114 [.int .i64 114] from rfl) (Reps.none _ _)))))))); intro v102 w3 ho4 hb hg_ hnew_; clear hg_ hnew_; (first | rw [← Ny101.out] at ho4 | (simp only [Int.reduceToNat] at ho4; rw [← Ny101.out] at ho4)); have n0_ := Aside0.mk (Kd.R_lower ho4 (below_size (by repeat (first | (with_reducible first | exact HB.out | apply below_alloc | apply pw_below_drewN | apply below_drew1) | exact HB.out)))); have n1_ := Aside0.mk (below_step (by repeat (first | (with_reducible first | exact HB.out | apply below_alloc | apply pw_below_drewN | apply below_drew1) | exact HB.out)) hb); clear HB; have HO103 := n0_; have HB := n1_; clear n0_ n1_; clear hb ho4; obtain ⟨Ao5, co5, eo5⟩ := Kd.R_slice HO103.out; subst eo5) | ((with_reducible refine gate_callee (f := 26) rfl ?_); refine goesL_ (some 5) rfl rfl Try.func26 (by kernel_rfl) rfl #[.slice Ao5 y101.length co5] rfl (by (try simp only [List.map_toArray, List.map_cons, List.map_nil]); first | done | rfl | (simp only [List.length_drop, List.length_take]; rfl)) ?_; (with_reducible refine (puny_Encode.calls k _ _ y101 t104 t105 _ ?side1 ?side2 A1.out).mono ?_); (case side1 => repeat (first | exact (Kd.R_reads' HO103.out).2.2 | (with_reducible refine Kd.C_alloc ?_ _) | (with_reducible refine Kd.C_drewN ?_ _) | (with_reducible refine Kd.C_drew ?_))); (case side2 => exact (Kd.R_reads' HO103.out).2.1); rintro e w6 ⟨v106, rfl, ho0, hb⟩; refine ⟨_, rfl, ?_⟩; have n0_ := Aside0.mk (Kd.R_below (by (with_reducible repeat (first | apply Kd.R_alloc | apply Kd.R_drewN | apply Kd.R_drew)); exact HO103.out) hb); have n1_ := Aside0.mk (Kd.R_lower ho0 (below_size (by repeat (first | (with_reducible first | exact HB.out | apply below_alloc | apply pw_below_drewN | apply below_drew1) | exact HB.out)))); have n2_ := Aside0.mk (below_step (by repeat (first | (with_reducible first | exact HB.out | apply below_alloc | apply pw_below_drewN | apply below_drew1) | exact HB.out)) hb); clear HO103; clear HB; have HO103 := n0_; have HO107 := n1_; have HB := n2_; clear n0_ n1_ n2_; (try clear hb); (try clear hb2); (try clear hk); (try clear hi); (try clear ho0); have hcv7 := own_string (P := Try.prog) Try.underlying22 Try.underlying5 Try.underlying9 (Kd.own_of_R HO107.out); have hcv8 := fun (nd_ : Nat) => own_string (P := Try.prog) Try.underlying22 Try.underlying5 Try.underlying9 (Kd.own_of_R (Kd.R_drewN HO107.out nd_))))
    go_ret
    exact ⟨by first | rfl | (simp [errW_none, errW_some] <;> rfl) | (simp [*, errW_none, errW_some] <;> rfl), by repeat (first | (with_reducible first | exact HB.out | apply below_alloc | apply pw_below_drewN | apply below_drew1) | exact HB.out)⟩
  · rw [if_neg c2] at H
    have c2b0 : (t105 == 0) = false := beq_eq_false_iff_ne.mpr c2
    have c2b1 : (t105 != 0) = true := bne_iff_ne.mpr c2
    obtain rfl := Option.some.inj H
    go_enter Try.func25, Try.ntmps25
    go_wp2_with (first | ((with_reducible refine gate_dst (N := 4) rfl ?_); refine Kd.R_lit (Kd.int .i64) _ 3 ?hg (N := 4) ?hd (xs := ([98, 252, 99, 104, 101, 114] : List Int)) (inner := [.int .i64 98, .int .i64 252, .int .i64 99, .int .i64 104, .int .i64 101, .int .i64 114]) (ok := fun _ => True) (okp := fun _ => True) ?hr ?hp (fun _ hk => hk) trivial (Below.refl _ _) (Nat.le_refl _) (by simp) ?_; (case hd => rfl); (case hg => rfl); (case hr => first | (go_simp; done) | (go_simp; rfl)); (case hp => exact (Reps.one (show Kd.M (Kd.int .i64) _ _ _ 98 [.int .i64 98] from rfl) (Reps.one (show Kd.M (Kd.int .i64) _ _ _ 252 [.int .i64 252] from rfl) (Reps.one (show Kd.M (Kd.int .i64) _ _ _ 99 [.int .i64 99] from rfl) (Reps.one (show Kd.M (Kd.int .i64) _ _ _ 104 [.int .i64 104] from rfl) (Reps.one (show Kd.M (Kd.int .i64) _ _ _ 101 [.int .i64 101] from rfl) (Reps.one (show Kd.M (Kd.int .i64) _ _ _ 114 [.int .i64 114] from rfl) (Reps.none _ _)))))))); intro v102 w9 ho10 hb hg_ hnew_; clear hg_ hnew_; (first | rw [← Ny101.out] at ho10 | (simp only [Int.reduceToNat] at ho10; rw [← Ny101.out] at ho10)); have n0_ := Aside0.mk (Kd.R_lower ho10 (below_size (by repeat (first | (with_reducible first | exact HB.out | apply below_alloc | apply pw_below_drewN | apply below_drew1) | exact HB.out)))); have n1_ := Aside0.mk (below_step (by repeat (first | (with_reducible first | exact HB.out | apply below_alloc | apply pw_below_drewN | apply below_drew1) | exact HB.out)) hb); clear HB; have HO103 := n0_; have HB := n1_; clear n0_ n1_; clear hb ho10; obtain ⟨Ao11, co11, eo11⟩ := Kd.R_slice HO103.out; subst eo11) | ((with_reducible refine gate_callee (f := 26) rfl ?_); refine goesL_ (some 5) rfl rfl Try.func26 (by kernel_rfl) rfl #[.slice Ao11 y101.length co11] rfl (by (try simp only [List.map_toArray, List.map_cons, List.map_nil]); first | done | rfl | (simp only [List.length_drop, List.length_take]; rfl)) ?_; (with_reducible refine (puny_Encode.calls k _ _ y101 t104 t105 _ ?side1 ?side2 A1.out).mono ?_); (case side1 => repeat (first | exact (Kd.R_reads' HO103.out).2.2 | (with_reducible refine Kd.C_alloc ?_ _) | (with_reducible refine Kd.C_drewN ?_ _) | (with_reducible refine Kd.C_drew ?_))); (case side2 => exact (Kd.R_reads' HO103.out).2.1); rintro e w12 ⟨v106, rfl, ho0, hb⟩; refine ⟨_, rfl, ?_⟩; have n0_ := Aside0.mk (Kd.R_below (by (with_reducible repeat (first | apply Kd.R_alloc | apply Kd.R_drewN | apply Kd.R_drew)); exact HO103.out) hb); have n1_ := Aside0.mk (Kd.R_lower ho0 (below_size (by repeat (first | (with_reducible first | exact HB.out | apply below_alloc | apply pw_below_drewN | apply below_drew1) | exact HB.out)))); have n2_ := Aside0.mk (below_step (by repeat (first | (with_reducible first | exact HB.out | apply below_alloc | apply pw_below_drewN | apply below_drew1) | exact HB.out)) hb); clear HO103; clear HB; have HO103 := n0_; have HO107 := n1_; have HB := n2_; clear n0_ n1_ n2_; (try clear hb); (try clear hb2); (try clear hk); (try clear hi); (try clear ho0)))
    go_ret
    exact ⟨by first | rfl | (simp [errW_none, errW_some] <;> rfl) | (simp [*, errW_none, errW_some] <;> rfl), by repeat (first | (with_reducible first | exact HB.out | apply below_alloc | apply pw_below_drewN | apply below_drew1) | exact HB.out)⟩

end Go.Proofs.Ytooiajkbpkfplaa.Q

-- from Ppuny0
/- PunyPlain's part: the document's example of layer 12, scalars. -/
namespace Go.Proofs.Ytooiajkbpkfplaa.K
set_option linter.unusedVariables false
set_option linter.unusedSimpArgs false
open Go.RowKit Go.Proofs.YtooiajkbpkfplaaW.PrintWords Go.Proofs.Ytooiajkbpkfplaa.Q

theorem awake12 : paronymlaw12_awake.f 60 = some true := by decide +kernel
theorem awake12_ev : Ev (fun k => paronymlaw12_awake.f k) true := Ev.of (fun k => paronymlaw12_awake.mono k) awake12
def scalar (c : Int) : Bool := decide (0 ≤ c) && (decide (c ≤ 1114111) && (decide (c < 55296) || decide (c > 57343)))
theorem utf_Scalar_is (c : Int) : utf_Scalar.f c = some (scalar c) := by
  unfold utf_Scalar.f scalar
  by_cases a : c ≥ 0
  · have a' : 0 ≤ c := a
    rw [if_pos a]
    by_cases b : c ≤ 1114111
    · rw [if_pos b]
      by_cases d : c < 55296
      · rw [if_pos d]; simp [a', b, d]
      · rw [if_neg d]; simp [a', b, d]
    · rw [if_neg b]; simp [b]
  · have a' : ¬ 0 ≤ c := a
    rw [if_neg a]; simp [a']
theorem unscalar_is (c : Int) : puny_Encode_1.f c = some (!scalar c) := by unfold puny_Encode_1.f; rw [utf_Scalar_is]; rfl
theorem any_unscalar_ev (l : List Int) (hl : l.length ≤ 1099511627776) : Ev (fun k => slices_ContainsFunc_int_int_at_puny_Encode_1.f k l) (l.any fun c => !scalar c) := by
  unfold slices_ContainsFunc_int_int_at_puny_Encode_1.f slices_IndexFunc_int_int_at_puny_Encode_1.f
  exact contains_ev (p := puny_Encode_1.f) (q := fun c => !scalar c) (fun k x n i => rfl) l (by omega) (fun y _ => unscalar_is y)

end Go.Proofs.Ytooiajkbpkfplaa.K

-- from Qf55
-- Made by hp.py, a program of this session, with the kit's printer. Not trusted: Lean checks it.
namespace Go.Proofs.Ytooiajkbpkfplaa.Q
open Go.RowKit Go.Proofs.YtooiajkbpkfplaaW.PrintWords Go.Proofs.YtooiajkbpkfplaaW.PrintLast Go.Proofs.YtooiajkbpkfplaaW.PrintMore
attribute [local go_sem] max2_int min2_int max_two min_two max_three min_three max_four min_four   -- for this text's walks alone
set_option linter.unusedVariables false
set_option linter.unusedSimpArgs false

/-! ### paronymref01_Next: function 55 -/
mutual
def paronymref01_Next.l0 : Nat → ByteArray → Int → Option (Int × Int)
  | 0, _, _ => none
  | k + 1, x0, x4 => if x4 ≤ 4 then (paronymref01_Next.j1 k x0 x4 (decide (x4 ≤ (x0.size : Int)))) else (paronymref01_Next.j1 k x0 x4 false)
def paronymref01_Next.j1 : Nat → ByteArray → Int → Bool → Option (Int × Int)
  | 0, _, _, _ => none
  | k + 1, x0, x4, x14 => if x14 = true then (if 0 < (x0.size : Int) then (if x4 = 2 then (paronymref01_Next.j2 k x0 x4 (Int.tmod (wrap64 (bt x0 0)) 32)) else (paronymref01_Next.j2 k x0 x4 (wrap64 (bt x0 0)))) else (none)) else (some (0, 0))
def paronymref01_Next.j2 : Nat → ByteArray → Int → Int → Option (Int × Int)
  | 0, _, _, _ => none
  | k + 1, x0, x4, x5 => if x4 = 3 then (paronymref01_Next.j3 k x0 x4 (Int.tmod x5 16)) else (paronymref01_Next.j3 k x0 x4 x5)
def paronymref01_Next.j3 : Nat → ByteArray → Int → Int → Option (Int × Int)
  | 0, _, _, _ => none
  | k + 1, x0, x4, x5 => if x4 = 4 then (paronymref01_Next.j4 k x0 x4 (Int.tmod x5 8)) else (paronymref01_Next.j4 k x0 x4 x5)
def paronymref01_Next.j4 : Nat → ByteArray → Int → Int → Option (Int × Int)
  | 0, _, _, _ => none
  | k + 1, x0, x4, x5 => paronymref01_Next.l1 k x0 x4 x5 1
def paronymref01_Next.l1 : Nat → ByteArray → Int → Int → Int → Option (Int × Int)
  | 0, _, _, _, _ => none
  | k + 1, x0, x4, x5, x6 => if x6 < x4 then (if 0 ≤ x6 then (if x6 < (x0.size : Int) then (paronymref01_Next.l1 k x0 x4 (wrap64 ((wrap64 (x5 * 64)) + (Int.tmod (wrap64 (bt x0 x6)) 64))) (wrap64 (x6 + 1))) else (none)) else (none)) else ((paronymref01_Scalar.f x5).bind fun t101 => (if t101 = true then ((paronymref01_Octets.f k x5).bind fun t102 => (if 0 ≤ x4 then (if x4 ≤ (x0.size : Int) then (if t102.toList = (x0.extract 0 (x4 : Int).toNat).toList then (some (x5, x4)) else (paronymref01_Next.l0 k x0 (wrap64 (x4 + 1)))) else (none)) else (none))) else (paronymref01_Next.l0 k x0 (wrap64 (x4 + 1)))))
end
def paronymref01_Next.f (k : Nat) (a0 : ByteArray) : Option (Int × Int) := paronymref01_Next.l0 k a0 1
theorem paronymref01_Next.mono_l : ∀ k, (∀ y0 y1, LeO (paronymref01_Next.l0 k y0 y1) (paronymref01_Next.l0 (k + 1) y0 y1)) ∧ (∀ y0 y1 y2, LeO (paronymref01_Next.j1 k y0 y1 y2) (paronymref01_Next.j1 (k + 1) y0 y1 y2)) ∧ (∀ y0 y1 y2, LeO (paronymref01_Next.j2 k y0 y1 y2) (paronymref01_Next.j2 (k + 1) y0 y1 y2)) ∧ (∀ y0 y1 y2, LeO (paronymref01_Next.j3 k y0 y1 y2) (paronymref01_Next.j3 (k + 1) y0 y1 y2)) ∧ (∀ y0 y1 y2, LeO (paronymref01_Next.j4 k y0 y1 y2) (paronymref01_Next.j4 (k + 1) y0 y1 y2)) ∧ (∀ y0 y1 y2 y3, LeO (paronymref01_Next.l1 k y0 y1 y2 y3) (paronymref01_Next.l1 (k + 1) y0 y1 y2 y3))
  | 0 => ⟨fun _ _ r h => by simp [paronymref01_Next.l0] at h, fun _ _ _ r h => by simp [paronymref01_Next.j1] at h, fun _ _ _ r h => by simp [paronymref01_Next.j2] at h, fun _ _ _ r h => by simp [paronymref01_Next.j3] at h, fun _ _ _ r h => by simp [paronymref01_Next.j4] at h, fun _ _ _ _ r h => by simp [paronymref01_Next.l1] at h⟩
  | k + 1 => by
    obtain ⟨ih0, ih1, ih2, ih3, ih4, ih5⟩ := paronymref01_Next.mono_l k
    refine ⟨?_, ?_, ?_, ?_, ?_, ?_⟩
    · intro y0 y1
      unfold paronymref01_Next.l0
      repeat' first
      | (with_reducible exact ih0 _ _)
      | (with_reducible exact ih1 _ _ _)
      | (with_reducible exact ih2 _ _ _)
      | (with_reducible exact ih3 _ _ _)
      | (with_reducible exact ih4 _ _ _)
      | (with_reducible exact ih5 _ _ _ _)
      | (with_reducible exact paronymref01_Octets.mono _ _)
      | (with_reducible exact LeO.refl _)
      | (with_reducible exact LeO.none _)
      | (with_reducible refine LeO.ite ?_ ?_)
      | (with_reducible refine LeO.bind ?_ (fun _ => ?_))
      | exact ih0 _ _
      | exact ih1 _ _ _
      | exact ih2 _ _ _
      | exact ih3 _ _ _
      | exact ih4 _ _ _
      | exact ih5 _ _ _ _
      | exact paronymref01_Octets.mono _ _
      | exact LeO.none _
      | refine LeO.ite ?_ ?_
      | refine LeO.bind ?_ (fun _ => ?_)
    · intro y0 y1 y2
      unfold paronymref01_Next.j1
      repeat' first
      | (with_reducible exact ih0 _ _)
      | (with_reducible exact ih1 _ _ _)
      | (with_reducible exact ih2 _ _ _)
      | (with_reducible exact ih3 _ _ _)
      | (with_reducible exact ih4 _ _ _)
      | (with_reducible exact ih5 _ _ _ _)
      | (with_reducible exact paronymref01_Octets.mono _ _)
      | (with_reducible exact LeO.refl _)
      | (with_reducible exact LeO.none _)
      | (with_reducible refine LeO.ite ?_ ?_)
      | (with_reducible refine LeO.bind ?_ (fun _ => ?_))
      | exact ih0 _ _
      | exact ih1 _ _ _
      | exact ih2 _ _ _
      | exact ih3 _ _ _
      | exact ih4 _ _ _
      | exact ih5 _ _ _ _
      | exact paronymref01_Octets.mono _ _
      | exact LeO.none _
      | refine LeO.ite ?_ ?_
      | refine LeO.bind ?_ (fun _ => ?_)
    · intro y0 y1 y2
      unfold paronymref01_Next.j2
      repeat' first
      | (with_reducible exact ih0 _ _)
      | (with_reducible exact ih1 _ _ _)
      | (with_reducible exact ih2 _ _ _)
      | (with_reducible exact ih3 _ _ _)
      | (with_reducible exact ih4 _ _ _)
      | (with_reducible exact ih5 _ _ _ _)
      | (with_reducible exact paronymref01_Octets.mono _ _)
      | (with_reducible exact LeO.refl _)
      | (with_reducible exact LeO.none _)
      | (with_reducible refine LeO.ite ?_ ?_)
      | (with_reducible refine LeO.bind ?_ (fun _ => ?_))
      | exact ih0 _ _
      | exact ih1 _ _ _
      | exact ih2 _ _ _
      | exact ih3 _ _ _
      | exact ih4 _ _ _
      | exact ih5 _ _ _ _
      | exact paronymref01_Octets.mono _ _
      | exact LeO.none _
      | refine LeO.ite ?_ ?_
      | refine LeO.bind ?_ (fun _ => ?_)
    · intro y0 y1 y2
      unfold paronymref01_Next.j3
      repeat' first
      | (with_reducible exact ih0 _ _)
      | (with_reducible exact ih1 _ _ _)
      | (with_reducible exact ih2 _ _ _)
      | (with_reducible exact ih3 _ _ _)
      | (with_reducible exact ih4 _ _ _)
      | (with_reducible exact ih5 _ _ _ _)
      | (with_reducible exact paronymref01_Octets.mono _ _)
      | (with_reducible exact LeO.refl _)
      | (with_reducible exact LeO.none _)
      | (with_reducible refine LeO.ite ?_ ?_)
      | (with_reducible refine LeO.bind ?_ (fun _ => ?_))
      | exact ih0 _ _
      | exact ih1 _ _ _
      | exact ih2 _ _ _
      | exact ih3 _ _ _
      | exact ih4 _ _ _
      | exact ih5 _ _ _ _
      | exact paronymref01_Octets.mono _ _
      | exact LeO.none _
      | refine LeO.ite ?_ ?_
      | refine LeO.bind ?_ (fun _ => ?_)
    · intro y0 y1 y2
      unfold paronymref01_Next.j4
      repeat' first
      | (with_reducible exact ih0 _ _)
      | (with_reducible exact ih1 _ _ _)
      | (with_reducible exact ih2 _ _ _)
      | (with_reducible exact ih3 _ _ _)
      | (with_reducible exact ih4 _ _ _)
      | (with_reducible exact ih5 _ _ _ _)
      | (with_reducible exact paronymref01_Octets.mono _ _)
      | (with_reducible exact LeO.refl _)
      | (with_reducible exact LeO.none _)
      | (with_reducible refine LeO.ite ?_ ?_)
      | (with_reducible refine LeO.bind ?_ (fun _ => ?_))
      | exact ih0 _ _
      | exact ih1 _ _ _
      | exact ih2 _ _ _
      | exact ih3 _ _ _
      | exact ih4 _ _ _
      | exact ih5 _ _ _ _
      | exact paronymref01_Octets.mono _ _
      | exact LeO.none _
      | refine LeO.ite ?_ ?_
      | refine LeO.bind ?_ (fun _ => ?_)
    · intro y0 y1 y2 y3
      unfold paronymref01_Next.l1
      repeat' first
      | (with_reducible exact ih0 _ _)
      | (with_reducible exact ih1 _ _ _)
      | (with_reducible exact ih2 _ _ _)
      | (with_reducible exact ih3 _ _ _)
      | (with_reducible exact ih4 _ _ _)
      | (with_reducible exact ih5 _ _ _ _)
      | (with_reducible exact paronymref01_Octets.mono _ _)
      | (with_reducible exact LeO.refl _)
      | (with_reducible exact LeO.none _)
      | (with_reducible refine LeO.ite ?_ ?_)
      | (with_reducible refine LeO.bind ?_ (fun _ => ?_))
      | exact ih0 _ _
      | exact ih1 _ _ _
      | exact ih2 _ _ _
      | exact ih3 _ _ _
      | exact ih4 _ _ _
      | exact ih5 _ _ _ _
      | exact paronymref01_Octets.mono _ _
      | exact LeO.none _
      | refine LeO.ite ?_ ?_
      | refine LeO.bind ?_ (fun _ => ?_)
theorem paronymref01_Next.mono : ∀ a0 k, LeO (paronymref01_Next.f k a0) (paronymref01_Next.f (k + 1) a0) := by
  intro a0 k
  obtain ⟨ih0, ih1, ih2, ih3, ih4, ih5⟩ := paronymref01_Next.mono_l k
  unfold paronymref01_Next.f
  repeat' first
      | (with_reducible exact ih0 _ _)
      | (with_reducible exact ih1 _ _ _)
      | (with_reducible exact ih2 _ _ _)
      | (with_reducible exact ih3 _ _ _)
      | (with_reducible exact ih4 _ _ _)
      | (with_reducible exact ih5 _ _ _ _)
      | (with_reducible exact paronymref01_Octets.mono _ _)
      | (with_reducible exact LeO.refl _)
      | (with_reducible exact LeO.none _)
      | (with_reducible refine LeO.ite ?_ ?_)
      | (with_reducible refine LeO.bind ?_ (fun _ => ?_))
      | exact ih0 _ _
      | exact ih1 _ _ _
      | exact ih2 _ _ _
      | exact ih3 _ _ _
      | exact ih4 _ _ _
      | exact ih5 _ _ _ _
      | exact paronymref01_Octets.mono _ _
      | exact LeO.none _
      | refine LeO.ite ?_ ?_
      | refine LeO.bind ?_ (fun _ => ?_)
def paronymref01_Next.T15 : Bool × List (List Nat × List Nat) := (true, [([], []), ([0], [0]), ([1, 1], [1]), ([2], [2]), ([3, 2, 2], [2, 3]), ([2], [2]), ([2], [2]), ([5, 6, 2], [2, 5, 6]), ([4, 7, 2], [2, 4, 7]), ([2, 8], [2, 8])])
def paronymref01_Next.B15 : List Nat := [0, 1, 3, 7, 15, 7, 7, 103, 255, 511]
theorem paronymref01_Next.tab15 : rtab .any (opsOf Try.f55 15) = paronymref01_Next.T15 := by kernel_rfl
theorem paronymref01_Next.bits15 : waitsOk paronymref01_Next.T15.2 paronymref01_Next.B15 = true := by kernel_rfl
set_option maxHeartbeats 8000000 in
set_option maxRecDepth 100000 in
theorem paronymref01_Next.calls (k : Nat) (a0 : ByteArray) (r1 : Int) (r2 : Int) (w : World) (h : paronymref01_Next.f k a0 = some (r1, r2)) :
    Calls Try.prog 55 #[.string a0] w fun e w' => e = .returned (.tuple #[.int .i64 r1, .int .i64 r2]) ∧ Below w.heap.size w w' := by
  have HB := Aside0.mk (Below.refl w.heap.size w)
  have H : (paronymref01_Next.l0 k a0 1) = some (r1, r2) := h
  clear h
  have H' := Aside0.mk H
  clear H
  go_enter Try.func55, Try.ntmps55
  go_wp2
  go_loopg [4] k (fun kq v4 w' => ∃ (x4_1 : Int), v4 = .int .i64 x4_1 ∧ Aside0 (paronymref01_Next.l0 kq a0 x4_1 = some (r1, r2)) ∧ Aside0 (kq ≤ k) ∧ Aside0 (Below w.heap.size w w'))
  case atStart => exact ⟨(1), (by first | rfl | (simp; done) | (simp [*]; done)), H', ⟨Nat.le_refl _⟩, ⟨by repeat (first | (with_reducible first | exact HB.out | apply below_alloc | apply pw_below_drewN | apply below_drew1) | exact HB.out)⟩⟩
  case round =>
    clear H'
    obtain ⟨x4_1, rfl, HA, HK1, HB⟩ := hrel
    cases gk with
    | zero => exact absurd HA.out (by simp [paronymref01_Next.l0])
    | succ k1 =>
      have H := HA.out
      clear HA
      simp only [paronymref01_Next.l0] at H
      have HC2 := Aside0.mk H
      clear H
      go_upto_region 2 with (fail)
      go_cut [14] (fun v14 wc => ∃ (kq : Nat) (x14_1 : Bool), v14 = .bool x14_1 ∧ Aside0 (paronymref01_Next.j1 kq a0 x4_1 x14_1 = some (r1, r2)) ∧ Aside0 (kq ≤ k1) ∧ Aside0 (Below w.heap.size w wc))
      case first =>
        have H := HC2.out
        clear HC2
        by_cases c3 : x4_1 ≤ 4
        · rw [if_pos c3] at H
          have c3b0 : decide (x4_1 ≤ 4) = true := decide_eq_true c3
          clear c3
          (first | rw [c3b0] | (simp only [i64_w, i32_w]; rw [c3b0]) | rw [c3b1] | (simp only [i64_w, i32_w]; rw [c3b1]) | skip)
          have H' := Aside0.mk H
          clear H
          go_wp2
          go_meet
          case rel => exact ⟨_, (decide (x4_1 ≤ (a0.size : Int))), (by first | rfl | (simp; done) | (simp [*]; done)), H', ⟨by have := HK1.out; first | omega | exact Nat.le_refl _⟩, ⟨by repeat (first | (with_reducible first | exact HB.out | apply below_alloc | apply pw_below_drewN | apply below_drew1) | exact HB.out)⟩⟩
        · rw [if_neg c3] at H
          have c3b0 : decide (x4_1 ≤ 4) = false := decide_eq_false c3
          clear c3
          (first | rw [c3b0] | (simp only [i64_w, i32_w]; rw [c3b0]) | rw [c3b1] | (simp only [i64_w, i32_w]; rw [c3b1]) | skip)
          have H' := Aside0.mk H
          clear H
          go_wp2
          go_meet
          case rel => exact ⟨_, (false), (by first | rfl | (simp; done) | (simp [*]; done)), H', ⟨by have := HK1.out; first | omega | exact Nat.le_refl _⟩, ⟨by repeat (first | (with_reducible first | exact HB.out | apply below_alloc | apply pw_below_drewN | apply below_drew1) | exact HB.out)⟩⟩
      case rest =>
        clear HC2
        try clear p2
        try clear c3
        try clear c3b0
        try clear c3b1
        obtain ⟨kq, x14_1, rfl, HA, HJ1, HB⟩ := hcut
        cases kq with
        | zero => exact absurd HA.out (by simp [paronymref01_Next.j1])
        | succ kj1 =>
          have H := HA.out
          clear HA
          simp only [paronymref01_Next.j1] at H
          by_cases c4 : x14_1 = true
          · subst c4
            have H1 : (if 0 < (a0.size : Int) then (if x4_1 = 2 then (paronymref01_Next.j2 kj1 a0 x4_1 (Int.tmod (wrap64 (bt a0 0)) 32)) else (paronymref01_Next.j2 kj1 a0 x4_1 (wrap64 (bt a0 0)))) else (none)) = some (r1, r2) := by rw [if_pos rfl] at H; exact H
            clear H
            have H := H1
            clear H1
            by_cases c5 : 0 < (a0.size : Int)
            · rw [if_pos c5] at H
              have c5b0 : decide (0 < (a0.size : Int)) = true := decide_eq_true c5
              have c5b1 : decide (0 < a0.size) = true := decide_eq_true (by omega)
              clear c5
              have HC7 := Aside0.mk H
              clear H
              have p6 : 0 ≤ (0 : Int) := (by omega)
              have q6 : 0 < a0.size := (by have : (0 : Int) < (a0.size : Int) := of_decide_eq_true (by first | (with_reducible assumption) | assumption); omega)
              have hx6 : ∀ h : 0 < a0.size, ((a0[0]'h).toNat : Int) = bt a0 0 := bt_at a0 0
              clear p6
              have qi6 : (0 < (a0.size : Int)) = True := eq_true (of_decide_eq_true (by first | (with_reducible assumption) | assumption))
              replace q6 := eq_true q6
              go_upto_if 21 with (fail)
              go_cut [5] (fun v5 wc => ∃ (kq : Nat) (x5_6 : Int), v5 = .int .i64 x5_6 ∧ Aside0 (paronymref01_Next.j2 kq a0 x4_1 x5_6 = some (r1, r2)) ∧ Aside0 (kq ≤ kj1) ∧ Aside0 (Below w.heap.size w wc))
              case first =>
                have H := HC7.out
                clear HC7
                by_cases c8 : x4_1 = 2
                · rw [if_pos c8] at H
                  have c8b0 : (x4_1 == 2) = true := beq_iff_eq.mpr c8
                  have c8b1 : (x4_1 != 2) = false := bne_eq_false_iff_eq.mpr c8
                  clear c8
                  (first | rw [c8b0] | (simp only [i64_w, i32_w]; rw [c8b0]) | rw [c8b1] | (simp only [i64_w, i32_w]; rw [c8b1]) | skip)
                  have H' := Aside0.mk H
                  clear H
                  go_wp2
                  go_meet
                  case rel => exact ⟨_, (Int.tmod (wrap64 (bt a0 0)) 32), (by first | rfl | (simp; done) | (simp [*]; done)), H', ⟨by have := HK1.out; have := HJ1.out; first | omega | exact Nat.le_refl _⟩, ⟨by repeat (first | (with_reducible first | exact HB.out | apply below_alloc | apply pw_below_drewN | apply below_drew1) | exact HB.out)⟩⟩
                · rw [if_neg c8] at H
                  have c8b0 : (x4_1 == 2) = false := beq_eq_false_iff_ne.mpr c8
                  have c8b1 : (x4_1 != 2) = true := bne_iff_ne.mpr c8
                  (first | rw [c8b0] | (simp only [i64_w, i32_w]; rw [c8b0]) | rw [c8b1] | (simp only [i64_w, i32_w]; rw [c8b1]) | skip)
                  have H' := Aside0.mk H
                  clear H
                  go_wp2
                  go_meet
                  case rel => exact ⟨_, (wrap64 (bt a0 0)), (by first | rfl | (simp; done) | (simp [*]; done)), H', ⟨by have := HK1.out; have := HJ1.out; first | omega | exact Nat.le_refl _⟩, ⟨by repeat (first | (with_reducible first | exact HB.out | apply below_alloc | apply pw_below_drewN | apply below_drew1) | exact HB.out)⟩⟩
              case rest =>
                clear HC7
                try clear p2
                try clear c3
                try clear c3b0
                try clear c3b1
                try clear c4
                try clear c5
                try clear c5b0
                try clear c5b1
                try clear p6
                try clear q6
                try clear hx6
                try clear qi6
                try clear c8
                try clear c8b0
                try clear c8b1
                try clear p2
                try clear p6
                try clear q6
                obtain ⟨kq, x5_6, rfl, HA, HJ6, HB⟩ := hcut
                cases kq with
                | zero => exact absurd HA.out (by simp [paronymref01_Next.j2])
                | succ kj6 =>
                  have H := HA.out
                  clear HA
                  simp only [paronymref01_Next.j2] at H
                  have HC9 := Aside0.mk H
                  clear H
                  go_upto_if 25 with (fail)
                  go_cut [5] (fun v5 wc => ∃ (kq : Nat) (x5_8 : Int), v5 = .int .i64 x5_8 ∧ Aside0 (paronymref01_Next.j3 kq a0 x4_1 x5_8 = some (r1, r2)) ∧ Aside0 (kq ≤ kj6) ∧ Aside0 (Below w.heap.size w wc))
                  case first =>
                    have H := HC9.out
                    clear HC9
                    by_cases c10 : x4_1 = 3
                    · rw [if_pos c10] at H
                      have c10b0 : (x4_1 == 3) = true := beq_iff_eq.mpr c10
                      have c10b1 : (x4_1 != 3) = false := bne_eq_false_iff_eq.mpr c10
                      clear c10
                      (first | rw [c10b0] | (simp only [i64_w, i32_w]; rw [c10b0]) | rw [c10b1] | (simp only [i64_w, i32_w]; rw [c10b1]) | skip)
                      have H' := Aside0.mk H
                      clear H
                      go_wp2
                      go_meet
                      case rel => exact ⟨_, (Int.tmod x5_6 16), (by first | rfl | (simp; done) | (simp [*]; done)), H', ⟨by have := HK1.out; have := HJ1.out; have := HJ6.out; first | omega | exact Nat.le_refl _⟩, ⟨by repeat (first | (with_reducible first | exact HB.out | apply below_alloc | apply pw_below_drewN | apply below_drew1) | exact HB.out)⟩⟩
                    · rw [if_neg c10] at H
                      have c10b0 : (x4_1 == 3) = false := beq_eq_false_iff_ne.mpr c10
                      have c10b1 : (x4_1 != 3) = true := bne_iff_ne.mpr c10
                      (first | rw [c10b0] | (simp only [i64_w, i32_w]; rw [c10b0]) | rw [c10b1] | (simp only [i64_w, i32_w]; rw [c10b1]) | skip)
                      have H' := Aside0.mk H
                      clear H
                      go_wp2
                      go_meet
                      case rel => exact ⟨_, (x5_6), (by first | rfl | (simp; done) | (simp [*]; done)), H', ⟨by have := HK1.out; have := HJ1.out; have := HJ6.out; first | omega | exact Nat.le_refl _⟩, ⟨by repeat (first | (with_reducible first | exact HB.out | apply below_alloc | apply pw_below_drewN | apply below_drew1) | exact HB.out)⟩⟩
                  case rest =>
                    clear HC9
                    try clear c1
                    try clear p2
                    try clear c3
                    try clear c3b0
                    try clear c3b1
                    try clear c4
                    try clear c5
                    try clear c5b0
                    try clear c5b1
                    try clear p6
                    try clear q6
                    try clear hx6
                    try clear qi6
                    try clear c8
                    try clear c8b0
                    try clear c8b1
                    try clear c10
                    try clear c10b0
                    try clear c10b1
                    try clear p2
                    try clear p6
                    try clear q6
                    obtain ⟨kq, x5_8, rfl, HA, HJ8, HB⟩ := hcut
                    cases kq with
                    | zero => exact absurd HA.out (by simp [paronymref01_Next.j3])
                    | succ kj8 =>
                      have H := HA.out
                      clear HA
                      simp only [paronymref01_Next.j3] at H
                      have HC11 := Aside0.mk H
                      clear H
                      go_upto_if 29 with (fail)
                      go_cut [5] (fun v5 wc => ∃ (kq : Nat) (x5_10 : Int), v5 = .int .i64 x5_10 ∧ Aside0 (paronymref01_Next.j4 kq a0 x4_1 x5_10 = some (r1, r2)) ∧ Aside0 (kq ≤ kj8) ∧ Aside0 (Below w.heap.size w wc))
                      case first =>
                        have H := HC11.out
                        clear HC11
                        by_cases c12 : x4_1 = 4
                        · rw [if_pos c12] at H
                          have c12b0 : (x4_1 == 4) = true := beq_iff_eq.mpr c12
                          have c12b1 : (x4_1 != 4) = false := bne_eq_false_iff_eq.mpr c12
                          clear c12
                          (first | rw [c12b0] | (simp only [i64_w, i32_w]; rw [c12b0]) | rw [c12b1] | (simp only [i64_w, i32_w]; rw [c12b1]) | skip)
                          have H' := Aside0.mk H
                          clear H
                          go_wp2
                          go_meet
                          case rel => exact ⟨_, (Int.tmod x5_8 8), (by first | rfl | (simp; done) | (simp [*]; done)), H', ⟨by have := HK1.out; have := HJ1.out; have := HJ6.out; have := HJ8.out; first | omega | exact Nat.le_refl _⟩, ⟨by repeat (first | (with_reducible first | exact HB.out | apply below_alloc | apply pw_below_drewN | apply below_drew1) | exact HB.out)⟩⟩
                        · rw [if_neg c12] at H
                          have c12b0 : (x4_1 == 4) = false := beq_eq_false_iff_ne.mpr c12
                          have c12b1 : (x4_1 != 4) = true := bne_iff_ne.mpr c12
                          (first | rw [c12b0] | (simp only [i64_w, i32_w]; rw [c12b0]) | rw [c12b1] | (simp only [i64_w, i32_w]; rw [c12b1]) | skip)
                          have H' := Aside0.mk H
                          clear H
                          go_wp2
                          go_meet
                          case rel => exact ⟨_, (x5_8), (by first | rfl | (simp; done) | (simp [*]; done)), H', ⟨by have := HK1.out; have := HJ1.out; have := HJ6.out; have := HJ8.out; first | omega | exact Nat.le_refl _⟩, ⟨by repeat (first | (with_reducible first | exact HB.out | apply below_alloc | apply pw_below_drewN | apply below_drew1) | exact HB.out)⟩⟩
                      case rest =>
                        clear HC11
                        try clear c1
                        try clear p2
                        try clear c3
                        try clear c3b0
                        try clear c3b1
                        try clear c4
                        try clear c5
                        try clear c5b0
                        try clear c5b1
                        try clear p6
                        try clear q6
                        try clear hx6
                        try clear qi6
                        try clear c8
                        try clear c8b0
                        try clear c8b1
                        try clear c10
                        try clear c10b0
                        try clear c10b1
                        try clear c12
                        try clear c12b0
                        try clear c12b1
                        try clear p2
                        try clear p6
                        try clear q6
                        obtain ⟨kq, x5_10, rfl, HA, HJ10, HB⟩ := hcut
                        cases kq with
                        | zero => exact absurd HA.out (by simp [paronymref01_Next.j4])
                        | succ kj10 =>
                          have H := HA.out
                          clear HA
                          simp only [paronymref01_Next.j4] at H
                          have H' := Aside0.mk H
                          clear H
                          go_wp2
                          go_loopg [5, 6] kj10 (fun kq v5 v6 w' => ∃ (x5_6 : Int) (x6_6 : Int), v5 = .int .i64 x5_6 ∧ v6 = .int .i64 x6_6 ∧ Aside0 (paronymref01_Next.l1 kq a0 x4_1 x5_6 x6_6 = some (r1, r2)) ∧ Aside0 (kq ≤ kj10) ∧ Aside0 (Below w.heap.size w w'))
                          case atStart => exact ⟨(x5_10), (1), (by first | rfl | (simp; done) | (simp [*]; done)), (by first | rfl | (simp; done) | (simp [*]; done)), H', ⟨Nat.le_refl _⟩, ⟨by repeat (first | (with_reducible first | exact HB.out | apply below_alloc | apply pw_below_drewN | apply below_drew1) | exact HB.out)⟩⟩
                          case round =>
                            clear H'
                            try clear c1
                            try clear p2
                            try clear c3
                            try clear c3b0
                            try clear c3b1
                            try clear c4
                            try clear c5
                            try clear c5b0
                            try clear c5b1
                            try clear p6
                            try clear q6
                            try clear hx6
                            try clear qi6
                            try clear c8
                            try clear c8b0
                            try clear c8b1
                            try clear c10
                            try clear c10b0
                            try clear c10b1
                            try clear c12
                            try clear c12b0
                            try clear c12b1
                            try clear p2
                            try clear p6
                            try clear q6
                            obtain ⟨x5_6, x6_6, rfl, rfl, HA, HK6, HB⟩ := hrel
                            cases gk with
                            | zero => exact absurd HA.out (by simp [paronymref01_Next.l1])
                            | succ k6 =>
                              have H := HA.out
                              clear HA
                              simp only [paronymref01_Next.l1] at H
                              by_cases c13 : x6_6 < x4_1
                              · rw [if_pos c13] at H
                                have c13b0 : decide (x6_6 < x4_1) = true := decide_eq_true c13
                                clear c13
                                by_cases c14 : 0 ≤ x6_6
                                · rw [if_pos c14] at H
                                  have c14b0 : decide (0 ≤ x6_6) = true := decide_eq_true c14
                                  clear c14
                                  by_cases c15 : x6_6 < (a0.size : Int)
                                  · rw [if_pos c15] at H
                                    have c15b0 : decide (x6_6 < (a0.size : Int)) = true := decide_eq_true c15
                                    clear c15
                                    have H' := Aside0.mk H
                                    clear H
                                    have p16 : 0 ≤ (x6_6 : Int) := of_decide_eq_true (by first | (with_reducible assumption) | assumption)
                                    have q16 : x6_6 < (a0.size : Int) := of_decide_eq_true (by first | (with_reducible assumption) | assumption)
                                    have hx16 := bt_at a0 x6_6
                                    replace p16 := eq_true p16
                                    replace q16 := eq_true q16
                                    go_wp2
                                    go_roundg k6
                                    case measure => have := HK1.out; have := HJ1.out; have := HJ6.out; have := HJ8.out; have := HJ10.out; have := HK6.out; omega
                                    case rel => exact ⟨(wrap64 ((wrap64 (x5_6 * 64)) + (Int.tmod (wrap64 (bt a0 x6_6)) 64))), (wrap64 (x6_6 + 1)), (by first | rfl | (simp; done) | (simp [*]; done)), (by first | rfl | (simp; done) | (simp [*]; done)), H', ⟨by have := HK1.out; have := HJ1.out; have := HJ6.out; have := HJ8.out; have := HJ10.out; have := HK6.out; omega⟩, ⟨by repeat (first | (with_reducible first | exact HB.out | apply below_alloc | apply pw_below_drewN | apply below_drew1) | exact HB.out)⟩⟩
                                  · rw [if_neg c15] at H
                                    exact absurd H (by simp)
                                · rw [if_neg c14] at H
                                  exact absurd H (by simp)
                              · rw [if_neg c13] at H
                                have c13b0 : decide (x6_6 < x4_1) = false := decide_eq_false c13
                                clear c13
                                replace H := Option.bind_eq_some_iff.mp H
                                obtain ⟨t101, A170, H⟩ := H
                                replace H : (if t101 = true then ((paronymref01_Octets.f k6 x5_6).bind fun t102 => (if 0 ≤ x4_1 then (if x4_1 ≤ (a0.size : Int) then (if t102.toList = (a0.extract 0 (x4_1 : Int).toNat).toList then (some (x5_6, x4_1)) else (paronymref01_Next.l0 k6 a0 (wrap64 (x4_1 + 1)))) else (none)) else (none))) else (paronymref01_Next.l0 k6 a0 (wrap64 (x4_1 + 1)))) = some (r1, r2) := H
                                have A17 := Aside0.mk A170
                                clear A170
                                by_cases c18 : t101 = true
                                · subst c18
                                  have H1 : ((paronymref01_Octets.f k6 x5_6).bind fun t102 => (if 0 ≤ x4_1 then (if x4_1 ≤ (a0.size : Int) then (if t102.toList = (a0.extract 0 (x4_1 : Int).toNat).toList then (some (x5_6, x4_1)) else (paronymref01_Next.l0 k6 a0 (wrap64 (x4_1 + 1)))) else (none)) else (none))) = some (r1, r2) := by rw [if_pos rfl] at H; exact H
                                  clear H
                                  have H := H1
                                  clear H1
                                  replace H := Option.bind_eq_some_iff.mp H
                                  obtain ⟨t102, A190, H⟩ := H
                                  replace H : (if 0 ≤ x4_1 then (if x4_1 ≤ (a0.size : Int) then (if t102.toList = (a0.extract 0 (x4_1 : Int).toNat).toList then (some (x5_6, x4_1)) else (paronymref01_Next.l0 k6 a0 (wrap64 (x4_1 + 1)))) else (none)) else (none)) = some (r1, r2) := H
                                  have A19 := Aside0.mk A190
                                  clear A190
                                  by_cases c20 : 0 ≤ x4_1
                                  · rw [if_pos c20] at H
                                    have c20b0 := eq_true c20
                                    have c20b1 : decide (0 ≤ x4_1) = true := decide_eq_true c20
                                    clear c20
                                    by_cases c21 : x4_1 ≤ (a0.size : Int)
                                    · rw [if_pos c21] at H
                                      have c21b0 := eq_true c21
                                      have c21b1 : decide (x4_1 ≤ (a0.size : Int)) = true := decide_eq_true c21
                                      clear c21
                                      by_cases c22 : t102.toList = (a0.extract 0 (x4_1 : Int).toNat).toList
                                      · rw [if_pos c22] at H
                                        have c22b0 : (t102.toList == (a0.extract 0 (x4_1 : Int).toNat).toList) = true := beq_iff_eq.mpr c22
                                        have c22b1 : (t102.toList != (a0.extract 0 (x4_1 : Int).toNat).toList) = false := bne_eq_false_iff_eq.mpr c22
                                        clear c22
                                        simp only [Option.some.injEq, Prod.mk.injEq] at H
                                        obtain ⟨rfl, rfl⟩ := H
                                        try go_wp2
                                        have n0_ := Aside0.mk (below_drew1 HB.out)
                                        clear HB
                                        have HB := n0_
                                        clear n0_
                                        refine start_ (n := 10) (S := fun w' => True) (ds := []) #[false, false, false, false, false, false, false, false, false, false] (by kernel_rfl) rfl rfl trivial (fun hHeld => ?_); refine with_tabW paronymref01_Next.tab15 paronymref01_Next.bits15 (fun HT_ HW_ => ?_)
                                        generalize wr.drew = w23 at HB hHeld ⊢
                                        refine pure_ (i := 0) (N := some 45) (v := ?_) (a' := ?_) #[true, false, false, false, false, false, false, false, false, false] rfl rfl (any_of HT_.out (by kernel_rfl)) (fun _ _ _ h => h) (Or.inl ⟨by rfl, ?_⟩) ?_ ?_
                                        rotate_left
                                        · intro w'
                                          go_simp
                                          with_reducible rfl
                                        rotate_left
                                        · simp only [Act.put, List.setIfInBounds_toArray, List.set_cons_zero, List.set_cons_succ, i64_w, i32_w]
                                          rfl
                                        refine one_ (i := 1) (N := some 46) #[true, true, false, false, false, false, false, false, false, false] rfl rfl (one_of HT_.out (by kernel_rfl)) (by decide) (fun K hK => ?_)
                                        refine goes_ Try.func40 (by kernel_rfl) rfl #[.int .i64 x5_6] (by rfl) rfl rfl (by (try simp only [List.map_toArray, List.map_cons, List.map_nil]); first | done | rfl | (simp only [List.length_drop, List.length_take]; rfl)) ?_
                                        with_reducible refine (paronymref01_Scalar.calls x5_6 true _ A17.out).mono ?_
                                        rintro e w' ⟨rfl, ⟨nd, rfl⟩⟩
                                        refine ⟨_, rfl, ?_⟩
                                        refine hK.out _ _ trivial (fun hHeld => ?_)
                                        clear hK K
                                        refine norm_ (a' := ?_) ?_ ?_
                                        rotate_left
                                        · show Act.put _ (some 46) _ = _
                                          simp only [Act.put, List.setIfInBounds_toArray, List.set_cons_zero, List.set_cons_succ, i64_w, i32_w]
                                          rfl
                                        refine pure_ (i := 2) (N := some 47) (v := ?_) (a' := ?_) #[true, true, true, false, false, false, false, false, false, false] rfl rfl (any_of HT_.out (by kernel_rfl)) (fun _ _ _ h => h) (Or.inl ⟨by rfl, ?_⟩) ?_ ?_
                                        rotate_left
                                        · intro w'
                                          go_simp
                                          with_reducible rfl
                                        rotate_left
                                        · simp only [Act.put, List.setIfInBounds_toArray, List.set_cons_zero, List.set_cons_succ, i64_w, i32_w]
                                          rfl
                                        refine pure_ (i := 3) (N := some 48) (v := ?_) (a' := ?_) #[true, true, true, true, false, false, false, false, false, false] rfl rfl (any_of HT_.out (by kernel_rfl)) (fun _ _ _ h => h) (Or.inl ⟨by rfl, ?_⟩) ?_ ?_
                                        rotate_left
                                        · intro w'
                                          go_simp
                                          with_reducible rfl
                                        rotate_left
                                        · simp only [Act.put, List.setIfInBounds_toArray, List.set_cons_zero, List.set_cons_succ, i64_w, i32_w]
                                          rfl
                                        refine pure_ (i := 5) (N := some 50) (v := ?_) (a' := ?_) #[true, true, true, true, false, true, false, false, false, false] rfl rfl (any_of HT_.out (by kernel_rfl)) (fun _ _ _ h => h) (Or.inl ⟨by rfl, ?_⟩) ?_ ?_
                                        rotate_left
                                        · intro w'
                                          go_simp
                                          with_reducible rfl
                                        rotate_left
                                        · simp only [Act.put, List.setIfInBounds_toArray, List.set_cons_zero, List.set_cons_succ, i64_w, i32_w]
                                          rfl
                                        refine pure_ (i := 6) (N := some 51) (v := ?_) (a' := ?_) #[true, true, true, true, false, true, true, false, false, false] rfl rfl (any_of HT_.out (by kernel_rfl)) (fun _ _ _ h => h) (Or.inl ⟨by rfl, ?_⟩) ?_ ?_
                                        rotate_left
                                        · intro w'
                                          go_simp
                                          with_reducible rfl
                                        rotate_left
                                        · simp only [Act.put, List.setIfInBounds_toArray, List.set_cons_zero, List.set_cons_succ, i64_w, i32_w]
                                          rfl
                                        refine pure_ (i := 7) (N := some 52) (v := ?_) (a' := ?_) #[true, true, true, true, false, true, true, true, false, false] rfl rfl (any_of HT_.out (by kernel_rfl)) (fun _ _ _ h => h) (Or.inl ⟨by rfl, ?_⟩) ?_ ?_
                                        rotate_left
                                        · intro w'
                                          go_simp
                                          with_reducible rfl
                                        rotate_left
                                        · simp only [Act.put, List.setIfInBounds_toArray, List.set_cons_zero, List.set_cons_succ, i64_w, i32_w]
                                          rfl
                                        refine one_ (i := 4) (N := some 49) #[true, true, true, true, true, true, true, true, false, false] rfl rfl (one_of HT_.out (by kernel_rfl)) (by decide) (fun K hK => ?_)
                                        refine goes_ Try.func34 (by kernel_rfl) rfl #[.int .i64 x5_6] (by rfl) rfl rfl (by (try simp only [List.map_toArray, List.map_cons, List.map_nil]); first | done | rfl | (simp only [List.length_drop, List.length_take]; rfl)) ?_
                                        with_reducible refine (paronymref01_Octets.calls k6 x5_6 t102 _ A19.out).mono ?_
                                        rintro e w24 ⟨rfl, hb⟩
                                        refine ⟨_, rfl, ?_⟩
                                        have n0_ := Aside0.mk (below_step (by repeat (first | (with_reducible first | exact HB.out | apply below_alloc | apply pw_below_drewN | apply below_drew1) | exact HB.out)) hb)
                                        clear HB
                                        have HB := n0_
                                        clear n0_
                                        (try clear hb)
                                        (try clear hb2)
                                        (try clear hk)
                                        (try clear hi)
                                        refine hK.out _ _ trivial (fun hHeld => ?_)
                                        clear hK K
                                        refine norm_ (a' := ?_) ?_ ?_
                                        rotate_left
                                        · show Act.put _ (some 49) _ = _
                                          simp only [Act.put, List.setIfInBounds_toArray, List.set_cons_zero, List.set_cons_succ, i64_w, i32_w]
                                          rfl
                                        refine pure_ (i := 8) (N := some 53) (v := ?_) (a' := ?_) #[true, true, true, true, true, true, true, true, true, false] rfl rfl (any_of HT_.out (by kernel_rfl)) (fun _ _ _ h => h) (Or.inl ⟨by rfl, ?_⟩) ?_ ?_
                                        rotate_left
                                        · intro w'
                                          go_simp
                                          with_reducible rfl
                                        rotate_left
                                        · simp only [Act.put, List.setIfInBounds_toArray, List.set_cons_zero, List.set_cons_succ, i64_w, i32_w]
                                          rfl
                                        refine pure_ (i := 9) (N := some 54) (v := ?_) (a' := ?_) #[true, true, true, true, true, true, true, true, true, true] rfl rfl (any_of HT_.out (by kernel_rfl)) (fun _ _ _ h => h) (Or.inl ⟨by rfl, ?_⟩) ?_ ?_
                                        rotate_left
                                        · intro w'
                                          go_simp
                                          with_reducible rfl
                                        rotate_left
                                        · simp only [Act.put, List.setIfInBounds_toArray, List.set_cons_zero, List.set_cons_succ, i64_w, i32_w]
                                          rfl
                                        refine done_ (done_of HT_.out (by kernel_rfl)) ?_
                                        try go_wp2
                                        go_ret2
                                        exact ⟨by first | rfl | (simp [errW_none, errW_some] <;> rfl) | (simp [*, errW_none, errW_some] <;> rfl), by repeat (first | (with_reducible first | exact HB.out | apply below_alloc | apply pw_below_drewN | apply below_drew1) | exact HB.out)⟩
                                      · rw [if_neg c22] at H
                                        have c22b0 : (t102.toList == (a0.extract 0 (x4_1 : Int).toNat).toList) = false := beq_eq_false_iff_ne.mpr c22
                                        have c22b1 : (t102.toList != (a0.extract 0 (x4_1 : Int).toNat).toList) = true := bne_iff_ne.mpr c22
                                        have H' := Aside0.mk H
                                        clear H
                                        try go_wp2
                                        have n0_ := Aside0.mk (below_drew1 HB.out)
                                        clear HB
                                        have HB := n0_
                                        clear n0_
                                        refine start_ (n := 10) (S := fun w' => True) (ds := []) #[false, false, false, false, false, false, false, false, false, false] (by kernel_rfl) rfl rfl trivial (fun hHeld => ?_); refine with_tabW paronymref01_Next.tab15 paronymref01_Next.bits15 (fun HT_ HW_ => ?_)
                                        generalize wr.drew = w25 at HB hHeld ⊢
                                        refine pure_ (i := 0) (N := some 45) (v := ?_) (a' := ?_) #[true, false, false, false, false, false, false, false, false, false] rfl rfl (any_of HT_.out (by kernel_rfl)) (fun _ _ _ h => h) (Or.inl ⟨by rfl, ?_⟩) ?_ ?_
                                        rotate_left
                                        · intro w'
                                          go_simp
                                          with_reducible rfl
                                        rotate_left
                                        · simp only [Act.put, List.setIfInBounds_toArray, List.set_cons_zero, List.set_cons_succ, i64_w, i32_w]
                                          rfl
                                        refine one_ (i := 1) (N := some 46) #[true, true, false, false, false, false, false, false, false, false] rfl rfl (one_of HT_.out (by kernel_rfl)) (by decide) (fun K hK => ?_)
                                        refine goes_ Try.func40 (by kernel_rfl) rfl #[.int .i64 x5_6] (by rfl) rfl rfl (by (try simp only [List.map_toArray, List.map_cons, List.map_nil]); first | done | rfl | (simp only [List.length_drop, List.length_take]; rfl)) ?_
                                        with_reducible refine (paronymref01_Scalar.calls x5_6 true _ A17.out).mono ?_
                                        rintro e w' ⟨rfl, ⟨nd, rfl⟩⟩
                                        refine ⟨_, rfl, ?_⟩
                                        refine hK.out _ _ trivial (fun hHeld => ?_)
                                        clear hK K
                                        refine norm_ (a' := ?_) ?_ ?_
                                        rotate_left
                                        · show Act.put _ (some 46) _ = _
                                          simp only [Act.put, List.setIfInBounds_toArray, List.set_cons_zero, List.set_cons_succ, i64_w, i32_w]
                                          rfl
                                        refine pure_ (i := 2) (N := some 47) (v := ?_) (a' := ?_) #[true, true, true, false, false, false, false, false, false, false] rfl rfl (any_of HT_.out (by kernel_rfl)) (fun _ _ _ h => h) (Or.inl ⟨by rfl, ?_⟩) ?_ ?_
                                        rotate_left
                                        · intro w'
                                          go_simp
                                          with_reducible rfl
                                        rotate_left
                                        · simp only [Act.put, List.setIfInBounds_toArray, List.set_cons_zero, List.set_cons_succ, i64_w, i32_w]
                                          rfl
                                        refine pure_ (i := 3) (N := some 48) (v := ?_) (a' := ?_) #[true, true, true, true, false, false, false, false, false, false] rfl rfl (any_of HT_.out (by kernel_rfl)) (fun _ _ _ h => h) (Or.inl ⟨by rfl, ?_⟩) ?_ ?_
                                        rotate_left
                                        · intro w'
                                          go_simp
                                          with_reducible rfl
                                        rotate_left
                                        · simp only [Act.put, List.setIfInBounds_toArray, List.set_cons_zero, List.set_cons_succ, i64_w, i32_w]
                                          rfl
                                        refine pure_ (i := 5) (N := some 50) (v := ?_) (a' := ?_) #[true, true, true, true, false, true, false, false, false, false] rfl rfl (any_of HT_.out (by kernel_rfl)) (fun _ _ _ h => h) (Or.inl ⟨by rfl, ?_⟩) ?_ ?_
                                        rotate_left
                                        · intro w'
                                          go_simp
                                          with_reducible rfl
                                        rotate_left
                                        · simp only [Act.put, List.setIfInBounds_toArray, List.set_cons_zero, List.set_cons_succ, i64_w, i32_w]
                                          rfl
                                        refine pure_ (i := 6) (N := some 51) (v := ?_) (a' := ?_) #[true, true, true, true, false, true, true, false, false, false] rfl rfl (any_of HT_.out (by kernel_rfl)) (fun _ _ _ h => h) (Or.inl ⟨by rfl, ?_⟩) ?_ ?_
                                        rotate_left
                                        · intro w'
                                          go_simp
                                          with_reducible rfl
                                        rotate_left
                                        · simp only [Act.put, List.setIfInBounds_toArray, List.set_cons_zero, List.set_cons_succ, i64_w, i32_w]
                                          rfl
                                        refine pure_ (i := 7) (N := some 52) (v := ?_) (a' := ?_) #[true, true, true, true, false, true, true, true, false, false] rfl rfl (any_of HT_.out (by kernel_rfl)) (fun _ _ _ h => h) (Or.inl ⟨by rfl, ?_⟩) ?_ ?_
                                        rotate_left
                                        · intro w'
                                          go_simp
                                          with_reducible rfl
                                        rotate_left
                                        · simp only [Act.put, List.setIfInBounds_toArray, List.set_cons_zero, List.set_cons_succ, i64_w, i32_w]
                                          rfl
                                        refine one_ (i := 4) (N := some 49) #[true, true, true, true, true, true, true, true, false, false] rfl rfl (one_of HT_.out (by kernel_rfl)) (by decide) (fun K hK => ?_)
                                        refine goes_ Try.func34 (by kernel_rfl) rfl #[.int .i64 x5_6] (by rfl) rfl rfl (by (try simp only [List.map_toArray, List.map_cons, List.map_nil]); first | done | rfl | (simp only [List.length_drop, List.length_take]; rfl)) ?_
                                        with_reducible refine (paronymref01_Octets.calls k6 x5_6 t102 _ A19.out).mono ?_
                                        rintro e w26 ⟨rfl, hb⟩
                                        refine ⟨_, rfl, ?_⟩
                                        have n0_ := Aside0.mk (below_step (by repeat (first | (with_reducible first | exact HB.out | apply below_alloc | apply pw_below_drewN | apply below_drew1) | exact HB.out)) hb)
                                        clear HB
                                        have HB := n0_
                                        clear n0_
                                        (try clear hb)
                                        (try clear hb2)
                                        (try clear hk)
                                        (try clear hi)
                                        refine hK.out _ _ trivial (fun hHeld => ?_)
                                        clear hK K
                                        refine norm_ (a' := ?_) ?_ ?_
                                        rotate_left
                                        · show Act.put _ (some 49) _ = _
                                          simp only [Act.put, List.setIfInBounds_toArray, List.set_cons_zero, List.set_cons_succ, i64_w, i32_w]
                                          rfl
                                        refine pure_ (i := 8) (N := some 53) (v := ?_) (a' := ?_) #[true, true, true, true, true, true, true, true, true, false] rfl rfl (any_of HT_.out (by kernel_rfl)) (fun _ _ _ h => h) (Or.inl ⟨by rfl, ?_⟩) ?_ ?_
                                        rotate_left
                                        · intro w'
                                          go_simp
                                          with_reducible rfl
                                        rotate_left
                                        · simp only [Act.put, List.setIfInBounds_toArray, List.set_cons_zero, List.set_cons_succ, i64_w, i32_w]
                                          rfl
                                        refine pure_ (i := 9) (N := some 54) (v := ?_) (a' := ?_) #[true, true, true, true, true, true, true, true, true, true] rfl rfl (any_of HT_.out (by kernel_rfl)) (fun _ _ _ h => h) (Or.inl ⟨by rfl, ?_⟩) ?_ ?_
                                        rotate_left
                                        · intro w'
                                          go_simp
                                          with_reducible rfl
                                        rotate_left
                                        · simp only [Act.put, List.setIfInBounds_toArray, List.set_cons_zero, List.set_cons_succ, i64_w, i32_w]
                                          rfl
                                        refine done_ (done_of HT_.out (by kernel_rfl)) ?_
                                        try go_wp2
                                        go_roundg k6
                                        case measure => have := HK1.out; have := HJ1.out; have := HJ6.out; have := HJ8.out; have := HJ10.out; have := HK6.out; omega
                                        case rel => exact ⟨(wrap64 (x4_1 + 1)), (by first | rfl | (simp; done) | (simp [*]; done)), H', ⟨by have := HK1.out; have := HJ1.out; have := HJ6.out; have := HJ8.out; have := HJ10.out; have := HK6.out; omega⟩, ⟨by repeat (first | (with_reducible first | exact HB.out | apply below_alloc | apply pw_below_drewN | apply below_drew1) | exact HB.out)⟩⟩
                                    · rw [if_neg c21] at H
                                      exact absurd H (by simp)
                                  · rw [if_neg c20] at H
                                    exact absurd H (by simp)
                                · replace c18 := Bool.eq_false_iff.mpr c18
                                  subst c18
                                  have H1 : (paronymref01_Next.l0 k6 a0 (wrap64 (x4_1 + 1))) = some (r1, r2) := by rw [if_neg (show ¬ (false = true) by decide)] at H; exact H
                                  clear H
                                  have H := H1
                                  clear H1
                                  have H' := Aside0.mk H
                                  clear H
                                  try go_wp2
                                  have n0_ := Aside0.mk (below_drew1 HB.out)
                                  clear HB
                                  have HB := n0_
                                  clear n0_
                                  refine start_ (n := 10) (S := fun w' => True) (ds := []) #[false, false, false, false, false, false, false, false, false, false] (by kernel_rfl) rfl rfl trivial (fun hHeld => ?_); refine with_tabW paronymref01_Next.tab15 paronymref01_Next.bits15 (fun HT_ HW_ => ?_)
                                  generalize wr.drew = w27 at HB hHeld ⊢
                                  refine pure_ (i := 0) (N := some 45) (v := ?_) (a' := ?_) #[true, false, false, false, false, false, false, false, false, false] rfl rfl (any_of HT_.out (by kernel_rfl)) (fun _ _ _ h => h) (Or.inl ⟨by rfl, ?_⟩) ?_ ?_
                                  rotate_left
                                  · intro w'
                                    go_simp
                                    with_reducible rfl
                                  rotate_left
                                  · simp only [Act.put, List.setIfInBounds_toArray, List.set_cons_zero, List.set_cons_succ, i64_w, i32_w]
                                    rfl
                                  refine one_ (i := 1) (N := some 46) #[true, true, false, false, false, false, false, false, false, false] rfl rfl (one_of HT_.out (by kernel_rfl)) (by decide) (fun K hK => ?_)
                                  refine goes_ Try.func40 (by kernel_rfl) rfl #[.int .i64 x5_6] (by rfl) rfl rfl (by (try simp only [List.map_toArray, List.map_cons, List.map_nil]); first | done | rfl | (simp only [List.length_drop, List.length_take]; rfl)) ?_
                                  with_reducible refine (paronymref01_Scalar.calls x5_6 false _ A17.out).mono ?_
                                  rintro e w' ⟨rfl, ⟨nd, rfl⟩⟩
                                  refine ⟨_, rfl, ?_⟩
                                  refine hK.out _ _ trivial (fun hHeld => ?_)
                                  clear hK K
                                  refine norm_ (a' := ?_) ?_ ?_
                                  rotate_left
                                  · show Act.put _ (some 46) _ = _
                                    simp only [Act.put, List.setIfInBounds_toArray, List.set_cons_zero, List.set_cons_succ, i64_w, i32_w]
                                    rfl
                                  refine pure_ (i := 2) (N := some 47) (v := ?_) (a' := ?_) #[true, true, true, false, false, false, false, false, false, false] rfl rfl (any_of HT_.out (by kernel_rfl)) (fun _ _ _ h => h) (Or.inl ⟨by rfl, ?_⟩) ?_ ?_
                                  rotate_left
                                  · intro w'
                                    go_simp
                                    with_reducible rfl
                                  rotate_left
                                  · simp only [Act.put, List.setIfInBounds_toArray, List.set_cons_zero, List.set_cons_succ, i64_w, i32_w]
                                    rfl
                                  refine pure_ (i := 3) (N := some 48) (v := undef) (a' := ?_) #[true, true, true, true, false, false, false, false, false, false] rfl rfl (any_of HT_.out (by kernel_rfl)) (fun _ _ _ h => h) (Or.inr ⟨by rfl, rfl⟩) ?_ ?_
                                  rotate_left
                                  · simp only [Act.put, List.setIfInBounds_toArray, List.set_cons_zero, List.set_cons_succ, i64_w, i32_w]
                                    rfl
                                  refine pure_ (i := 4) (N := some 49) (v := undef) (a' := ?_) #[true, true, true, true, true, false, false, false, false, false] rfl rfl (any_of HT_.out (by kernel_rfl)) (fun _ _ _ h => h) (Or.inr ⟨by rfl, rfl⟩) ?_ ?_
                                  rotate_left
                                  · simp only [Act.put, List.setIfInBounds_toArray, List.set_cons_zero, List.set_cons_succ, i64_w, i32_w]
                                    rfl
                                  refine pure_ (i := 5) (N := some 50) (v := undef) (a' := ?_) #[true, true, true, true, true, true, false, false, false, false] rfl rfl (any_of HT_.out (by kernel_rfl)) (fun _ _ _ h => h) (Or.inr ⟨by rfl, rfl⟩) ?_ ?_
                                  rotate_left
                                  · simp only [Act.put, List.setIfInBounds_toArray, List.set_cons_zero, List.set_cons_succ, i64_w, i32_w]
                                    rfl
                                  refine pure_ (i := 6) (N := some 51) (v := undef) (a' := ?_) #[true, true, true, true, true, true, true, false, false, false] rfl rfl (any_of HT_.out (by kernel_rfl)) (fun _ _ _ h => h) (Or.inr ⟨by rfl, rfl⟩) ?_ ?_
                                  rotate_left
                                  · simp only [Act.put, List.setIfInBounds_toArray, List.set_cons_zero, List.set_cons_succ, i64_w, i32_w]
                                    rfl
                                  refine pure_ (i := 7) (N := some 52) (v := undef) (a' := ?_) #[true, true, true, true, true, true, true, true, false, false] rfl rfl (any_of HT_.out (by kernel_rfl)) (fun _ _ _ h => h) (Or.inr ⟨by rfl, rfl⟩) ?_ ?_
                                  rotate_left
                                  · simp only [Act.put, List.setIfInBounds_toArray, List.set_cons_zero, List.set_cons_succ, i64_w, i32_w]
                                    rfl
                                  refine pure_ (i := 8) (N := some 53) (v := undef) (a' := ?_) #[true, true, true, true, true, true, true, true, true, false] rfl rfl (any_of HT_.out (by kernel_rfl)) (fun _ _ _ h => h) (Or.inr ⟨by rfl, rfl⟩) ?_ ?_
                                  rotate_left
                                  · simp only [Act.put, List.setIfInBounds_toArray, List.set_cons_zero, List.set_cons_succ, i64_w, i32_w]
                                    rfl
                                  refine pure_ (i := 9) (N := some 54) (v := ?_) (a' := ?_) #[true, true, true, true, true, true, true, true, true, true] rfl rfl (any_of HT_.out (by kernel_rfl)) (fun _ _ _ h => h) (Or.inl ⟨by rfl, ?_⟩) ?_ ?_
                                  rotate_left
                                  · intro w'
                                    go_simp
                                    with_reducible rfl
                                  rotate_left
                                  · simp only [Act.put, List.setIfInBounds_toArray, List.set_cons_zero, List.set_cons_succ, i64_w, i32_w]
                                    rfl
                                  refine done_ (done_of HT_.out (by kernel_rfl)) ?_
                                  try go_wp2
                                  go_roundg k6
                                  case measure => have := HK1.out; have := HJ1.out; have := HJ6.out; have := HJ8.out; have := HJ10.out; have := HK6.out; omega
                                  case rel => exact ⟨(wrap64 (x4_1 + 1)), (by first | rfl | (simp; done) | (simp [*]; done)), H', ⟨by have := HK1.out; have := HJ1.out; have := HJ6.out; have := HJ8.out; have := HJ10.out; have := HK6.out; omega⟩, ⟨by repeat (first | (with_reducible first | exact HB.out | apply below_alloc | apply pw_below_drewN | apply below_drew1) | exact HB.out)⟩⟩
            · rw [if_neg c5] at H
              exact absurd H (by simp)
          · replace c4 := Bool.eq_false_iff.mpr c4
            subst c4
            have H1 : (some (0, 0)) = some (r1, r2) := by rw [if_neg (show ¬ (false = true) by decide)] at H; exact H
            clear H
            have H := H1
            clear H1
            simp only [Option.some.injEq, Prod.mk.injEq] at H
            obtain ⟨rfl, rfl⟩ := H
            go_wp2
            go_ret2
            exact ⟨by first | rfl | (simp [errW_none, errW_some] <;> rfl) | (simp [*, errW_none, errW_some] <;> rfl), by repeat (first | (with_reducible first | exact HB.out | apply below_alloc | apply pw_below_drewN | apply below_drew1) | exact HB.out)⟩

end Go.Proofs.Ytooiajkbpkfplaa.Q

-- from Putf
/- UTF-8 on lists of numbers: oct c are a scalar's octets; what the program's and the reference's Octets, Encode, next come to. -/
namespace Go.Proofs.Ytooiajkbpkfplaa.K
set_option linter.unusedVariables false
set_option linter.unusedSimpArgs false
open Go.RowKit Go.Proofs.YtooiajkbpkfplaaW.PrintWords Go.Proofs.YtooiajkbpkfplaaW.PrintMore Go.Proofs.Ytooiajkbpkfplaa.Q

theorem wraps_i64 (n : Int) (h₀ : 0 ≤ n) (h₁ : n < 2 ^ 40) : IntKind.i64.wrap n = n := by rw [IntKind.wrap_i64]; omega
theorem and63 {x : Int} (h0 : 0 ≤ x) (h1 : x < 1099511627776) : Go.bits .and .i64 x 63 = x % 64 := bits_mask .i64 40 (by decide) wraps_i64 6 (by decide) x h0 h1
theorem or_join {x y : Int} (i : Nat) (hx0 : 0 ≤ x) (hx : x % 2 ^ i = 0) (hx1 : x < 1099511627776) (hy0 : 0 ≤ y) (hy : y < 2 ^ i) (hy1 : y < 1099511627776) : Go.bits .or .i64 x y = x + y := bits_join .i64 40 (by decide) wraps_i64 i x y hx0 hx hx1 hy0 hy hy1
theorem or128 {y : Int} (h0 : 0 ≤ y) (h1 : y < 64) : Go.bits .or .i64 128 y = 128 + y := or_join 6 (by decide) (by decide) (by decide) h0 h1 (by omega)
theorem or192 {y : Int} (h0 : 0 ≤ y) (h1 : y < 32) : Go.bits .or .i64 192 y = 192 + y := or_join 5 (by decide) (by decide) (by decide) h0 h1 (by omega)
theorem or224 {y : Int} (h0 : 0 ≤ y) (h1 : y < 16) : Go.bits .or .i64 224 y = 224 + y := or_join 4 (by decide) (by decide) (by decide) h0 h1 (by omega)
theorem or240 {y : Int} (h0 : 0 ≤ y) (h1 : y < 8) : Go.bits .or .i64 240 y = 240 + y := or_join 3 (by decide) (by decide) (by decide) h0 h1 (by omega)
def oct (c : Int) : List Int :=
  if c < 128 then [c] else if c < 2048 then [192 + c / 64, 128 + c % 64] else if c < 65536 then [224 + c / 4096, 128 + c / 64 % 64, 128 + c % 64] else [240 + c / 262144, 128 + c / 4096 % 64, 128 + c / 64 % 64, 128 + c % 64]
theorem scalar_iff (c : Int) : scalar c = true ↔ 0 ≤ c ∧ c ≤ 1114111 ∧ (c < 55296 ∨ 57343 < c) := by
  unfold scalar
  simp [Bool.and_eq_true, Bool.or_eq_true]
theorem oct_is {c : Int} (h0 : 0 ≤ c) (h1 : c ≤ 1114111) : utf_octets.f c = some (oct c) := by
  unfold utf_octets.f oct
  by_cases a : c < 128
  · rw [if_pos a, if_pos a]
    have : c % 256 = c := by omega
    rw [this]
  · rw [if_neg a, if_neg a]
    by_cases b : c < 2048
    · rw [if_pos b, if_pos b, and63 (by omega) (by omega), or192 (by omega) (by omega), or128 (by omega) (by omega)]
      have e1 : (192 + c / 64) % 256 = 192 + c / 64 := by omega
      have e2 : (128 + c % 64) % 256 = 128 + c % 64 := by omega
      rw [e1, e2]
    · rw [if_neg b, if_neg b]
      by_cases d : c < 65536
      · rw [if_pos d, if_pos d, and63 (by omega) (by omega), and63 (by omega) (by omega), or224 (by omega) (by omega), or128 (by omega) (by omega), or128 (by omega) (by omega)]
        have e1 : (224 + c / 4096) % 256 = 224 + c / 4096 := by omega
        have e2 : (128 + c / 64 % 64) % 256 = 128 + c / 64 % 64 := by omega
        have e3 : (128 + c % 64) % 256 = 128 + c % 64 := by omega
        rw [e1, e2, e3]
      · rw [if_neg d, if_neg d, and63 (by omega) (by omega), and63 (by omega) (by omega), and63 (by omega) (by omega), or240 (by omega) (by omega), or128 (by omega) (by omega), or128 (by omega) (by omega), or128 (by omega) (by omega)]
        have e1 : (240 + c / 262144) % 256 = 240 + c / 262144 := by omega
        have e2 : (128 + c / 4096 % 64) % 256 = 128 + c / 4096 % 64 := by omega
        have e3 : (128 + c / 64 % 64) % 256 = 128 + c / 64 % 64 := by omega
        have e4 : (128 + c % 64) % 256 = 128 + c % 64 := by omega
        rw [e1, e2, e3, e4]
theorem oct_oct {c : Int} (h0 : 0 ≤ c) (h1 : c ≤ 1114111) : Oct (oct c) := by
  intro x hx
  unfold oct at hx
  split at hx
  · simp at hx; omega
  · split at hx
    · simp at hx; omega
    · split at hx
      · simp at hx; omega
      · simp at hx; omega
theorem oct_len {c : Int} (h0 : 0 ≤ c) (h1 : c ≤ 1114111) : 1 ≤ (oct c).length ∧ (oct c).length ≤ 4 := by
  unfold oct
  split
  · simp
  · split
    · simp
    · split <;> simp

/-! the reference's Octets -/
theorem refOctets_ev {c : Int} (h0 : 0 ≤ c) (h1 : c ≤ 1114111) : Ev (fun k => paronymref01_Octets.f k c) (strOfNums (oct c)) := by
  unfold paronymref01_Octets.f oct
  have nil : (⟨#[]⟩ : ByteArray) = strOfNums [] := rfl
  have td : ∀ x : Int, 0 ≤ x → Int.tdiv x 64 = x / 64 := fun x hx => Int.tdiv_eq_ediv_of_nonneg hx
  have tm : ∀ x : Int, 0 ≤ x → Int.tmod x 64 = x % 64 := fun x hx => Int.tmod_eq_emod_of_nonneg hx
  have t2 : ∀ x : Int, 0 ≤ x → Int.tdiv x 2 = x / 2 := fun x hx => Int.tdiv_eq_ediv_of_nonneg hx
  by_cases a : c < 128
  · refine Ev.pos a (Ev.ret ?_)
    rw [if_pos a]
    have : c % 256 = c := by omega
    rw [this]
  · refine Ev.neg a ?_
    rw [if_neg a, nil]
    have e0 : wrap64 (128 + Int.tmod c 64) % 256 = 128 + c % 64 := by rw [tm c h0, w64 (by omega) (by omega)]; omega
    have d0 : wrap64 (Int.tdiv c 64) = c / 64 := by rw [td c h0, w64 (by omega) (by omega)]
    refine Ev.step (fun k => rfl) (Ev.pos (by omega) (Ev.bindS rfl (Ev.pos (by simp [size_str]) (Ev.pos rfl ?_))))
    rw [e0, d0, str_append]
    by_cases b : c < 2048
    · rw [if_pos b]
      refine Ev.step (fun k => rfl) (Ev.neg (by omega) (Ev.bindS rfl (Ev.pos (by simp [size_str]) (Ev.ret ?_))))
      have : wrap64 (192 + c / 64) % 256 = 192 + c / 64 := by rw [w64 (by omega) (by omega)]; omega
      rw [this, str_append]; rfl
    · rw [if_neg b]
      have e1 : wrap64 (128 + Int.tmod (c / 64) 64) % 256 = 128 + c / 64 % 64 := by rw [tm _ (by omega), w64 (by omega) (by omega)]; omega
      have d1 : wrap64 (Int.tdiv (c / 64) 64) = c / 4096 := by rw [td _ (by omega), w64 (by omega) (by omega)]; omega
      have l1 : wrap64 (Int.tdiv 32 2) = 16 := by decide +kernel
      have f1 : wrap64 (192 + 32) = 224 := by decide +kernel
      refine Ev.step (fun k => rfl) (Ev.pos (by omega) (Ev.bindS rfl (Ev.pos (by simp [size_str]) (Ev.neg (by decide) ?_))))
      rw [e1, d1, l1, f1, str_append]
      by_cases d : c < 65536
      · rw [if_pos d]
        refine Ev.step (fun k => rfl) (Ev.neg (by omega) (Ev.bindS rfl (Ev.pos (by simp [size_str]) (Ev.ret ?_))))
        have : wrap64 (224 + c / 4096) % 256 = 224 + c / 4096 := by rw [w64 (by omega) (by omega)]; omega
        rw [this, str_append]; rfl
      · rw [if_neg d]
        have e2 : wrap64 (128 + Int.tmod (c / 4096) 64) % 256 = 128 + c / 4096 % 64 := by rw [tm _ (by omega), w64 (by omega) (by omega)]; omega
        have d2 : wrap64 (Int.tdiv (c / 4096) 64) = c / 262144 := by rw [td _ (by omega), w64 (by omega) (by omega)]; omega
        have l2 : wrap64 (Int.tdiv 16 2) = 8 := by decide +kernel
        have f2 : wrap64 (224 + 16) = 240 := by decide +kernel
        refine Ev.step (fun k => rfl) (Ev.pos (by omega) (Ev.bindS rfl (Ev.pos (by simp [size_str]) (Ev.neg (by decide) ?_))))
        rw [e2, d2, l2, f2, str_append]
        refine Ev.step (fun k => rfl) (Ev.neg (by omega) (Ev.bindS rfl (Ev.pos (by simp [size_str]) (Ev.ret ?_))))
        have : wrap64 (240 + c / 262144) % 256 = 240 + c / 262144 := by rw [w64 (by omega) (by omega)]; omega
        rw [this, str_append]; rfl

/-! Encode -/
def enc (s : List Int) : List Int := (s.map oct).flatten
theorem enc_snoc (s : List Int) (c : Int) : enc (s ++ [c]) = enc s ++ oct c := by simp [enc]
theorem enc_append (s t : List Int) : enc (s ++ t) = enc s ++ enc t := by simp [enc]
theorem enc_cons (c : Int) (s : List Int) : enc (c :: s) = oct c ++ enc s := by simp [enc]
theorem enc_oct : ∀ {s : List Int}, s.all scalar = true → Oct (enc s)
  | [], _ => by intro x hx; simp [enc] at hx
  | c :: s, h => by
    rw [List.all_cons, Bool.and_eq_true] at h
    have hc := (scalar_iff c).1 h.1
    rw [enc_cons]
    exact (oct_oct hc.1 hc.2.1).append (enc_oct h.2)
theorem enc_len : ∀ {s : List Int}, s.all scalar = true → s.length ≤ (enc s).length ∧ (enc s).length ≤ 4 * s.length
  | [], _ => by simp [enc]
  | c :: s, h => by
    rw [List.all_cons, Bool.and_eq_true] at h
    have hc := (scalar_iff c).1 h.1
    have hl := oct_len hc.1 hc.2.1
    have ih := enc_len h.2
    rw [enc_cons, List.length_append, List.length_cons]
    omega
theorem take_all {s : List Int} (h : s.all scalar = true) (i : Nat) : (s.take i).all scalar = true := by
  rw [List.all_eq_true] at h ⊢
  exact fun x hx => h x (List.mem_of_mem_take hx)
theorem all_drop {s : List Int} (i : Nat) (hi : i < s.length) : (s.drop i).all scalar = (scalar (rd s i) && (s.drop (i + 1)).all scalar) := by
  rw [drop_cons s i hi, List.all_cons]
theorem Encode_ev (s : List Int) (hl : s.length ≤ 1048576) : Ev (fun k => utf_Encode.f k s) (if s.all scalar = true then (enc s, true) else ([], false)) := by
  have key : ∀ (d i : Nat), s.length - i = d → i ≤ s.length → (s.take i).all scalar = true → Ev (fun k => utf_Encode.l0 k (enc (s.take i)) s (s.length : Int) i) (if (s.drop i).all scalar = true then (enc s, true) else ([], false)) := by
    intro d
    induction d with
    | zero =>
      intro i h1 h2 h3
      have : i = s.length := by omega
      subst this
      refine Ev.step (fun k => rfl) (Ev.neg (by omega) (Ev.ret ?_))
      simp
    | succ d ih =>
      intro i h1 h2 h3
      have hi : i < s.length := by omega
      refine Ev.step (fun k => rfl) (Ev.pos (by omega) (Ev.pos (by omega) (Ev.pos (by omega) (Ev.bindS (utf_Scalar_is _) ?_))))
      rw [all_drop i hi]
      cases hs : scalar (rd s i) with
      | false => exact Ev.neg (by decide) (Ev.ret (by simp))
      | true =>
        have hc := (scalar_iff _).1 hs
        have hlen := (enc_len h3).2
        have htl : (s.take i).length ≤ 1048576 := by rw [List.length_take]; omega
        have hol := (oct_len hc.1 hc.2.1).2
        refine Ev.pos rfl (Ev.bindS (oct_is hc.1 hc.2.1) (Ev.pos (by omega) ?_))
        rw [← enc_snoc, ← take_snoc s i hi, w64 (by omega) (by omega)]
        have ht : (s.take (i + 1)).all scalar = true := by
          rw [take_snoc s i hi, List.all_append, h3]; simp [hs]
        have := ih (i + 1) (by omega) (by omega) ht
        simpa using this
  have := key s.length 0 (by omega) (by omega) (by simp)
  unfold utf_Encode.f
  simpa [enc] using this
theorem refScalar_is (c : Int) : paronymref01_Scalar.f c = some (scalar c) := utf_Scalar_is c
theorem refEncode_ev (s : List Int) (hl : s.length ≤ 1048576) : Ev (fun k => paronymref01_Encode.f k s) (if s.all scalar = true then (strOfNums (enc s), true) else (⟨#[]⟩, false)) := by
  have key : ∀ (d i : Nat), s.length - i = d → i ≤ s.length → (s.take i).all scalar = true → Ev (fun k => paronymref01_Encode.l0 k s (strOfNums (enc (s.take i))) i) (if (s.drop i).all scalar = true then (strOfNums (enc s), true) else (⟨#[]⟩, false)) := by
    intro d
    induction d with
    | zero =>
      intro i h1 h2 h3
      have : i = s.length := by omega
      subst this
      refine Ev.step (fun k => rfl) (Ev.neg (by omega) (Ev.ret ?_))
      simp
    | succ d ih =>
      intro i h1 h2 h3
      have hi : i < s.length := by omega
      refine Ev.step (fun k => rfl) (Ev.pos (by omega) (Ev.pos (by omega) (Ev.bindS (refScalar_is _) ?_)))
      rw [all_drop i hi]
      cases hs : scalar (rd s i) with
      | false => exact Ev.neg (by decide) (Ev.ret (by simp))
      | true =>
        have hc := (scalar_iff _).1 hs
        have hlen := (enc_len h3).2
        have htl : (s.take i).length ≤ 1048576 := by rw [List.length_take]; omega
        have hol := (oct_len hc.1 hc.2.1).2
        refine Ev.pos rfl (Ev.bind (refOctets_ev hc.1 hc.2.1) (Ev.pos (by rw [size_str, size_str]; omega) ?_))
        rw [str_append, ← enc_snoc, ← take_snoc s i hi, w64 (by omega) (by omega)]
        have ht : (s.take (i + 1)).all scalar = true := by
          rw [take_snoc s i hi, List.all_append, h3]; simp [hs]
        have := ih (i + 1) (by omega) (by omega) ht
        simpa using this
  have := key s.length 0 (by omega) (by omega) (by simp)
  unfold paronymref01_Encode.f
  rw [List.take_zero, List.drop_zero] at this
  exact this

/-! Compare, Same -/
def cmpL : List Int → List Int → Int
  | [], [] => 0
  | [], _ :: _ => -1
  | _ :: _, [] => 1
  | x :: l, y :: m => if x < y then -1 else if x > y then 1 else cmpL l m
theorem cmpL_zero : ∀ (l m : List Int), cmpL l m = 0 ↔ l = m
  | [], [] => by simp [cmpL]
  | [], _ :: _ => by simp [cmpL]
  | _ :: _, [] => by simp [cmpL]
  | x :: l, y :: m => by
    unfold cmpL
    by_cases a : x < y
    · rw [if_pos a]; simp; omega
    · rw [if_neg a]
      by_cases b : x > y
      · rw [if_pos b]; simp; omega
      · rw [if_neg b, cmpL_zero l m]
        have : x = y := by omega
        simp [this]
theorem refCompare_ev (l m : List Int) (hl : l.length ≤ 1099511627776) (hm : m.length ≤ 1099511627776) : Ev (fun k => paronymref01_Compare.f k l m) (cmpL l m) := by
  have key : ∀ (d i : Nat), l.length - i = d → i ≤ l.length → i ≤ m.length → Ev (fun k => paronymref01_Compare.l0 k l m i) (cmpL (l.drop i) (m.drop i)) := by
    have hend : ∀ i : Nat, i ≤ l.length → i ≤ m.length → (i = l.length ∨ i = m.length) → ∀ b : Bool, b = false → Ev (fun k => paronymref01_Compare.j1 k l m i b) (cmpL (l.drop i) (m.drop i)) := by
      intro i h1 h2 h3 b hb
      refine Ev.step (fun k => rfl) (Ev.neg (by simp [hb]) ?_)
      by_cases a : l.length < m.length
      · have e : i = l.length := by omega
        subst e
        rw [List.drop_length, drop_cons m l.length a]
        exact Ev.pos (by omega) (Ev.ret (by simp [cmpL]))
      · by_cases b : m.length < l.length
        · have e : i = m.length := by omega
          subst e
          rw [List.drop_length, drop_cons l m.length b]
          exact Ev.neg (by omega) (Ev.pos (by omega) (Ev.ret (by simp [cmpL])))
        · have e : i = l.length := by omega
          have e2 : i = m.length := by omega
          rw [List.drop_of_length_le (by omega), List.drop_of_length_le (by omega)]
          exact Ev.neg (by omega) (Ev.neg (by omega) (Ev.ret (by simp [cmpL])))
    intro d
    induction d with
    | zero =>
      intro i h1 h2 h3
      exact Ev.step (fun k => rfl) (Ev.neg (by omega) (hend i h2 h3 (.inl (by omega)) false rfl))
    | succ d ih =>
      intro i h1 h2 h3
      have hi : i < l.length := by omega
      refine Ev.step (fun k => rfl) (Ev.pos (by omega) ?_)
      by_cases a : i < m.length
      · have e : decide ((i : Int) < (m.length : Int)) = true := by simpa using a
        refine Ev.step (fun k => rfl) (Ev.pos e (Ev.pos (by omega) (Ev.pos (by omega) (Ev.pos (by omega) ?_))))
        rw [drop_cons l i hi, drop_cons m i a]
        unfold cmpL
        by_cases b : rd l i < rd m i
        · exact Ev.pos b (Ev.ret (if_pos b).symm)
        · refine Ev.neg b ?_
          rw [show (if rd l i < rd m i then (-1 : Int) else if rd l i > rd m i then 1 else cmpL (l.drop (i + 1)) (m.drop (i + 1))) = (if rd l i > rd m i then 1 else cmpL (l.drop (i + 1)) (m.drop (i + 1))) from if_neg b]
          by_cases c : rd l i > rd m i
          · exact Ev.pos c (Ev.ret (if_pos c).symm)
          · rw [show (if rd l i > rd m i then (1 : Int) else cmpL (l.drop (i + 1)) (m.drop (i + 1))) = cmpL (l.drop (i + 1)) (m.drop (i + 1)) from if_neg c]
            refine Ev.neg c ?_
            rw [w64 (by omega) (by omega)]
            exact ih (i + 1) (by omega) (by omega) (by omega)
      · have e : decide ((i : Int) < (m.length : Int)) = false := by simpa using a
        exact hend i h2 h3 (.inr (by omega)) _ e
  have := key l.length 0 (by omega) (by omega) (by omega)
  unfold paronymref01_Compare.f
  simpa using this
theorem refSame_ev (l m : List Int) (hl : l.length ≤ 1099511627776) (hm : m.length ≤ 1099511627776) : Ev (fun k => paronymref01_Same.f k l m) (decide (l = m)) := by
  unfold paronymref01_Same.f
  refine Ev.bind (refCompare_ev l m hl hm) (Ev.ret ?_)
  rw [Bool.eq_iff_iff]
  simp [cmpL_zero]

end Go.Proofs.Ytooiajkbpkfplaa.K

-- from Qf32
-- Made by hp.py, a program of this session, with the kit's printer. Not trusted: Lean checks it.
namespace Go.Proofs.Ytooiajkbpkfplaa.Q
open Go.RowKit Go.Proofs.YtooiajkbpkfplaaW.PrintWords Go.Proofs.YtooiajkbpkfplaaW.PrintLast Go.Proofs.YtooiajkbpkfplaaW.PrintMore
attribute [local go_sem] max2_int min2_int max_two min_two max_three min_three max_four min_four   -- for this text's walks alone
set_option linter.unusedVariables false
set_option linter.unusedSimpArgs false

/-! ### paronymref01_Decode: function 32 -/
def paronymref01_Decode.l0 : Nat → ByteArray → List Int → Int → Option (List Int × Int)
  | 0, _, _, _ => none
  | k + 1, x0, x4, x5 => if x5 < (x0.size : Int) then (if 0 ≤ x5 then (if x5 ≤ (x0.size : Int) then ((paronymref01_Next.f k (x0.extract (x5 : Int).toNat x0.size)).bind fun bt101 => (if bt101.2 = 0 then (some (x4, x5)) else (if x4.length < 17592186044416 then (paronymref01_Decode.l0 k x0 (x4 ++ [bt101.1]) (wrap64 (x5 + bt101.2))) else (none)))) else (none)) else (none)) else (some (x4, x5))
def paronymref01_Decode.f (k : Nat) (a0 : ByteArray) : Option (List Int × Int) := paronymref01_Decode.l0 k a0 ([] : List Int) 0
theorem paronymref01_Decode.mono_l : ∀ k, (∀ y0 y1 y2, LeO (paronymref01_Decode.l0 k y0 y1 y2) (paronymref01_Decode.l0 (k + 1) y0 y1 y2))
  | 0 => fun _ _ _ r h => by simp [paronymref01_Decode.l0] at h
  | k + 1 => by
    have ih0 := paronymref01_Decode.mono_l k
    · intro y0 y1 y2
      unfold paronymref01_Decode.l0
      repeat' first
      | (with_reducible exact ih0 _ _ _)
      | (with_reducible exact paronymref01_Next.mono _ _)
      | (with_reducible exact LeO.refl _)
      | (with_reducible exact LeO.none _)
      | (with_reducible refine LeO.ite ?_ ?_)
      | (with_reducible refine LeO.bind ?_ (fun _ => ?_))
      | exact ih0 _ _ _
      | exact paronymref01_Next.mono _ _
      | exact LeO.none _
      | refine LeO.ite ?_ ?_
      | refine LeO.bind ?_ (fun _ => ?_)
theorem paronymref01_Decode.mono : ∀ a0 k, LeO (paronymref01_Decode.f k a0) (paronymref01_Decode.f (k + 1) a0) := by
  intro a0 k
  have ih0 := paronymref01_Decode.mono_l k
  unfold paronymref01_Decode.f
  repeat' first
      | (with_reducible exact ih0 _ _ _)
      | (with_reducible exact paronymref01_Next.mono _ _)
      | (with_reducible exact LeO.refl _)
      | (with_reducible exact LeO.none _)
      | (with_reducible refine LeO.ite ?_ ?_)
      | (with_reducible refine LeO.bind ?_ (fun _ => ?_))
      | exact ih0 _ _ _
      | exact paronymref01_Next.mono _ _
      | exact LeO.none _
      | refine LeO.ite ?_ ?_
      | refine LeO.bind ?_ (fun _ => ?_)
set_option maxHeartbeats 8000000 in
set_option maxRecDepth 100000 in
theorem paronymref01_Decode.calls (k : Nat) (a0 : ByteArray) (r1 : List Int) (r2 : Int) (w : World) (h : paronymref01_Decode.f k a0 = some (r1, r2)) :
    Calls Try.prog 32 #[.string a0] w fun e w' => ∃ v0_ : Value, e = .returned (.tuple #[v0_, .int .i64 r2]) ∧ Kd.R (Kd.int .i64) 3 w' w.heap.size (fun _ => True) v0_ r1 ∧ Below w.heap.size w w' := by
  have HB := Aside0.mk (Below.refl w.heap.size w)
  have H : (paronymref01_Decode.l0 k a0 ([] : List Int) 0) = some (r1, r2) := h
  clear h
  have H' := Aside0.mk H
  clear H
  go_enter Try.func32, Try.ntmps32
  go_wp2
  go_loopg [4, 5] k (fun kq v4 v5 w' => ∃ (x4_1 : List Int) (x5_1 : Int), v5 = .int .i64 x5_1 ∧ Aside0 (paronymref01_Decode.l0 kq a0 x4_1 x5_1 = some (r1, r2)) ∧ Aside0 (kq ≤ k) ∧ Aside0 (Kd.R (Kd.int .i64) 3 w' w.heap.size (fun _ => True) v4 x4_1) ∧ Aside0 (Below w.heap.size w w'))
  case atStart => exact ⟨(([] : List Int)), (0), (by first | rfl | (simp; done) | (simp [*]; done)), H', ⟨Nat.le_refl _⟩, ⟨by first | exact Kd.R_nil _ _ _ _ _ | exact Kd.N_nil _ _ _ _ _ | exact Kd.V_nil _ _ _ _ _ | exact Kd.Q_nil _ _ _ _ _ | exact Kd.S_nil _ _ _ _ _⟩, ⟨by repeat (first | (with_reducible first | exact HB.out | apply below_alloc | apply pw_below_drewN | apply below_drew1) | exact HB.out)⟩⟩
  case round =>
    clear H'
    obtain ⟨x4_1, x5_1, rfl, HA, HK1, HO_4, HB⟩ := hrel
    cases gk with
    | zero => exact absurd HA.out (by simp [paronymref01_Decode.l0])
    | succ k1 =>
      have H := HA.out
      clear HA
      simp only [paronymref01_Decode.l0] at H
      by_cases c2 : x5_1 < (a0.size : Int)
      · rw [if_pos c2] at H
        have c2b0 : decide (x5_1 < (a0.size : Int)) = true := decide_eq_true c2
        clear c2
        by_cases c3 : 0 ≤ x5_1
        · rw [if_pos c3] at H
          have c3b0 := eq_true c3
          have c3b1 : decide (0 ≤ x5_1) = true := decide_eq_true c3
          clear c3
          by_cases c4 : x5_1 ≤ (a0.size : Int)
          · rw [if_pos c4] at H
            have c4b0 := eq_true c4
            have c4b1 : decide (x5_1 ≤ (a0.size : Int)) = true := decide_eq_true c4
            clear c4
            replace H := Option.bind_eq_some_iff.mp H
            obtain ⟨⟨t101, t102⟩, A50, H⟩ := H
            replace H : (if t102 = 0 then (some (x4_1, x5_1)) else (if x4_1.length < 17592186044416 then (paronymref01_Decode.l0 k1 a0 (x4_1 ++ [t101]) (wrap64 (x5_1 + t102))) else (none))) = some (r1, r2) := H
            have A5 := Aside0.mk A50
            clear A50
            by_cases c6 : t102 = 0
            · rw [if_pos c6] at H
              have c6b0 : (t102 == 0) = true := beq_iff_eq.mpr c6
              have c6b1 : (t102 != 0) = false := bne_eq_false_iff_eq.mpr c6
              clear c6
              simp only [Option.some.injEq, Prod.mk.injEq] at H
              obtain ⟨rfl, rfl⟩ := H
              go_wp2_with (first | ((with_reducible refine gate_callee (f := 55) rfl ?_); refine goesL_ (some 16) rfl rfl Try.func55 (by kernel_rfl) rfl #[.string (a0.extract (x5_1 : Int).toNat a0.size)] rfl (by (try simp only [List.map_toArray, List.map_cons, List.map_nil]); first | done | rfl | (simp only [List.length_drop, List.length_take]; rfl)) ?_; (with_reducible refine (paronymref01_Next.calls k1 (a0.extract (x5_1 : Int).toNat a0.size) t101 t102 _ A5.out).mono ?_); rintro e w7 ⟨rfl, hb⟩; refine ⟨_, rfl, ?_⟩; have n0_ := Aside0.mk (Kd.R_below (by (with_reducible repeat (first | apply Kd.R_alloc | apply Kd.R_drewN | apply Kd.R_drew)); exact HO_4.out) hb); have n1_ := Aside0.mk (below_step (by repeat (first | (with_reducible first | exact HB.out | apply below_alloc | apply pw_below_drewN | apply below_drew1) | exact HB.out)) hb); clear HO_4; clear HB; have HO_4 := n0_; have HB := n1_; clear n0_ n1_; (try clear hb); (try clear hb2); (try clear hk); (try clear hi)))
              go_ret2
              exact ⟨_, by first | rfl | (simp [errW_none, errW_some] <;> rfl) | (simp [*, errW_none, errW_some] <;> rfl), by (with_reducible repeat (first | apply Kd.R_alloc | apply Kd.R_drewN | apply Kd.R_drew)); exact HO_4.out, by repeat (first | (with_reducible first | exact HB.out | apply below_alloc | apply pw_below_drewN | apply below_drew1) | exact HB.out)⟩
            · rw [if_neg c6] at H
              have c6b0 : (t102 == 0) = false := beq_eq_false_iff_ne.mpr c6
              have c6b1 : (t102 != 0) = true := bne_iff_ne.mpr c6
              by_cases c8 : x4_1.length < 17592186044416
              · rw [if_pos c8] at H
                have LMc8 := Aside0.mk c8
                clear c8
                obtain ⟨y103, hy103⟩ : ∃ y_ : List Int, y_ = (x4_1 ++ [t101]) := ⟨_, rfl⟩
                replace H : (paronymref01_Decode.l0 k1 a0 y103 (wrap64 (x5_1 + t102))) = some (r1, r2) := by first | (rw [hy103]; with_reducible exact H) | (have H2_ := (Option.bind_some _ _).symm.trans H; rw [hy103]; with_reducible exact H2_) | (have H2_ := (Option.bind_some _ _).symm.trans H; with_reducible exact H2_) | with_reducible exact H | (rw [hy103]; exact H) | exact H
                have Ny103 := Aside0.mk hy103
                clear hy103
                have H' := Aside0.mk H
                clear H
                go_wp2_with (first | ((with_reducible refine gate_callee (f := 55) rfl ?_); refine goesL_ (some 16) rfl rfl Try.func55 (by kernel_rfl) rfl #[.string (a0.extract (x5_1 : Int).toNat a0.size)] rfl (by (try simp only [List.map_toArray, List.map_cons, List.map_nil]); first | done | rfl | (simp only [List.length_drop, List.length_take]; rfl)) ?_; (with_reducible refine (paronymref01_Next.calls k1 (a0.extract (x5_1 : Int).toNat a0.size) t101 t102 _ A5.out).mono ?_); rintro e w9 ⟨rfl, hb⟩; refine ⟨_, rfl, ?_⟩; have n0_ := Aside0.mk (Kd.R_below (by (with_reducible repeat (first | apply Kd.R_alloc | apply Kd.R_drewN | apply Kd.R_drew)); exact HO_4.out) hb); have n1_ := Aside0.mk (below_step (by repeat (first | (with_reducible first | exact HB.out | apply below_alloc | apply pw_below_drewN | apply below_drew1) | exact HB.out)) hb); clear HO_4; clear HB; have HO_4 := n0_; have HB := n1_; clear n0_ n1_; (try clear hb); (try clear hb2); (try clear hk); (try clear hi)) | ((with_reducible refine gate_builtin (b := .append) (xs := #[.tmp 23, .tmp 25]) rfl ?_); at_builtin; refine Kd.R_append (Kd.int .i64) (w0 := w) w.heap.size rfl (.tmp 23) (.tmp 25) 31 3 (.int .i64 0) 8 rfl Try.underlying31 info3 rfl (by decide) (by omega) u4 x4_1 t101 [.int .i64 t101] (fun _ => True) (fun _ => False) rfl rfl ?aP (fun _ hk => hk.elim) ?aF ?aO ?aB ?aS ?aL ?_; (case aP => exact rfl); (case aB => exact (by repeat (first | (with_reducible first | exact HB.out | apply below_alloc | apply pw_below_drewN | apply below_drew1) | exact HB.out))); (case aF => exact (fun _ _ => trivial)); (case aO => exact (by (with_reducible repeat (first | apply Kd.R_alloc | apply Kd.R_drewN | apply Kd.R_drew)); exact HO_4.out)); (case aS => exact (below_size (by repeat (first | (with_reducible first | exact HB.out | apply below_alloc | apply pw_below_drewN | apply below_drew1) | exact HB.out)))); (case aL => have := LMc8.out; omega); intro v104 w10 ho hb hg hat; rw [← Ny103.out] at ho; have n0_ := Aside0.mk (hb); have n1_ := Aside0.mk (ho); clear HB; clear HO_4; have HB := n0_; have HO105 := n1_; clear n0_ n1_; clear ho hb hg hat))
                go_roundg k1
                case measure => have := HK1.out; omega
                case rel => exact ⟨(y103), (wrap64 (x5_1 + t102)), (by first | rfl | (simp; done) | (simp [*]; done)), H', ⟨by have := HK1.out; omega⟩, ⟨by (with_reducible repeat (first | apply Kd.R_alloc | apply Kd.R_drewN | apply Kd.R_drew)); exact HO105.out⟩, ⟨by repeat (first | (with_reducible first | exact HB.out | apply below_alloc | apply pw_below_drewN | apply below_drew1) | exact HB.out)⟩⟩
              · rw [if_neg c8] at H
                exact absurd H (by simp)
          · rw [if_neg c4] at H
            exact absurd H (by simp)
        · rw [if_neg c3] at H
          exact absurd H (by simp)
      · rw [if_neg c2] at H
        have c2b0 : decide (x5_1 < (a0.size : Int)) = false := decide_eq_false c2
        clear c2
        simp only [Option.some.injEq, Prod.mk.injEq] at H
        obtain ⟨rfl, rfl⟩ := H
        go_wp2
        go_ret2
        exact ⟨_, by first | rfl | (simp [errW_none, errW_some] <;> rfl) | (simp [*, errW_none, errW_some] <;> rfl), by (with_reducible repeat (first | apply Kd.R_alloc | apply Kd.R_drewN | apply Kd.R_drew)); exact HO_4.out, by repeat (first | (with_reducible first | exact HB.out | apply below_alloc | apply pw_below_drewN | apply below_drew1) | exact HB.out)⟩

end Go.Proofs.Ytooiajkbpkfplaa.Q

-- from Pdec
/- UTF-8 read back: what next, Points, Decode and the reference's Next, Decode come to. -/
namespace Go.Proofs.Ytooiajkbpkfplaa.K
set_option linter.unusedVariables false
set_option linter.unusedSimpArgs false
open Go.RowKit Go.Proofs.YtooiajkbpkfplaaW.PrintWords Go.Proofs.YtooiajkbpkfplaaW.PrintMore Go.Proofs.Ytooiajkbpkfplaa.Q

theorem awake01 : paronymlaw01_awake.f 60 = some true := by decide +kernel
theorem awake01_ev : Ev (fun k => paronymlaw01_awake.f k) true := Ev.of (fun k => paronymlaw01_awake.mono k) awake01

theorem u8_all {P : Int → Prop} (h : ∀ i : Fin 256, P (i.val : Int)) {b : Int} (h0 : 0 ≤ b) (h1 : b ≤ 255) : P b := by
  have := h ⟨b.toNat, by omega⟩
  simpa [Int.toNat_of_nonneg h0] using this
def cont (b : Int) : Prop := 128 ≤ b ∧ b < 192
instance : DecidablePred cont := fun b => inferInstanceAs (Decidable (128 ≤ b ∧ b < 192))
theorem and192 {b : Int} (h0 : 0 ≤ b) (h1 : b ≤ 255) : Go.bits .and .u8 b 192 = 128 ↔ cont b := by
  have h : ∀ i : Fin 256, (Go.bits .and .u8 (i.val : Int) 192 = 128 ↔ cont (i.val : Int)) := by decide +kernel
  exact u8_all (P := fun b => (Go.bits .and .u8 b 192 = 128 ↔ cont b)) h h0 h1
theorem and63u {b : Int} (h0 : 0 ≤ b) (h1 : b ≤ 255) : Go.bits .and .u8 b 63 = b % 64 := by
  have h : ∀ i : Fin 256, Go.bits .and .u8 (i.val : Int) 63 = (i.val : Int) % 64 := by decide +kernel
  exact u8_all (P := fun b => Go.bits .and .u8 b 63 = b % 64) h h0 h1
theorem lead2 {b : Int} (h0 : 0 ≤ b) (h1 : b ≤ 255) : Go.bits .and .i64 (wrap64 b) (shr .i64 127 2) = b % 32 := by
  have h : ∀ i : Fin 256, Go.bits .and .i64 (wrap64 (i.val : Int)) (shr .i64 127 2) = (i.val : Int) % 32 := by decide +kernel
  exact u8_all (P := fun b => Go.bits .and .i64 (wrap64 b) (shr .i64 127 2) = b % 32) h h0 h1
theorem lead3 {b : Int} (h0 : 0 ≤ b) (h1 : b ≤ 255) : Go.bits .and .i64 (wrap64 b) (shr .i64 127 3) = b % 16 := by
  have h : ∀ i : Fin 256, Go.bits .and .i64 (wrap64 (i.val : Int)) (shr .i64 127 3) = (i.val : Int) % 16 := by decide +kernel
  exact u8_all (P := fun b => Go.bits .and .i64 (wrap64 b) (shr .i64 127 3) = b % 16) h h0 h1
theorem lead4 {b : Int} (h0 : 0 ≤ b) (h1 : b ≤ 255) : Go.bits .and .i64 (wrap64 b) (shr .i64 127 4) = b % 8 := by
  have h : ∀ i : Fin 256, Go.bits .and .i64 (wrap64 (i.val : Int)) (shr .i64 127 4) = (i.val : Int) % 8 := by decide +kernel
  exact u8_all (P := fun b => Go.bits .and .i64 (wrap64 b) (shr .i64 127 4) = b % 8) h h0 h1

def width (a : Int) : Int := if a < 128 then 1 else if a < 194 then 0 else if a < 224 then 2 else if a < 240 then 3 else if a < 245 then 4 else 0
theorem size_ev (a : Int) : Ev (fun k => utf_size.f k a) (width a) := by
  unfold utf_size.f width
  by_cases h1 : a < 128
  · rw [if_pos h1]; exact Ev.pos h1 (Ev.now _)
  · rw [if_neg h1]; refine Ev.neg h1 ?_
    by_cases h2 : a < 194
    · rw [if_pos h2]
      exact Ev.neg (by omega) (Ev.step (fun k => rfl) (Ev.neg (by omega) (Ev.step (fun k => rfl) (Ev.neg (by omega) (Ev.now _)))))
    · rw [if_neg h2]; refine Ev.pos (by omega) (Ev.step (fun k => rfl) ?_)
      by_cases h3 : a < 224
      · rw [if_pos h3]; exact Ev.pos (by simpa using h3) (Ev.now _)
      · rw [if_neg h3]; refine Ev.neg (by simpa using h3) (Ev.pos (by omega) (Ev.step (fun k => rfl) ?_))
        by_cases h4 : a < 240
        · rw [if_pos h4]; exact Ev.pos (by simpa using h4) (Ev.now _)
        · rw [if_neg h4]; refine Ev.neg (by simpa using h4) (Ev.pos (by omega) ?_)
          by_cases h5 : a < 245
          · exact Ev.pos h5 (Ev.ret (if_pos h5).symm)
          · exact Ev.neg h5 (Ev.ret (if_neg h5).symm)

/-! the loop of next, a step at a time -/
theorem nx_step {n x : Int} {y : List Int} {i : Nat} {r : Int × Int} (hi : i < y.length) (hl : y.length ≤ 1000) (ho : Oct y) (hc : cont (rd y i)) (hx0 : 0 ≤ x) (hx1 : x < 65536) (h : Ev (fun k => utf_next.l0 k n (x * 64 + (rd y i - 128)) y y.length ((i + 1 : Nat) : Int)) r) : Ev (fun k => utf_next.l0 k n x y y.length i) r := by
  have hb := ho.rd (i := (i : Int)) (by omega) (by omega)
  unfold cont at hc
  refine Ev.step (fun k => rfl) (Ev.pos (by omega) (Ev.pos (by omega) (Ev.pos (by omega) (Ev.pos ((and192 hb.1 hb.2).2 hc) ?_))))
  have e : Go.bits .or .i64 (wrap64 (x * 64)) (wrap64 (Go.bits .and .u8 (rd y i) 63)) = x * 64 + (rd y i - 128) := by
    rw [and63u hb.1 hb.2, w64 (by omega) (by omega), w64 (by omega) (by omega), or_join 6 (by omega) (by omega) (by omega) (by omega) (by omega) (by omega)]
    omega
  rw [e, w64 (n := (i : Int) + 1) (by omega) (by omega)]
  exact h
theorem nx_stop {n x : Int} {y : List Int} {i : Nat} (hi : i < y.length) (ho : Oct y) (hc : ¬ cont (rd y i)) : Ev (fun k => utf_next.l0 k n x y y.length i) (0, 0) := by
  have hb := ho.rd (i := (i : Int)) (by omega) (by omega)
  refine Ev.step (fun k => rfl) (Ev.pos (by omega) (Ev.pos (by omega) (Ev.pos (by omega) (Ev.neg (fun h => hc ((and192 hb.1 hb.2).1 h)) (Ev.now _)))))
theorem nx_hit {n x : Int} {y : List Int} {i : Nat} (hi : y.length ≤ i) (hs : scalar x = true) (hn : ((oct x).length : Int) = n) : Ev (fun k => utf_next.l0 k n x y y.length i) (x, n) := by
  have hc := (scalar_iff _).1 hs
  exact Ev.step (fun k => rfl) (Ev.neg (by omega) (Ev.bindS (utf_Scalar_is x) (Ev.pos hs (Ev.bindS (oct_is hc.1 hc.2.1) (Ev.pos hn (Ev.now _))))))
theorem nx_miss {n x : Int} {y : List Int} {i : Nat} (hi : y.length ≤ i) (hs : scalar x = true → ((oct x).length : Int) ≠ n) : Ev (fun k => utf_next.l0 k n x y y.length i) (0, 0) := by
  refine Ev.step (fun k => rfl) (Ev.neg (by omega) (Ev.bindS (utf_Scalar_is x) ?_))
  by_cases h : scalar x = true
  · have hc := (scalar_iff _).1 h
    exact Ev.pos h (Ev.bindS (oct_is hc.1 hc.2.1) (Ev.neg (hs h) (Ev.now _)))
  · exact Ev.neg h (Ev.now _)

/-! next's start -/
theorem nx_none {l : List Int} (h : 0 < l.length) (hw : width (rd l 0) = 0 ∨ width (rd l 0) > (l.length : Int)) : Ev (fun k => utf_next.f k l) (0, 0) := by
  unfold utf_next.f
  refine Ev.pos (by omega) (Ev.bind (size_ev _) ?_)
  by_cases z : width (rd l 0) = 0
  · exact Ev.pos z (Ev.step (fun k => rfl) (Ev.now _))
  · exact Ev.neg z (Ev.step (fun k => rfl) (Ev.pos (by simp; omega) (Ev.now _)))
theorem nx_one {l : List Int} {r : Int × Int} (h : 0 < l.length) (h0 : 0 ≤ rd l 0) (hw : rd l 0 < 128) (k : Ev (fun k => utf_next.l0 k 1 (rd l 0) [] (([] : List Int).length : Int) ((0 : Nat) : Int)) r) : Ev (fun k => utf_next.f k l) r := by
  have w : width (rd l 0) = 1 := if_pos hw
  unfold utf_next.f
  refine Ev.pos (by omega) (Ev.bind (size_ev _) ?_)
  rw [w]
  refine Ev.neg (by decide) (Ev.step (fun k => rfl) (Ev.neg (by simp; omega) (Ev.pos (by omega) (Ev.neg (by decide) (Ev.step (fun k => rfl) (Ev.pos (by omega) (Ev.bindS rfl ?_)))))))
  rw [w64 (by omega) (by omega)]
  have e : (l.take (1 : Int).toNat).drop 1 = [] := by simp
  rw [e]
  exact k
theorem nx_many {l : List Int} {r : Int × Int} {n : Nat} {x : Int} (h : n ≤ l.length) (hn : 2 ≤ n) (hw : width (rd l 0) = n) (hx : Go.bits .and .i64 (wrap64 (rd l 0)) (shr .i64 127 (n : Int)) = x) (k : Ev (fun k => utf_next.l0 k n x ((l.take n).drop 1) (((l.take n).drop 1).length : Int) ((0 : Nat) : Int)) r) : Ev (fun k => utf_next.f k l) r := by
  unfold utf_next.f
  refine Ev.pos (by omega) (Ev.bind (size_ev _) ?_)
  rw [hw]
  refine Ev.neg (by omega) (Ev.step (fun k => rfl) (Ev.neg (by simp; omega) (Ev.pos (by omega) (Ev.pos (by omega) (Ev.pos (by omega) (Ev.step (fun k => rfl) (Ev.pos (by omega) (Ev.pos (by omega) (Ev.bindS rfl ?_)))))))))
  rw [hx, Int.toNat_natCast]
  exact k

/-! what next tells -/
theorem scalar_of {c : Int} (h0 : 0 ≤ c) (h1 : c ≤ 1114111) (h2 : c < 55296 ∨ 57343 < c) : scalar c = true := (scalar_iff c).2 ⟨h0, h1, h2⟩
theorem next_hit {c : Int} {m : List Int} (hs : scalar c = true) (ho : Oct (oct c ++ m)) : Ev (fun k => utf_next.f k (oct c ++ m)) (c, (oct c).length) := by
  have hc := (scalar_iff c).1 hs
  have hoc := oct_oct hc.1 hc.2.1
  have hlen : ∀ n : Int, ((oct c).length : Int) = n → Ev (fun k => utf_next.f k (oct c ++ m)) (c, n) → Ev (fun k => utf_next.f k (oct c ++ m)) (c, (oct c).length) := by
    intro n e h; rw [e]; exact h
  by_cases a : c < 128
  · have e : oct c = [c] := if_pos a
    refine hlen 1 (by rw [e]; rfl) ?_
    rw [e]
    exact nx_one (by simp) hc.1 a (nx_hit (by simp) hs (by show ((oct c).length : Int) = 1; rw [e]; rfl))
  · by_cases b : c < 2048
    · have e : oct c = [192 + c / 64, 128 + c % 64] := by unfold oct; rw [if_neg a, if_pos b]
      have hl : ((oct c).length : Int) = 2 := by rw [e]; rfl
      refine hlen 2 hl ?_
      rw [e] at hoc
      rw [e]
      have w : width (rd ([192 + c / 64, 128 + c % 64] ++ m) 0) = (2 : Nat) := by
        show width (192 + c / 64) = 2
        unfold width; rw [if_neg (by omega), if_neg (by omega), if_pos (by omega)]
      refine nx_many (n := 2) (x := c / 64) (by simp) (by decide) w ?_ ?_
      · show Go.bits .and .i64 (wrap64 (192 + c / 64)) (shr .i64 127 2) = _
        rw [lead2 (by omega) (by omega)]; omega
      · show Ev (fun k => utf_next.l0 k 2 (c / 64) [128 + c % 64] (([128 + c % 64] : List Int).length : Int) ((0 : Nat) : Int)) (c, 2)
        refine nx_step (by simp) (by simp) (fun x hx => hoc x (by simp at hx ⊢; omega)) (by show cont (128 + c % 64); unfold cont; omega) (by omega) (by omega) ?_
        have e2 : c / 64 * 64 + (rd [128 + c % 64] ((0 : Nat) : Int) - 128) = c := by show c / 64 * 64 + (128 + c % 64 - 128) = c; omega
        rw [e2]
        exact nx_hit (by simp) hs hl
    · by_cases d : c < 65536
      · have e : oct c = [224 + c / 4096, 128 + c / 64 % 64, 128 + c % 64] := by unfold oct; rw [if_neg a, if_neg b, if_pos d]
        have hl : ((oct c).length : Int) = 3 := by rw [e]; rfl
        refine hlen 3 hl ?_
        rw [e] at hoc
        rw [e]
        have w : width (rd ([224 + c / 4096, 128 + c / 64 % 64, 128 + c % 64] ++ m) 0) = (3 : Nat) := by
          show width (224 + c / 4096) = 3
          unfold width; rw [if_neg (by omega), if_neg (by omega), if_neg (by omega), if_pos (by omega)]
        refine nx_many (n := 3) (x := c / 4096) (by simp) (by decide) w ?_ ?_
        · show Go.bits .and .i64 (wrap64 (224 + c / 4096)) (shr .i64 127 3) = _
          rw [lead3 (by omega) (by omega)]; omega
        · show Ev (fun k => utf_next.l0 k 3 (c / 4096) [128 + c / 64 % 64, 128 + c % 64] (([128 + c / 64 % 64, 128 + c % 64] : List Int).length : Int) ((0 : Nat) : Int)) (c, 3)
          have ho2 : Oct [128 + c / 64 % 64, 128 + c % 64] := fun x hx => hoc x (by simp at hx ⊢; omega)
          refine nx_step (by simp) (by simp) ho2 (by show cont (128 + c / 64 % 64); unfold cont; omega) (by omega) (by omega) ?_
          have e2 : c / 4096 * 64 + (rd [128 + c / 64 % 64, 128 + c % 64] ((0 : Nat) : Int) - 128) = c / 64 := by show c / 4096 * 64 + (128 + c / 64 % 64 - 128) = c / 64; omega
          rw [e2]
          refine nx_step (by simp) (by simp) ho2 (by show cont (128 + c % 64); unfold cont; omega) (by omega) (by omega) ?_
          have e3 : c / 64 * 64 + (rd [128 + c / 64 % 64, 128 + c % 64] ((0 + 1 : Nat) : Int) - 128) = c := by show c / 64 * 64 + (128 + c % 64 - 128) = c; omega
          rw [e3]
          exact nx_hit (by simp) hs hl
      · have e : oct c = [240 + c / 262144, 128 + c / 4096 % 64, 128 + c / 64 % 64, 128 + c % 64] := by unfold oct; rw [if_neg a, if_neg b, if_neg d]
        have hl : ((oct c).length : Int) = 4 := by rw [e]; rfl
        refine hlen 4 hl ?_
        rw [e] at hoc
        rw [e]
        have w : width (rd ([240 + c / 262144, 128 + c / 4096 % 64, 128 + c / 64 % 64, 128 + c % 64] ++ m) 0) = (4 : Nat) := by
          show width (240 + c / 262144) = 4
          unfold width; rw [if_neg (by omega), if_neg (by omega), if_neg (by omega), if_neg (by omega), if_pos (by omega)]
        refine nx_many (n := 4) (x := c / 262144) (by simp) (by decide) w ?_ ?_
        · show Go.bits .and .i64 (wrap64 (240 + c / 262144)) (shr .i64 127 4) = _
          rw [lead4 (by omega) (by omega)]; omega
        · show Ev (fun k => utf_next.l0 k 4 (c / 262144) [128 + c / 4096 % 64, 128 + c / 64 % 64, 128 + c % 64] (([128 + c / 4096 % 64, 128 + c / 64 % 64, 128 + c % 64] : List Int).length : Int) ((0 : Nat) : Int)) (c, 4)
          have ho2 : Oct [128 + c / 4096 % 64, 128 + c / 64 % 64, 128 + c % 64] := fun x hx => hoc x (by simp at hx ⊢; omega)
          refine nx_step (by simp) (by simp) ho2 (by show cont (128 + c / 4096 % 64); unfold cont; omega) (by omega) (by omega) ?_
          have e2 : c / 262144 * 64 + (rd [128 + c / 4096 % 64, 128 + c / 64 % 64, 128 + c % 64] ((0 : Nat) : Int) - 128) = c / 4096 := by show c / 262144 * 64 + (128 + c / 4096 % 64 - 128) = c / 4096; omega
          rw [e2]
          refine nx_step (by simp) (by simp) ho2 (by show cont (128 + c / 64 % 64); unfold cont; omega) (by omega) (by omega) ?_
          have e3 : c / 4096 * 64 + (rd [128 + c / 4096 % 64, 128 + c / 64 % 64, 128 + c % 64] ((0 + 1 : Nat) : Int) - 128) = c / 64 := by show c / 4096 * 64 + (128 + c / 64 % 64 - 128) = c / 64; omega
          rw [e3]
          refine nx_step (by simp) (by simp) ho2 (by show cont (128 + c % 64); unfold cont; omega) (by omega) (by omega) ?_
          have e4 : c / 64 * 64 + (rd [128 + c / 4096 % 64, 128 + c / 64 % 64, 128 + c % 64] ((0 + 1 + 1 : Nat) : Int) - 128) = c := by show c / 64 * 64 + (128 + c % 64 - 128) = c; omega
          rw [e4]
          exact nx_hit (by simp) hs hl
theorem len3 {z : Int} (h : ((oct z).length : Int) = 3) : ¬ z < 2048 := fun q => by
  by_cases p : z < 128 <;> simp [oct, p, q] at h
theorem len4 {z : Int} (h : ((oct z).length : Int) = 4) : ¬ z < 65536 := fun q => by
  by_cases p : z < 128
  · simp [oct, p] at h
  · by_cases r : z < 2048 <;> simp [oct, p, q, r] at h
/-- No scalar's octets stand ahead. -/
def Stuck (l : List Int) : Prop := ∀ c m, scalar c = true → l ≠ oct c ++ m
theorem next_miss {l : List Int} (ho : Oct l) (hl : 0 < l.length) (hs : Stuck l) : Ev (fun k => utf_next.f k l) (0, 0) := by
  cases l with
  | nil => simp at hl
  | cons a l =>
    have ha := ho a (by simp)
    by_cases a1 : a < 128
    · exact absurd rfl (by have := hs a l (scalar_of ha.1 (by omega) (.inl (by omega))); rwa [show oct a = [a] from if_pos a1] at this)
    · by_cases a2 : a < 194
      · exact nx_none hl (.inl (by show width a = 0; unfold width; rw [if_neg a1, if_pos a2]))
      · by_cases a3 : a < 224
        · have w : width a = 2 := by unfold width; rw [if_neg a1, if_neg a2, if_pos a3]
          cases l with
          | nil => exact nx_none hl (.inr (by show width a > _; rw [w]; simp))
          | cons b l =>
            have hb := ho b (by simp)
            refine nx_many (n := 2) (x := a - 192) (by simp) (by decide) w ?_ ?_
            · show Go.bits .and .i64 (wrap64 a) (shr .i64 127 2) = _
              rw [lead2 (by omega) (by omega)]; omega
            · show Ev (fun k => utf_next.l0 k 2 (a - 192) [b] (([b] : List Int).length : Int) ((0 : Nat) : Int)) _
              have ho2 : Oct [b] := fun x hx => ho x (by simp at hx ⊢; omega)
              by_cases cb : cont b
              · refine nx_step (by simp) (by simp) ho2 cb (by omega) (by omega) ?_
                refine nx_miss (by simp) ?_
                show scalar ((a - 192) * 64 + (b - 128)) = true → _
                intro h _
                unfold cont at cb
                refine hs ((a - 192) * 64 + (b - 128)) l h ?_
                unfold oct
                rw [if_neg (by omega), if_pos (by omega)]
                simp only [List.cons_append, List.nil_append, List.cons.injEq, and_true]
                omega
              · exact nx_stop (by simp) ho2 cb
        · by_cases a4 : a < 240
          · have w : width a = 3 := by unfold width; rw [if_neg a1, if_neg a2, if_neg a3, if_pos a4]
            match l, ho, hl, hs with
            | [], _, hl, _ => exact nx_none hl (.inr (by show width a > _; rw [w]; simp))
            | [_], _, hl, _ => exact nx_none hl (.inr (by show width a > _; rw [w]; simp))
            | b :: c :: l, ho, hl, hs =>
              refine nx_many (n := 3) (x := a - 224) (by simp) (by decide) w ?_ ?_
              · show Go.bits .and .i64 (wrap64 a) (shr .i64 127 3) = _
                rw [lead3 (by omega) (by omega)]; omega
              · show Ev (fun k => utf_next.l0 k 3 (a - 224) [b, c] (([b, c] : List Int).length : Int) ((0 : Nat) : Int)) _
                have ho2 : Oct [b, c] := fun x hx => ho x (by simp at hx ⊢; omega)
                by_cases cb : cont b
                · refine nx_step (by simp) (by simp) ho2 cb (by omega) (by omega) ?_
                  by_cases cc : cont c
                  · refine nx_step (by simp) (by simp) ho2 cc (by show 0 ≤ (a - 224) * 64 + (b - 128); unfold cont at cb; omega) (by show (a - 224) * 64 + (b - 128) < 65536; unfold cont at cb; omega) ?_
                    refine nx_miss (by simp) ?_
                    show scalar (((a - 224) * 64 + (b - 128)) * 64 + (c - 128)) = true → _
                    intro h hn
                    unfold cont at cb cc
                    have hge : ¬ ((a - 224) * 64 + (b - 128)) * 64 + (c - 128) < 2048 := len3 hn
                    refine hs (((a - 224) * 64 + (b - 128)) * 64 + (c - 128)) l h ?_
                    unfold oct
                    rw [if_neg (by omega), if_neg (by omega), if_pos (by omega)]
                    simp only [List.cons_append, List.nil_append, List.cons.injEq, and_true]
                    omega
                  · exact nx_stop (by simp) ho2 cc
                · exact nx_stop (by simp) ho2 cb
          · by_cases a5 : a < 245
            · have w : width a = 4 := by unfold width; rw [if_neg a1, if_neg a2, if_neg a3, if_neg a4, if_pos a5]
              match l, ho, hl, hs with
              | [], _, hl, _ => exact nx_none hl (.inr (by show width a > _; rw [w]; simp))
              | [_], _, hl, _ => exact nx_none hl (.inr (by show width a > _; rw [w]; simp))
              | [_, _], _, hl, _ => exact nx_none hl (.inr (by show width a > _; rw [w]; simp))
              | b :: c :: d :: l, ho, hl, hs =>
                refine nx_many (n := 4) (x := a - 240) (by simp) (by decide) w ?_ ?_
                · show Go.bits .and .i64 (wrap64 a) (shr .i64 127 4) = _
                  rw [lead4 (by omega) (by omega)]; omega
                · show Ev (fun k => utf_next.l0 k 4 (a - 240) [b, c, d] (([b, c, d] : List Int).length : Int) ((0 : Nat) : Int)) _
                  have ho2 : Oct [b, c, d] := fun x hx => ho x (by simp at hx ⊢; omega)
                  by_cases cb : cont b
                  · refine nx_step (by simp) (by simp) ho2 cb (by omega) (by omega) ?_
                    by_cases cc : cont c
                    · refine nx_step (by simp) (by simp) ho2 cc (by show 0 ≤ (a - 240) * 64 + (b - 128); unfold cont at cb; omega) (by show (a - 240) * 64 + (b - 128) < 65536; unfold cont at cb; omega) ?_
                      by_cases cd : cont d
                      · refine nx_step (by simp) (by simp) ho2 cd (by show 0 ≤ ((a - 240) * 64 + (b - 128)) * 64 + (c - 128); unfold cont at cb cc; omega) (by show ((a - 240) * 64 + (b - 128)) * 64 + (c - 128) < 65536; unfold cont at cb cc; omega) ?_
                        refine nx_miss (by simp) ?_
                        show scalar ((((a - 240) * 64 + (b - 128)) * 64 + (c - 128)) * 64 + (d - 128)) = true → _
                        intro h hn
                        unfold cont at cb cc cd
                        have hge : ¬ (((a - 240) * 64 + (b - 128)) * 64 + (c - 128)) * 64 + (d - 128) < 65536 := len4 hn
                        refine hs ((((a - 240) * 64 + (b - 128)) * 64 + (c - 128)) * 64 + (d - 128)) l h ?_
                        unfold oct
                        rw [if_neg (by omega), if_neg (by omega), if_neg (by omega)]
                        simp only [List.cons_append, List.nil_append, List.cons.injEq, and_true]
                        omega
                      · exact nx_stop (by simp) ho2 cd
                    · exact nx_stop (by simp) ho2 cc
                  · exact nx_stop (by simp) ho2 cb
            · exact nx_none hl (.inl (by show width a = 0; unfold width; rw [if_neg a1, if_neg a2, if_neg a3, if_neg a4, if_neg a5]))

end Go.Proofs.Ytooiajkbpkfplaa.K

-- from Pdec2
/- Decode and the reference's Decode: a text of octets is scalars' octets and a rest with none ahead. -/
namespace Go.Proofs.Ytooiajkbpkfplaa.K
set_option linter.unusedVariables false
set_option linter.unusedSimpArgs false
open Go.RowKit Go.Proofs.YtooiajkbpkfplaaW.PrintWords Go.Proofs.YtooiajkbpkfplaaW.PrintMore Go.Proofs.Ytooiajkbpkfplaa.Q

theorem Ev.same {α : Type} {f : Nat → Option α} {r r' : α} (h : Ev f r) (h' : Ev f r') : r = r' := by
  obtain ⟨n, hn⟩ := h
  obtain ⟨m, hm⟩ := h'
  have a := hn (max n m) (by omega)
  have b := hm (max n m) (by omega)
  rw [a] at b
  exact Option.some.inj b
theorem oct_ahead {c d : Int} {m n : List Int} (hc : scalar c = true) (hd : scalar d = true) (ho : Oct (oct c ++ m)) (h : oct c ++ m = oct d ++ n) : c = d := by
  have a := next_hit hc ho
  have b := next_hit (c := d) (m := n) hd (h ▸ ho)
  rw [← h] at b
  exact congrArg Prod.fst (Ev.same a b)
theorem maxdec : ∀ (n : Nat) (l : List Int), l.length ≤ n → Oct l → ∃ s rest, s.all scalar = true ∧ l = enc s ++ rest ∧ Stuck rest := by
  intro n
  induction n with
  | zero =>
    intro l hl _
    refine ⟨[], l, rfl, by simp [enc], ?_⟩
    intro c m hs e
    have hc := (scalar_iff c).1 hs
    have := oct_len hc.1 hc.2.1
    have : l.length = (oct c ++ m).length := by rw [e]
    rw [List.length_append] at this
    omega
  | succ n ih =>
    intro l hl ho
    by_cases h : Stuck l
    · exact ⟨[], l, rfl, by simp [enc], h⟩
    · have : ∃ c m, scalar c = true ∧ l = oct c ++ m := by
        apply Classical.byContradiction
        intro q
        exact h fun c m hs e => q ⟨c, m, hs, e⟩
      obtain ⟨c, m, hs, rfl⟩ := this
      have hc := (scalar_iff c).1 hs
      have := oct_len hc.1 hc.2.1
      rw [List.length_append] at hl
      obtain ⟨s, rest, h1, rfl, h2⟩ := ih m (by omega) (fun x hx => ho x (List.mem_append_right _ hx))
      exact ⟨c :: s, rest, by rw [List.all_cons, hs, h1]; rfl, by rw [enc_cons, List.append_assoc], h2⟩
def places : Int → List Int → List (Int × Int)
  | _, [] => []
  | at_, c :: s => (at_, c) :: places (at_ + (oct c).length) s
theorem places_snd : ∀ (s : List Int) (at_ : Int), (places at_ s).map Prod.snd = s
  | [], _ => rfl
  | c :: s, at_ => by simp [places, places_snd s]
theorem places_len : ∀ (s : List Int) (at_ : Int), (places at_ s).length = s.length
  | [], _ => rfl
  | c :: s, at_ => by simp [places, places_len s]
theorem places_snoc : ∀ (s : List Int) (at_ : Int) (c : Int), places at_ (s ++ [c]) = places at_ s ++ [(at_ + (enc s).length, c)]
  | [], _, _ => by simp [places, enc]
  | d :: s, at_, c => by
    rw [List.cons_append, places, places, places_snoc s, enc_cons, List.length_append, List.cons_append]
    congr 3
    simp
    omega
theorem snoc_cases {α : Type} (l : List α) : l = [] ∨ ∃ m x, l = m ++ [x] := by
  cases h : l.reverse with
  | nil => left; simpa using h
  | cons x m => right; exact ⟨m.reverse, x, by rw [← List.reverse_reverse l, h]; simp⟩
theorem end_places {s : List Int} (h : s.all scalar = true) (hl : (enc s).length ≤ 1099511627776) : utf_Decode.end_ (places 0 s) = (enc s).length := by
  rcases snoc_cases s with rfl | ⟨m, c, rfl⟩
  · simp [places, enc, utf_Decode.end_]
  · rw [List.all_append, Bool.and_eq_true, List.all_cons, Bool.and_eq_true] at h
    have hc := (scalar_iff c).1 h.2.1
    rw [places_snoc, utf_Decode.end_snoc]
    simp only
    rw [oct_is hc.1 hc.2.1, enc_snoc, Option.getD_some]
    rw [enc_snoc] at hl
    rw [List.length_append] at hl ⊢
    rw [w64 (by omega) (by omega)]
    simp
theorem pts_ev {s rest : List Int} (hr : Stuck rest) (hrl : rest.length ≤ 1099511627776) : ∀ (d i : Nat), s.length - i = d → i ≤ s.length → s.all scalar = true → Oct (enc s ++ rest) → Ev (fun k => utf_Points.pts k (enc s ++ rest) ((enc (s.take i)).length : Int)) (places (enc (s.take i)).length (s.drop i)) := by
  intro d
  induction d with
  | zero =>
    intro i h1 h2 hs ho
    have : i = s.length := by omega
    subst this
    rw [List.take_length, List.drop_length]
    by_cases z : rest.length = 0
    · exact Ev.step (fun k => rfl) (Ev.neg (by rw [List.length_append]; omega) (Ev.now _))
    · refine Ev.step (fun k => rfl) (Ev.pos (by rw [List.length_append]; omega) (Ev.pos (by omega) ?_))
      rw [Int.toNat_natCast, List.drop_left]
      refine Ev.bind (next_miss (fun x hx => ho x (List.mem_append_right _ hx)) (by omega) hr) (Ev.pos rfl (Ev.now _))
  | succ d ih =>
    intro i h1 h2 hs ho
    have hi : i < s.length := by omega
    have hsi : scalar (rd s i) = true := by
      rw [List.all_eq_true] at hs
      exact hs _ (rd_mem (by omega) (by omega))
    have hc := (scalar_iff _).1 hsi
    have hol := oct_len hc.1 hc.2.1
    have e : enc s = enc (s.take i) ++ (oct (rd s i) ++ enc (s.drop (i + 1))) := by
      rw [← enc_cons, ← drop_cons s i hi, ← enc_append, List.take_append_drop]
    have hlen : (enc s ++ rest).length = (enc (s.take i)).length + (oct (rd s i)).length + (enc (s.drop (i + 1))).length + rest.length := by
      rw [e]; simp; omega
    refine Ev.step (fun k => rfl) (Ev.pos (by rw [hlen]; omega) (Ev.pos (by omega) ?_))
    have ed : (enc s ++ rest).drop (((enc (s.take i)).length : Int)).toNat = oct (rd s i) ++ (enc (s.drop (i + 1)) ++ rest) := by
      rw [Int.toNat_natCast]
      conv => lhs; rw [e]
      rw [List.append_assoc, List.drop_left, List.append_assoc]
    rw [ed]
    have ho2 : Oct (oct (rd s i) ++ (enc (s.drop (i + 1)) ++ rest)) := by
      rw [← ed]; exact ho.drop _
    refine Ev.bind (next_hit hsi ho2) (Ev.neg (by show ¬ (((oct (rd s i)).length : Int) = 0); omega) (Ev.pos (by show 0 < ((oct (rd s i)).length : Int) ∧ _ + ((oct (rd s i)).length : Int) ≤ _; omega) ?_))
    have en : ((enc (s.take i)).length : Int) + ((oct (rd s i)).length : Int) = (enc (s.take (i + 1))).length := by
      rw [take_snoc s i hi, enc_snoc, List.length_append]; simp
    have := ih (i + 1) (by omega) (by omega) hs ho
    rw [drop_cons s i hi, places, en]
    exact Ev.bind this (Ev.ret rfl)
theorem clone_is (l : List Int) (hl : l.length ≤ 1099511627776) : slices_Clone_byte_byte.f l = some l := by
  unfold slices_Clone_byte_byte.f
  simp
  omega
theorem Decode_ev {s rest : List Int} (hr : Stuck rest) (hs : s.all scalar = true) (ho : Oct (enc s ++ rest)) (hl : (enc s ++ rest).length ≤ 1099511627776) : Ev (fun k => utf_Decode.f k (enc s ++ rest)) (if rest.length = 0 then (s, 0, ((enc s).length : Int)) else ([], 10, ((enc s).length : Int))) := by
  unfold utf_Decode.f
  rw [List.length_append] at hl
  have el := enc_len hs
  refine Ev.bindS (clone_is _ (by rw [List.length_append]; omega)) ?_
  have := pts_ev hr (by omega) s.length 0 (by omega) (by omega) hs ho
  rw [List.take_zero, List.drop_zero] at this
  refine Ev.bind this (Ev.pos (by rw [places_len]; omega) ?_)
  have ep : utf_Decode.end_ (places ((enc []).length : Int) s) = (enc s).length := end_places hs (by omega)
  rw [ep, places_snd, List.length_append]
  by_cases z : rest.length = 0
  · rw [if_pos z]; exact Ev.neg (by omega) (Ev.ret rfl)
  · rw [if_neg z]; exact Ev.pos (by omega) (Ev.ret rfl)

/-! the reference's Next -/
def cand (l : List Int) : Nat → Int
  | 2 => (rd l 0 % 32) * 64 + rd l 1 % 64
  | 3 => ((rd l 0 % 16) * 64 + rd l 1 % 64) * 64 + rd l 2 % 64
  | 4 => (((rd l 0 % 8) * 64 + rd l 1 % 64) * 64 + rd l 2 % 64) * 64 + rd l 3 % 64
  | _ => rd l 0
theorem rn_step {l : List Int} {n : Int} {x : Int} {i : Nat} {r : Int × Int} (ho : Oct l) (hi : (i : Int) < n) (hl : i < l.length) (hi2 : i ≤ 1000) (h0 : 0 ≤ x) (h1 : x < 65536) (h : Ev (fun k => paronymref01_Next.l1 k (strOfNums l) n (x * 64 + rd l i % 64) ((i + 1 : Nat) : Int)) r) : Ev (fun k => paronymref01_Next.l1 k (strOfNums l) n x i) r := by
  have hb := ho.rd (i := (i : Int)) (by omega) (by omega)
  refine Ev.step (fun k => rfl) (Ev.pos hi (Ev.pos (by omega) (Ev.pos (by rw [size_str]; omega) ?_)))
  have e : wrap64 (wrap64 (x * 64) + Int.tmod (wrap64 (bt (strOfNums l) (i : Int))) 64) = x * 64 + rd l i % 64 := by
    rw [bt_str ho (by omega) (by omega), w64 (n := rd l i) (by omega) (by omega), Int.tmod_eq_emod_of_nonneg hb.1, w64 (n := x * 64) (by omega) (by omega), w64 (by omega) (by omega)]
  rw [e, w64 (n := (i : Int) + 1) (by omega) (by omega)]
  exact h
theorem rn_end {l : List Int} {n : Nat} {x : Int} {r : Int × Int} (ho : Oct l) (hn : n ≤ l.length) (hn2 : n ≤ 1000) (h : scalar x = true → oct x = l.take n → r = (x, (n : Int))) (g : (scalar x = true → oct x ≠ l.take n) → Ev (fun k => paronymref01_Next.l0 k (strOfNums l) ((n + 1 : Nat) : Int)) r) : Ev (fun k => paronymref01_Next.l1 k (strOfNums l) n x n) r := by
  have ew : wrap64 ((n : Int) + 1) = ((n + 1 : Nat) : Int) := w64 (by omega) (by omega)
  refine Ev.step (fun k => rfl) (Ev.neg (by omega) (Ev.bindS (refScalar_is x) ?_))
  by_cases hs : scalar x = true
  · have hc := (scalar_iff x).1 hs
    refine Ev.pos hs (Ev.bind (refOctets_ev hc.1 hc.2.1) (Ev.pos (by omega) (Ev.pos (by rw [size_str]; omega) ?_)))
    rw [extract_str, List.drop_zero, Int.toNat_natCast]
    by_cases q : oct x = l.take n
    · exact Ev.pos (by rw [q]) (Ev.ret (h hs q).symm)
    · refine Ev.neg ?_ ?_
      · rw [toList_eq_iff]
        exact fun e => q (str_inj (oct_oct hc.1 hc.2.1) (ho.take _) e)
      · rw [ew]; exact g fun _ => q
  · refine Ev.neg hs ?_
    rw [ew]; exact g fun e => absurd e hs
theorem rn_start {l : List Int} {n : Nat} {r : Int × Int} (ho : Oct l) (h1 : 1 ≤ n) (h4 : n ≤ 4) (hn : n ≤ l.length) (h : Ev (fun k => paronymref01_Next.l1 k (strOfNums l) n (cand l n) n) r) : Ev (fun k => paronymref01_Next.l0 k (strOfNums l) n) r := by
  have hb := ho.rd (i := 0) (by omega) (by omega)
  refine Ev.step (fun k => rfl) (Ev.pos (by omega) (Ev.step (fun k => rfl) (Ev.pos (by rw [size_str]; simp; omega) (Ev.pos (by rw [size_str]; omega) ?_))))
  rw [bt_str ho (by omega) (by omega), w64 (n := rd l 0) (by omega) (by omega)]
  have tm : ∀ m : Int, Int.tmod (rd l 0) m = rd l 0 % m := fun m => Int.tmod_eq_emod_of_nonneg hb.1
  have one : ((1 : Nat) : Int) = 1 := rfl
  by_cases e2 : n = 2
  · refine Ev.pos (by omega) (Ev.step (fun k => rfl) (Ev.neg (by omega) (Ev.step (fun k => rfl) (Ev.neg (by omega) (Ev.step (fun k => rfl) ?_)))))
    show Ev (fun k => paronymref01_Next.l1 k _ _ _ 1) _
    subst e2
    rw [tm, ← one]
    exact rn_step ho (by decide) (by omega) (by omega) (by omega) (by omega) h
  · by_cases e3 : n = 3
    · refine Ev.neg (by omega) (Ev.step (fun k => rfl) (Ev.pos (by omega) (Ev.step (fun k => rfl) (Ev.neg (by omega) (Ev.step (fun k => rfl) ?_)))))
      show Ev (fun k => paronymref01_Next.l1 k _ _ _ 1) _
      subst e3
      have hb1 := ho.rd (i := ((1 : Nat) : Int)) (by omega) (by omega)
      rw [tm, ← one]
      exact rn_step ho (by decide) (by omega) (by omega) (by omega) (by omega) (rn_step ho (by decide) (by omega) (by omega) (by omega) (by omega) h)
    · by_cases e4 : n = 4
      · refine Ev.neg (by omega) (Ev.step (fun k => rfl) (Ev.neg (by omega) (Ev.step (fun k => rfl) (Ev.pos (by omega) (Ev.step (fun k => rfl) ?_)))))
        show Ev (fun k => paronymref01_Next.l1 k _ _ _ 1) _
        subst e4
        have hb1 := ho.rd (i := ((1 : Nat) : Int)) (by omega) (by omega)
        have hb2 := ho.rd (i := ((1 + 1 : Nat) : Int)) (by omega) (by omega)
        rw [tm, ← one]
        exact rn_step ho (by decide) (by omega) (by omega) (by omega) (by omega) (rn_step ho (by decide) (by omega) (by omega) (by omega) (by omega) (rn_step ho (by decide) (by omega) (by omega) (by omega) (by omega) h))
      · refine Ev.neg (by omega) (Ev.step (fun k => rfl) (Ev.neg (by omega) (Ev.step (fun k => rfl) (Ev.neg (by omega) (Ev.step (fun k => rfl) ?_)))))
        show Ev (fun k => paronymref01_Next.l1 k _ _ _ 1) _
        have e1 : n = 1 := by omega
        subst e1
        exact h
theorem rn_over {l : List Int} {n : Nat} (h : 4 < n ∨ l.length < n) : Ev (fun k => paronymref01_Next.l0 k (strOfNums l) n) (0, 0) := by
  by_cases a : (n : Int) ≤ 4
  · have e : decide ((n : Int) ≤ ((strOfNums l).size : Int)) = false := by rw [size_str]; simp; omega
    exact Ev.step (fun k => rfl) (Ev.pos a (Ev.step (fun k => rfl) (Ev.neg (by rw [e]; decide) (Ev.now _))))
  · exact Ev.step (fun k => rfl) (Ev.neg a (Ev.step (fun k => rfl) (Ev.now _)))
theorem refNext_miss {l : List Int} (ho : Oct l) (hs : Stuck l) : Ev (fun k => paronymref01_Next.f k (strOfNums l)) (0, 0) := by
  have key : ∀ (d n : Nat), 5 - n = d → 1 ≤ n → Ev (fun k => paronymref01_Next.l0 k (strOfNums l) n) (0, 0) := by
    intro d
    induction d with
    | zero => intro n h1 h2; exact rn_over (.inl (by omega))
    | succ d ih =>
      intro n h1 h2
      by_cases q : l.length < n
      · exact rn_over (.inr q)
      · refine rn_start ho h2 (by omega) (by omega) (rn_end ho (by omega) (by omega) ?_ ?_)
        · intro a b
          exact absurd (by rw [b, List.take_append_drop]) (hs _ (l.drop n) a)
        · intro _
          exact ih (n + 1) (by omega) (by omega)
  exact key 4 1 rfl (by omega)
theorem cand_hit {c : Int} {m : List Int} (hs : scalar c = true) : cand (oct c ++ m) (oct c).length = c := by
  have hc := (scalar_iff c).1 hs
  by_cases a : c < 128
  · have e : oct c = [c] := if_pos a
    rw [e]; rfl
  · by_cases b : c < 2048
    · have e : oct c = [192 + c / 64, 128 + c % 64] := by unfold oct; rw [if_neg a, if_pos b]
      rw [e]
      show ((192 + c / 64) % 32) * 64 + (128 + c % 64) % 64 = c
      omega
    · by_cases d : c < 65536
      · have e : oct c = [224 + c / 4096, 128 + c / 64 % 64, 128 + c % 64] := by unfold oct; rw [if_neg a, if_neg b, if_pos d]
        rw [e]
        show (((224 + c / 4096) % 16) * 64 + (128 + c / 64 % 64) % 64) * 64 + (128 + c % 64) % 64 = c
        omega
      · have e : oct c = [240 + c / 262144, 128 + c / 4096 % 64, 128 + c / 64 % 64, 128 + c % 64] := by unfold oct; rw [if_neg a, if_neg b, if_neg d]
        rw [e]
        show ((((240 + c / 262144) % 8) * 64 + (128 + c / 4096 % 64) % 64) * 64 + (128 + c / 64 % 64) % 64) * 64 + (128 + c % 64) % 64 = c
        omega
theorem refNext_hit {c : Int} {m : List Int} (hs : scalar c = true) (ho : Oct (oct c ++ m)) : Ev (fun k => paronymref01_Next.f k (strOfNums (oct c ++ m))) (c, (oct c).length) := by
  have hc := (scalar_iff c).1 hs
  have hl := oct_len hc.1 hc.2.1
  have key : ∀ (d n : Nat), (oct c).length - n = d → 1 ≤ n → n ≤ (oct c).length → Ev (fun k => paronymref01_Next.l0 k (strOfNums (oct c ++ m)) n) (c, (oct c).length) := by
    intro d
    induction d with
    | zero =>
      intro n h1 h2 h3
      have e : n = (oct c).length := by omega
      subst e
      refine rn_start ho h2 (by omega) (by simp) ?_
      rw [cand_hit hs]
      refine rn_end ho (by simp) (by omega) (fun _ _ => rfl) ?_
      intro q
      exact absurd (by simp) (q hs)
    | succ d ih =>
      intro n h1 h2 h3
      refine rn_start ho h2 (by omega) (by rw [List.length_append]; omega) (rn_end ho (by rw [List.length_append]; omega) (by omega) ?_ ?_)
      · intro a b
        have hcand := (scalar_iff _).1 a
        have e : oct c ++ m = oct (cand (oct c ++ m) n) ++ (oct c ++ m).drop n := by rw [b, List.take_append_drop]
        have := oct_ahead hs a ho e
        rw [← this] at b
        have : (oct c).length = ((oct c ++ m).take n).length := by rw [← b]
        rw [List.length_take, List.length_append] at this
        omega
      · intro _
        exact ih (n + 1) (by omega) (by omega) (by omega)
  exact key _ 1 rfl (by omega) (by omega)
theorem refDecode_ev {s rest : List Int} (hr : Stuck rest) (hs : s.all scalar = true) (ho : Oct (enc s ++ rest)) (hl : (enc s ++ rest).length ≤ 1099511627776) : Ev (fun k => paronymref01_Decode.f k (strOfNums (enc s ++ rest))) (s, ((enc s).length : Int)) := by
  have hl' := hl
  rw [List.length_append] at hl
  have el := enc_len hs
  have key : ∀ (d i : Nat), s.length - i = d → i ≤ s.length → Ev (fun k => paronymref01_Decode.l0 k (strOfNums (enc s ++ rest)) (s.take i) ((enc (s.take i)).length : Int)) (s, ((enc s).length : Int)) := by
    intro d
    induction d with
    | zero =>
      intro i h1 h2
      have : i = s.length := by omega
      subst this
      rw [List.take_length]
      by_cases z : rest.length = 0
      · exact Ev.step (fun k => rfl) (Ev.neg (by rw [size_str, List.length_append]; omega) (Ev.now _))
      · refine Ev.step (fun k => rfl) (Ev.pos (by rw [size_str, List.length_append]; omega) (Ev.pos (by omega) (Ev.pos (by rw [size_str, List.length_append]; omega) ?_)))
        rw [extract_str, size_str, List.take_length, Int.toNat_natCast, List.drop_left]
        exact Ev.bind (refNext_miss (fun x hx => ho x (List.mem_append_right _ hx)) hr) (Ev.pos rfl (Ev.now _))
    | succ d ih =>
      intro i h1 h2
      have hi : i < s.length := by omega
      have hsi : scalar (rd s i) = true := by
        rw [List.all_eq_true] at hs
        exact hs _ (rd_mem (by omega) (by omega))
      have hc := (scalar_iff _).1 hsi
      have hol := oct_len hc.1 hc.2.1
      have e : enc s = enc (s.take i) ++ (oct (rd s i) ++ enc (s.drop (i + 1))) := by
        rw [← enc_cons, ← drop_cons s i hi, ← enc_append, List.take_append_drop]
      have hlen : (enc s ++ rest).length = (enc (s.take i)).length + (oct (rd s i)).length + (enc (s.drop (i + 1))).length + rest.length := by
        rw [e]; simp; omega
      refine Ev.step (fun k => rfl) (Ev.pos (by rw [size_str, hlen]; omega) (Ev.pos (by omega) (Ev.pos (by rw [size_str, hlen]; omega) ?_)))
      have ed : (enc s ++ rest).drop (enc (s.take i)).length = oct (rd s i) ++ (enc (s.drop (i + 1)) ++ rest) := by
        conv => lhs; rw [e]
        rw [List.append_assoc, List.drop_left, List.append_assoc]
      rw [extract_str, size_str, List.take_length, Int.toNat_natCast, ed]
      have ho2 : Oct (oct (rd s i) ++ (enc (s.drop (i + 1)) ++ rest)) := by
        rw [← ed]; exact ho.drop _
      refine Ev.bind (refNext_hit hsi ho2) (Ev.neg (by show ¬ (((oct (rd s i)).length : Int) = 0); omega) (Ev.pos (by rw [List.length_take]; omega) ?_))
      have en : wrap64 (((enc (s.take i)).length : Int) + ((oct (rd s i)).length : Int)) = (enc (s.take (i + 1))).length := by
        rw [take_snoc s i hi, enc_snoc, List.length_append, w64 (by omega) (by omega)]; simp
      have := ih (i + 1) (by omega) (by omega)
      rw [← take_snoc s i hi, en]
      exact this
  have := key s.length 0 (by omega) (by omega)
  rw [List.take_zero] at this
  exact this

end Go.Proofs.Ytooiajkbpkfplaa.K

-- from Pdec3
/- UTF: what the laws need at once. -/
namespace Go.Proofs.Ytooiajkbpkfplaa.K
set_option linter.unusedVariables false
set_option linter.unusedSimpArgs false
open Go.RowKit Go.Proofs.YtooiajkbpkfplaaW.PrintWords Go.Proofs.YtooiajkbpkfplaaW.PrintMore Go.Proofs.Ytooiajkbpkfplaa.Q

theorem stuck_nil : Stuck [] := by
  intro c m hs e
  have hc := (scalar_iff c).1 hs
  have := oct_len hc.1 hc.2.1
  have : ([] : List Int).length = (oct c ++ m).length := by rw [← e]
  rw [List.length_append, List.length_nil] at this
  omega
theorem Decode_enc {s : List Int} (hs : s.all scalar = true) (hl : s.length ≤ 1048576) : Ev (fun k => utf_Decode.f k (enc s)) (s, 0, ((enc s).length : Int)) := by
  have h := enc_len hs
  have := Decode_ev (s := s) (rest := []) stuck_nil hs (by rw [List.append_nil]; exact enc_oct hs) (by rw [List.append_nil]; omega)
  rw [List.append_nil, if_pos (c := ([] : List Int).length = 0) rfl] at this
  exact this
theorem all_append_scalar (s t : List Int) : (s ++ t).all scalar = (s.all scalar && t.all scalar) := List.all_append
end Go.Proofs.Ytooiajkbpkfplaa.K

-- from PureUtfEncodes
/- UtfEncodes: for every input. -/
namespace Go.Proofs.Ytooiajkbpkfplaa.Pure
set_option linter.unusedVariables false
set_option linter.unusedSimpArgs false
open Go.RowKit Go.Proofs.Ytooiajkbpkfplaa.Q Go.Proofs.YtooiajkbpkfplaaW.PrintWords Go.Proofs.YtooiajkbpkfplaaW.PrintLast Go.Proofs.Ytooiajkbpkfplaa.K

theorem UtfEncodes : paronymlaw01_UtfEncodes.Pure := by
  intro s _ _ _
  apply Ev.rounds
  unfold paronymlaw01_UtfEncodes.f
  refine Ev.bind awake01_ev (Ev.pos rfl ?_)
  generalize hz : decide ((s.length : Int) > 300) = z
  by_cases c : z = true
  · exact Ev.step (fun k => rfl) (Ev.pos c (Ev.bind awake01_ev (Ev.now _)))
  · refine Ev.step (fun k => rfl) (Ev.neg c ?_)
    rw [← hz, decide_eq_true_eq] at c
    refine Ev.bind (Encode_ev s (by omega)) (Ev.bind (refEncode_ev s (by omega)) ?_)
    have key : ∀ b : Bool, b = false → Ev (fun k => paronymlaw01_UtfEncodes.j1 k s (if s.all scalar = true then (enc s, true) else ([], false)).1 (if s.all scalar = true then (enc s, true) else ([], false)).2 b) true := by
      intro b hb
      refine Ev.step (fun k => rfl) (Ev.neg (by rw [hb]; decide) ?_)
      by_cases h : s.all scalar = true
      · rw [if_pos h]
        exact Ev.pos rfl (Ev.bind (Decode_enc h (by omega)) (Ev.pos rfl (Ev.pos rfl (Ev.bind (refSame_ev s s (by omega) (by omega)) (Ev.ret (by simp))))))
      · rw [if_neg h]
        exact Ev.neg (by decide) (Ev.now _)
    by_cases h : s.all scalar = true
    · refine Ev.neg (by rw [if_pos h, if_pos h]; show ¬ ((true != true) = true); decide) (key _ ?_)
      rw [if_pos h, if_pos h]
      simp
    · refine Ev.neg (by rw [if_neg h, if_neg h]; show ¬ ((false != false) = true); decide) (key _ ?_)
      rw [if_neg h, if_neg h]
      simp [strOfNums, ba_toList]

end Go.Proofs.Ytooiajkbpkfplaa.Pure

-- from LawUtfEncodes
-- Made by hp.py, a program of this session, with the kit's printer. Not trusted: Lean checks it.
namespace Go.Proofs.Ytooiajkbpkfplaa.utfEncodes
open Go.ChangeShapes Go.WideShapes Go.ChangeAt Go.RowKit
open Go.ChangeMaps (open_string shut_string)
set_option linter.unusedVariables false
theorem own : ownKnob Try.prog.godebug = none := by kernel_rfl
theorem laidOut : laidOutB Try.prog = true := by kernel_rfl
def IsRow (k : IntKind) (w : World) (a : Option Addr) (len cap : Nat) (zs : List Int) : Prop :=
  (a = none ∧ len = 0 ∧ cap = 0 ∧ zs = []) ∨
  ∃ x, a = some x ∧ len ≤ cap ∧ cap ≤ maxLen ∧ zs.length = cap ∧ (∀ i, i < zs.length → w.cell? (x.add i) = some (.int k (zs.getD i 0))) ∧ ∀ n ∈ zs, (Lit.int k n).wf = true
set_option maxRecDepth 100000 in
theorem lifted (os : Os) (started : os.Started) (H : Type) (enc : TypeId × Value → H) :
    ReturnsInHanded {} Try.checked os 7 .any (Rows.utfEncodesSpec.pre6 enc Try.prog Try.f7 Rows.utfEncodesRow.domain false) (Rows.utfEncodesSpec.post enc Try.prog Try.f7 false true false false) := by
  refine returnsInHanded_of_change_sized (C := Try.checked) own started (by kernel_rfl) Try.func7
    (ChangeSpec.witness6 (enc := enc) (C := Try.checked) false ⟨#[], #[.slice none 0 0], []⟩ 8 (by kernel_rfl) (by kernel_rfl) (by kernel_rfl) (by kernel_rfl)) ?_
  intro W base args ds gs before hval0 hW hcnd hsz0 _
  have hsz : (DataW.weightsEach Try.prog (Try.f7.params.toList ++ Rows.utfEncodesSpec.plain.varTypes Try.prog) (ds ++ gs)).all (· ≤ reachBytes) = true := hsz0
  have hval : ∀ (j : Nat) t v, Try.f7.params[j]? = some t → args[j]? = some v → Value.okWide Try.prog W .any base t v := hval0
  have hW' := hW
  obtain ⟨p, q, hA0, hV, rfl, hfz, hnd⟩ := hW
  have hA : DataW.TrodAll enc Try.prog W 0 (fun _ => true) true Try.f7.params.toList args.toList ds p := hA0
  rw [Try.params7] at hA hval hsz
  obtain ⟨v0, vs0, d0, ds0, p0, q0, hargs, rfl, rfl, h0, r0⟩ := trodAll_cons hA
  obtain ⟨rfl, rfl, rfl⟩ := trodAll_nil r0
  obtain rfl : args = #[v0] := by cases args; simp_all
  obtain ⟨rfl, rfl⟩ := trodVars_none hV
  obtain ⟨a0, len0, cap0, rfl⟩ := okWide_slice Try.underlying31 (hval 0 31 v0 rfl rfl)
  have k0 := h0
  have lt0 : ∀ x ∈ p0, x.block < W.heap.size := by obtain ⟨m, hm⟩ := k0; exact DataW.trod_lt m _ _ _ hm
  obtain ⟨z0, w0⟩ : ∃ zs, IsRow .i64 W a0 len0 cap0 zs := by
    obtain ⟨fuel, hf⟩ := h0
    rcases open_ints Try.underlying31 Try.underlying3 (by kernel_rfl) hf with ⟨hcs, _⟩ | ⟨x, l, c, zs, hcs, _, hl, hm, hz, _, hcell, hwz⟩
    · simp [Value.cells] at hcs
      obtain ⟨rfl, rfl, rfl⟩ := hcs
      exact ⟨[], .inl ⟨rfl, rfl, rfl, rfl⟩⟩
    · simp [Value.cells] at hcs
      obtain ⟨rfl, rfl, rfl⟩ := hcs
      exact ⟨zs, .inr ⟨_, rfl, hl, hm, by simpa using hz, hcell, hwz⟩⟩
  have y0 : len0 * 8 ≤ 140737488351232 := Go.Proofs.YtooiajkbpkfplaaW.PrintWords.sized_ints hsz (j := 0) (t := 31) rfl rfl Try.underlying31 Try.underlying3 (by kernel_rfl) (by kernel_rfl) h0
  clear hA0 hval0 hsz0 hsz
  refine (Q.paronymlaw01_UtfEncodes.walk Pure.UtfEncodes a0 len0 cap0 z0 W w0 y0).mono fun e W' ⟨he, bel⟩ => ?_
  subst he
  exact ⟨_, rfl, _, _, _, [], _, [], hW', trodAll_mk1 (shut_bool Try.underlying4 _), (trodAll_cons_mk (Below.trod laidOut (by kernel_rfl) (of_decide_eq_true (by kernel_rfl)) k0 bel lt0) trodAll_mk0), rfl, bel.frame _, fun h => by cases h⟩
theorem over : Rows.utfEncodesRow.holds Try.pinned (OpenSpec.ofChange Rows.utfEncodesSpec) :=
  OpenClaim.holds_of_wide 7 Try.f7 rfl rfl rfl rfl rfl rfl rfl ⟨rfl, rfl, rfl, rfl, rfl⟩ rfl rfl rfl rfl rfl (by kernel_rfl) Try.func7 (by kernel_rfl)
    (of_decide_eq_true (by kernel_rfl)) (by unfold Func.isWrapper; first | (rw [if_pos (by decide +kernel)]; kernel_rfl) | (rw [if_neg (by decide +kernel)]; exact ⟨rfl, rfl⟩))
    (fun os started H enc _ => lifted os started H enc)
theorem proved : Rows.UtfEncodesSaid := over
#print axioms proved
end Go.Proofs.Ytooiajkbpkfplaa.utfEncodes
namespace Go.Proofs.Ytooiajkbpkfplaa
/-- The row, under a short name, for the claim. -/
theorem utfEncodes_holds : Rows.UtfEncodesSaid := utfEncodes.proved
end Go.Proofs.Ytooiajkbpkfplaa
