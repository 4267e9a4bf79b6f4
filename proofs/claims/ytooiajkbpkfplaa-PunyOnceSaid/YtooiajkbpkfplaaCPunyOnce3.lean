/- Part 3 of 4 of the proof of PunyOnce: PunyOnce: one form For every input; no condition. -/
import Derived.Test.YtooiajkbpkfplaaCPunyOnce1
import Derived.Test.YtooiajkbpkfplaaCPunyOnce2
import Derived.Lib.SlBytesConst
import Derived.Deep.RegionWith

-- from Qf42
-- Made by hp.py, a program of this session, with the kit's printer. Not trusted: Lean checks it.
namespace Go.Proofs.Ytooiajkbpkfplaa.Q
open Go.RowKit Go.Proofs.YtooiajkbpkfplaaW.PrintWords Go.Proofs.YtooiajkbpkfplaaW.PrintLast Go.Proofs.YtooiajkbpkfplaaW.PrintMore
attribute [local go_sem] max2_int min2_int max_two min_two max_three min_three max_four min_four   -- for this text's walks alone
set_option linter.unusedVariables false
set_option linter.unusedSimpArgs false

/-! ### paronymref12_Encode: function 42 -/
mutual
def paronymref12_Encode.l0 : Nat → List Int → ByteArray → Int → Option (ByteArray × Int)
  | 0, _, _, _ => none
  | k + 1, x0, x4, x5 => if x5 < (x0.length : Int) then (if 0 ≤ x5 then ((paronymref01_Scalar.f (rd x0 x5)).bind fun t102 => (if t102 = true then (paronymref12_Encode.l0 k x0 x4 (wrap64 (x5 + 1))) else (some ((⟨#[]⟩ : ByteArray), 10)))) else (none)) else (if (x0.length : Int) > 1000 then (some ((⟨#[]⟩ : ByteArray), 36)) else (paronymref12_Encode.l1 k x0 x4 0 0))
def paronymref12_Encode.l1 : Nat → List Int → ByteArray → Int → Int → Option (ByteArray × Int)
  | 0, _, _, _, _ => none
  | k + 1, x0, x4, x6, x7 => if x7 < (x0.length : Int) then (if 0 ≤ x7 then (if (rd x0 x7) < 128 then ((some (([(rd x0 x7) % 256] : List Int) : List Int)).bind fun y105 => (if x4.size + (strOfNums y105).size ≤ 9223372036854775807 then (paronymref12_Encode.l1 k x0 (x4 ++ (strOfNums y105)) (wrap64 (x6 + 1)) (wrap64 (x7 + 1))) else (none))) else (paronymref12_Encode.l1 k x0 x4 x6 (wrap64 (x7 + 1)))) else (none)) else (if x6 > 0 then (if x4.size + 1 ≤ 9223372036854775807 then (paronymref12_Encode.j2 k x0 (x4 ++ (⟨#[45]⟩ : ByteArray)) x6 x6) else (none)) else (paronymref12_Encode.j2 k x0 x4 x6 x6))
def paronymref12_Encode.j2 : Nat → List Int → ByteArray → Int → Int → Option (ByteArray × Int)
  | 0, _, _, _, _ => none
  | k + 1, x0, x4, x6, x8 => paronymref12_Encode.l2 k x0 x4 x6 x8 128 72 0
def paronymref12_Encode.l2 : Nat → List Int → ByteArray → Int → Int → Int → Int → Int → Option (ByteArray × Int)
  | 0, _, _, _, _, _, _, _ => none
  | k + 1, x0, x4, x6, x8, x9, x10, x11 => if x6 < (x0.length : Int) then (paronymref12_Encode.l3 k x0 x4 x6 x8 x9 x10 x11 2000000 0) else (some (x4, 0))
def paronymref12_Encode.l3 : Nat → List Int → ByteArray → Int → Int → Int → Int → Int → Int → Int → Option (ByteArray × Int)
  | 0, _, _, _, _, _, _, _, _, _ => none
  | k + 1, x0, x4, x6, x8, x9, x10, x11, x12, x13 => if x13 < (x0.length : Int) then (if 0 ≤ x13 then (if (rd x0 x13) ≥ x9 then (if (rd x0 x13) < x12 then (paronymref12_Encode.l3 k x0 x4 x6 x8 x9 x10 x11 (rd x0 x13) (wrap64 (x13 + 1))) else (paronymref12_Encode.l3 k x0 x4 x6 x8 x9 x10 x11 x12 (wrap64 (x13 + 1)))) else (paronymref12_Encode.l3 k x0 x4 x6 x8 x9 x10 x11 x12 (wrap64 (x13 + 1)))) else (none)) else (paronymref12_Encode.l4 k x0 x4 x6 x8 x12 x10 (wrap64 (x11 + (wrap64 ((wrap64 (x12 - x9)) * (wrap64 (x6 + 1)))))) 0)
def paronymref12_Encode.l4 : Nat → List Int → ByteArray → Int → Int → Int → Int → Int → Int → Option (ByteArray × Int)
  | 0, _, _, _, _, _, _, _, _ => none
  | k + 1, x0, x4, x6, x8, x9, x10, x11, x14 => if x14 < (x0.length : Int) then (if 0 ≤ x14 then (if (rd x0 x14) < x9 then (paronymref12_Encode.j6 k x0 x4 x6 x8 x9 x10 (wrap64 (x11 + 1)) x14) else (paronymref12_Encode.j6 k x0 x4 x6 x8 x9 x10 x11 x14)) else (none)) else (paronymref12_Encode.l2 k x0 x4 x6 x8 (wrap64 (x9 + 1)) x10 (wrap64 (x11 + 1)))
def paronymref12_Encode.j6 : Nat → List Int → ByteArray → Int → Int → Int → Int → Int → Int → Option (ByteArray × Int)
  | 0, _, _, _, _, _, _, _, _ => none
  | k + 1, x0, x4, x6, x8, x9, x10, x11, x14 => if 0 ≤ x14 then (if x14 < (x0.length : Int) then (if (rd x0 x14) = x9 then ((paronymref12_Number.f k x11 x10).bind fun t113 => (if x4.size + t113.size ≤ 9223372036854775807 then ((paronymref12_Bias.f k x11 (wrap64 (x6 + 1)) (x6 == x8)).bind fun t114 => (paronymref12_Encode.l4 k x0 (x4 ++ t113) (wrap64 (x6 + 1)) x8 x9 t114 0 (wrap64 (x14 + 1)))) else (none))) else (paronymref12_Encode.l4 k x0 x4 x6 x8 x9 x10 x11 (wrap64 (x14 + 1)))) else (none)) else (none)
end
def paronymref12_Encode.f (k : Nat) (l0 : List Int) : Option (ByteArray × Int) := paronymref12_Encode.l0 k l0 (⟨#[]⟩ : ByteArray) 0
theorem paronymref12_Encode.mono_l : ∀ k, (∀ y0 y1 y2, LeO (paronymref12_Encode.l0 k y0 y1 y2) (paronymref12_Encode.l0 (k + 1) y0 y1 y2)) ∧ (∀ y0 y1 y2 y3, LeO (paronymref12_Encode.l1 k y0 y1 y2 y3) (paronymref12_Encode.l1 (k + 1) y0 y1 y2 y3)) ∧ (∀ y0 y1 y2 y3, LeO (paronymref12_Encode.j2 k y0 y1 y2 y3) (paronymref12_Encode.j2 (k + 1) y0 y1 y2 y3)) ∧ (∀ y0 y1 y2 y3 y4 y5 y6, LeO (paronymref12_Encode.l2 k y0 y1 y2 y3 y4 y5 y6) (paronymref12_Encode.l2 (k + 1) y0 y1 y2 y3 y4 y5 y6)) ∧ (∀ y0 y1 y2 y3 y4 y5 y6 y7 y8, LeO (paronymref12_Encode.l3 k y0 y1 y2 y3 y4 y5 y6 y7 y8) (paronymref12_Encode.l3 (k + 1) y0 y1 y2 y3 y4 y5 y6 y7 y8)) ∧ (∀ y0 y1 y2 y3 y4 y5 y6 y7, LeO (paronymref12_Encode.l4 k y0 y1 y2 y3 y4 y5 y6 y7) (paronymref12_Encode.l4 (k + 1) y0 y1 y2 y3 y4 y5 y6 y7)) ∧ (∀ y0 y1 y2 y3 y4 y5 y6 y7, LeO (paronymref12_Encode.j6 k y0 y1 y2 y3 y4 y5 y6 y7) (paronymref12_Encode.j6 (k + 1) y0 y1 y2 y3 y4 y5 y6 y7))
  | 0 => ⟨fun _ _ _ r h => by simp [paronymref12_Encode.l0] at h, fun _ _ _ _ r h => by simp [paronymref12_Encode.l1] at h, fun _ _ _ _ r h => by simp [paronymref12_Encode.j2] at h, fun _ _ _ _ _ _ _ r h => by simp [paronymref12_Encode.l2] at h, fun _ _ _ _ _ _ _ _ _ r h => by simp [paronymref12_Encode.l3] at h, fun _ _ _ _ _ _ _ _ r h => by simp [paronymref12_Encode.l4] at h, fun _ _ _ _ _ _ _ _ r h => by simp [paronymref12_Encode.j6] at h⟩
  | k + 1 => by
    obtain ⟨ih0, ih1, ih2, ih3, ih4, ih5, ih6⟩ := paronymref12_Encode.mono_l k
    refine ⟨?_, ?_, ?_, ?_, ?_, ?_, ?_⟩
    · intro y0 y1 y2
      unfold paronymref12_Encode.l0
      repeat' first
      | (with_reducible exact ih0 _ _ _)
      | (with_reducible exact ih1 _ _ _ _)
      | (with_reducible exact ih2 _ _ _ _)
      | (with_reducible exact ih3 _ _ _ _ _ _ _)
      | (with_reducible exact ih4 _ _ _ _ _ _ _ _ _)
      | (with_reducible exact ih5 _ _ _ _ _ _ _ _)
      | (with_reducible exact ih6 _ _ _ _ _ _ _ _)
      | (with_reducible exact paronymref12_Bias.mono _ _ _ _)
      | (with_reducible exact paronymref12_Number.mono _ _ _)
      | (with_reducible exact LeO.refl _)
      | (with_reducible exact LeO.none _)
      | (with_reducible refine LeO.ite ?_ ?_)
      | (with_reducible refine LeO.bind ?_ (fun _ => ?_))
      | exact ih0 _ _ _
      | exact ih1 _ _ _ _
      | exact ih2 _ _ _ _
      | exact ih3 _ _ _ _ _ _ _
      | exact ih4 _ _ _ _ _ _ _ _ _
      | exact ih5 _ _ _ _ _ _ _ _
      | exact ih6 _ _ _ _ _ _ _ _
      | exact paronymref12_Bias.mono _ _ _ _
      | exact paronymref12_Number.mono _ _ _
      | exact LeO.none _
      | refine LeO.ite ?_ ?_
      | refine LeO.bind ?_ (fun _ => ?_)
    · intro y0 y1 y2 y3
      unfold paronymref12_Encode.l1
      repeat' first
      | (with_reducible exact ih0 _ _ _)
      | (with_reducible exact ih1 _ _ _ _)
      | (with_reducible exact ih2 _ _ _ _)
      | (with_reducible exact ih3 _ _ _ _ _ _ _)
      | (with_reducible exact ih4 _ _ _ _ _ _ _ _ _)
      | (with_reducible exact ih5 _ _ _ _ _ _ _ _)
      | (with_reducible exact ih6 _ _ _ _ _ _ _ _)
      | (with_reducible exact paronymref12_Bias.mono _ _ _ _)
      | (with_reducible exact paronymref12_Number.mono _ _ _)
      | (with_reducible exact LeO.refl _)
      | (with_reducible exact LeO.none _)
      | (with_reducible refine LeO.ite ?_ ?_)
      | (with_reducible refine LeO.bind ?_ (fun _ => ?_))
      | exact ih0 _ _ _
      | exact ih1 _ _ _ _
      | exact ih2 _ _ _ _
      | exact ih3 _ _ _ _ _ _ _
      | exact ih4 _ _ _ _ _ _ _ _ _
      | exact ih5 _ _ _ _ _ _ _ _
      | exact ih6 _ _ _ _ _ _ _ _
      | exact paronymref12_Bias.mono _ _ _ _
      | exact paronymref12_Number.mono _ _ _
      | exact LeO.none _
      | refine LeO.ite ?_ ?_
      | refine LeO.bind ?_ (fun _ => ?_)
    · intro y0 y1 y2 y3
      unfold paronymref12_Encode.j2
      repeat' first
      | (with_reducible exact ih0 _ _ _)
      | (with_reducible exact ih1 _ _ _ _)
      | (with_reducible exact ih2 _ _ _ _)
      | (with_reducible exact ih3 _ _ _ _ _ _ _)
      | (with_reducible exact ih4 _ _ _ _ _ _ _ _ _)
      | (with_reducible exact ih5 _ _ _ _ _ _ _ _)
      | (with_reducible exact ih6 _ _ _ _ _ _ _ _)
      | (with_reducible exact paronymref12_Bias.mono _ _ _ _)
      | (with_reducible exact paronymref12_Number.mono _ _ _)
      | (with_reducible exact LeO.refl _)
      | (with_reducible exact LeO.none _)
      | (with_reducible refine LeO.ite ?_ ?_)
      | (with_reducible refine LeO.bind ?_ (fun _ => ?_))
      | exact ih0 _ _ _
      | exact ih1 _ _ _ _
      | exact ih2 _ _ _ _
      | exact ih3 _ _ _ _ _ _ _
      | exact ih4 _ _ _ _ _ _ _ _ _
      | exact ih5 _ _ _ _ _ _ _ _
      | exact ih6 _ _ _ _ _ _ _ _
      | exact paronymref12_Bias.mono _ _ _ _
      | exact paronymref12_Number.mono _ _ _
      | exact LeO.none _
      | refine LeO.ite ?_ ?_
      | refine LeO.bind ?_ (fun _ => ?_)
    · intro y0 y1 y2 y3 y4 y5 y6
      unfold paronymref12_Encode.l2
      repeat' first
      | (with_reducible exact ih0 _ _ _)
      | (with_reducible exact ih1 _ _ _ _)
      | (with_reducible exact ih2 _ _ _ _)
      | (with_reducible exact ih3 _ _ _ _ _ _ _)
      | (with_reducible exact ih4 _ _ _ _ _ _ _ _ _)
      | (with_reducible exact ih5 _ _ _ _ _ _ _ _)
      | (with_reducible exact ih6 _ _ _ _ _ _ _ _)
      | (with_reducible exact paronymref12_Bias.mono _ _ _ _)
      | (with_reducible exact paronymref12_Number.mono _ _ _)
      | (with_reducible exact LeO.refl _)
      | (with_reducible exact LeO.none _)
      | (with_reducible refine LeO.ite ?_ ?_)
      | (with_reducible refine LeO.bind ?_ (fun _ => ?_))
      | exact ih0 _ _ _
      | exact ih1 _ _ _ _
      | exact ih2 _ _ _ _
      | exact ih3 _ _ _ _ _ _ _
      | exact ih4 _ _ _ _ _ _ _ _ _
      | exact ih5 _ _ _ _ _ _ _ _
      | exact ih6 _ _ _ _ _ _ _ _
      | exact paronymref12_Bias.mono _ _ _ _
      | exact paronymref12_Number.mono _ _ _
      | exact LeO.none _
      | refine LeO.ite ?_ ?_
      | refine LeO.bind ?_ (fun _ => ?_)
    · intro y0 y1 y2 y3 y4 y5 y6 y7 y8
      unfold paronymref12_Encode.l3
      repeat' first
      | (with_reducible exact ih0 _ _ _)
      | (with_reducible exact ih1 _ _ _ _)
      | (with_reducible exact ih2 _ _ _ _)
      | (with_reducible exact ih3 _ _ _ _ _ _ _)
      | (with_reducible exact ih4 _ _ _ _ _ _ _ _ _)
      | (with_reducible exact ih5 _ _ _ _ _ _ _ _)
      | (with_reducible exact ih6 _ _ _ _ _ _ _ _)
      | (with_reducible exact paronymref12_Bias.mono _ _ _ _)
      | (with_reducible exact paronymref12_Number.mono _ _ _)
      | (with_reducible exact LeO.refl _)
      | (with_reducible exact LeO.none _)
      | (with_reducible refine LeO.ite ?_ ?_)
      | (with_reducible refine LeO.bind ?_ (fun _ => ?_))
      | exact ih0 _ _ _
      | exact ih1 _ _ _ _
      | exact ih2 _ _ _ _
      | exact ih3 _ _ _ _ _ _ _
      | exact ih4 _ _ _ _ _ _ _ _ _
      | exact ih5 _ _ _ _ _ _ _ _
      | exact ih6 _ _ _ _ _ _ _ _
      | exact paronymref12_Bias.mono _ _ _ _
      | exact paronymref12_Number.mono _ _ _
      | exact LeO.none _
      | refine LeO.ite ?_ ?_
      | refine LeO.bind ?_ (fun _ => ?_)
    · intro y0 y1 y2 y3 y4 y5 y6 y7
      unfold paronymref12_Encode.l4
      repeat' first
      | (with_reducible exact ih0 _ _ _)
      | (with_reducible exact ih1 _ _ _ _)
      | (with_reducible exact ih2 _ _ _ _)
      | (with_reducible exact ih3 _ _ _ _ _ _ _)
      | (with_reducible exact ih4 _ _ _ _ _ _ _ _ _)
      | (with_reducible exact ih5 _ _ _ _ _ _ _ _)
      | (with_reducible exact ih6 _ _ _ _ _ _ _ _)
      | (with_reducible exact paronymref12_Bias.mono _ _ _ _)
      | (with_reducible exact paronymref12_Number.mono _ _ _)
      | (with_reducible exact LeO.refl _)
      | (with_reducible exact LeO.none _)
      | (with_reducible refine LeO.ite ?_ ?_)
      | (with_reducible refine LeO.bind ?_ (fun _ => ?_))
      | exact ih0 _ _ _
      | exact ih1 _ _ _ _
      | exact ih2 _ _ _ _
      | exact ih3 _ _ _ _ _ _ _
      | exact ih4 _ _ _ _ _ _ _ _ _
      | exact ih5 _ _ _ _ _ _ _ _
      | exact ih6 _ _ _ _ _ _ _ _
      | exact paronymref12_Bias.mono _ _ _ _
      | exact paronymref12_Number.mono _ _ _
      | exact LeO.none _
      | refine LeO.ite ?_ ?_
      | refine LeO.bind ?_ (fun _ => ?_)
    · intro y0 y1 y2 y3 y4 y5 y6 y7
      unfold paronymref12_Encode.j6
      repeat' first
      | (with_reducible exact ih0 _ _ _)
      | (with_reducible exact ih1 _ _ _ _)
      | (with_reducible exact ih2 _ _ _ _)
      | (with_reducible exact ih3 _ _ _ _ _ _ _)
      | (with_reducible exact ih4 _ _ _ _ _ _ _ _ _)
      | (with_reducible exact ih5 _ _ _ _ _ _ _ _)
      | (with_reducible exact ih6 _ _ _ _ _ _ _ _)
      | (with_reducible exact paronymref12_Bias.mono _ _ _ _)
      | (with_reducible exact paronymref12_Number.mono _ _ _)
      | (with_reducible exact LeO.refl _)
      | (with_reducible exact LeO.none _)
      | (with_reducible refine LeO.ite ?_ ?_)
      | (with_reducible refine LeO.bind ?_ (fun _ => ?_))
      | exact ih0 _ _ _
      | exact ih1 _ _ _ _
      | exact ih2 _ _ _ _
      | exact ih3 _ _ _ _ _ _ _
      | exact ih4 _ _ _ _ _ _ _ _ _
      | exact ih5 _ _ _ _ _ _ _ _
      | exact ih6 _ _ _ _ _ _ _ _
      | exact paronymref12_Bias.mono _ _ _ _
      | exact paronymref12_Number.mono _ _ _
      | exact LeO.none _
      | refine LeO.ite ?_ ?_
      | refine LeO.bind ?_ (fun _ => ?_)
theorem paronymref12_Encode.mono : ∀ a0 k, LeO (paronymref12_Encode.f k a0) (paronymref12_Encode.f (k + 1) a0) := by
  intro a0 k
  obtain ⟨ih0, ih1, ih2, ih3, ih4, ih5, ih6⟩ := paronymref12_Encode.mono_l k
  unfold paronymref12_Encode.f
  repeat' first
      | (with_reducible exact ih0 _ _ _)
      | (with_reducible exact ih1 _ _ _ _)
      | (with_reducible exact ih2 _ _ _ _)
      | (with_reducible exact ih3 _ _ _ _ _ _ _)
      | (with_reducible exact ih4 _ _ _ _ _ _ _ _ _)
      | (with_reducible exact ih5 _ _ _ _ _ _ _ _)
      | (with_reducible exact ih6 _ _ _ _ _ _ _ _)
      | (with_reducible exact paronymref12_Bias.mono _ _ _ _)
      | (with_reducible exact paronymref12_Number.mono _ _ _)
      | (with_reducible exact LeO.refl _)
      | (with_reducible exact LeO.none _)
      | (with_reducible refine LeO.ite ?_ ?_)
      | (with_reducible refine LeO.bind ?_ (fun _ => ?_))
      | exact ih0 _ _ _
      | exact ih1 _ _ _ _
      | exact ih2 _ _ _ _
      | exact ih3 _ _ _ _ _ _ _
      | exact ih4 _ _ _ _ _ _ _ _ _
      | exact ih5 _ _ _ _ _ _ _ _
      | exact ih6 _ _ _ _ _ _ _ _
      | exact paronymref12_Bias.mono _ _ _ _
      | exact paronymref12_Number.mono _ _ _
      | exact LeO.none _
      | refine LeO.ite ?_ ?_
      | refine LeO.bind ?_ (fun _ => ?_)
set_option maxHeartbeats 8000000 in
set_option maxRecDepth 100000 in
theorem paronymref12_Encode.calls (k : Nat) (A0 : Option Addr) (c0 : Nat) (l0 : List Int) (r1 : ByteArray) (r2 : Int) (w : World) (hr0 : Kd.C (Kd.int .i64) w A0 l0.length l0) (hc0 : l0.length ≤ c0) (h : paronymref12_Encode.f k l0 = some (r1, r2)) :
    Calls Try.prog 42 #[.slice A0 l0.length c0] w fun e w' => e = .returned (.tuple #[.string r1, .int .i64 r2]) ∧ Below w.heap.size w w' := by
  have HR0 := Aside0.mk hr0
  have HC0 := Aside0.mk hc0
  clear hr0 hc0
  have HB := Aside0.mk (Below.refl w.heap.size w)
  have H : (paronymref12_Encode.l0 k l0 (⟨#[]⟩ : ByteArray) 0) = some (r1, r2) := h
  clear h
  have H' := Aside0.mk H
  clear H
  go_enter Try.func42, Try.ntmps42
  go_wp2
  go_loopg [5] k (fun kq v5 w' => ∃ (x5_1 : Int), v5 = .int .i64 x5_1 ∧ Aside0 (paronymref12_Encode.l0 kq l0 (⟨#[]⟩ : ByteArray) x5_1 = some (r1, r2)) ∧ Aside0 (kq ≤ k) ∧ Aside0 (Below w.heap.size w w'))
  case atStart => exact ⟨(0), (by first | rfl | (simp; done) | (simp [*]; done)), H', ⟨Nat.le_refl _⟩, ⟨by repeat (first | (with_reducible first | exact HB.out | apply below_alloc | apply pw_below_drewN | apply below_drew1) | exact HB.out)⟩⟩
  case round =>
    clear H'
    obtain ⟨x5_1, rfl, HA, HK1, HB⟩ := hrel
    cases gk with
    | zero => exact absurd HA.out (by simp [paronymref12_Encode.l0])
    | succ k1 =>
      have H := HA.out
      clear HA
      simp only [paronymref12_Encode.l0] at H
      by_cases c2 : x5_1 < (l0.length : Int)
      · rw [if_pos c2] at H
        have c2b0 : decide (x5_1 < (l0.length : Int)) = true := decide_eq_true c2
        clear c2
        by_cases c3 : 0 ≤ x5_1
        · rw [if_pos c3] at H
          have c3b0 : decide (0 ≤ x5_1) = true := decide_eq_true c3
          clear c3
          replace H := Option.bind_eq_some_iff.mp H
          obtain ⟨t102, A40, H⟩ := H
          replace H : (if t102 = true then (paronymref12_Encode.l0 k1 l0 (⟨#[]⟩ : ByteArray) (wrap64 (x5_1 + 1))) else (some ((⟨#[]⟩ : ByteArray), 10))) = some (r1, r2) := H
          have A4 := Aside0.mk A40
          clear A40
          by_cases c5 : t102 = true
          · subst c5
            have H1 : (paronymref12_Encode.l0 k1 l0 (⟨#[]⟩ : ByteArray) (wrap64 (x5_1 + 1))) = some (r1, r2) := by rw [if_pos rfl] at H; exact H
            clear H
            have H := H1
            clear H1
            have H' := Aside0.mk H
            clear H
            have p101 : 0 ≤ (x5_1 : Int) := of_decide_eq_true (by first | (with_reducible assumption) | assumption)
            have q101 : x5_1 < (l0.length : Int) := of_decide_eq_true (by first | (with_reducible assumption) | assumption)
            obtain ⟨ad101, e101, hx101_0⟩ := Kd.at_int HR0.out x5_1 p101 q101
            cases e101
            replace hx101_0 := (HB.out.cell (World.block_lt_of_cell? w _ hx101_0)).trans hx101_0
            replace p101 := eq_true p101
            replace q101 := eq_true q101
            go_wp2_with (first | ((with_reducible refine gate_callee (f := 40) rfl ?_); refine goesL_ (some 25) rfl rfl Try.func40 (by kernel_rfl) rfl #[.int .i64 (rd l0 x5_1)] rfl (by (try simp only [List.map_toArray, List.map_cons, List.map_nil]); first | done | rfl | (simp only [List.length_drop, List.length_take]; rfl)) ?_; (with_reducible refine (paronymref01_Scalar.calls (rd l0 x5_1) true _ A4.out).mono ?_); rintro e w' ⟨rfl, ⟨nd, rfl⟩⟩; refine ⟨_, rfl, ?_⟩))
            go_roundg k1
            case measure => have := HK1.out; omega
            case rel => exact ⟨(wrap64 (x5_1 + 1)), (by first | rfl | (simp; done) | (simp [*]; done)), H', ⟨by have := HK1.out; omega⟩, ⟨by repeat (first | (with_reducible first | exact HB.out | apply below_alloc | apply pw_below_drewN | apply below_drew1) | exact HB.out)⟩⟩
          · replace c5 := Bool.eq_false_iff.mpr c5
            subst c5
            have H1 : (some ((⟨#[]⟩ : ByteArray), 10)) = some (r1, r2) := by rw [if_neg (show ¬ (false = true) by decide)] at H; exact H
            clear H
            have H := H1
            clear H1
            simp only [Option.some.injEq, Prod.mk.injEq] at H
            obtain ⟨rfl, rfl⟩ := H
            have p101 : 0 ≤ (x5_1 : Int) := of_decide_eq_true (by first | (with_reducible assumption) | assumption)
            have q101 : x5_1 < (l0.length : Int) := of_decide_eq_true (by first | (with_reducible assumption) | assumption)
            obtain ⟨ad101, e101, hx101_0⟩ := Kd.at_int HR0.out x5_1 p101 q101
            cases e101
            replace hx101_0 := (HB.out.cell (World.block_lt_of_cell? w _ hx101_0)).trans hx101_0
            replace p101 := eq_true p101
            replace q101 := eq_true q101
            go_wp2_with (first | ((with_reducible refine gate_callee (f := 40) rfl ?_); refine goesL_ (some 25) rfl rfl Try.func40 (by kernel_rfl) rfl #[.int .i64 (rd l0 x5_1)] rfl (by (try simp only [List.map_toArray, List.map_cons, List.map_nil]); first | done | rfl | (simp only [List.length_drop, List.length_take]; rfl)) ?_; (with_reducible refine (paronymref01_Scalar.calls (rd l0 x5_1) false _ A4.out).mono ?_); rintro e w' ⟨rfl, ⟨nd, rfl⟩⟩; refine ⟨_, rfl, ?_⟩))
            go_ret2
            exact ⟨by first | rfl | (simp [errW_none, errW_some] <;> rfl) | (simp [*, errW_none, errW_some] <;> rfl), by repeat (first | (with_reducible first | exact HB.out | apply below_alloc | apply pw_below_drewN | apply below_drew1) | exact HB.out)⟩
        · rw [if_neg c3] at H
          exact absurd H (by simp)
      · rw [if_neg c2] at H
        have c2b0 : decide (x5_1 < (l0.length : Int)) = false := decide_eq_false c2
        clear c2
        by_cases c6 : (l0.length : Int) > 1000
        · rw [if_pos c6] at H
          have c6b0 : decide (1000 < (l0.length : Int)) = true := decide_eq_true c6
          have c6b1 : decide (1000 < l0.length) = true := decide_eq_true (by omega)
          clear c6
          simp only [Option.some.injEq, Prod.mk.injEq] at H
          obtain ⟨rfl, rfl⟩ := H
          go_wp2
          go_ret2
          exact ⟨by first | rfl | (simp [errW_none, errW_some] <;> rfl) | (simp [*, errW_none, errW_some] <;> rfl), by repeat (first | (with_reducible first | exact HB.out | apply below_alloc | apply pw_below_drewN | apply below_drew1) | exact HB.out)⟩
        · rw [if_neg c6] at H
          have c6b0 : decide (1000 < (l0.length : Int)) = false := decide_eq_false c6
          have c6b1 : decide (1000 < l0.length) = false := decide_eq_false (by omega)
          clear c6
          have H' := Aside0.mk H
          clear H
          go_wp2
          go_loopg [4, 6, 7] k1 (fun kq v4 v6 v7 w' => ∃ (x4_2 : ByteArray) (x6_2 : Int) (x7_2 : Int), v4 = .string x4_2 ∧ v6 = .int .i64 x6_2 ∧ v7 = .int .i64 x7_2 ∧ Aside0 (paronymref12_Encode.l1 kq l0 x4_2 x6_2 x7_2 = some (r1, r2)) ∧ Aside0 (kq ≤ k1) ∧ Aside0 (Below w.heap.size w w'))
          case atStart => exact ⟨((⟨#[]⟩ : ByteArray)), (0), (0), (by first | rfl | (simp; done) | (simp [*]; done)), (by first | rfl | (simp; done) | (simp [*]; done)), (by first | rfl | (simp; done) | (simp [*]; done)), H', ⟨Nat.le_refl _⟩, ⟨by repeat (first | (with_reducible first | exact HB.out | apply below_alloc | apply pw_below_drewN | apply below_drew1) | exact HB.out)⟩⟩
          case round =>
            clear H'
            try clear p1
            try clear q1
            try clear hx1
            try clear c2
            try clear c2b0
            try clear p2
            try clear c3
            try clear c3b0
            try clear c4
            try clear c5
            try clear c6
            try clear c6b0
            try clear c6b1
            try clear p6
            try clear hx101_0
            try clear p101
            try clear q101
            obtain ⟨x4_2, x6_2, x7_2, rfl, rfl, rfl, HA, HK2, HB⟩ := hrel
            cases gk with
            | zero => exact absurd HA.out (by simp [paronymref12_Encode.l1])
            | succ k2 =>
              have H := HA.out
              clear HA
              simp only [paronymref12_Encode.l1] at H
              by_cases c7 : x7_2 < (l0.length : Int)
              · rw [if_pos c7] at H
                have c7b0 : decide (x7_2 < (l0.length : Int)) = true := decide_eq_true c7
                clear c7
                by_cases c8 : 0 ≤ x7_2
                · rw [if_pos c8] at H
                  have c8b0 : decide (0 ≤ x7_2) = true := decide_eq_true c8
                  clear c8
                  by_cases c9 : (rd l0 x7_2) < 128
                  · rw [if_pos c9] at H
                    have c9b0 : decide ((rd l0 x7_2) < 128) = true := decide_eq_true c9
                    clear c9
                    obtain ⟨y105, hy105⟩ : ∃ y_ : List Int, y_ = (([(rd l0 x7_2) % 256] : List Int)) := ⟨_, rfl⟩
                    replace H : (if x4_2.size + (strOfNums y105).size ≤ 9223372036854775807 then (paronymref12_Encode.l1 k2 l0 (x4_2 ++ (strOfNums y105)) (wrap64 (x6_2 + 1)) (wrap64 (x7_2 + 1))) else (none)) = some (r1, r2) := by first | (rw [hy105]; with_reducible exact H) | (have H2_ := (Option.bind_some _ _).symm.trans H; rw [hy105]; with_reducible exact H2_) | (have H2_ := (Option.bind_some _ _).symm.trans H; with_reducible exact H2_) | with_reducible exact H | (rw [hy105]; exact H) | exact H
                    have Ny105 := Aside0.mk hy105
                    clear hy105
                    by_cases c10 : x4_2.size + (strOfNums y105).size ≤ 9223372036854775807
                    · rw [if_pos c10] at H
                      have c10b0 := eq_true c10
                      have c10b1 : decide (x4_2.size + (strOfNums y105).size ≤ 9223372036854775807) = true := decide_eq_true c10
                      try have c10b2 : (9223372036854775807 < x4_2.size + (strOfNums y105).size) = False := eq_false (Nat.not_lt.2 c10)
                      have H' := Aside0.mk H
                      clear H
                      have p103 : 0 ≤ (x7_2 : Int) := of_decide_eq_true (by first | (with_reducible assumption) | assumption)
                      have q103 : x7_2 < (l0.length : Int) := of_decide_eq_true (by first | (with_reducible assumption) | assumption)
                      obtain ⟨ad103, e103, hx103_0⟩ := Kd.at_int HR0.out x7_2 p103 q103
                      cases e103
                      replace hx103_0 := (HB.out.cell (World.block_lt_of_cell? w _ hx103_0)).trans hx103_0
                      replace p103 := eq_true p103
                      replace q103 := eq_true q103
                      have p104 : 0 ≤ (x7_2 : Int) := of_decide_eq_true (by first | (with_reducible assumption) | assumption)
                      have q104 : x7_2 < (l0.length : Int) := of_decide_eq_true (by first | (with_reducible assumption) | assumption)
                      obtain ⟨ad104, e104, hx104_0⟩ := Kd.at_int HR0.out x7_2 p104 q104
                      obtain rfl : ad103 = ad104 := (by injection e104)
                      replace hx104_0 := (HB.out.cell (World.block_lt_of_cell? w _ hx104_0)).trans hx104_0
                      replace p104 := eq_true p104
                      replace q104 := eq_true q104
                      go_wp2_with (first | ((with_reducible refine gate_dst (N := 47) rfl ?_); refine Kd.R_lit (Kd.int .u8) _ 5 ?hg (N := 47) ?hd (xs := ([(rd l0 x7_2) % 256] : List Int)) (inner := [.int .u8 ((rd l0 x7_2) % 256)]) (ok := fun _ => True) (okp := fun _ => True) ?hr ?hp (fun _ hk => hk) trivial (Below.refl _ _) (Nat.le_refl _) (by simp) ?_; (case hd => rfl); (case hg => rfl); (case hr => first | (go_simp; done) | (go_simp; rfl)); (case hp => exact (Reps.one (show Kd.M (Kd.int .u8) _ _ _ ((rd l0 x7_2) % 256) [.int .u8 ((rd l0 x7_2) % 256)] from rfl) (Reps.none _ _))); intro v106 w11 ho12 hb hg_ hnew_; clear hg_ hnew_; (first | rw [← Ny105.out] at ho12 | (simp only [Int.reduceToNat] at ho12; rw [← Ny105.out] at ho12)); have n0_ := Aside0.mk (Kd.R_lower ho12 (below_size (by repeat (first | (with_reducible first | exact HB.out | apply below_alloc | apply pw_below_drewN | apply below_drew1) | exact HB.out)))); have n1_ := Aside0.mk (below_step (by repeat (first | (with_reducible first | exact HB.out | apply below_alloc | apply pw_below_drewN | apply below_drew1) | exact HB.out)) hb); clear HB; have HO107 := n0_; have HB := n1_; clear n0_ n1_; clear hb ho12; have hcv13 := own_string (P := Try.prog) Try.underlying22 Try.underlying5 Try.underlying9 (Kd.own_of_R HO107.out); have hcv14 := fun (nd_ : Nat) => own_string (P := Try.prog) Try.underlying22 Try.underlying5 Try.underlying9 (Kd.own_of_R (Kd.R_drewN HO107.out nd_))))
                      go_roundg k2
                      case measure => have := HK1.out; have := HK2.out; omega
                      case rel => exact ⟨(x4_2 ++ (strOfNums y105)), (wrap64 (x6_2 + 1)), (wrap64 (x7_2 + 1)), (by first | rfl | (simp; done) | (simp [*]; done)), (by first | rfl | (simp; done) | (simp [*]; done)), (by first | rfl | (simp; done) | (simp [*]; done)), H', ⟨by have := HK1.out; have := HK2.out; omega⟩, ⟨by repeat (first | (with_reducible first | exact HB.out | apply below_alloc | apply pw_below_drewN | apply below_drew1) | exact HB.out)⟩⟩
                    · rw [if_neg c10] at H
                      exact absurd H (by simp)
                  · rw [if_neg c9] at H
                    have c9b0 : decide ((rd l0 x7_2) < 128) = false := decide_eq_false c9
                    clear c9
                    have H' := Aside0.mk H
                    clear H
                    have p103 : 0 ≤ (x7_2 : Int) := of_decide_eq_true (by first | (with_reducible assumption) | assumption)
                    have q103 : x7_2 < (l0.length : Int) := of_decide_eq_true (by first | (with_reducible assumption) | assumption)
                    obtain ⟨ad103, e103, hx103_0⟩ := Kd.at_int HR0.out x7_2 p103 q103
                    cases e103
                    replace hx103_0 := (HB.out.cell (World.block_lt_of_cell? w _ hx103_0)).trans hx103_0
                    replace p103 := eq_true p103
                    replace q103 := eq_true q103
                    go_wp2
                    go_roundg k2
                    case measure => have := HK1.out; have := HK2.out; omega
                    case rel => exact ⟨(x4_2), (x6_2), (wrap64 (x7_2 + 1)), (by first | rfl | (simp; done) | (simp [*]; done)), (by first | rfl | (simp; done) | (simp [*]; done)), (by first | rfl | (simp; done) | (simp [*]; done)), H', ⟨by have := HK1.out; have := HK2.out; omega⟩, ⟨by repeat (first | (with_reducible first | exact HB.out | apply below_alloc | apply pw_below_drewN | apply below_drew1) | exact HB.out)⟩⟩
                · rw [if_neg c8] at H
                  exact absurd H (by simp)
              · rw [if_neg c7] at H
                have c7b0 : decide (x7_2 < (l0.length : Int)) = false := decide_eq_false c7
                clear c7
                have HC15 := Aside0.mk H
                clear H
                go_upto_if 54 with (fail)
                go_cut [4] (fun v4 wc => ∃ (kq : Nat) (x4_14 : ByteArray), v4 = .string x4_14 ∧ Aside0 (paronymref12_Encode.j2 kq l0 x4_14 x6_2 x6_2 = some (r1, r2)) ∧ Aside0 (kq ≤ k2) ∧ Aside0 (Below w.heap.size w wc))
                case first =>
                  have H := HC15.out
                  clear HC15
                  by_cases c16 : x6_2 > 0
                  · rw [if_pos c16] at H
                    have c16b0 : decide (0 < x6_2) = true := decide_eq_true c16
                    clear c16
                    (first | rw [c16b0] | (simp only [i64_w, i32_w]; rw [c16b0]) | rw [c16b1] | (simp only [i64_w, i32_w]; rw [c16b1]) | skip)
                    by_cases c17 : x4_2.size + 1 ≤ 9223372036854775807
                    · rw [if_pos c17] at H
                      have c17b0 := eq_true c17
                      have c17b1 : decide (x4_2.size + 1 ≤ 9223372036854775807) = true := decide_eq_true c17
                      try have c17b2 : (9223372036854775807 < x4_2.size + 1) = False := eq_false (Nat.not_lt.2 c17)
                      have H' := Aside0.mk H
                      clear H
                      go_wp2
                      go_meet
                      case rel => exact ⟨_, (x4_2 ++ (⟨#[45]⟩ : ByteArray)), (by first | rfl | (simp; done) | (simp [*]; done)), H', ⟨by have := HK1.out; have := HK2.out; first | omega | exact Nat.le_refl _⟩, ⟨by repeat (first | (with_reducible first | exact HB.out | apply below_alloc | apply pw_below_drewN | apply below_drew1) | exact HB.out)⟩⟩
                    · rw [if_neg c17] at H
                      exact absurd H (by simp)
                  · rw [if_neg c16] at H
                    have c16b0 : decide (0 < x6_2) = false := decide_eq_false c16
                    clear c16
                    (first | rw [c16b0] | (simp only [i64_w, i32_w]; rw [c16b0]) | rw [c16b1] | (simp only [i64_w, i32_w]; rw [c16b1]) | skip)
                    have H' := Aside0.mk H
                    clear H
                    go_wp2
                    go_meet
                    case rel => exact ⟨_, (x4_2), (by first | rfl | (simp; done) | (simp [*]; done)), H', ⟨by have := HK1.out; have := HK2.out; first | omega | exact Nat.le_refl _⟩, ⟨by repeat (first | (with_reducible first | exact HB.out | apply below_alloc | apply pw_below_drewN | apply below_drew1) | exact HB.out)⟩⟩
                case rest =>
                  clear HC15
                  try clear c1
                  try clear p1
                  try clear q1
                  try clear hx1
                  try clear hcv1
                  try clear c2
                  try clear c2b0
                  try clear p2
                  try clear c3
                  try clear c3b0
                  try clear c4
                  try clear c5
                  try clear c6
                  try clear c6b0
                  try clear c6b1
                  try clear p6
                  try clear c7
                  try clear c7b0
                  try clear c8
                  try clear c8b0
                  try clear c9
                  try clear c9b0
                  try clear c10
                  try clear c10b0
                  try clear c10b1
                  try clear c10b2
                  try clear p10
                  try clear q10
                  try clear hx10
                  try clear hcv13
                  try clear hcv14
                  try clear c16
                  try clear c16b0
                  try clear c16b1
                  try clear c17
                  try clear c17b0
                  try clear c17b1
                  try clear c17b2
                  try clear hx101_0
                  try clear hx103_0
                  try clear hx104_0
                  try clear p1
                  try clear p101
                  try clear p103
                  try clear p104
                  try clear p2
                  try clear p6
                  try clear q1
                  try clear q101
                  try clear q103
                  try clear q104
                  obtain ⟨kq, x4_14, rfl, HA, HJ14, HB⟩ := hcut
                  cases kq with
                  | zero => exact absurd HA.out (by simp [paronymref12_Encode.j2])
                  | succ kj14 =>
                    have H := HA.out
                    clear HA
                    simp only [paronymref12_Encode.j2] at H
                    have H' := Aside0.mk H
                    clear H
                    go_wp2
                    go_loopg [4, 6, 9, 10, 11] kj14 (fun kq v4 v6 v9 v10 v11 w' => ∃ (x4_4 : ByteArray) (x6_4 : Int) (x9_4 : Int) (x10_4 : Int) (x11_4 : Int), v4 = .string x4_4 ∧ v6 = .int .i64 x6_4 ∧ v9 = .int .i64 x9_4 ∧ v10 = .int .i64 x10_4 ∧ v11 = .int .i64 x11_4 ∧ Aside0 (paronymref12_Encode.l2 kq l0 x4_4 x6_4 x6_2 x9_4 x10_4 x11_4 = some (r1, r2)) ∧ Aside0 (kq ≤ kj14) ∧ Aside0 (Below w.heap.size w w'))
                    case atStart => exact ⟨(x4_14), (x6_2), (128), (72), (0), (by first | rfl | (simp; done) | (simp [*]; done)), (by first | rfl | (simp; done) | (simp [*]; done)), (by first | rfl | (simp; done) | (simp [*]; done)), (by first | rfl | (simp; done) | (simp [*]; done)), (by first | rfl | (simp; done) | (simp [*]; done)), H', ⟨Nat.le_refl _⟩, ⟨by repeat (first | (with_reducible first | exact HB.out | apply below_alloc | apply pw_below_drewN | apply below_drew1) | exact HB.out)⟩⟩
                    case round =>
                      clear H'
                      try clear c1
                      try clear p1
                      try clear q1
                      try clear hx1
                      try clear hcv1
                      try clear c2
                      try clear c2b0
                      try clear p2
                      try clear c3
                      try clear c3b0
                      try clear c4
                      try clear c5
                      try clear c6
                      try clear c6b0
                      try clear c6b1
                      try clear p6
                      try clear c7
                      try clear c7b0
                      try clear c8
                      try clear c8b0
                      try clear c9
                      try clear c9b0
                      try clear c10
                      try clear c10b0
                      try clear c10b1
                      try clear c10b2
                      try clear p10
                      try clear q10
                      try clear hx10
                      try clear hcv13
                      try clear hcv14
                      try clear c16
                      try clear c16b0
                      try clear c16b1
                      try clear c17
                      try clear c17b0
                      try clear c17b1
                      try clear c17b2
                      try clear hx101_0
                      try clear hx103_0
                      try clear hx104_0
                      try clear p1
                      try clear p10
                      try clear p101
                      try clear p103
                      try clear p104
                      try clear p2
                      try clear p6
                      try clear q1
                      try clear q10
                      try clear q101
                      try clear q103
                      try clear q104
                      obtain ⟨x4_4, x6_4, x9_4, x10_4, x11_4, rfl, rfl, rfl, rfl, rfl, HA, HK4, HB⟩ := hrel
                      cases gk with
                      | zero => exact absurd HA.out (by simp [paronymref12_Encode.l2])
                      | succ k4 =>
                        have H := HA.out
                        clear HA
                        simp only [paronymref12_Encode.l2] at H
                        by_cases c18 : x6_4 < (l0.length : Int)
                        · rw [if_pos c18] at H
                          have c18b0 : decide (x6_4 < (l0.length : Int)) = true := decide_eq_true c18
                          clear c18
                          have H' := Aside0.mk H
                          clear H
                          go_wp2
                          go_loopg [12, 13] k4 (fun kq v12 v13 w' => ∃ (x12_5 : Int) (x13_5 : Int), v12 = .int .i64 x12_5 ∧ v13 = .int .i64 x13_5 ∧ Aside0 (paronymref12_Encode.l3 kq l0 x4_4 x6_4 x6_2 x9_4 x10_4 x11_4 x12_5 x13_5 = some (r1, r2)) ∧ Aside0 (kq ≤ k4) ∧ Aside0 (Below w.heap.size w w'))
                          case atStart => exact ⟨(2000000), (0), (by first | rfl | (simp; done) | (simp [*]; done)), (by first | rfl | (simp; done) | (simp [*]; done)), H', ⟨Nat.le_refl _⟩, ⟨by repeat (first | (with_reducible first | exact HB.out | apply below_alloc | apply pw_below_drewN | apply below_drew1) | exact HB.out)⟩⟩
                          case round =>
                            clear H'
                            try clear c1
                            try clear p1
                            try clear q1
                            try clear hx1
                            try clear hcv1
                            try clear c2
                            try clear c2b0
                            try clear p2
                            try clear c3
                            try clear c3b0
                            try clear c4
                            try clear c5
                            try clear c6
                            try clear c6b0
                            try clear c6b1
                            try clear p6
                            try clear c7
                            try clear c7b0
                            try clear c8
                            try clear c8b0
                            try clear c9
                            try clear c9b0
                            try clear c10
                            try clear c10b0
                            try clear c10b1
                            try clear c10b2
                            try clear p10
                            try clear q10
                            try clear hx10
                            try clear hcv13
                            try clear hcv14
                            try clear c16
                            try clear c16b0
                            try clear c16b1
                            try clear c17
                            try clear c17b0
                            try clear c17b1
                            try clear c17b2
                            try clear c18
                            try clear c18b0
                            try clear hx101_0
                            try clear hx103_0
                            try clear hx104_0
                            try clear p1
                            try clear p10
                            try clear p101
                            try clear p103
                            try clear p104
                            try clear p2
                            try clear p6
                            try clear q1
                            try clear q10
                            try clear q101
                            try clear q103
                            try clear q104
                            obtain ⟨x12_5, x13_5, rfl, rfl, HA, HK5, HB⟩ := hrel
                            cases gk with
                            | zero => exact absurd HA.out (by simp [paronymref12_Encode.l3])
                            | succ k5 =>
                              have H := HA.out
                              clear HA
                              simp only [paronymref12_Encode.l3] at H
                              by_cases c19 : x13_5 < (l0.length : Int)
                              · rw [if_pos c19] at H
                                have c19b0 : decide (x13_5 < (l0.length : Int)) = true := decide_eq_true c19
                                clear c19
                                by_cases c20 : 0 ≤ x13_5
                                · rw [if_pos c20] at H
                                  have c20b0 : decide (0 ≤ x13_5) = true := decide_eq_true c20
                                  clear c20
                                  by_cases c21 : (rd l0 x13_5) ≥ x9_4
                                  · rw [if_pos c21] at H
                                    have c21b0 : decide (x9_4 ≤ (rd l0 x13_5)) = true := decide_eq_true c21
                                    clear c21
                                    by_cases c22 : (rd l0 x13_5) < x12_5
                                    · rw [if_pos c22] at H
                                      have c22b0 : decide ((rd l0 x13_5) < x12_5) = true := decide_eq_true c22
                                      clear c22
                                      have H' := Aside0.mk H
                                      clear H
                                      have p108 : 0 ≤ (x13_5 : Int) := of_decide_eq_true (by first | (with_reducible assumption) | assumption)
                                      have q108 : x13_5 < (l0.length : Int) := of_decide_eq_true (by first | (with_reducible assumption) | assumption)
                                      obtain ⟨ad108, e108, hx108_0⟩ := Kd.at_int HR0.out x13_5 p108 q108
                                      cases e108
                                      replace hx108_0 := (HB.out.cell (World.block_lt_of_cell? w _ hx108_0)).trans hx108_0
                                      replace p108 := eq_true p108
                                      replace q108 := eq_true q108
                                      have p109 : 0 ≤ (x13_5 : Int) := of_decide_eq_true (by first | (with_reducible assumption) | assumption)
                                      have q109 : x13_5 < (l0.length : Int) := of_decide_eq_true (by first | (with_reducible assumption) | assumption)
                                      obtain ⟨ad109, e109, hx109_0⟩ := Kd.at_int HR0.out x13_5 p109 q109
                                      obtain rfl : ad108 = ad109 := (by injection e109)
                                      replace hx109_0 := (HB.out.cell (World.block_lt_of_cell? w _ hx109_0)).trans hx109_0
                                      replace p109 := eq_true p109
                                      replace q109 := eq_true q109
                                      have p110 : 0 ≤ (x13_5 : Int) := of_decide_eq_true (by first | (with_reducible assumption) | assumption)
                                      have q110 : x13_5 < (l0.length : Int) := of_decide_eq_true (by first | (with_reducible assumption) | assumption)
                                      obtain ⟨ad110, e110, hx110_0⟩ := Kd.at_int HR0.out x13_5 p110 q110
                                      obtain rfl : ad108 = ad110 := (by injection e110)
                                      replace hx110_0 := (HB.out.cell (World.block_lt_of_cell? w _ hx110_0)).trans hx110_0
                                      replace p110 := eq_true p110
                                      replace q110 := eq_true q110
                                      go_wp2
                                      go_roundg k5
                                      case measure => have := HK1.out; have := HK2.out; have := HJ14.out; have := HK4.out; have := HK5.out; omega
                                      case rel => exact ⟨(rd l0 x13_5), (wrap64 (x13_5 + 1)), (by first | rfl | (simp; done) | (simp [*]; done)), (by first | rfl | (simp; done) | (simp [*]; done)), H', ⟨by have := HK1.out; have := HK2.out; have := HJ14.out; have := HK4.out; have := HK5.out; omega⟩, ⟨by repeat (first | (with_reducible first | exact HB.out | apply below_alloc | apply pw_below_drewN | apply below_drew1) | exact HB.out)⟩⟩
                                    · rw [if_neg c22] at H
                                      have c22b0 : decide ((rd l0 x13_5) < x12_5) = false := decide_eq_false c22
                                      clear c22
                                      have H' := Aside0.mk H
                                      clear H
                                      have p108 : 0 ≤ (x13_5 : Int) := of_decide_eq_true (by first | (with_reducible assumption) | assumption)
                                      have q108 : x13_5 < (l0.length : Int) := of_decide_eq_true (by first | (with_reducible assumption) | assumption)
                                      obtain ⟨ad108, e108, hx108_0⟩ := Kd.at_int HR0.out x13_5 p108 q108
                                      cases e108
                                      replace hx108_0 := (HB.out.cell (World.block_lt_of_cell? w _ hx108_0)).trans hx108_0
                                      replace p108 := eq_true p108
                                      replace q108 := eq_true q108
                                      have p109 : 0 ≤ (x13_5 : Int) := of_decide_eq_true (by first | (with_reducible assumption) | assumption)
                                      have q109 : x13_5 < (l0.length : Int) := of_decide_eq_true (by first | (with_reducible assumption) | assumption)
                                      obtain ⟨ad109, e109, hx109_0⟩ := Kd.at_int HR0.out x13_5 p109 q109
                                      obtain rfl : ad108 = ad109 := (by injection e109)
                                      replace hx109_0 := (HB.out.cell (World.block_lt_of_cell? w _ hx109_0)).trans hx109_0
                                      replace p109 := eq_true p109
                                      replace q109 := eq_true q109
                                      go_wp2
                                      go_roundg k5
                                      case measure => have := HK1.out; have := HK2.out; have := HJ14.out; have := HK4.out; have := HK5.out; omega
                                      case rel => exact ⟨(x12_5), (wrap64 (x13_5 + 1)), (by first | rfl | (simp; done) | (simp [*]; done)), (by first | rfl | (simp; done) | (simp [*]; done)), H', ⟨by have := HK1.out; have := HK2.out; have := HJ14.out; have := HK4.out; have := HK5.out; omega⟩, ⟨by repeat (first | (with_reducible first | exact HB.out | apply below_alloc | apply pw_below_drewN | apply below_drew1) | exact HB.out)⟩⟩
                                  · rw [if_neg c21] at H
                                    have c21b0 : decide (x9_4 ≤ (rd l0 x13_5)) = false := decide_eq_false c21
                                    clear c21
                                    have H' := Aside0.mk H
                                    clear H
                                    have p108 : 0 ≤ (x13_5 : Int) := of_decide_eq_true (by first | (with_reducible assumption) | assumption)
                                    have q108 : x13_5 < (l0.length : Int) := of_decide_eq_true (by first | (with_reducible assumption) | assumption)
                                    obtain ⟨ad108, e108, hx108_0⟩ := Kd.at_int HR0.out x13_5 p108 q108
                                    cases e108
                                    replace hx108_0 := (HB.out.cell (World.block_lt_of_cell? w _ hx108_0)).trans hx108_0
                                    replace p108 := eq_true p108
                                    replace q108 := eq_true q108
                                    go_wp2
                                    go_roundg k5
                                    case measure => have := HK1.out; have := HK2.out; have := HJ14.out; have := HK4.out; have := HK5.out; omega
                                    case rel => exact ⟨(x12_5), (wrap64 (x13_5 + 1)), (by first | rfl | (simp; done) | (simp [*]; done)), (by first | rfl | (simp; done) | (simp [*]; done)), H', ⟨by have := HK1.out; have := HK2.out; have := HJ14.out; have := HK4.out; have := HK5.out; omega⟩, ⟨by repeat (first | (with_reducible first | exact HB.out | apply below_alloc | apply pw_below_drewN | apply below_drew1) | exact HB.out)⟩⟩
                                · rw [if_neg c20] at H
                                  exact absurd H (by simp)
                              · rw [if_neg c19] at H
                                have c19b0 : decide (x13_5 < (l0.length : Int)) = false := decide_eq_false c19
                                clear c19
                                have H' := Aside0.mk H
                                clear H
                                go_wp2
                                go_loopg [4, 6, 10, 11, 14] k5 (fun kq v4 v6 v10 v11 v14 w' => ∃ (x4_6 : ByteArray) (x6_6 : Int) (x10_6 : Int) (x11_6 : Int) (x14_6 : Int), v4 = .string x4_6 ∧ v6 = .int .i64 x6_6 ∧ v10 = .int .i64 x10_6 ∧ v11 = .int .i64 x11_6 ∧ v14 = .int .i64 x14_6 ∧ Aside0 (paronymref12_Encode.l4 kq l0 x4_6 x6_6 x6_2 x12_5 x10_6 x11_6 x14_6 = some (r1, r2)) ∧ Aside0 (kq ≤ k5) ∧ Aside0 (Below w.heap.size w w'))
                                case atStart => exact ⟨(x4_4), (x6_4), (x10_4), (wrap64 (x11_4 + (wrap64 ((wrap64 (x12_5 - x9_4)) * (wrap64 (x6_4 + 1)))))), (0), (by first | rfl | (simp; done) | (simp [*]; done)), (by first | rfl | (simp; done) | (simp [*]; done)), (by first | rfl | (simp; done) | (simp [*]; done)), (by first | rfl | (simp; done) | (simp [*]; done)), (by first | rfl | (simp; done) | (simp [*]; done)), H', ⟨Nat.le_refl _⟩, ⟨by repeat (first | (with_reducible first | exact HB.out | apply below_alloc | apply pw_below_drewN | apply below_drew1) | exact HB.out)⟩⟩
                                case round =>
                                  clear H'
                                  try clear c1
                                  try clear p1
                                  try clear q1
                                  try clear hx1
                                  try clear hcv1
                                  try clear c2
                                  try clear c2b0
                                  try clear p2
                                  try clear c3
                                  try clear c3b0
                                  try clear c4
                                  try clear c5
                                  try clear c6
                                  try clear c6b0
                                  try clear c6b1
                                  try clear p6
                                  try clear c7
                                  try clear c7b0
                                  try clear c8
                                  try clear c8b0
                                  try clear c9
                                  try clear c9b0
                                  try clear c10
                                  try clear c10b0
                                  try clear c10b1
                                  try clear c10b2
                                  try clear p10
                                  try clear q10
                                  try clear hx10
                                  try clear p11
                                  try clear q11
                                  try clear hx11
                                  try clear hcv13
                                  try clear hcv14
                                  try clear c16
                                  try clear c16b0
                                  try clear c16b1
                                  try clear c17
                                  try clear c17b0
                                  try clear c17b1
                                  try clear c17b2
                                  try clear c18
                                  try clear c18b0
                                  try clear c19
                                  try clear c19b0
                                  try clear c20
                                  try clear c20b0
                                  try clear c21
                                  try clear c21b0
                                  try clear c22
                                  try clear c22b0
                                  try clear hx101_0
                                  try clear hx103_0
                                  try clear hx104_0
                                  try clear hx108_0
                                  try clear hx109_0
                                  try clear hx110_0
                                  try clear p1
                                  try clear p10
                                  try clear p101
                                  try clear p103
                                  try clear p104
                                  try clear p108
                                  try clear p109
                                  try clear p110
                                  try clear p2
                                  try clear p6
                                  try clear q1
                                  try clear q10
                                  try clear q101
                                  try clear q103
                                  try clear q104
                                  try clear q108
                                  try clear q109
                                  try clear q110
                                  obtain ⟨x4_6, x6_6, x10_6, x11_6, x14_6, rfl, rfl, rfl, rfl, rfl, HA, HK6, HB⟩ := hrel
                                  cases gk with
                                  | zero => exact absurd HA.out (by simp [paronymref12_Encode.l4])
                                  | succ k6 =>
                                    have H := HA.out
                                    clear HA
                                    simp only [paronymref12_Encode.l4] at H
                                    by_cases c23 : x14_6 < (l0.length : Int)
                                    · rw [if_pos c23] at H
                                      have c23b0 : decide (x14_6 < (l0.length : Int)) = true := decide_eq_true c23
                                      clear c23
                                      by_cases c24 : 0 ≤ x14_6
                                      · rw [if_pos c24] at H
                                        have c24b0 : decide (0 ≤ x14_6) = true := decide_eq_true c24
                                        clear c24
                                        have HC25 := Aside0.mk H
                                        clear H
                                        have p111 : 0 ≤ (x14_6 : Int) := of_decide_eq_true (by first | (with_reducible assumption) | assumption)
                                        have q111 : x14_6 < (l0.length : Int) := of_decide_eq_true (by first | (with_reducible assumption) | assumption)
                                        obtain ⟨ad111, e111, hx111_0⟩ := Kd.at_int HR0.out x14_6 p111 q111
                                        cases e111
                                        replace hx111_0 := (HB.out.cell (World.block_lt_of_cell? w _ hx111_0)).trans hx111_0
                                        replace p111 := eq_true p111
                                        replace q111 := eq_true q111
                                        go_upto_if 105 with (fail)
                                        go_cut [11] (fun v11 wc => ∃ (kq : Nat) (x11_24 : Int), v11 = .int .i64 x11_24 ∧ Aside0 (paronymref12_Encode.j6 kq l0 x4_6 x6_6 x6_2 x12_5 x10_6 x11_24 x14_6 = some (r1, r2)) ∧ Aside0 (kq ≤ k6) ∧ Aside0 (Below w.heap.size w wc))
                                        case first =>
                                          have H := HC25.out
                                          clear HC25
                                          by_cases c26 : (rd l0 x14_6) < x12_5
                                          · rw [if_pos c26] at H
                                            have c26b0 : decide ((rd l0 x14_6) < x12_5) = true := decide_eq_true c26
                                            clear c26
                                            (first | rw [c26b0] | (simp only [i64_w, i32_w]; rw [c26b0]) | rw [c26b1] | (simp only [i64_w, i32_w]; rw [c26b1]) | skip)
                                            have H' := Aside0.mk H
                                            clear H
                                            go_wp2
                                            go_meet
                                            case rel => exact ⟨_, (wrap64 (x11_6 + 1)), (by first | rfl | (simp; done) | (simp [*]; done)), H', ⟨by have := HK1.out; have := HK2.out; have := HJ14.out; have := HK4.out; have := HK5.out; have := HK6.out; first | omega | exact Nat.le_refl _⟩, ⟨by repeat (first | (with_reducible first | exact HB.out | apply below_alloc | apply pw_below_drewN | apply below_drew1) | exact HB.out)⟩⟩
                                          · rw [if_neg c26] at H
                                            have c26b0 : decide ((rd l0 x14_6) < x12_5) = false := decide_eq_false c26
                                            clear c26
                                            (first | rw [c26b0] | (simp only [i64_w, i32_w]; rw [c26b0]) | rw [c26b1] | (simp only [i64_w, i32_w]; rw [c26b1]) | skip)
                                            have H' := Aside0.mk H
                                            clear H
                                            go_wp2
                                            go_meet
                                            case rel => exact ⟨_, (x11_6), (by first | rfl | (simp; done) | (simp [*]; done)), H', ⟨by have := HK1.out; have := HK2.out; have := HJ14.out; have := HK4.out; have := HK5.out; have := HK6.out; first | omega | exact Nat.le_refl _⟩, ⟨by repeat (first | (with_reducible first | exact HB.out | apply below_alloc | apply pw_below_drewN | apply below_drew1) | exact HB.out)⟩⟩
                                        case rest =>
                                          clear HC25
                                          try clear c1
                                          try clear p1
                                          try clear q1
                                          try clear hx1
                                          try clear hcv1
                                          try clear c2
                                          try clear c2b0
                                          try clear p2
                                          try clear c3
                                          try clear c3b0
                                          try clear c4
                                          try clear c5
                                          try clear c6
                                          try clear c6b0
                                          try clear c6b1
                                          try clear p6
                                          try clear c7
                                          try clear c7b0
                                          try clear c8
                                          try clear c8b0
                                          try clear c9
                                          try clear c9b0
                                          try clear c10
                                          try clear c10b0
                                          try clear c10b1
                                          try clear c10b2
                                          try clear p10
                                          try clear q10
                                          try clear hx10
                                          try clear p11
                                          try clear q11
                                          try clear hx11
                                          try clear hcv13
                                          try clear hcv14
                                          try clear c16
                                          try clear c16b0
                                          try clear c16b1
                                          try clear c17
                                          try clear c17b0
                                          try clear c17b1
                                          try clear c17b2
                                          try clear c18
                                          try clear c18b0
                                          try clear c19
                                          try clear c19b0
                                          try clear c20
                                          try clear c20b0
                                          try clear c21
                                          try clear c21b0
                                          try clear c22
                                          try clear c22b0
                                          try clear c23
                                          try clear c23b0
                                          try clear c24
                                          try clear c24b0
                                          try clear c26
                                          try clear c26b0
                                          try clear c26b1
                                          try clear hx101_0
                                          try clear hx103_0
                                          try clear hx104_0
                                          try clear hx108_0
                                          try clear hx109_0
                                          try clear hx110_0
                                          try clear hx111_0
                                          try clear p1
                                          try clear p10
                                          try clear p101
                                          try clear p103
                                          try clear p104
                                          try clear p108
                                          try clear p109
                                          try clear p11
                                          try clear p110
                                          try clear p111
                                          try clear p2
                                          try clear p6
                                          try clear q1
                                          try clear q10
                                          try clear q101
                                          try clear q103
                                          try clear q104
                                          try clear q108
                                          try clear q109
                                          try clear q11
                                          try clear q110
                                          try clear q111
                                          obtain ⟨kq, x11_24, rfl, HA, HJ24, HB⟩ := hcut
                                          cases kq with
                                          | zero => exact absurd HA.out (by simp [paronymref12_Encode.j6])
                                          | succ kj24 =>
                                            have H := HA.out
                                            clear HA
                                            simp only [paronymref12_Encode.j6] at H
                                            by_cases c27 : 0 ≤ x14_6
                                            · rw [if_pos c27] at H
                                              have c27b0 : decide (0 ≤ x14_6) = true := decide_eq_true c27
                                              clear c27
                                              by_cases c28 : x14_6 < (l0.length : Int)
                                              · rw [if_pos c28] at H
                                                have c28b0 : decide (x14_6 < (l0.length : Int)) = true := decide_eq_true c28
                                                clear c28
                                                by_cases c29 : (rd l0 x14_6) = x12_5
                                                · rw [if_pos c29] at H
                                                  have c29b0 : ((rd l0 x14_6) == x12_5) = true := beq_iff_eq.mpr c29
                                                  have c29b1 : ((rd l0 x14_6) != x12_5) = false := bne_eq_false_iff_eq.mpr c29
                                                  clear c29
                                                  replace H := Option.bind_eq_some_iff.mp H
                                                  obtain ⟨t113, A300, H⟩ := H
                                                  replace H : (if x4_6.size + t113.size ≤ 9223372036854775807 then ((paronymref12_Bias.f kj24 x11_24 (wrap64 (x6_6 + 1)) (x6_6 == x6_2)).bind fun t114 => (paronymref12_Encode.l4 kj24 l0 (x4_6 ++ t113) (wrap64 (x6_6 + 1)) x6_2 x12_5 t114 0 (wrap64 (x14_6 + 1)))) else (none)) = some (r1, r2) := H
                                                  have A30 := Aside0.mk A300
                                                  clear A300
                                                  by_cases c31 : x4_6.size + t113.size ≤ 9223372036854775807
                                                  · rw [if_pos c31] at H
                                                    have c31b0 := eq_true c31
                                                    have c31b1 : decide (x4_6.size + t113.size ≤ 9223372036854775807) = true := decide_eq_true c31
                                                    try have c31b2 : (9223372036854775807 < x4_6.size + t113.size) = False := eq_false (Nat.not_lt.2 c31)
                                                    replace H := Option.bind_eq_some_iff.mp H
                                                    obtain ⟨t114, A320, H⟩ := H
                                                    replace H : (paronymref12_Encode.l4 kj24 l0 (x4_6 ++ t113) (wrap64 (x6_6 + 1)) x6_2 x12_5 t114 0 (wrap64 (x14_6 + 1))) = some (r1, r2) := H
                                                    have A32 := Aside0.mk A320
                                                    clear A320
                                                    have H' := Aside0.mk H
                                                    clear H
                                                    have p112 : 0 ≤ (x14_6 : Int) := of_decide_eq_true (by first | (with_reducible assumption) | assumption)
                                                    have q112 : x14_6 < (l0.length : Int) := of_decide_eq_true (by first | (with_reducible assumption) | assumption)
                                                    obtain ⟨ad112, e112, hx112_0⟩ := Kd.at_int HR0.out x14_6 p112 q112
                                                    obtain rfl : ad111 = ad112 := (by injection e112)
                                                    replace hx112_0 := (HB.out.cell (World.block_lt_of_cell? w _ hx112_0)).trans hx112_0
                                                    replace p112 := eq_true p112
                                                    replace q112 := eq_true q112
                                                    go_wp2_with (first | ((with_reducible refine gate_callee (f := 61) rfl ?_); refine goesL_ (some 117) rfl rfl Try.func61 (by kernel_rfl) rfl #[.int .i64 x11_24, .int .i64 x10_6] rfl (by (try simp only [List.map_toArray, List.map_cons, List.map_nil]); first | done | rfl | (simp only [List.length_drop, List.length_take]; rfl)) ?_; (with_reducible refine (paronymref12_Number.calls kj24 x11_24 x10_6 t113 _ A30.out).mono ?_); rintro e w33 ⟨rfl, hb⟩; refine ⟨_, rfl, ?_⟩; have n0_ := Aside0.mk (below_step (by repeat (first | (with_reducible first | exact HB.out | apply below_alloc | apply pw_below_drewN | apply below_drew1) | exact HB.out)) hb); clear HB; have HB := n0_; clear n0_; (try clear hb); (try clear hb2); (try clear hk); (try clear hi)) | ((with_reducible refine gate_callee (f := 62) rfl ?_); refine goesL_ (some 125) rfl rfl Try.func62 (by kernel_rfl) rfl #[.int .i64 x11_24, .int .i64 (wrap64 (x6_6 + 1)), .bool (x6_6 == x6_2)] rfl (by (try simp only [List.map_toArray, List.map_cons, List.map_nil]); first | done | rfl | (simp only [List.length_drop, List.length_take]; rfl)) ?_; (with_reducible refine (paronymref12_Bias.calls kj24 x11_24 (wrap64 (x6_6 + 1)) (x6_6 == x6_2) t114 _ A32.out).mono ?_); rintro e w' ⟨rfl, ⟨nd, rfl⟩⟩; refine ⟨_, rfl, ?_⟩))
                                                    go_roundg kj24
                                                    case measure => have := HK1.out; have := HK2.out; have := HJ14.out; have := HK4.out; have := HK5.out; have := HK6.out; have := HJ24.out; omega
                                                    case rel => exact ⟨(x4_6 ++ t113), (wrap64 (x6_6 + 1)), (t114), (0), (wrap64 (x14_6 + 1)), (by first | rfl | (simp; done) | (simp [*]; done)), (by first | rfl | (simp; done) | (simp [*]; done)), (by first | rfl | (simp; done) | (simp [*]; done)), (by first | rfl | (simp; done) | (simp [*]; done)), (by first | rfl | (simp; done) | (simp [*]; done)), H', ⟨by have := HK1.out; have := HK2.out; have := HJ14.out; have := HK4.out; have := HK5.out; have := HK6.out; have := HJ24.out; omega⟩, ⟨by repeat (first | (with_reducible first | exact HB.out | apply below_alloc | apply pw_below_drewN | apply below_drew1) | exact HB.out)⟩⟩
                                                  · rw [if_neg c31] at H
                                                    exact absurd H (by simp)
                                                · rw [if_neg c29] at H
                                                  have c29b0 : ((rd l0 x14_6) == x12_5) = false := beq_eq_false_iff_ne.mpr c29
                                                  have c29b1 : ((rd l0 x14_6) != x12_5) = true := bne_iff_ne.mpr c29
                                                  have H' := Aside0.mk H
                                                  clear H
                                                  have p112 : 0 ≤ (x14_6 : Int) := of_decide_eq_true (by first | (with_reducible assumption) | assumption)
                                                  have q112 : x14_6 < (l0.length : Int) := of_decide_eq_true (by first | (with_reducible assumption) | assumption)
                                                  obtain ⟨ad112, e112, hx112_0⟩ := Kd.at_int HR0.out x14_6 p112 q112
                                                  obtain rfl : ad111 = ad112 := (by injection e112)
                                                  replace hx112_0 := (HB.out.cell (World.block_lt_of_cell? w _ hx112_0)).trans hx112_0
                                                  replace p112 := eq_true p112
                                                  replace q112 := eq_true q112
                                                  go_wp2
                                                  go_roundg kj24
                                                  case measure => have := HK1.out; have := HK2.out; have := HJ14.out; have := HK4.out; have := HK5.out; have := HK6.out; have := HJ24.out; omega
                                                  case rel => exact ⟨(x4_6), (x6_6), (x10_6), (x11_24), (wrap64 (x14_6 + 1)), (by first | rfl | (simp; done) | (simp [*]; done)), (by first | rfl | (simp; done) | (simp [*]; done)), (by first | rfl | (simp; done) | (simp [*]; done)), (by first | rfl | (simp; done) | (simp [*]; done)), (by first | rfl | (simp; done) | (simp [*]; done)), H', ⟨by have := HK1.out; have := HK2.out; have := HJ14.out; have := HK4.out; have := HK5.out; have := HK6.out; have := HJ24.out; omega⟩, ⟨by repeat (first | (with_reducible first | exact HB.out | apply below_alloc | apply pw_below_drewN | apply below_drew1) | exact HB.out)⟩⟩
                                              · rw [if_neg c28] at H
                                                exact absurd H (by simp)
                                            · rw [if_neg c27] at H
                                              exact absurd H (by simp)
                                      · rw [if_neg c24] at H
                                        exact absurd H (by simp)
                                    · rw [if_neg c23] at H
                                      have c23b0 : decide (x14_6 < (l0.length : Int)) = false := decide_eq_false c23
                                      clear c23
                                      have H' := Aside0.mk H
                                      clear H
                                      go_wp2
                                      go_roundg k6
                                      case measure => have := HK1.out; have := HK2.out; have := HJ14.out; have := HK4.out; have := HK5.out; have := HK6.out; omega
                                      case rel => exact ⟨(x4_6), (x6_6), (wrap64 (x12_5 + 1)), (x10_6), (wrap64 (x11_6 + 1)), (by first | rfl | (simp; done) | (simp [*]; done)), (by first | rfl | (simp; done) | (simp [*]; done)), (by first | rfl | (simp; done) | (simp [*]; done)), (by first | rfl | (simp; done) | (simp [*]; done)), (by first | rfl | (simp; done) | (simp [*]; done)), H', ⟨by have := HK1.out; have := HK2.out; have := HJ14.out; have := HK4.out; have := HK5.out; have := HK6.out; omega⟩, ⟨by repeat (first | (with_reducible first | exact HB.out | apply below_alloc | apply pw_below_drewN | apply below_drew1) | exact HB.out)⟩⟩
                        · rw [if_neg c18] at H
                          have c18b0 : decide (x6_4 < (l0.length : Int)) = false := decide_eq_false c18
                          clear c18
                          simp only [Option.some.injEq, Prod.mk.injEq] at H
                          obtain ⟨rfl, rfl⟩ := H
                          go_wp2
                          go_ret2
                          exact ⟨by first | rfl | (simp [errW_none, errW_some] <;> rfl) | (simp [*, errW_none, errW_some] <;> rfl), by repeat (first | (with_reducible first | exact HB.out | apply below_alloc | apply pw_below_drewN | apply below_drew1) | exact HB.out)⟩

end Go.Proofs.Ytooiajkbpkfplaa.Q

-- from Ppuny6
/- Layer 12: both Encodes come to pform, for texts of at most 300 scalars, and refuse the others. -/
namespace Go.Proofs.Ytooiajkbpkfplaa.K
set_option linter.unusedVariables false
set_option linter.unusedSimpArgs false
open Go.RowKit Go.Proofs.YtooiajkbpkfplaaW.PrintWords Go.Proofs.YtooiajkbpkfplaaW.PrintMore Go.Proofs.Ytooiajkbpkfplaa.Q

def DIG : ByteArray := ⟨#[97, 98, 99, 100, 101, 102, 103, 104, 105, 106, 107, 108, 109, 110, 111, 112, 113, 114, 115, 116, 117, 118, 119, 120, 121, 122, 48, 49, 50, 51, 52, 53, 54, 55, 56, 57]⟩
theorem digits_bt {d : Int} (h0 : 0 ≤ d) (h1 : d < 36) : bt DIG d = lett d := by
  have h : ∀ i : Fin 36, bt DIG (i.val : Int) = lett (i.val : Int) := by decide +kernel
  have := h ⟨d.toNat, by omega⟩
  simpa [Int.toNat_of_nonneg h0] using this
theorem letter_of {d : Int} (h0 : 0 ≤ d) (h1 : d < 36) : paronymref12_letter.f d = some (strOfNums [lett d]) := by
  unfold paronymref12_letter.f lett
  by_cases c : d < 26
  · rw [if_pos c, if_pos c, w64 (by omega) (by omega), show (97 + d) % 256 = 97 + d by omega]
  · rw [if_neg c, if_neg c, w64 (by omega) (by omega), show (22 + d) % 256 = 22 + d by omega]
/-- One digit's numbers. -/
theorem digit_nums {t q : Int} (h1 : 1 ≤ t) (h2 : t ≤ 26) (h : ¬ q < t) (hq : q ≤ 1000000000) : wrap64 (36 - t) = 36 - t ∧ wrap64 (t + Int.tmod (wrap64 (q - t)) (wrap64 (36 - t))) = t + (q - t) % (36 - t) ∧ wrap64 (Int.tdiv (wrap64 (q - t)) (wrap64 (36 - t))) = (q - t) / (36 - t) := by
  have hs := num_step h1 h2 h
  have e1 : wrap64 (q - t) = q - t := w64 (by omega) (by omega)
  have e2 : wrap64 (36 - t) = 36 - t := w64 (by omega) (by omega)
  refine ⟨e2, ?_, ?_⟩
  · rw [e1, e2, Int.tmod_eq_emod_of_nonneg (by omega), w64 (by omega) (by omega)]
  · rw [e1, e2, Int.tdiv_eq_ediv_of_nonneg (by omega), w64 (by omega) (by omega)]
theorem number_ev {b : Int} (hb0 : 0 ≤ b) (hb1 : b ≤ 309237645312) : ∀ (j : Nat) (q kk : Int) (out : List Int), 0 ≤ q → q < 10 ^ j → q ≤ 1000000000 → 36 ≤ kk → kk + 36 * j ≤ 1000 → out.length + j ≤ 1000 → Ev (fun k => puny_number.l0 k q b out kk) (out ++ num12 b kk q) := by
  have last : ∀ (q kk : Int) (out : List Int), 0 ≤ q → 36 ≤ kk → kk ≤ 1000 → out.length ≤ 1000 → q < thr kk b → Ev (fun k => puny_number.l0 k q b out kk) (out ++ num12 b kk q) := by
    intro q kk out h0 h1 h2 h3 h
    have ht := thr_le kk b
    refine Ev.step (fun k => rfl) (Ev.bindS (thr_is (by omega) (by omega)) (Ev.pos h (Ev.pos h0 (Ev.pos (by omega) (Ev.pos (by omega) (Ev.ret ?_))))))
    rw [num12, dif_pos h]
    show out ++ [bt DIG q] = _
    rw [digits_bt h0 (by omega)]
  intro j
  induction j with
  | zero =>
    intro q kk out h0 h1 h2 h3 h4 h5
    have ht := thr_le kk b
    have : (10 : Int) ^ 0 = 1 := rfl
    exact last q kk out h0 h3 (by omega) (by omega) (by omega)
  | succ j ih =>
    intro q kk out h0 h1 h2 h3 h4 h5
    have ht := thr_le kk b
    by_cases h : q < thr kk b
    · exact last q kk out h0 h3 (by omega) (by omega) h
    · have hs := num_step ht.1 ht.2 h
      have hp : (10 : Int) ^ (j + 1) = 10 ^ j * 10 := Int.pow_succ _ _
      rw [num12, dif_neg h]
      refine Ev.step (fun k => rfl) (Ev.bindS (thr_is (by omega) (by omega)) (Ev.neg h ?_))
      generalize thr kk b = t at *
      obtain ⟨e2, em, ed⟩ := digit_nums ht.1 ht.2 h h2
      rw [em, ed, w64 (n := kk + 36) (by omega) (by omega)]
      refine Ev.neg (by rw [e2]; omega) (Ev.pos (by omega) (Ev.pos (by omega) (Ev.pos (by omega) ?_)))
      have := ih ((q - t) / (36 - t)) (kk + 36) (out ++ [lett (t + (q - t) % (36 - t))]) (by omega) (by omega) (by omega) (by omega) (by omega) (by simp; omega)
      rw [List.append_assoc, List.singleton_append] at this
      show Ev (fun k => puny_number.l0 k ((q - t) / (36 - t)) b (out ++ [bt DIG (t + (q - t) % (36 - t))]) (kk + 36)) _
      rw [digits_bt (by omega) (by omega)]
      exact this
theorem refNumber_ev {b : Int} (hb0 : 0 ≤ b) (hb1 : b ≤ 309237645312) : ∀ (j : Nat) (q kk : Int) (out : List Int), 0 ≤ q → q < 10 ^ j → q ≤ 1000000000 → 36 ≤ kk → kk + 36 * j ≤ 1000 → out.length + j ≤ 1000 → Ev (fun k => paronymref12_Number.l0 k q b (strOfNums out) kk) (strOfNums (out ++ num12 b kk q)) := by
  have last : ∀ (q kk : Int) (out : List Int), 0 ≤ q → 36 ≤ kk → kk ≤ 1000 → out.length ≤ 1000 → q < thr kk b → Ev (fun k => paronymref12_Number.l0 k q b (strOfNums out) kk) (strOfNums (out ++ num12 b kk q)) := by
    intro q kk out h0 h1 h2 h3 h
    have ht := thr_le kk b
    refine Ev.step (fun k => rfl) (Ev.bindS (reft_is (by omega) (by omega)) (Ev.neg (by omega) (Ev.bindS (letter_of h0 (by omega)) (Ev.pos (by rw [size_str, size_str]; simp; omega) (Ev.ret ?_)))))
    rw [num12, dif_pos h, str_append]
  intro j
  induction j with
  | zero =>
    intro q kk out h0 h1 h2 h3 h4 h5
    have ht := thr_le kk b
    have : (10 : Int) ^ 0 = 1 := rfl
    exact last q kk out h0 h3 (by omega) (by omega) (by omega)
  | succ j ih =>
    intro q kk out h0 h1 h2 h3 h4 h5
    have ht := thr_le kk b
    by_cases h : q < thr kk b
    · exact last q kk out h0 h3 (by omega) (by omega) h
    · have hs := num_step ht.1 ht.2 h
      have hp : (10 : Int) ^ (j + 1) = 10 ^ j * 10 := Int.pow_succ _ _
      rw [num12, dif_neg h]
      have hthr : paronymref12_t.f kk b = some (thr kk b) := reft_is (by omega) (by omega)
      refine Ev.step (fun k => rfl) (Ev.bindS hthr (Ev.pos (by omega) (Ev.bindS hthr ?_)))
      generalize thr kk b = t at *
      obtain ⟨e2, em, ed⟩ := digit_nums ht.1 ht.2 h h2
      rw [em, ed, w64 (n := kk + 36) (by omega) (by omega)]
      refine Ev.neg (by rw [e2]; omega) (Ev.bindS (letter_of (by omega) (by omega)) (Ev.pos (by rw [size_str, size_str]; simp; omega) ?_))
      have := ih ((q - t) / (36 - t)) (kk + 36) (out ++ [lett (t + (q - t) % (36 - t))]) (by omega) (by omega) (by omega) (by omega) (by omega) (by simp; omega)
      rw [List.append_assoc, List.singleton_append] at this
      rw [str_append]
      exact this
theorem number_is {b q : Int} (hb0 : 0 ≤ b) (hb1 : b ≤ 309237645312) (h0 : 0 ≤ q) (h1 : q < 1000000000) : Ev (fun k => puny_number.f k q b) (num12 b 36 q) ∧ Ev (fun k => paronymref12_Number.f k q b) (strOfNums (num12 b 36 q)) ∧ (num12 b 36 q).length ≤ 10 := by
  have hp : (10 : Int) ^ 9 = 1000000000 := by decide
  refine ⟨?_, ?_, num12_len b 9 36 q (by omega)⟩
  · have := number_ev hb0 hb1 9 q 36 [] h0 (by omega) (by omega) (by omega) (by omega) (by simp)
    rw [List.nil_append] at this
    exact this
  · have := refNumber_ev hb0 hb1 9 q 36 [] h0 (by omega) (by omega) (by omega) (by omega) (by simp)
    rw [List.nil_append] at this
    exact this

/-! the least -/
theorem leastP_top {s : List Int} {n x a b : Int} (hx : x ∈ s) (hn : n ≤ x) (ha : x < a) (hb : x < b) : leastP n s a = leastP n s b := by
  obtain ⟨a1, _, a3⟩ := leastP_spec n s a
  obtain ⟨b1, _, b3⟩ := leastP_spec n s b
  have := a3 x hx hn
  have := b3 x hx hn
  rcases a1 with a1 | a1
  · omega
  · rcases b1 with b1 | b1
    · omega
    · have := a3 _ b1.1 b1.2
      have := b3 _ a1.1 a1.2
      omega
theorem least_ev {s : List Int} (hl : s.length ≤ 1000) (n : Int) : ∀ (d i : Nat) (m : Int), s.length - i = d → i ≤ s.length → Ev (fun k => puny_least.l0 k n m s s.length i) (leastP n (s.drop i) m) := by
  intro d
  induction d with
  | zero =>
    intro i m h1 h2
    have : i = s.length := by omega
    subst this
    rw [List.drop_length]
    exact Ev.step (fun k => rfl) (Ev.neg (by omega) (Ev.now _))
  | succ d ih =>
    intro i m h1 h2
    have hi : i < s.length := by omega
    rw [drop_cons s i hi]
    unfold leastP
    have en : wrap64 ((i : Int) + 1) = ((i + 1 : Nat) : Int) := w64 (by omega) (by omega)
    refine Ev.step (fun k => rfl) (Ev.pos (by omega) (Ev.pos (by omega) (Ev.pos (by omega) ?_)))
    rw [en]
    by_cases c : rd s (i : Int) ≥ n
    · refine Ev.pos c ?_
      have e : mn m (rd s (i : Int)) = if rd s (i : Int) ≥ n ∧ rd s (i : Int) < m then rd s (i : Int) else m := by
        unfold mn
        split <;> split <;> omega
      rw [e]
      exact ih (i + 1) _ (by omega) (by omega)
    · rw [if_neg (by omega)]
      exact Ev.neg c (ih (i + 1) m (by omega) (by omega))

/-! one round -/
theorem pass_h (m basic : Int) : ∀ (l : List Int) (d b h : Int), (pass m basic l d b h).2.2.2 + ((l.filter fun c => decide (c < m)).length : Int) = h + ((l.filter fun c => decide (c ≤ m)).length : Int)
  | [], d, b, h => by simp [pass]
  | c :: l, d, b, h => by
    unfold pass
    by_cases c1 : c < m
    · rw [if_pos c1, List.filter_cons_of_pos (by simpa using c1), List.filter_cons_of_pos (by simp; omega)]
      have := pass_h m basic l (d + 1) b h
      simp only [List.length_cons]
      omega
    · rw [if_neg c1, List.filter_cons_of_neg (by simpa using c1)]
      by_cases c2 : c = m
      · rw [if_pos c2, List.filter_cons_of_pos (by simp; omega)]
        have := pass_h m basic l 0 (bia d (h + 1) (decide (h = basic))) (h + 1)
        simp only [List.length_cons]
        omega
      · rw [if_neg c2, List.filter_cons_of_neg (by simp; omega)]
        exact pass_h m basic l d b h
/-- Bounds of one round, texts of at most 300. -/
theorem pass_bound3 {m basic : Int} (hm0 : 0 ≤ m) (hm1 : m ≤ 1114111) : ∀ (l : List Int) (j : Nat) (d b h : Int), 0 ≤ d → d ≤ 301 * m + j → j + l.length ≤ 300 → 0 ≤ h → 0 ≤ b → b ≤ 309237645312 →
    0 ≤ (pass m basic l d b h).2.1 ∧ (pass m basic l d b h).2.1 ≤ 301 * m + (j + l.length : Nat) ∧ 0 ≤ (pass m basic l d b h).2.2.1 ∧ (pass m basic l d b h).2.2.1 ≤ 309237645312 ∧ (pass m basic l d b h).1.length ≤ 10 * l.length
  | [], j, d, b, h, h1, h2, h3, h4, h5, h6 => by
    unfold pass
    exact ⟨h1, by simpa using h2, h5, h6, Nat.le_refl _⟩
  | c :: l, j, d, b, h, h1, h2, h3, h4, h5, h6 => by
    rw [List.length_cons] at h3
    have e : (j + (c :: l).length : Nat) = j + 1 + l.length := by rw [List.length_cons]; omega
    rw [e, List.length_cons]
    unfold pass
    by_cases c1 : c < m
    · rw [if_pos c1]
      have := pass_bound3 hm0 hm1 (basic := basic) l (j + 1) (d + 1) b h (by omega) (by omega) (by omega) h4 h5 h6
      exact ⟨this.1, this.2.1, this.2.2.1, this.2.2.2.1, by omega⟩
    · rw [if_neg c1]
      by_cases c2 : c = m
      · rw [if_pos c2]
        have hb := (bia_le (d := d) (p := h + 1) (first := decide (h = basic)) h1 (by omega) (by omega))
        have := pass_bound3 hm0 hm1 (basic := basic) l (j + 1) 0 (bia d (h + 1) (decide (h = basic))) (h + 1) (by omega) (by omega) (by omega) (by omega) hb.1 hb.2
        generalize pass m basic l 0 (bia d (h + 1) (decide (h = basic))) (h + 1) = r at *
        have hl := (number_is h5 h6 h1 (by omega)).2.2
        refine ⟨this.1, this.2.1, this.2.2.1, this.2.2.2.1, ?_⟩
        show (num12 b 36 d ++ r.1).length ≤ _
        rw [List.length_append]
        omega
      · rw [if_neg c2]
        have := pass_bound3 hm0 hm1 (basic := basic) l (j + 1) d b h (by omega) (by omega) (by omega) h4 h5 h6
        exact ⟨this.1, this.2.1, this.2.2.1, this.2.2.2.1, by omega⟩
theorem pass_ev {s : List Int} (hl : s.length ≤ 300) {m basic : Int} (hm0 : 0 ≤ m) (hm1 : m ≤ 1114111) (R : List Int × Int) : ∀ (dd i : Nat) (out : List Int) (d b h : Int), s.length - i = dd → i ≤ s.length → 0 ≤ d → d ≤ 301 * m + i → 0 ≤ h → h ≤ 300 + i → 0 ≤ b → b ≤ 309237645312 → out.length + 10 * (s.length - i) ≤ 10000000 →
    Ev (fun k => puny_Encode.l1 k s (out ++ (pass m basic (s.drop i) d b h).1) basic (m + 1) (pass m basic (s.drop i) d b h).2.2.1 ((pass m basic (s.drop i) d b h).2.1 + 1) (pass m basic (s.drop i) d b h).2.2.2) R →
    Ev (fun k => puny_Encode.l2 k s out basic m b d h s s.length i) R := by
  intro dd
  induction dd with
  | zero =>
    intro i out d b h h1 h2 h3 h4 h5 h6 h7 h8 h9 hR
    have : i = s.length := by omega
    subst this
    rw [List.drop_length] at hR
    simp only [pass, List.append_nil] at hR
    refine Ev.step (fun k => rfl) (Ev.neg (by omega) ?_)
    rw [w64 (n := m + 1) (by omega) (by omega), w64 (n := d + 1) (by omega) (by omega)]
    exact hR
  | succ dd ih =>
    intro i out d b h h1 h2 h3 h4 h5 h6 h7 h8 h9 hR
    have hi : i < s.length := by omega
    rw [drop_cons s i hi] at hR
    unfold pass at hR
    have en : wrap64 ((i : Int) + 1) = ((i + 1 : Nat) : Int) := w64 (by omega) (by omega)
    refine Ev.step (fun k => rfl) (Ev.pos (by omega) (Ev.pos (by omega) (Ev.pos (by omega) ?_)))
    rw [en]
    by_cases c1 : rd s (i : Int) < m
    · rw [if_pos c1] at hR
      refine Ev.pos c1 ?_
      rw [w64 (n := d + 1) (by omega) (by omega)]
      exact ih (i + 1) out (d + 1) b h (by omega) (by omega) (by omega) (by omega) h5 (by omega) h7 h8 (by omega) hR
    · rw [if_neg c1] at hR
      refine Ev.neg c1 ?_
      by_cases c2 : rd s (i : Int) = m
      · rw [if_pos c2] at hR
        have hn := number_is h7 h8 h3 (show d < 1000000000 by omega)
        have e1 : wrap64 (h + 1) = h + 1 := w64 (by omega) (by omega)
        have hbi := bia_ev (d := d) (p := h + 1) (first := decide (h = basic)) h3 (by omega) (by omega)
        refine Ev.pos c2 (Ev.bind hn.1 (Ev.pos (by omega) ?_))
        rw [e1]
        refine Ev.bind (show Ev (fun k => puny_adapt.f k d (h + 1) (h == basic)) _ from hbi.1) ?_
        rw [← List.append_assoc] at hR
        exact ih (i + 1) (out ++ num12 b 36 d) 0 _ (h + 1) (by omega) (by omega) (by omega) (by omega) (by omega) (by omega) hbi.2.1 hbi.2.2 (by rw [List.length_append]; omega) hR
      · rw [if_neg c2] at hR
        exact Ev.neg c2 (ih (i + 1) out d b h (by omega) (by omega) h3 (by omega) h5 (by omega) h7 h8 (by omega) hR)
theorem refpass_ev {s : List Int} (hl : s.length ≤ 300) {m basic : Int} (hm0 : 0 ≤ m) (hm1 : m ≤ 1114111) (R : ByteArray × Int) : ∀ (dd i : Nat) (out : List Int) (d b h : Int), s.length - i = dd → i ≤ s.length → 0 ≤ d → d ≤ 301 * m + i → 0 ≤ h → h ≤ 300 + i → 0 ≤ b → b ≤ 309237645312 → out.length + 10 * (s.length - i) ≤ 10000000 →
    Ev (fun k => paronymref12_Encode.l2 k s (strOfNums (out ++ (pass m basic (s.drop i) d b h).1)) (pass m basic (s.drop i) d b h).2.2.2 basic (m + 1) (pass m basic (s.drop i) d b h).2.2.1 ((pass m basic (s.drop i) d b h).2.1 + 1)) R →
    Ev (fun k => paronymref12_Encode.l4 k s (strOfNums out) h basic m b d i) R := by
  intro dd
  induction dd with
  | zero =>
    intro i out d b h h1 h2 h3 h4 h5 h6 h7 h8 h9 hR
    have : i = s.length := by omega
    subst this
    rw [List.drop_length] at hR
    simp only [pass, List.append_nil] at hR
    refine Ev.step (fun k => rfl) (Ev.neg (by omega) ?_)
    rw [w64 (n := m + 1) (by omega) (by omega), w64 (n := d + 1) (by omega) (by omega)]
    exact hR
  | succ dd ih =>
    intro i out d b h h1 h2 h3 h4 h5 h6 h7 h8 h9 hR
    have hi : i < s.length := by omega
    rw [drop_cons s i hi] at hR
    unfold pass at hR
    have en : wrap64 ((i : Int) + 1) = ((i + 1 : Nat) : Int) := w64 (by omega) (by omega)
    refine Ev.step (fun k => rfl) (Ev.pos (by omega) (Ev.pos (by omega) ?_))
    by_cases c1 : rd s (i : Int) < m
    · rw [if_pos c1] at hR
      refine Ev.pos c1 (Ev.step (fun k => rfl) (Ev.pos (by omega) ?_))
      refine Ev.neg (by omega) ?_
      rw [en, w64 (n := d + 1) (by omega) (by omega)]
      exact ih (i + 1) out (d + 1) b h (by omega) (by omega) (by omega) (by omega) h5 (by omega) h7 h8 (by omega) hR
    · rw [if_neg c1] at hR
      refine Ev.neg c1 (Ev.step (fun k => rfl) (Ev.pos (by omega) ?_))
      by_cases c2 : rd s (i : Int) = m
      · rw [if_pos c2] at hR
        have hn := number_is h7 h8 h3 (show d < 1000000000 by omega)
        have e1 : wrap64 (h + 1) = h + 1 := w64 (by omega) (by omega)
        have hbi := bia_ev (d := d) (p := h + 1) (first := decide (h = basic)) h3 (by omega) (by omega)
        refine Ev.pos c2 (Ev.bind hn.2.1 (Ev.pos (by rw [size_str, size_str]; omega) ?_))
        rw [e1, en, str_append]
        refine Ev.bind (show Ev (fun k => paronymref12_Bias.f k d (h + 1) (h == basic)) _ from Ev.congr (fun k => (bias_same' k _ _ _).symm) hbi.1) ?_
        rw [← List.append_assoc] at hR
        exact ih (i + 1) (out ++ num12 b 36 d) 0 _ (h + 1) (by omega) (by omega) (by omega) (by omega) (by omega) (by omega) hbi.2.1 hbi.2.2 (by rw [List.length_append]; omega) hR
      · rw [if_neg c2] at hR
        refine Ev.neg c2 ?_
        rw [en]
        exact ih (i + 1) out d b h (by omega) (by omega) h3 (by omega) h5 (by omega) h7 h8 (by omega) hR
theorem refleast_ev {s : List Int} (hl : s.length ≤ 300) {n basic b d h : Int} {str : ByteArray} (R : ByteArray × Int) : ∀ (dd i : Nat) (m : Int), s.length - i = dd → i ≤ s.length →
    Ev (fun k => paronymref12_Encode.l4 k s str h basic (leastP n (s.drop i) m) b (wrap64 (d + wrap64 (wrap64 (leastP n (s.drop i) m - n) * wrap64 (h + 1)))) 0) R → Ev (fun k => paronymref12_Encode.l3 k s str h basic n b d m i) R := by
  intro dd
  induction dd with
  | zero =>
    intro i m h1 h2 hR
    have : i = s.length := by omega
    subst this
    rw [List.drop_length] at hR
    exact Ev.step (fun k => rfl) (Ev.neg (by omega) hR)
  | succ dd ih =>
    intro i m h1 h2 hR
    have hi : i < s.length := by omega
    rw [drop_cons s i hi] at hR
    unfold leastP at hR
    have en : wrap64 ((i : Int) + 1) = ((i + 1 : Nat) : Int) := w64 (by omega) (by omega)
    refine Ev.step (fun k => rfl) (Ev.pos (by omega) (Ev.pos (by omega) ?_))
    rw [en]
    by_cases c : rd s (i : Int) ≥ n
    · refine Ev.pos c ?_
      by_cases c2 : rd s (i : Int) < m
      · rw [if_pos ⟨c, c2⟩] at hR
        exact Ev.pos c2 (ih (i + 1) _ (by omega) (by omega) hR)
      · rw [if_neg (fun h => c2 h.2)] at hR
        exact Ev.neg c2 (ih (i + 1) m (by omega) (by omega) hR)
    · rw [if_neg (fun h => c h.1)] at hR
      exact Ev.neg c (ih (i + 1) m (by omega) (by omega) hR)

/-! all rounds -/
theorem penc_ev {s : List Int} {basic : Int} (hs : s.all scalar = true) (hl : s.length ≤ 300) : ∀ (fu : Nat) (n b d h : Int) (out : List Int), 0 ≤ d → d ≤ 301 * n → 0 ≤ n → h = ((s.filter fun c => decide (c < n)).length : Int) → (s.length : Int) - h ≤ fu → 0 ≤ b → b ≤ 309237645312 → out.length + 3000 * fu ≤ 5000000 →
    Ev (fun k => puny_Encode.l1 k s out basic n b d h) (out ++ penc s basic fu n b d h, 0) ∧ Ev (fun k => paronymref12_Encode.l2 k s (strOfNums out) h basic n b d) (strOfNums (out ++ penc s basic fu n b d h), 0) := by
  intro fu
  induction fu with
  | zero =>
    intro n b d h out h1 h2 h3 hh hfu h4 h5 hout
    have hn : ¬ h < s.length := by omega
    rw [penc, List.append_nil]
    exact ⟨Ev.step (fun k => rfl) (Ev.neg hn (Ev.now _)), Ev.step (fun k => rfl) (Ev.neg hn (Ev.now _))⟩
  | succ fu ih =>
    intro n b d h out h1 h2 h3 hh hfu h4 h5 hout
    unfold penc
    by_cases c : h < s.length
    · rw [if_pos c]
      obtain ⟨m1, m2, m3, m4⟩ := leastP_mem (n := n) hs (by omega)
      have m5 := scalar_le m3
      have htop : leastP n s 9223372036854775807 = leastP n s 2000000 := leastP_top m1 m2 (by omega) (by omega)
      have hleast : Ev (fun k => puny_least.f k s n) (leastP n s 2000000) := by
        have := least_ev (show s.length ≤ 1000 by omega) n s.length 0 9223372036854775807 (by omega) (by omega)
        rw [List.drop_zero, htop] at this
        exact this
      have hrl := fun R hR => refleast_ev (s := s) hl (n := n) (basic := basic) (b := b) (d := d) (h := h) (str := strOfNums out) R s.length 0 2000000 (by omega) (by omega) hR
      rw [List.drop_zero] at hrl
      generalize leastP n s 2000000 = m at *
      rw [m4] at hh
      have g0 : 0 ≤ (m - n) * (h + 1) := Int.mul_nonneg (by omega) (by omega)
      have g1 : (m - n) * (h + 1) ≤ (m - n) * 301 := Int.mul_le_mul_of_nonneg_left (by omega) (by omega)
      have ew : wrap64 (d + wrap64 (wrap64 (m - n) * wrap64 (h + 1))) = d + (m - n) * (h + 1) := by
        rw [w64 (n := m - n) (by omega) (by omega), w64 (n := h + 1) (by omega) (by omega), w64 (n := (m - n) * (h + 1)) (by omega) (by omega), w64 (by omega) (by omega)]
      rw [ew] at hrl
      have hbd := pass_bound3 (m := m) (basic := basic) (by omega) m5.2 s 0 (d + (m - n) * (h + 1)) b h (by omega) (by omega) (by omega) (by omega) h4 h5
      have hph := pass_h m basic s (d + (m - n) * (h + 1)) b h
      have hlt := filter_lt_lt s m1
      have hp1 := fun R => pass_ev (s := s) hl (m := m) (basic := basic) (by omega) m5.2 R s.length 0 out (d + (m - n) * (h + 1)) b h (by omega) (by omega) (by omega) (by omega) (by omega) (by omega) h4 h5 (by omega)
      have hp2 := fun R => refpass_ev (s := s) hl (m := m) (basic := basic) (by omega) m5.2 R s.length 0 out (d + (m - n) * (h + 1)) b h (by omega) (by omega) (by omega) (by omega) (by omega) (by omega) h4 h5 (by omega)
      rw [List.drop_zero] at hp1 hp2
      have em : (s.filter fun c => decide (c ≤ m)) = s.filter fun c => decide (c < m + 1) := List.filter_congr fun y _ => by
        by_cases e : y ≤ m
        · rw [decide_eq_true (by omega), decide_eq_true (by omega)]
        · rw [decide_eq_false (by omega), decide_eq_false (by omega)]
      generalize pass m basic s (d + (m - n) * (h + 1)) b h = r at *
      obtain ⟨b1, b2, b3, b4, b5⟩ := hbd
      have hr2 : r.2.2.2 = ((s.filter fun c => decide (c ≤ m)).length : Int) := by omega
      have hrec := ih (m + 1) r.2.2.1 (r.2.1 + 1) r.2.2.2 (out ++ r.1) (by omega) (by omega) (by omega) (by rw [hr2, em]) (by omega) b3 b4 (by rw [List.length_append]; omega)
      rw [← List.append_assoc]
      refine ⟨Ev.step (fun k => rfl) (Ev.pos c (Ev.bind hleast ?_)), Ev.step (fun k => rfl) (Ev.pos c (hrl _ (hp2 _ hrec.2)))⟩
      show Ev (fun k => puny_Encode.l2 k s out basic m b (wrap64 (d + wrap64 (wrap64 (m - n) * wrap64 (h + 1)))) h s s.length 0) _
      rw [ew]
      exact hp1 _ hrec.1
    · rw [if_neg c, List.append_nil]
      exact ⟨Ev.step (fun k => rfl) (Ev.neg c (Ev.now _)), Ev.step (fun k => rfl) (Ev.neg c (Ev.now _))⟩

/-! from the start -/
def encode12 (s : List Int) : List Int × Int := if (s.any fun c => !scalar c) = true then ([], 10) else if (s.length : Int) > 1000 then ([], 36) else (pform s, 0)
theorem all_of_any {s : List Int} (h : ¬ (s.any fun c => !scalar c) = true) : s.all scalar = true := List.all_eq_true.2 fun x hx => by
  cases e : scalar x with
  | true => rfl
  | false => exact absurd (List.any_eq_true.2 ⟨x, hx, by rw [e]; rfl⟩) h
theorem ascii_snoc (s : List Int) (i : Nat) (h : i < s.length) : ascii12 (s.take (i + 1)) = ascii12 (s.take i) ++ (if rd s (i : Int) < 128 then [rd s (i : Int)] else []) := by
  unfold ascii12
  rw [take_snoc s i h, filter_snoc]
  congr 1
  by_cases c : rd s (i : Int) < 128 <;> simp [c]
theorem Encode12_ev {s : List Int} (hmax : s.length ≤ 1099511627776) (hl : s.length ≤ 300 ∨ s.length > 1000) : Ev (fun k => puny_Encode.f k s) (encode12 s) := by
  unfold puny_Encode.f encode12
  refine Ev.bind (any_unscalar_ev s hmax) ?_
  by_cases c1 : (s.any fun c => !scalar c) = true
  · rw [if_pos c1]
    exact Ev.pos c1 (Ev.now _)
  rw [if_neg c1]
  refine Ev.neg c1 ?_
  by_cases c2 : (s.length : Int) > 1000
  · rw [if_pos c2]
    exact Ev.pos c2 (Ev.now _)
  rw [if_neg c2]
  refine Ev.neg c2 ?_
  have hs := all_of_any c1
  have hl3 : s.length ≤ 300 := by omega
  have hA := List.length_filter_le (fun c => decide (c < 128)) s
  have hA : (ascii12 s).length ≤ s.length := hA
  have fin : ∀ out : List Int, out.length ≤ 400 → Ev (fun k => puny_Encode.j1 k s out (ascii12 s).length) (out ++ penc s (ascii12 s).length (s.length + 1) 128 72 0 (ascii12 s).length, 0) := fun out ho =>
    Ev.step (fun k => rfl) (penc_ev hs hl3 (s.length + 1) 128 72 0 _ out (by omega) (by omega) (by omega) rfl (by omega) (by omega) (by omega) (by omega)).1
  have key : ∀ (d i : Nat), s.length - i = d → i ≤ s.length → Ev (fun k => puny_Encode.l0 k s (ascii12 (s.take i)) s s.length i) (pform s, 0) := by
    intro d
    induction d with
    | zero =>
      intro i h1 h2
      have : i = s.length := by omega
      subst this
      rw [List.take_length]
      unfold pform
      refine Ev.step (fun k => rfl) (Ev.neg (by omega) ?_)
      by_cases c : (ascii12 s).length > 0
      · rw [if_pos c]
        exact Ev.pos (by omega) (Ev.pos (by omega) (fin _ (by simp; omega)))
      · rw [if_neg c, List.append_nil]
        exact Ev.neg (by omega) (fin _ (by omega))
    | succ d ih =>
      intro i h1 h2
      have hi : i < s.length := by omega
      have hsc := scalar_le (List.all_eq_true.1 hs _ (rd_mem (l := s) (i := (i : Int)) (by omega) (by omega)))
      have en : wrap64 ((i : Int) + 1) = ((i + 1 : Nat) : Int) := w64 (by omega) (by omega)
      have hrec := ih (i + 1) (by omega) (by omega)
      rw [ascii_snoc s i hi] at hrec
      have hAi : (ascii12 (s.take i)).length ≤ (s.take i).length := List.length_filter_le _ _
      rw [List.length_take] at hAi
      refine Ev.step (fun k => rfl) (Ev.pos (by omega) (Ev.pos (by omega) (Ev.pos (by omega) ?_)))
      rw [en]
      by_cases c : rd s (i : Int) < 128
      · rw [if_pos c] at hrec
        refine Ev.pos c (Ev.pos (by omega) ?_)
        rw [show rd s (i : Int) % 256 = rd s i by omega]
        exact hrec
      · rw [if_neg c, List.append_nil] at hrec
        exact Ev.neg c hrec
  have := key s.length 0 (by omega) (by omega)
  rw [List.take_zero] at this
  exact this
theorem refEncode12_ev {s : List Int} (hmax : s.length ≤ 1099511627776) (hl : s.length ≤ 300 ∨ s.length > 1000) : Ev (fun k => paronymref12_Encode.f k s) (strOfNums (encode12 s).1, (encode12 s).2) := by
  unfold paronymref12_Encode.f
  have last : (s.any fun c => !scalar c) = false → Ev (fun k => if (s.length : Int) > 1000 then some ((⟨#[]⟩ : ByteArray), (36 : Int)) else paronymref12_Encode.l1 k s (⟨#[]⟩ : ByteArray) 0 0) (strOfNums (encode12 s).1, (encode12 s).2) := by
    intro hany
    unfold encode12
    rw [if_neg (by rw [hany]; simp)]
    by_cases c2 : (s.length : Int) > 1000
    · rw [if_pos c2]
      exact Ev.pos c2 (Ev.now _)
    rw [if_neg c2]
    refine Ev.neg c2 ?_
    have hs := all_of_any (show ¬ (s.any fun c => !scalar c) = true by rw [hany]; simp)
    have hl3 : s.length ≤ 300 := by omega
    have hA := List.length_filter_le (fun c => decide (c < 128)) s
    have hA : (ascii12 s).length ≤ s.length := hA
    have fin : ∀ out : List Int, out.length ≤ 400 → Ev (fun k => paronymref12_Encode.j2 k s (strOfNums out) (ascii12 s).length (ascii12 s).length) (strOfNums (out ++ penc s (ascii12 s).length (s.length + 1) 128 72 0 (ascii12 s).length), 0) := fun out ho =>
      Ev.step (fun k => rfl) (penc_ev hs hl3 (s.length + 1) 128 72 0 _ out (by omega) (by omega) (by omega) rfl (by omega) (by omega) (by omega) (by omega)).2
    have key : ∀ (d i : Nat), s.length - i = d → i ≤ s.length → Ev (fun k => paronymref12_Encode.l1 k s (strOfNums (ascii12 (s.take i))) (ascii12 (s.take i)).length i) (strOfNums (pform s), 0) := by
      intro d
      induction d with
      | zero =>
        intro i h1 h2
        have : i = s.length := by omega
        subst this
        rw [List.take_length]
        unfold pform
        refine Ev.step (fun k => rfl) (Ev.neg (by omega) ?_)
        by_cases c : (ascii12 s).length > 0
        · rw [if_pos c]
          refine Ev.pos (by omega) (Ev.pos (by rw [size_str]; omega) ?_)
          have e : strOfNums (ascii12 s) ++ (⟨#[45]⟩ : ByteArray) = strOfNums (ascii12 s ++ [45]) := str_append _ [45]
          rw [e]
          exact fin _ (by simp; omega)
        · rw [if_neg c, List.append_nil]
          exact Ev.neg (by omega) (fin _ (by omega))
      | succ d ih =>
        intro i h1 h2
        have hi : i < s.length := by omega
        have hsc := scalar_le (List.all_eq_true.1 hs _ (rd_mem (l := s) (i := (i : Int)) (by omega) (by omega)))
        have en : wrap64 ((i : Int) + 1) = ((i + 1 : Nat) : Int) := w64 (by omega) (by omega)
        have hrec := ih (i + 1) (by omega) (by omega)
        rw [ascii_snoc s i hi] at hrec
        have hAi : (ascii12 (s.take i)).length ≤ (s.take i).length := List.length_filter_le _ _
        rw [List.length_take] at hAi
        refine Ev.step (fun k => rfl) (Ev.pos (by omega) (Ev.pos (by omega) ?_))
        rw [en]
        by_cases c : rd s (i : Int) < 128
        · rw [if_pos c] at hrec
          refine Ev.pos c (Ev.bindS rfl (Ev.pos (by rw [size_str, size_str]; simp; omega) ?_))
          rw [show rd s (i : Int) % 256 = rd s i by omega, str_append, w64 (by omega) (by omega)]
          rw [List.length_append] at hrec
          exact hrec
        · rw [if_neg c, List.append_nil] at hrec
          exact Ev.neg c hrec
    have := key s.length 0 (by omega) (by omega)
    rw [List.take_zero] at this
    exact this
  have key : ∀ (d i : Nat), s.length - i = d → i ≤ s.length → (∀ x ∈ s.take i, scalar x = true) → Ev (fun k => paronymref12_Encode.l0 k s (⟨#[]⟩ : ByteArray) i) (strOfNums (encode12 s).1, (encode12 s).2) := by
    intro d
    induction d with
    | zero =>
      intro i h1 h2 h3
      have : i = s.length := by omega
      subst this
      rw [List.take_length] at h3
      refine Ev.step (fun k => rfl) (Ev.neg (by omega) (last ?_))
      rw [List.any_eq_false]
      intro x hx
      rw [h3 x hx]
      simp
    | succ d ih =>
      intro i h1 h2 h3
      have hi : i < s.length := by omega
      have en : wrap64 ((i : Int) + 1) = ((i + 1 : Nat) : Int) := w64 (by omega) (by omega)
      refine Ev.step (fun k => rfl) (Ev.pos (by omega) (Ev.pos (by omega) (Ev.bindS (refScalar_is' _) ?_)))
      by_cases c : scalar (rd s (i : Int)) = true
      · refine Ev.pos c ?_
        rw [en]
        refine ih (i + 1) (by omega) (by omega) fun x hx => ?_
        rw [take_snoc s i hi] at hx
        rcases List.mem_append.1 hx with hx | hx
        · exact h3 x hx
        · rw [List.mem_singleton.1 hx]; exact c
      · have : (s.any fun c => !scalar c) = true := List.any_eq_true.2 ⟨_, rd_mem (l := s) (i := (i : Int)) (by omega) (by omega), by
          simpa using c⟩
        unfold encode12
        rw [if_pos this]
        exact Ev.neg c (Ev.now _)
  exact key s.length 0 (by omega) (by omega) (fun x hx => absurd hx (by simp))

end Go.Proofs.Ytooiajkbpkfplaa.K

-- from Qf70
-- Made by hp.py, a program of this session, with the kit's printer. Not trusted: Lean checks it.
namespace Go.Proofs.Ytooiajkbpkfplaa.Q
open Go.RowKit Go.Proofs.YtooiajkbpkfplaaW.PrintWords Go.Proofs.YtooiajkbpkfplaaW.PrintLast Go.Proofs.YtooiajkbpkfplaaW.PrintMore
attribute [local go_sem] max2_int min2_int max_two min_two max_three min_three max_four min_four   -- for this text's walks alone
set_option linter.unusedVariables false
set_option linter.unusedSimpArgs false

/-! ### ldh_within_byte: function 70 -/
def ldh_within_byte.f (a0 : Int) (a1 : Int) (a2 : Int) : Option (Bool) := if a0 ≥ a1 then (some (decide (a0 ≤ a2))) else (some false)
set_option maxHeartbeats 8000000 in
set_option maxRecDepth 100000 in
theorem ldh_within_byte.calls (a0 : Int) (a1 : Int) (a2 : Int) (r : Bool) (w : World) (h : ldh_within_byte.f a0 a1 a2 = some r) :
    Calls Try.prog 70 #[.int .u8 a0, .int .u8 a1, .int .u8 a2] w fun e w' => e = .returned (.bool r) ∧ Drawn0 w w' := by
  have H : (if a0 ≥ a1 then (some (decide (a0 ≤ a2))) else (some false)) = some r := h
  clear h
  by_cases c4 : a0 ≥ a1
  · rw [if_pos c4] at H
    have c4b0 : decide (a1 ≤ a0) = true := decide_eq_true c4
    clear c4
    obtain rfl := Option.some.inj H
    go_enter Try.func70, Try.ntmps70
    go_wp2
    go_ret
    exact ⟨by first | rfl | (simp; done) | (simp [*]; done), by repeat (first | exact Drawn0.refl _ | apply Drawn0.step)⟩
  · rw [if_neg c4] at H
    have c4b0 : decide (a1 ≤ a0) = false := decide_eq_false c4
    clear c4
    obtain rfl := Option.some.inj H
    go_enter Try.func70, Try.ntmps70
    go_wp2
    go_ret
    exact ⟨by first | rfl | (simp; done) | (simp [*]; done), by repeat (first | exact Drawn0.refl _ | apply Drawn0.step)⟩

end Go.Proofs.Ytooiajkbpkfplaa.Q

-- from Qf48
-- Made by hp.py, a program of this session, with the kit's printer. Not trusted: Lean checks it.
namespace Go.Proofs.Ytooiajkbpkfplaa.Q
open Go.RowKit Go.Proofs.YtooiajkbpkfplaaW.PrintWords Go.Proofs.YtooiajkbpkfplaaW.PrintLast Go.Proofs.YtooiajkbpkfplaaW.PrintMore
attribute [local go_sem] max2_int min2_int max_two min_two max_three min_three max_four min_four   -- for this text's walks alone
set_option linter.unusedVariables false
set_option linter.unusedSimpArgs false

/-! ### ldh_letter: function 48 -/
def ldh_letter.f (a0 : Int) : Option (Bool) := (ldh_within_byte.f a0 97 122).bind fun t101 => (if t101 = true then (some true) else ((ldh_within_byte.f a0 65 90).bind fun t102 => (if t102 = true then (some true) else ((ldh_within_byte.f a0 48 57).bind fun t103 => (if t103 = true then (some true) else (some (a0 == 45)))))))
set_option maxHeartbeats 8000000 in
set_option maxRecDepth 100000 in
theorem ldh_letter.calls (a0 : Int) (r : Bool) (w : World) (h : ldh_letter.f a0 = some r) :
    Calls Try.prog 48 #[.int .u8 a0] w fun e w' => e = .returned (.bool r) ∧ Drawn0 w w' := by
  have H : ((ldh_within_byte.f a0 97 122).bind fun t101 => (if t101 = true then (some true) else ((ldh_within_byte.f a0 65 90).bind fun t102 => (if t102 = true then (some true) else ((ldh_within_byte.f a0 48 57).bind fun t103 => (if t103 = true then (some true) else (some (a0 == 45)))))))) = some r := h
  clear h
  replace H := Option.bind_eq_some_iff.mp H
  obtain ⟨t101, A20, H⟩ := H
  replace H : (if t101 = true then (some true) else ((ldh_within_byte.f a0 65 90).bind fun t102 => (if t102 = true then (some true) else ((ldh_within_byte.f a0 48 57).bind fun t103 => (if t103 = true then (some true) else (some (a0 == 45))))))) = some r := H
  have A2 := Aside0.mk A20
  clear A20
  by_cases c3 : t101 = true
  · subst c3
    have H1 : (some true) = some r := by rw [if_pos rfl] at H; exact H
    clear H
    have H := H1
    clear H1
    obtain rfl := Option.some.inj H
    go_enter Try.func48, Try.ntmps48
    go_wp2_with (first | ((with_reducible refine gate_callee (f := 70) rfl ?_); refine goesL_ (some 4) rfl rfl Try.func70 (by kernel_rfl) rfl #[.int .u8 a0, .int .u8 97, .int .u8 122] rfl (by (try simp only [List.map_toArray, List.map_cons, List.map_nil]); first | done | rfl | (simp only [List.length_drop, List.length_take]; rfl)) ?_; (with_reducible refine (ldh_within_byte.calls a0 97 122 true _ A2.out).mono ?_); rintro e w' ⟨rfl, ⟨nd, rfl⟩⟩; refine ⟨_, rfl, ?_⟩))
    go_ret
    exact ⟨by first | rfl | (simp; done) | (simp [*]; done), by repeat (first | exact Drawn0.refl _ | apply Drawn0.step)⟩
  · replace c3 := Bool.eq_false_iff.mpr c3
    subst c3
    have H1 : ((ldh_within_byte.f a0 65 90).bind fun t102 => (if t102 = true then (some true) else ((ldh_within_byte.f a0 48 57).bind fun t103 => (if t103 = true then (some true) else (some (a0 == 45)))))) = some r := by rw [if_neg (show ¬ (false = true) by decide)] at H; exact H
    clear H
    have H := H1
    clear H1
    replace H := Option.bind_eq_some_iff.mp H
    obtain ⟨t102, A40, H⟩ := H
    replace H : (if t102 = true then (some true) else ((ldh_within_byte.f a0 48 57).bind fun t103 => (if t103 = true then (some true) else (some (a0 == 45))))) = some r := H
    have A4 := Aside0.mk A40
    clear A40
    by_cases c5 : t102 = true
    · subst c5
      have H1 : (some true) = some r := by rw [if_pos rfl] at H; exact H
      clear H
      have H := H1
      clear H1
      obtain rfl := Option.some.inj H
      go_enter Try.func48, Try.ntmps48
      go_wp2_with (first | ((with_reducible refine gate_callee (f := 70) rfl ?_); refine goesL_ (some 4) rfl rfl Try.func70 (by kernel_rfl) rfl #[.int .u8 a0, .int .u8 97, .int .u8 122] rfl (by (try simp only [List.map_toArray, List.map_cons, List.map_nil]); first | done | rfl | (simp only [List.length_drop, List.length_take]; rfl)) ?_; (with_reducible refine (ldh_within_byte.calls a0 97 122 false _ A2.out).mono ?_); rintro e w' ⟨rfl, ⟨nd, rfl⟩⟩; refine ⟨_, rfl, ?_⟩) | (go_at_call 70; (with_reducible refine (ldh_within_byte.calls a0 65 90 true _ A4.out).mono ?_); rintro e w' ⟨rfl, ⟨nd, rfl⟩⟩))
      go_ret
      exact ⟨by first | rfl | (simp; done) | (simp [*]; done), by repeat (first | exact Drawn0.refl _ | apply Drawn0.step)⟩
    · replace c5 := Bool.eq_false_iff.mpr c5
      subst c5
      have H1 : ((ldh_within_byte.f a0 48 57).bind fun t103 => (if t103 = true then (some true) else (some (a0 == 45)))) = some r := by rw [if_neg (show ¬ (false = true) by decide)] at H; exact H
      clear H
      have H := H1
      clear H1
      replace H := Option.bind_eq_some_iff.mp H
      obtain ⟨t103, A60, H⟩ := H
      replace H : (if t103 = true then (some true) else (some (a0 == 45))) = some r := H
      have A6 := Aside0.mk A60
      clear A60
      by_cases c7 : t103 = true
      · subst c7
        have H1 : (some true) = some r := by rw [if_pos rfl] at H; exact H
        clear H
        have H := H1
        clear H1
        obtain rfl := Option.some.inj H
        go_enter Try.func48, Try.ntmps48
        go_wp2_with (first | ((with_reducible refine gate_callee (f := 70) rfl ?_); refine goesL_ (some 4) rfl rfl Try.func70 (by kernel_rfl) rfl #[.int .u8 a0, .int .u8 97, .int .u8 122] rfl (by (try simp only [List.map_toArray, List.map_cons, List.map_nil]); first | done | rfl | (simp only [List.length_drop, List.length_take]; rfl)) ?_; (with_reducible refine (ldh_within_byte.calls a0 97 122 false _ A2.out).mono ?_); rintro e w' ⟨rfl, ⟨nd, rfl⟩⟩; refine ⟨_, rfl, ?_⟩) | (go_at_call 70; (with_reducible refine (ldh_within_byte.calls a0 65 90 false _ A4.out).mono ?_); rintro e w' ⟨rfl, ⟨nd, rfl⟩⟩) | (go_at_call 70; (with_reducible refine (ldh_within_byte.calls a0 48 57 true _ A6.out).mono ?_); rintro e w' ⟨rfl, ⟨nd, rfl⟩⟩))
        go_ret
        exact ⟨by first | rfl | (simp; done) | (simp [*]; done), by repeat (first | exact Drawn0.refl _ | apply Drawn0.step)⟩
      · replace c7 := Bool.eq_false_iff.mpr c7
        subst c7
        have H1 : (some (a0 == 45)) = some r := by rw [if_neg (show ¬ (false = true) by decide)] at H; exact H
        clear H
        have H := H1
        clear H1
        obtain rfl := Option.some.inj H
        go_enter Try.func48, Try.ntmps48
        go_wp2_with (first | ((with_reducible refine gate_callee (f := 70) rfl ?_); refine goesL_ (some 4) rfl rfl Try.func70 (by kernel_rfl) rfl #[.int .u8 a0, .int .u8 97, .int .u8 122] rfl (by (try simp only [List.map_toArray, List.map_cons, List.map_nil]); first | done | rfl | (simp only [List.length_drop, List.length_take]; rfl)) ?_; (with_reducible refine (ldh_within_byte.calls a0 97 122 false _ A2.out).mono ?_); rintro e w' ⟨rfl, ⟨nd, rfl⟩⟩; refine ⟨_, rfl, ?_⟩) | (go_at_call 70; (with_reducible refine (ldh_within_byte.calls a0 65 90 false _ A4.out).mono ?_); rintro e w' ⟨rfl, ⟨nd, rfl⟩⟩) | (go_at_call 70; (with_reducible refine (ldh_within_byte.calls a0 48 57 false _ A6.out).mono ?_); rintro e w' ⟨rfl, ⟨nd, rfl⟩⟩))
        go_ret
        exact ⟨by first | rfl | (simp; done) | (simp [*]; done), by repeat (first | exact Drawn0.refl _ | apply Drawn0.step)⟩

end Go.Proofs.Ytooiajkbpkfplaa.Q

-- from Qf47
-- Made by hp.py, a program of this session, with the kit's printer. Not trusted: Lean checks it.
namespace Go.Proofs.Ytooiajkbpkfplaa.Q
open Go.RowKit Go.Proofs.YtooiajkbpkfplaaW.PrintWords Go.Proofs.YtooiajkbpkfplaaW.PrintLast Go.Proofs.YtooiajkbpkfplaaW.PrintMore
attribute [local go_sem] max2_int min2_int max_two min_two max_three min_three max_four min_four   -- for this text's walks alone
set_option linter.unusedVariables false
set_option linter.unusedSimpArgs false

/-! ### ldh_Is_1: function 47 -/
def ldh_Is_1.f (a0 : Int) : Option (Bool) := (ldh_letter.f a0).bind fun t101 => (some (!t101))
set_option maxHeartbeats 8000000 in
set_option maxRecDepth 100000 in
theorem ldh_Is_1.calls (a0 : Int) (r : Bool) (w : World) (h : ldh_Is_1.f a0 = some r) :
    Calls Try.prog 47 #[.int .u8 a0] w fun e w' => e = .returned (.bool r) ∧ Drawn0 w w' := by
  have H : ((ldh_letter.f a0).bind fun t101 => (some (!t101))) = some r := h
  clear h
  replace H := Option.bind_eq_some_iff.mp H
  obtain ⟨t101, A20, H⟩ := H
  replace H : (some (!t101)) = some r := H
  have A2 := Aside0.mk A20
  clear A20
  obtain rfl := Option.some.inj H
  go_enter Try.func47, Try.ntmps47
  go_wp2_with (first | ((with_reducible refine gate_callee (f := 48) rfl ?_); refine goesL_ (some 4) rfl rfl Try.func48 (by kernel_rfl) rfl #[.int .u8 a0] rfl (by (try simp only [List.map_toArray, List.map_cons, List.map_nil]); first | done | rfl | (simp only [List.length_drop, List.length_take]; rfl)) ?_; (with_reducible refine (ldh_letter.calls a0 t101 _ A2.out).mono ?_); rintro e w' ⟨rfl, ⟨nd, rfl⟩⟩; refine ⟨_, rfl, ?_⟩))
  go_ret
  exact ⟨by first | rfl | (simp; done) | (simp [*]; done), by repeat (first | exact Drawn0.refl _ | apply Drawn0.step)⟩

end Go.Proofs.Ytooiajkbpkfplaa.Q

-- from Qf69at47
-- Made by hp.py, a program of this session, with the kit's printer. Not trusted: Lean checks it.
namespace Go.Proofs.Ytooiajkbpkfplaa.Q
open Go.RowKit Go.Proofs.YtooiajkbpkfplaaW.PrintWords Go.Proofs.YtooiajkbpkfplaaW.PrintLast Go.Proofs.YtooiajkbpkfplaaW.PrintMore
attribute [local go_sem] max2_int min2_int max_two min_two max_three min_three max_four min_four   -- for this text's walks alone
set_option linter.unusedVariables false
set_option linter.unusedSimpArgs false

/-! ### slices_IndexFunc_byte_byte_at_ldh_Is_1: function 69 -/
def slices_IndexFunc_byte_byte_at_ldh_Is_1.l0 : Nat → List Int → Int → Int → Option (Int)
  | 0, _, _, _ => none
  | k + 1, x0, x7, x8 => if x8 < x7 then (if 0 ≤ x8 then (if x8 < (x0.length : Int) then ((ldh_Is_1.f (rd x0 x8)).bind fun t102 => (if t102 = true then (some x8) else (slices_IndexFunc_byte_byte_at_ldh_Is_1.l0 k x0 x7 (wrap64 (x8 + 1))))) else (none)) else (none)) else (some (-1))
def slices_IndexFunc_byte_byte_at_ldh_Is_1.f (k : Nat) (l0 : List Int)  : Option (Int) := slices_IndexFunc_byte_byte_at_ldh_Is_1.l0 k l0 (l0.length : Int) 0
theorem slices_IndexFunc_byte_byte_at_ldh_Is_1.mono_l : ∀ k, (∀ y0 y1 y2, LeO (slices_IndexFunc_byte_byte_at_ldh_Is_1.l0 k y0 y1 y2) (slices_IndexFunc_byte_byte_at_ldh_Is_1.l0 (k + 1) y0 y1 y2))
  | 0 => fun _ _ _ r h => by simp [slices_IndexFunc_byte_byte_at_ldh_Is_1.l0] at h
  | k + 1 => by
    have ih0 := slices_IndexFunc_byte_byte_at_ldh_Is_1.mono_l k
    · intro y0 y1 y2
      unfold slices_IndexFunc_byte_byte_at_ldh_Is_1.l0
      repeat' first
      | (with_reducible exact ih0 _ _ _)
      | (with_reducible exact LeO.refl _)
      | (with_reducible exact LeO.none _)
      | (with_reducible refine LeO.ite ?_ ?_)
      | (with_reducible refine LeO.bind ?_ (fun _ => ?_))
      | exact ih0 _ _ _
      | exact LeO.none _
      | refine LeO.ite ?_ ?_
      | refine LeO.bind ?_ (fun _ => ?_)
theorem slices_IndexFunc_byte_byte_at_ldh_Is_1.mono : ∀ a0 k, LeO (slices_IndexFunc_byte_byte_at_ldh_Is_1.f k a0) (slices_IndexFunc_byte_byte_at_ldh_Is_1.f (k + 1) a0) := by
  intro a0 k
  have ih0 := slices_IndexFunc_byte_byte_at_ldh_Is_1.mono_l k
  unfold slices_IndexFunc_byte_byte_at_ldh_Is_1.f
  repeat' first
      | (with_reducible exact ih0 _ _ _)
      | (with_reducible exact LeO.refl _)
      | (with_reducible exact LeO.none _)
      | (with_reducible refine LeO.ite ?_ ?_)
      | (with_reducible refine LeO.bind ?_ (fun _ => ?_))
      | exact ih0 _ _ _
      | exact LeO.none _
      | refine LeO.ite ?_ ?_
      | refine LeO.bind ?_ (fun _ => ?_)
set_option maxHeartbeats 8000000 in
set_option maxRecDepth 100000 in
theorem slices_IndexFunc_byte_byte_at_ldh_Is_1.calls (k : Nat) (A0 : Option Addr) (c0 : Nat) (l0 : List Int)  (r : Int) (w : World) (hr0 : Kd.C (Kd.int .u8) w A0 l0.length l0) (hc0 : l0.length ≤ c0) (h : slices_IndexFunc_byte_byte_at_ldh_Is_1.f k l0 = some r) :
    Calls Try.prog 69 #[.slice A0 l0.length c0, .func (.func 47) #[] #[]] w fun e w' => e = .returned (.int .i64 r) ∧ Drawn0 w w' := by
  have HR0 := Aside0.mk hr0
  have HC0 := Aside0.mk hc0
  clear hr0 hc0
  have H : (slices_IndexFunc_byte_byte_at_ldh_Is_1.l0 k l0 (l0.length : Int) 0) = some r := h
  clear h
  have H' := Aside0.mk H
  clear H
  go_enter Try.func69, Try.ntmps69
  go_wp2
  go_loopg [8] k (fun kq v8 w' => ∃ (x8_1 : Int), v8 = .int .i64 x8_1 ∧ Aside0 (slices_IndexFunc_byte_byte_at_ldh_Is_1.l0 kq l0 (l0.length : Int) x8_1 = some r) ∧ Aside0 (kq ≤ k) ∧ Drawn0 w w')
  case atStart => exact ⟨(0), (by first | rfl | (simp; done) | (simp [*]; done)), H', ⟨Nat.le_refl _⟩, by repeat (first | exact Drawn0.refl _ | apply Drawn0.step)⟩
  case round =>
    clear H'
    try clear p2
    obtain ⟨x8_1, rfl, HA, HK1, ⟨m1, rfl⟩⟩ := hrel
    cases gk with
    | zero => exact absurd HA.out (by simp [slices_IndexFunc_byte_byte_at_ldh_Is_1.l0])
    | succ k1 =>
      have H := HA.out
      clear HA
      simp only [slices_IndexFunc_byte_byte_at_ldh_Is_1.l0] at H
      by_cases c3 : x8_1 < (l0.length : Int)
      · rw [if_pos c3] at H
        have c3b0 : decide (x8_1 < (l0.length : Int)) = true := decide_eq_true c3
        clear c3
        by_cases c4 : 0 ≤ x8_1
        · rw [if_pos c4] at H
          have c4b0 : decide (0 ≤ x8_1) = true := decide_eq_true c4
          clear c4
          by_cases c5 : x8_1 < (l0.length : Int)
          · rw [if_pos c5] at H
            have c5b0 : decide (x8_1 < (l0.length : Int)) = true := decide_eq_true c5
            clear c5
            replace H := Option.bind_eq_some_iff.mp H
            obtain ⟨t102, A60, H⟩ := H
            replace H : (if t102 = true then (some x8_1) else (slices_IndexFunc_byte_byte_at_ldh_Is_1.l0 k1 l0 (l0.length : Int) (wrap64 (x8_1 + 1)))) = some r := H
            have A6 := Aside0.mk A60
            clear A60
            by_cases c7 : t102 = true
            · subst c7
              have H1 : (some x8_1) = some r := by rw [if_pos rfl] at H; exact H
              clear H
              have H := H1
              clear H1
              obtain rfl := Option.some.inj H
              have p101 : 0 ≤ (x8_1 : Int) := of_decide_eq_true (by first | (with_reducible assumption) | assumption)
              have q101 : x8_1 < (l0.length : Int) := of_decide_eq_true (by first | (with_reducible assumption) | assumption)
              obtain ⟨ad101, e101, hx101_0⟩ := Kd.at_int HR0.out x8_1 p101 q101
              cases e101
              replace p101 := eq_true p101
              replace q101 := eq_true q101
              go_wp2_with (first | (go_at_call 47; (with_reducible refine (ldh_Is_1.calls (rd l0 x8_1) true _ A6.out).mono ?_); rintro e w' ⟨rfl, ⟨nd, rfl⟩⟩))
              go_ret
              exact ⟨by first | rfl | (simp; done) | (simp [*]; done), by repeat (first | exact Drawn0.refl _ | apply Drawn0.step)⟩
            · replace c7 := Bool.eq_false_iff.mpr c7
              subst c7
              have H1 : (slices_IndexFunc_byte_byte_at_ldh_Is_1.l0 k1 l0 (l0.length : Int) (wrap64 (x8_1 + 1))) = some r := by rw [if_neg (show ¬ (false = true) by decide)] at H; exact H
              clear H
              have H := H1
              clear H1
              have H' := Aside0.mk H
              clear H
              have p101 : 0 ≤ (x8_1 : Int) := of_decide_eq_true (by first | (with_reducible assumption) | assumption)
              have q101 : x8_1 < (l0.length : Int) := of_decide_eq_true (by first | (with_reducible assumption) | assumption)
              obtain ⟨ad101, e101, hx101_0⟩ := Kd.at_int HR0.out x8_1 p101 q101
              cases e101
              replace p101 := eq_true p101
              replace q101 := eq_true q101
              go_wp2_with (first | (go_at_call 47; (with_reducible refine (ldh_Is_1.calls (rd l0 x8_1) false _ A6.out).mono ?_); rintro e w' ⟨rfl, ⟨nd, rfl⟩⟩))
              go_roundg k1
              case measure => have := HK1.out; omega
              case rel => exact ⟨(wrap64 (x8_1 + 1)), (by first | rfl | (simp; done) | (simp [*]; done)), H', ⟨by have := HK1.out; omega⟩, by repeat (first | exact Drawn0.refl _ | apply Drawn0.step)⟩
          · rw [if_neg c5] at H
            exact absurd H (by simp)
        · rw [if_neg c4] at H
          exact absurd H (by simp)
      · rw [if_neg c3] at H
        have c3b0 : decide (x8_1 < (l0.length : Int)) = false := decide_eq_false c3
        clear c3
        obtain rfl := Option.some.inj H
        go_wp2
        go_ret
        exact ⟨by first | rfl | (simp; done) | (simp [*]; done), by repeat (first | exact Drawn0.refl _ | apply Drawn0.step)⟩

end Go.Proofs.Ytooiajkbpkfplaa.Q

-- from Qf46at47
-- Made by hp.py, a program of this session, with the kit's printer. Not trusted: Lean checks it.
namespace Go.Proofs.Ytooiajkbpkfplaa.Q
open Go.RowKit Go.Proofs.YtooiajkbpkfplaaW.PrintWords Go.Proofs.YtooiajkbpkfplaaW.PrintLast Go.Proofs.YtooiajkbpkfplaaW.PrintMore
attribute [local go_sem] max2_int min2_int max_two min_two max_three min_three max_four min_four   -- for this text's walks alone
set_option linter.unusedVariables false
set_option linter.unusedSimpArgs false

/-! ### slices_ContainsFunc_byte_byte_at_ldh_Is_1: function 46 -/
def slices_ContainsFunc_byte_byte_at_ldh_Is_1.f (k : Nat) (l0 : List Int)  : Option (Bool) := (slices_IndexFunc_byte_byte_at_ldh_Is_1.f k l0).bind fun t103 => (some (decide (t103 ≥ 0)))
theorem slices_ContainsFunc_byte_byte_at_ldh_Is_1.mono : ∀ a0 k, LeO (slices_ContainsFunc_byte_byte_at_ldh_Is_1.f k a0) (slices_ContainsFunc_byte_byte_at_ldh_Is_1.f (k + 1) a0) := by
  intro a0 k
  unfold slices_ContainsFunc_byte_byte_at_ldh_Is_1.f
  repeat' first
      | (with_reducible exact slices_IndexFunc_byte_byte_at_ldh_Is_1.mono _ _)
      | (with_reducible exact LeO.refl _)
      | (with_reducible exact LeO.none _)
      | (with_reducible refine LeO.ite ?_ ?_)
      | (with_reducible refine LeO.bind ?_ (fun _ => ?_))
      | exact slices_IndexFunc_byte_byte_at_ldh_Is_1.mono _ _
      | exact LeO.none _
      | refine LeO.ite ?_ ?_
      | refine LeO.bind ?_ (fun _ => ?_)
set_option maxHeartbeats 8000000 in
set_option maxRecDepth 100000 in
theorem slices_ContainsFunc_byte_byte_at_ldh_Is_1.calls (k : Nat) (A0 : Option Addr) (c0 : Nat) (l0 : List Int)  (r : Bool) (w : World) (hr0 : Kd.C (Kd.int .u8) w A0 l0.length l0) (hc0 : l0.length ≤ c0) (h : slices_ContainsFunc_byte_byte_at_ldh_Is_1.f k l0 = some r) :
    Calls Try.prog 46 #[.slice A0 l0.length c0, .func (.func 47) #[] #[]] w fun e w' => e = .returned (.bool r) ∧ Drawn0 w w' := by
  have HR0 := Aside0.mk hr0
  have HC0 := Aside0.mk hc0
  clear hr0 hc0
  have H : ((slices_IndexFunc_byte_byte_at_ldh_Is_1.f k l0).bind fun t103 => (some (decide (t103 ≥ 0)))) = some r := h
  clear h
  replace H := Option.bind_eq_some_iff.mp H
  obtain ⟨t103, A30, H⟩ := H
  replace H : (some (decide (t103 ≥ 0))) = some r := H
  have A3 := Aside0.mk A30
  clear A30
  obtain rfl := Option.some.inj H
  go_enter Try.func46, Try.ntmps46
  go_wp2_with (first | (go_at_call 69; (with_reducible refine (slices_IndexFunc_byte_byte_at_ldh_Is_1.calls k _ _ l0 t103 _ ?side1 ?side2 A3.out).mono ?_); (case side1 => repeat (first | exact HR0.out | (with_reducible refine Kd.C_alloc ?_ _) | (with_reducible refine Kd.C_drewN ?_ _) | (with_reducible refine Kd.C_drew ?_))); (case side2 => exact HC0.out); rintro e w' ⟨rfl, ⟨nd, rfl⟩⟩))
  go_ret
  exact ⟨by first | rfl | (simp; done) | (simp [*]; done), by repeat (first | exact Drawn0.refl _ | apply Drawn0.step)⟩

end Go.Proofs.Ytooiajkbpkfplaa.Q

-- from Qf18
-- Made by hp.py, a program of this session, with the kit's printer. Not trusted: Lean checks it.
namespace Go.Proofs.Ytooiajkbpkfplaa.Q
open Go.RowKit Go.Proofs.YtooiajkbpkfplaaW.PrintWords Go.Proofs.YtooiajkbpkfplaaW.PrintLast Go.Proofs.YtooiajkbpkfplaaW.PrintMore
attribute [local go_sem] max2_int min2_int max_two min_two max_three min_three max_four min_four   -- for this text's walks alone
set_option linter.unusedVariables false
set_option linter.unusedSimpArgs false

/-! ### ldh_Is: function 18 -/
def ldh_Is.f (k : Nat) (l0 : List Int) : Option (Bool) := (slices_ContainsFunc_byte_byte_at_ldh_Is_1.f k l0).bind fun t104 => (if (l0.length : Int) ≥ 1 then (if (l0.length : Int) ≤ 63 then (if t104 = true then (some false) else (if 0 < (l0.length : Int) then (if (rd l0 0) = 45 then (some false) else (if 0 ≤ (wrap64 ((l0.length : Int) - 1)) then (if (wrap64 ((l0.length : Int) - 1)) < (l0.length : Int) then (some ((rd l0 (wrap64 ((l0.length : Int) - 1))) != 45)) else (none)) else (none))) else (none))) else (some false)) else (some false))
theorem ldh_Is.mono : ∀ a0 k, LeO (ldh_Is.f k a0) (ldh_Is.f (k + 1) a0) := by
  intro a0 k
  unfold ldh_Is.f
  repeat' first
      | (with_reducible exact slices_ContainsFunc_byte_byte_at_ldh_Is_1.mono _ _)
      | (with_reducible exact LeO.refl _)
      | (with_reducible exact LeO.none _)
      | (with_reducible refine LeO.ite ?_ ?_)
      | (with_reducible refine LeO.bind ?_ (fun _ => ?_))
      | exact slices_ContainsFunc_byte_byte_at_ldh_Is_1.mono _ _
      | exact LeO.none _
      | refine LeO.ite ?_ ?_
      | refine LeO.bind ?_ (fun _ => ?_)
set_option maxHeartbeats 8000000 in
set_option maxRecDepth 100000 in
theorem ldh_Is.calls (k : Nat) (A0 : Option Addr) (c0 : Nat) (l0 : List Int) (r : Bool) (w : World) (hr0 : Kd.C (Kd.int .u8) w A0 l0.length l0) (hc0 : l0.length ≤ c0) (h : ldh_Is.f k l0 = some r) :
    Calls Try.prog 18 #[.slice A0 l0.length c0] w fun e w' => e = .returned (.bool r) ∧ Drawn0 w w' := by
  have HR0 := Aside0.mk hr0
  have HC0 := Aside0.mk hc0
  clear hr0 hc0
  have H : ((slices_ContainsFunc_byte_byte_at_ldh_Is_1.f k l0).bind fun t104 => (if (l0.length : Int) ≥ 1 then (if (l0.length : Int) ≤ 63 then (if t104 = true then (some false) else (if 0 < (l0.length : Int) then (if (rd l0 0) = 45 then (some false) else (if 0 ≤ (wrap64 ((l0.length : Int) - 1)) then (if (wrap64 ((l0.length : Int) - 1)) < (l0.length : Int) then (some ((rd l0 (wrap64 ((l0.length : Int) - 1))) != 45)) else (none)) else (none))) else (none))) else (some false)) else (some false))) = some r := h
  clear h
  replace H := Option.bind_eq_some_iff.mp H
  obtain ⟨t104, A20, H⟩ := H
  replace H : (if (l0.length : Int) ≥ 1 then (if (l0.length : Int) ≤ 63 then (if t104 = true then (some false) else (if 0 < (l0.length : Int) then (if (rd l0 0) = 45 then (some false) else (if 0 ≤ (wrap64 ((l0.length : Int) - 1)) then (if (wrap64 ((l0.length : Int) - 1)) < (l0.length : Int) then (some ((rd l0 (wrap64 ((l0.length : Int) - 1))) != 45)) else (none)) else (none))) else (none))) else (some false)) else (some false)) = some r := H
  have A2 := Aside0.mk A20
  clear A20
  by_cases c3 : (l0.length : Int) ≥ 1
  · rw [if_pos c3] at H
    have c3b0 : decide (1 ≤ (l0.length : Int)) = true := decide_eq_true c3
    have c3b1 : decide (1 ≤ l0.length) = true := decide_eq_true (by omega)
    clear c3
    by_cases c4 : (l0.length : Int) ≤ 63
    · rw [if_pos c4] at H
      have c4b0 : decide ((l0.length : Int) ≤ 63) = true := decide_eq_true c4
      have c4b1 : decide (l0.length ≤ 63) = true := decide_eq_true (by omega)
      clear c4
      by_cases c5 : t104 = true
      · subst c5
        have H1 : (some false) = some r := by rw [if_pos rfl] at H; exact H
        clear H
        have H := H1
        clear H1
        obtain rfl := Option.some.inj H
        go_enter Try.func18, Try.ntmps18
        go_wp2_with (first | (go_at_call 46; (with_reducible refine (slices_ContainsFunc_byte_byte_at_ldh_Is_1.calls k _ _ l0 true _ ?side1 ?side2 A2.out).mono ?_); (case side1 => repeat (first | exact HR0.out | (with_reducible refine Kd.C_alloc ?_ _) | (with_reducible refine Kd.C_drewN ?_ _) | (with_reducible refine Kd.C_drew ?_))); (case side2 => exact HC0.out); rintro e w' ⟨rfl, ⟨nd, rfl⟩⟩))
        go_ret
        exact ⟨by first | rfl | (simp; done) | (simp [*]; done), by repeat (first | exact Drawn0.refl _ | apply Drawn0.step)⟩
      · replace c5 := Bool.eq_false_iff.mpr c5
        subst c5
        have H1 : (if 0 < (l0.length : Int) then (if (rd l0 0) = 45 then (some false) else (if 0 ≤ (wrap64 ((l0.length : Int) - 1)) then (if (wrap64 ((l0.length : Int) - 1)) < (l0.length : Int) then (some ((rd l0 (wrap64 ((l0.length : Int) - 1))) != 45)) else (none)) else (none))) else (none)) = some r := by rw [if_neg (show ¬ (false = true) by decide)] at H; exact H
        clear H
        have H := H1
        clear H1
        by_cases c6 : 0 < (l0.length : Int)
        · rw [if_pos c6] at H
          have c6b0 : decide (0 < (l0.length : Int)) = true := decide_eq_true c6
          have c6b1 : decide (0 < l0.length) = true := decide_eq_true (by omega)
          clear c6
          by_cases c7 : (rd l0 0) = 45
          · rw [if_pos c7] at H
            have c7b0 : ((rd l0 0) == 45) = true := beq_iff_eq.mpr c7
            have c7b1 : ((rd l0 0) != 45) = false := bne_eq_false_iff_eq.mpr c7
            clear c7
            obtain rfl := Option.some.inj H
            go_enter Try.func18, Try.ntmps18
            go_wp2_with (first | (go_at_call 46; (with_reducible refine (slices_ContainsFunc_byte_byte_at_ldh_Is_1.calls k _ _ l0 false _ ?side1 ?side2 A2.out).mono ?_); (case side1 => repeat (first | exact HR0.out | (with_reducible refine Kd.C_alloc ?_ _) | (with_reducible refine Kd.C_drewN ?_ _) | (with_reducible refine Kd.C_drew ?_))); (case side2 => exact HC0.out); rintro e w' ⟨rfl, ⟨nd, rfl⟩⟩; have p105 : 0 ≤ (0 : Int) := (by omega); have q105 : 0 < (l0.length : Int) := of_decide_eq_true (by first | (with_reducible assumption) | assumption); obtain ⟨ad105, e105, hx105_0⟩ := Kd.at_int HR0.out 0 p105 q105; cases e105; have qi105 : (0 < l0.length) = True := eq_true (by omega); (try rw [show ((0 : Int)).toNat = 0 from rfl] at hx105_0); (try rw [Addr.add_zero'] at hx105_0); replace p105 := eq_true p105; replace q105 := eq_true q105))
            go_ret
            exact ⟨by first | rfl | (simp; done) | (simp [*]; done), by repeat (first | exact Drawn0.refl _ | apply Drawn0.step)⟩
          · rw [if_neg c7] at H
            have c7b0 : ((rd l0 0) == 45) = false := beq_eq_false_iff_ne.mpr c7
            have c7b1 : ((rd l0 0) != 45) = true := bne_iff_ne.mpr c7
            obtain ⟨ji8, hji8⟩ : ∃ j_ : Int, (wrap64 ((l0.length : Int) - 1)) = j_ := ⟨_, rfl⟩
            replace H : (if 0 ≤ (ji8) then (if (ji8) < (l0.length : Int) then (some ((rd l0 (ji8)) != 45)) else (none)) else (none)) = some r := by first | (rw [hji8] at H; exact H) | (simp only [hji8] at H ⊢; exact H)
            (try rw [hji8] at A2)
            have hji8w : (IntKind.i64.wrap ((l0.length : Int) - 1)) = ji8 := (i64_w _).trans hji8
            by_cases c9 : 0 ≤ (ji8)
            · rw [if_pos c9] at H
              have c9b0 : decide (0 ≤ (ji8)) = true := decide_eq_true c9
              clear c9
              by_cases c10 : (ji8) < (l0.length : Int)
              · rw [if_pos c10] at H
                have c10b0 : decide ((ji8) < (l0.length : Int)) = true := decide_eq_true c10
                clear c10
                obtain rfl := Option.some.inj H
                go_enter Try.func18, Try.ntmps18
                go_wp2_with (first | (go_at_call 46; (with_reducible refine (slices_ContainsFunc_byte_byte_at_ldh_Is_1.calls k _ _ l0 false _ ?side1 ?side2 A2.out).mono ?_); (case side1 => repeat (first | exact HR0.out | (with_reducible refine Kd.C_alloc ?_ _) | (with_reducible refine Kd.C_drewN ?_ _) | (with_reducible refine Kd.C_drew ?_))); (case side2 => exact HC0.out); rintro e w' ⟨rfl, ⟨nd, rfl⟩⟩; have p105 : 0 ≤ (0 : Int) := (by omega); have q105 : 0 < (l0.length : Int) := of_decide_eq_true (by first | (with_reducible assumption) | assumption); obtain ⟨ad105, e105, hx105_0⟩ := Kd.at_int HR0.out 0 p105 q105; cases e105; have qi105 : (0 < l0.length) = True := eq_true (by omega); (try rw [show ((0 : Int)).toNat = 0 from rfl] at hx105_0); (try rw [Addr.add_zero'] at hx105_0); replace p105 := eq_true p105; replace q105 := eq_true q105; have p106 : 0 ≤ ((ji8) : Int) := of_decide_eq_true (by first | (with_reducible assumption) | assumption); have q106 : (ji8) < (l0.length : Int) := of_decide_eq_true (by first | (with_reducible assumption) | assumption); obtain ⟨ad106, e106, hx106_0⟩ := Kd.at_int HR0.out (ji8) p106 q106; obtain rfl : ad105 = ad106 := (by injection e106); replace p106 := eq_true p106; replace q106 := eq_true q106))
                go_ret
                exact ⟨by first | rfl | (simp; done) | (simp only [← hji8] <;> (first | rfl | simp)) | (simp [*]; done), by repeat (first | exact Drawn0.refl _ | apply Drawn0.step)⟩
              · rw [if_neg c10] at H
                exact absurd H (by simp)
            · rw [if_neg c9] at H
              exact absurd H (by simp)
        · rw [if_neg c6] at H
          exact absurd H (by simp)
    · rw [if_neg c4] at H
      have c4b0 : decide ((l0.length : Int) ≤ 63) = false := decide_eq_false c4
      have c4b1 : decide (l0.length ≤ 63) = false := decide_eq_false (by omega)
      clear c4
      obtain rfl := Option.some.inj H
      go_enter Try.func18, Try.ntmps18
      go_wp2_with (first | (go_at_call 46; (with_reducible refine (slices_ContainsFunc_byte_byte_at_ldh_Is_1.calls k _ _ l0 t104 _ ?side1 ?side2 A2.out).mono ?_); (case side1 => repeat (first | exact HR0.out | (with_reducible refine Kd.C_alloc ?_ _) | (with_reducible refine Kd.C_drewN ?_ _) | (with_reducible refine Kd.C_drew ?_))); (case side2 => exact HC0.out); rintro e w' ⟨rfl, ⟨nd, rfl⟩⟩))
      go_ret
      exact ⟨by first | rfl | (simp; done) | (simp [*]; done), by repeat (first | exact Drawn0.refl _ | apply Drawn0.step)⟩
  · rw [if_neg c3] at H
    have c3b0 : decide (1 ≤ (l0.length : Int)) = false := decide_eq_false c3
    have c3b1 : decide (1 ≤ l0.length) = false := decide_eq_false (by omega)
    clear c3
    obtain rfl := Option.some.inj H
    go_enter Try.func18, Try.ntmps18
    go_wp2_with (first | (go_at_call 46; (with_reducible refine (slices_ContainsFunc_byte_byte_at_ldh_Is_1.calls k _ _ l0 t104 _ ?side1 ?side2 A2.out).mono ?_); (case side1 => repeat (first | exact HR0.out | (with_reducible refine Kd.C_alloc ?_ _) | (with_reducible refine Kd.C_drewN ?_ _) | (with_reducible refine Kd.C_drew ?_))); (case side2 => exact HC0.out); rintro e w' ⟨rfl, ⟨nd, rfl⟩⟩))
    go_ret
    exact ⟨by first | rfl | (simp; done) | (simp [*]; done), by repeat (first | exact Drawn0.refl _ | apply Drawn0.step)⟩

end Go.Proofs.Ytooiajkbpkfplaa.Q

-- from Qf68
-- Made by hp.py, a program of this session, with the kit's printer. Not trusted: Lean checks it.
namespace Go.Proofs.Ytooiajkbpkfplaa.Q
open Go.RowKit Go.Proofs.YtooiajkbpkfplaaW.PrintWords Go.Proofs.YtooiajkbpkfplaaW.PrintLast Go.Proofs.YtooiajkbpkfplaaW.PrintMore
attribute [local go_sem] max2_int min2_int max_two min_two max_three min_three max_four min_four   -- for this text's walks alone
set_option linter.unusedVariables false
set_option linter.unusedSimpArgs false

/-! ### bytes_Equal: function 68 -/
def bytes_Equal.f (l0 : List Int) (l1 : List Int) : Option (Bool) := some ((strOfNums l0).toList == (strOfNums l1).toList)
set_option maxHeartbeats 8000000 in
set_option maxRecDepth 100000 in
theorem bytes_Equal.calls (A0 : Option Addr) (c0 : Nat) (l0 : List Int) (A1 : Option Addr) (c1 : Nat) (l1 : List Int) (r : Bool) (w : World) (hr0 : Kd.C (Kd.int .u8) w A0 l0.length l0) (hc0 : l0.length ≤ c0) (hr1 : Kd.C (Kd.int .u8) w A1 l1.length l1) (hc1 : l1.length ≤ c1) (h : bytes_Equal.f l0 l1 = some r) :
    Calls Try.prog 68 #[.slice A0 l0.length c0, .slice A1 l1.length c1] w fun e w' => e = .returned (.bool r) ∧ Drawn0 w w' := by
  have HR0 := Aside0.mk hr0
  have HC0 := Aside0.mk hc0
  clear hr0 hc0
  have HR1 := Aside0.mk hr1
  have HC1 := Aside0.mk hc1
  clear hr1 hc1
  have H : (some ((strOfNums l0).toList == (strOfNums l1).toList)) = some r := h
  clear h
  obtain rfl := Option.some.inj H
  have hcv3 := Kd.C_string (P := Try.prog) (A := A0) (c := c0) Try.underlying22 Try.underlying5 Try.underlying9 HR0.out
  have hcv4 := Kd.C_string (P := Try.prog) (A := A1) (c := c1) Try.underlying22 Try.underlying5 Try.underlying9 HR1.out
  go_enter Try.func68, Try.ntmps68
  go_wp2
  go_ret
  exact ⟨by first | rfl | (simp; done) | (simp [*]; done), by repeat (first | exact Drawn0.refl _ | apply Drawn0.step)⟩

end Go.Proofs.Ytooiajkbpkfplaa.Q

-- from Qf45
-- Made by hp.py, a program of this session, with the kit's printer. Not trusted: Lean checks it.
namespace Go.Proofs.Ytooiajkbpkfplaa.Q
open Go.RowKit Go.Proofs.YtooiajkbpkfplaaW.PrintWords Go.Proofs.YtooiajkbpkfplaaW.PrintLast Go.Proofs.YtooiajkbpkfplaaW.PrintMore
attribute [local go_sem] max2_int min2_int max_two min_two max_three min_three max_four min_four   -- for this text's walks alone
set_option linter.unusedVariables false
set_option linter.unusedSimpArgs false

/-! ### bytes_HasPrefix: function 45 -/
def bytes_HasPrefix.f (l0 : List Int) (l1 : List Int) : Option (Bool) := if (l0.length : Int) ≥ (l1.length : Int) then (if 0 ≤ (l1.length : Int) then (if (l1.length : Int) ≤ (l0.length : Int) then ((bytes_Equal.f (l0.take ((l1.length : Int) : Int).toNat) l1).bind fun t105 => (some t105)) else (none)) else (none)) else (some false)
set_option maxHeartbeats 8000000 in
set_option maxRecDepth 100000 in
theorem bytes_HasPrefix.calls (A0 : Option Addr) (c0 : Nat) (l0 : List Int) (A1 : Option Addr) (c1 : Nat) (l1 : List Int) (r : Bool) (w : World) (hr0 : Kd.C (Kd.int .u8) w A0 l0.length l0) (hc0 : l0.length ≤ c0) (hr1 : Kd.C (Kd.int .u8) w A1 l1.length l1) (hc1 : l1.length ≤ c1) (h : bytes_HasPrefix.f l0 l1 = some r) :
    Calls Try.prog 45 #[.slice A0 l0.length c0, .slice A1 l1.length c1] w fun e w' => e = .returned (.bool r) ∧ Drawn0 w w' := by
  have HR0 := Aside0.mk hr0
  have HC0 := Aside0.mk hc0
  clear hr0 hc0
  have HR1 := Aside0.mk hr1
  have HC1 := Aside0.mk hc1
  clear hr1 hc1
  have H : (if (l0.length : Int) ≥ (l1.length : Int) then (if 0 ≤ (l1.length : Int) then (if (l1.length : Int) ≤ (l0.length : Int) then ((bytes_Equal.f (l0.take ((l1.length : Int) : Int).toNat) l1).bind fun t105 => (some t105)) else (none)) else (none)) else (some false)) = some r := h
  clear h
  by_cases c3 : (l0.length : Int) ≥ (l1.length : Int)
  · rw [if_pos c3] at H
    have c3b0 : decide ((l1.length : Int) ≤ (l0.length : Int)) = true := decide_eq_true c3
    have c3b1 : decide (l1.length ≤ l0.length) = true := decide_eq_true (Int.ofNat_le.mp c3)
    clear c3
    by_cases c4 : 0 ≤ (l1.length : Int)
    · rw [if_pos c4] at H
      have c4b0 := eq_true c4
      have c4b1 : decide (0 ≤ (l1.length : Int)) = true := decide_eq_true c4
      clear c4
      by_cases c5 : (l1.length : Int) ≤ (l0.length : Int)
      · rw [if_pos c5] at H
        have c5b0 := eq_true c5
        have c5b1 : decide ((l1.length : Int) ≤ (l0.length : Int)) = true := decide_eq_true c5
        clear c5
        obtain ⟨y101, hy101⟩ : ∃ y_ : List Int, y_ = (l0.take ((l1.length : Int) : Int).toNat) := ⟨_, rfl⟩
        replace H : ((bytes_Equal.f y101 l1).bind fun t105 => (some t105)) = some r := by first | (rw [hy101]; with_reducible exact H) | (have H2_ := (Option.bind_some _ _).symm.trans H; rw [hy101]; with_reducible exact H2_) | (have H2_ := (Option.bind_some _ _).symm.trans H; with_reducible exact H2_) | with_reducible exact H | (rw [hy101]; exact H) | exact H
        have Ny101 := Aside0.mk hy101
        clear hy101
        replace H := Option.bind_eq_some_iff.mp H
        obtain ⟨t105, A60, H⟩ := H
        replace H : (some t105) = some r := H
        have A6 := Aside0.mk A60
        clear A60
        obtain rfl := Option.some.inj H
        have q7 : ((l1.length : Int) : Int) ≤ ((l0.length : Int) : Int) := of_decide_eq_true (by first | (with_reducible assumption) | assumption)
        obtain ⟨i07, hi07, _, hsz7, _⟩ := info_parts info5
        have hroom7 : l0.length ≤ c0 := HC0.out
        have hC7 : Kd.C (Kd.int .u8) _ A0 l0.length l0 := HR0.out
        have hcut7 := cut_to (P := Try.prog) 22 5 .i64 Try.underlying22 hi07 A0 l0.length c0 (l1.length : Int) (of_decide_eq_true (by first | (with_reducible assumption) | assumption)) q7 hroom7
        have hr7 := Kd.C_take (m := ((l1.length : Int) : Int).toNat) hC7 (by omega)
        have hy7 : y101.length = ((l1.length : Int) : Int).toNat := (by rw [Ny101.out, List.length_take]; omega)
        rw [← Ny101.out] at hr7
        rw [← hy7] at hcut7
        have HR104 := Aside0.mk hr7
        have HC104 := Aside0.mk (show y101.length ≤ c0 from by omega)
        clear hr7 hC7 hroom7 hi07 hsz7
        have KY7 := Aside0.mk hy7
        clear hy7
        replace q7 := eq_true q7
        go_enter Try.func45, Try.ntmps45
        go_wp2_with (first | (go_at_call 68; (with_reducible refine (bytes_Equal.calls _ _ y101 _ _ l1 t105 _ ?side1 ?side2 ?side3 ?side4 A6.out).mono ?_); (case side1 => repeat (first | exact HR104.out | (with_reducible refine Kd.C_alloc ?_ _) | (with_reducible refine Kd.C_drewN ?_ _) | (with_reducible refine Kd.C_drew ?_))); (case side2 => exact HC104.out); (case side3 => repeat (first | exact HR1.out | (with_reducible refine Kd.C_alloc ?_ _) | (with_reducible refine Kd.C_drewN ?_ _) | (with_reducible refine Kd.C_drew ?_))); (case side4 => exact HC1.out); rintro e w' ⟨rfl, ⟨nd, rfl⟩⟩))
        go_ret
        exact ⟨by first | rfl | (simp; done) | (simp [*]; done), by repeat (first | exact Drawn0.refl _ | apply Drawn0.step)⟩
      · rw [if_neg c5] at H
        exact absurd H (by simp)
    · rw [if_neg c4] at H
      exact absurd H (by simp)
  · rw [if_neg c3] at H
    have c3b0 : decide ((l1.length : Int) ≤ (l0.length : Int)) = false := decide_eq_false c3
    have c3b1 : decide (l1.length ≤ l0.length) = false := decide_eq_false (fun h => c3 (Int.ofNat_le.mpr h))
    clear c3
    obtain rfl := Option.some.inj H
    go_enter Try.func45, Try.ntmps45
    go_wp2
    go_ret
    exact ⟨by first | rfl | (simp; done) | (simp [*]; done), by repeat (first | exact Drawn0.refl _ | apply Drawn0.step)⟩

end Go.Proofs.Ytooiajkbpkfplaa.Q

-- from Hldh
namespace Go.Proofs.Ytooiajkbpkfplaa.Q
open Go.RowKit Go.Proofs.YtooiajkbpkfplaaW.PrintWords Go.Proofs.YtooiajkbpkfplaaW.PrintLast Go.Proofs.YtooiajkbpkfplaaW.PrintMore
set_option linter.unusedVariables false
set_option linter.unusedSimpArgs false

theorem hldh_info : (Try.prog.info? 5).map (fun i => (i.zero, i.size, i.bytes)) = some (some (.int .u8 0), 1, 1) := by kernel_rfl
theorem hldh_size : (Try.prog.info? 5).map (·.size) = some 1 := by kernel_rfl

def ldh_Lower.l0 : Nat → List Int → Int → Option (List Int)
  | 0, _, _ => none
  | k + 1, xs, i => if i < (xs.length : Int) then (if 0 ≤ i then (utf_Lower.f (wrap64 (rd xs i))).bind fun t => ldh_Lower.l0 k (xs.set i.toNat (t % 256)) (wrap64 (i + 1)) else none) else some xs
def ldh_Lower.f (k : Nat) (l0 : List Int) : Option (List Int) := if l0.length ≤ 281474976710656 then ldh_Lower.l0 k l0 0 else none
theorem ldh_Lower.mono_l : ∀ k, (∀ y0 y1, LeO (ldh_Lower.l0 k y0 y1) (ldh_Lower.l0 (k + 1) y0 y1))
  | 0 => fun _ _ r h => by simp [ldh_Lower.l0] at h
  | k + 1 => by
    have ih0 := ldh_Lower.mono_l k
    intro y0 y1
    unfold ldh_Lower.l0
    repeat' first
      | (with_reducible exact ih0 _ _)
      | (with_reducible exact LeO.refl _)
      | (with_reducible exact LeO.none _)
      | (with_reducible refine LeO.ite ?_ ?_)
      | (with_reducible refine LeO.bind ?_ (fun _ => ?_))
theorem ldh_Lower.mono : ∀ a0 k, LeO (ldh_Lower.f k a0) (ldh_Lower.f (k + 1) a0) := by
  intro a0 k
  have ih0 := ldh_Lower.mono_l k
  unfold ldh_Lower.f
  repeat' first
      | (with_reducible exact ih0 _ _)
      | (with_reducible exact LeO.none _)
      | (with_reducible refine LeO.ite ?_ ?_)

theorem ldh_Lower.shape {w1 : World} {base e : Nat} {v1 : Value} {n : Nat} (h : Kd.R (Kd.int .u8) e w1 base (fun _ => True) v1 (List.replicate n 0)) (hat : ∃ b, v1.ownBlock = some b ∧ base ≤ b) :
    ∃ g c, v1 = .slice (some ⟨g, 0, none⟩) n c := by
  obtain ⟨b, hb, _⟩ := hat
  have ho := Kd.own_of_R h
  rcases ho.2 with ⟨rfl, _⟩ | ⟨g, cap, cur, rfl, _⟩
  · simp [Value.ownBlock] at hb
  · exact ⟨g, cap, by rw [List.length_replicate]⟩
theorem ldh_Lower.copied (l0 : List Int) : l0.take (min l0.length (List.replicate l0.length (0 : Int)).length) ++ (List.replicate l0.length (0 : Int)).drop (min l0.length (List.replicate l0.length (0 : Int)).length) = l0 := by
  simp

set_option maxHeartbeats 1000000 in
set_option maxRecDepth 100000 in
theorem ldh_Lower.calls (k : Nat) (A0 : Option Addr) (c0 : Nat) (l0 : List Int) (r : List Int) (w : World) (hr0 : Kd.C (Kd.int .u8) w A0 l0.length l0) (hc0 : l0.length ≤ c0) (h : ldh_Lower.f k l0 = some r) :
    Calls Try.prog 19 #[.slice A0 l0.length c0] w fun e w' => ∃ v0_ : Value, e = .returned (v0_) ∧ Kd.R (Kd.int .u8) 5 w' w.heap.size (fun _ => True) v0_ r ∧ Below w.heap.size w w' := by
  unfold ldh_Lower.f at h
  by_cases hl : l0.length ≤ 281474976710656
  · rw [if_pos hl] at h
    have HA := Aside0.mk h
    have HR := Aside0.mk hr0
    have HL := Aside0.mk hl
    clear h hr0 hl
    go_enter Try.func19, Try.ntmps19
    go_wp2_with (first
      | ((with_reducible refine gate_dst (N := 8) rfl ?_)
         refine Kd.R_make (Kd.int .u8) (w0 := w) w.heap.size 5 rfl (N := 8) rfl 22 (.tmp 7) (.tmp 7) rfl (l0.length : Int) rfl rfl Try.underlying22 (.int .u8 0) 1 hldh_info rfl (by decide) (by decide) 0 (ok := fun _ => True) (okp := fun _ => True) rfl (fun _ h => h) trivial (by omega) (by have := HL.out; simp only [Int.toNat_natCast]; omega) (Below.refl _ _) (Nat.le_refl _) ?_
         intro v1 w1 hR1 hB1 _ hat
         rw [Int.toNat_natCast] at hR1
         obtain ⟨g1, c1, rfl⟩ := ldh_Lower.shape hR1 hat
         have HR1 := Aside0.mk hR1
         have HB1 := Aside0.mk hB1
         clear hR1 hB1 hat)
      | ((with_reducible refine gate_dst (N := 11) rfl ?_)
         refine Kd.R_copy (d := (0 : Int)) (w0 := w) w.heap.size rfl (.tmp 9) (.tmp 10) 22 22 5 rfl Try.underlying22 hldh_size _ (List.replicate l0.length 0) l0 A0 l0.length c0 (fun _ => True) rfl rfl HR1.out (Kd.C_below HR.out HB1.out) HB1.out HB1.out.size ?_
         intro w2 hR2 hB2 hg2
         rw [ldh_Lower.copied] at hR2
         have HR2 := Aside0.mk hR2
         have HB2 := Aside0.mk hB2
         clear hR2 hB2 hg2 HR1 HB1))
    go_loopg [14] k (fun kq v14 w' => ∃ (i : Int) (xs : List Int), v14 = .int .i64 i ∧ Aside0 (ldh_Lower.l0 kq xs i = some r) ∧ Aside0 (kq ≤ k) ∧ Aside0 (xs.length = l0.length) ∧ Aside0 (Kd.R (Kd.int .u8) 5 w' w.heap.size (fun _ => True) (.slice (some ⟨g1, 0, none⟩) l0.length c1) xs) ∧ Aside0 (Below w.heap.size w w'))
    case atStart => exact ⟨0, l0, rfl, HA, ⟨Nat.le_refl _⟩, ⟨rfl⟩, HR2, HB2⟩
    case round =>
      clear HA HR2 HB2
      obtain ⟨i, xs, rfl, HA, HK, HX, HR2, HB⟩ := hrel
      cases gk with
      | zero => exact absurd HA.out (by simp [ldh_Lower.l0])
      | succ k1 =>
        have H := HA.out
        clear HA
        simp only [ldh_Lower.l0] at H
        by_cases c1 : i < (xs.length : Int)
        · rw [if_pos c1] at H
          by_cases c2 : 0 ≤ i
          · rw [if_pos c2] at H
            obtain ⟨t, ht, H⟩ := Option.bind_eq_some_iff.mp H
            have HT := Aside0.mk ht
            have H' := Aside0.mk H
            clear ht H
            have hR3 := HR2.out
            rw [← HX.out] at hR3
            obtain ⟨hc0, hf⟩ := Kd.R_cell (d := (0 : Int)) hR3 i c2 c1
            have hc : wr.cell? ⟨g1, i.toNat, none⟩ = some (.int .u8 (rd xs i)) := hc0
            clear hc0
            have HR3 := Aside0.mk hR3
            have p1 : i < (l0.length : Int) := by have := HX.out; omega
            have q1 := eq_true p1
            have q2 := eq_true c2
            have hb1 : decide (i < (l0.length : Int)) = true := by have := HX.out; simp; omega
            have hb2 : decide (0 ≤ i) = true := decide_eq_true c2
            clear hR3 c1 c2 p1
            go_wp2_with (first | (go_at_call 37; (with_reducible refine (utf_Lower.calls _ t _ HT.out).mono ?_); rintro e w' ⟨rfl, ⟨nd, rfl⟩⟩))
            go_roundg k1
            case measure => have := HK.out; omega
            case rel =>
              obtain ⟨hR4, hg4⟩ := Kd.R_put (Kd.R_drewN HR3.out nd) i (t % 256)
              rw [HX.out] at hR4
              refine ⟨_, xs.set i.toNat (t % 256), rfl, H', ⟨by have := HK.out; omega⟩, ⟨by simp [HX.out]⟩, ⟨hR4⟩, ⟨(pw_below_drewN HB.out nd).grown hg4 HB.out.size (fun k e => by cases e; exact Kd.R_base HR3.out g1 rfl)⟩⟩
          · rw [if_neg c2] at H
            cases H
        · rw [if_neg c1] at H
          obtain rfl := Option.some.inj H
          have hb1 : decide (i < (l0.length : Int)) = false := by have := HX.out; simp; omega
          clear c1
          go_wp2
          go_ret
          exact ⟨_, rfl, by have := HR2.out; exact this, HB.out⟩
  · rw [if_neg hl] at h
    cases h

end Go.Proofs.Ytooiajkbpkfplaa.Q

-- from Hlit
namespace Go.Proofs.Ytooiajkbpkfplaa.Q
open Go.RowKit Go.Proofs.YtooiajkbpkfplaaW.PrintWords Go.Proofs.YtooiajkbpkfplaaW.PrintLast Go.Proofs.YtooiajkbpkfplaaW.PrintMore
set_option linter.unusedVariables false

/-- A literal of octets, '[]byte("..")'. -/
def bytesLit.f (l : List Int) : Option (List Int) := some l

theorem bytesLit.cells {W : World} {e : Nat} {xs : List Int} {C : Array Value} {p : Nat × Nat} {g : Nat} (hC : C = (xs.map (Value.int .u8)).toArray) (hl : xs.length ≤ 9223372036854775807) (h : W.heap[g]? = some (.cells C e p)) :
    Kd.C (Kd.int .u8) W (some ⟨g, 0, none⟩) xs.length xs := by
  refine Kd.C_of_reads (d := (0 : Int)) ⟨rfl, hl, fun _ => ⟨_, rfl, fun j hj => ?_⟩⟩
  rw [add_plain, cell_of_row W g j C e p h, hC]
  simp [List.getD_eq_getElem?_getD, List.getElem?_eq_getElem hj]

theorem bytesLit.step {P : Program} {W : World} {ops : Array Oper} {rest : List Oper} {o : Oper} {a : Act} {Q : Exit → Act → World → Prop} {C : Array Value} {n c : Nat} (t e : TypeId) (s : Operand) (xs r : List Int) (h : bytesLit.f xs = some r)
    (hgd : o.guard = none) (hop : o.op = .convert t t s) (hs : a.eval s = .slice (some ⟨W.heap.size, 0, none⟩) n c) (ht : P.underlying t = some (.slice e)) (he : P.underlying e = some (.int .u8))
    (hC : C = (xs.map (Value.int .u8)).toArray) (hn : n = xs.length) (hc : n ≤ c) (hl : xs.length ≤ 9223372036854775807)
    (hk : ∀ v w1, Kd.V (Kd.int .u8) e w1 W.heap.size (fun k => W.heap.size ≤ k) v r → Below W.heap.size W w1 → wpList P ops Q rest (a.put o.dst v) w1) :
    wpList P ops Q (o :: rest) a (W.alloc (.cells C e)) := by
  obtain rfl := Option.some.inj h
  have hr := Lib.run_convert_bytes_const (P := P) W t e C n c ht he
  refine wpList_plain hgd fun K hK => ?_
  unfold Oper.wp execOp
  simp only [hop, hs]
  have hr2 : (do let v ← convert t t (.slice (some ⟨W.heap.size, 0, none⟩) n c); pure (Next.value v) : Sem Next).run P (W.alloc (.cells C e)) = .ok (.value (.slice (some ⟨W.heap.size, 0, none⟩) n c)) (W.alloc (.cells C e (C.size, C.size + 1))) := by
    rw [Sem.run_bind, hr]; rfl
  first | rw [hr2] | (simp only [Sem.run_bind, hr, Sem.run_pure, Result.andThen_ok]) 
  refine hK _ _ (hk _ _ ?_ ((Below.refl _ W).alloc (Nat.le_refl _) _))
  subst hn
  refine Kd.V_mk hc (fun W' hW => ?_)
  refine bytesLit.cells hC hl (e := e) (p := (C.size, C.size + 1)) ?_
  rw [hW W.heap.size (Nat.le_refl _) (by simp)]
  exact heap_alloc_new W _

end Go.Proofs.Ytooiajkbpkfplaa.Q

-- from Qf17
-- Made by hp.py, a program of this session, with the kit's printer. Not trusted: Lean checks it.
namespace Go.Proofs.Ytooiajkbpkfplaa.Q
open Go.RowKit Go.Proofs.YtooiajkbpkfplaaW.PrintWords Go.Proofs.YtooiajkbpkfplaaW.PrintLast Go.Proofs.YtooiajkbpkfplaaW.PrintMore
attribute [local go_sem] max2_int min2_int max_two min_two max_three min_three max_four min_four   -- for this text's walks alone
set_option linter.unusedVariables false
set_option linter.unusedSimpArgs false

/-! ### ldh_Kind: function 17 -/
def ldh_Kind.j0 : Nat → List Int → Bool → Option (Int)
  | 0, _, _ => none
  | k + 1, x0, x7 => if x7 = true then (some 1) else (if (x0.length : Int) > 4 then ((ldh_Lower.f k x0).bind fun t104 => ((bytesLit.f ([120, 110, 45, 45] : List Int)).bind fun t107 => ((bytes_HasPrefix.f t104 t107).bind fun t110 => (if t110 = true then (some 3) else (some 2))))) else (some 2))
def ldh_Kind.f (k : Nat) (l0 : List Int) : Option (Int) := (ldh_Is.f k l0).bind fun t101 => (if t101 = true then (if (l0.length : Int) < 4 then (ldh_Kind.j0 k l0 true) else (if 2 < (l0.length : Int) then (if (rd l0 2) = 45 then (if 3 < (l0.length : Int) then (ldh_Kind.j0 k l0 ((rd l0 3) != 45)) else (none)) else (ldh_Kind.j0 k l0 true)) else (none))) else (some 0))
theorem ldh_Kind.mono_l : ∀ k, (∀ y0 y1, LeO (ldh_Kind.j0 k y0 y1) (ldh_Kind.j0 (k + 1) y0 y1))
  | 0 => fun _ _ r h => by simp [ldh_Kind.j0] at h
  | k + 1 => by
    have ih0 := ldh_Kind.mono_l k
    · intro y0 y1
      unfold ldh_Kind.j0
      repeat' first
      | (with_reducible exact ih0 _ _)
      | (with_reducible exact ldh_Is.mono _ _)
      | (with_reducible exact ldh_Lower.mono _ _)
      | (with_reducible exact LeO.refl _)
      | (with_reducible exact LeO.none _)
      | (with_reducible refine LeO.ite ?_ ?_)
      | (with_reducible refine LeO.bind ?_ (fun _ => ?_))
      | exact ih0 _ _
      | exact ldh_Is.mono _ _
      | exact ldh_Lower.mono _ _
      | exact LeO.none _
      | refine LeO.ite ?_ ?_
      | refine LeO.bind ?_ (fun _ => ?_)
theorem ldh_Kind.mono : ∀ a0 k, LeO (ldh_Kind.f k a0) (ldh_Kind.f (k + 1) a0) := by
  intro a0 k
  have ih0 := ldh_Kind.mono_l k
  unfold ldh_Kind.f
  repeat' first
      | (with_reducible exact ih0 _ _)
      | (with_reducible exact ldh_Is.mono _ _)
      | (with_reducible exact ldh_Lower.mono _ _)
      | (with_reducible exact LeO.refl _)
      | (with_reducible exact LeO.none _)
      | (with_reducible refine LeO.ite ?_ ?_)
      | (with_reducible refine LeO.bind ?_ (fun _ => ?_))
      | exact ih0 _ _
      | exact ldh_Is.mono _ _
      | exact ldh_Lower.mono _ _
      | exact LeO.none _
      | refine LeO.ite ?_ ?_
      | refine LeO.bind ?_ (fun _ => ?_)
set_option maxHeartbeats 8000000 in
set_option maxRecDepth 100000 in
theorem ldh_Kind.calls (k : Nat) (A0 : Option Addr) (c0 : Nat) (l0 : List Int) (r : Int) (w : World) (hr0 : Kd.C (Kd.int .u8) w A0 l0.length l0) (hc0 : l0.length ≤ c0) (h : ldh_Kind.f k l0 = some r) :
    Calls Try.prog 17 #[.slice A0 l0.length c0] w fun e w' => e = .returned (.int .i64 r) ∧ Below w.heap.size w w' := by
  have HR0 := Aside0.mk hr0
  have HC0 := Aside0.mk hc0
  clear hr0 hc0
  have HB := Aside0.mk (Below.refl w.heap.size w)
  have H : ((ldh_Is.f k l0).bind fun t101 => (if t101 = true then (if (l0.length : Int) < 4 then (ldh_Kind.j0 k l0 true) else (if 2 < (l0.length : Int) then (if (rd l0 2) = 45 then (if 3 < (l0.length : Int) then (ldh_Kind.j0 k l0 ((rd l0 3) != 45)) else (none)) else (ldh_Kind.j0 k l0 true)) else (none))) else (some 0))) = some r := h
  clear h
  replace H := Option.bind_eq_some_iff.mp H
  obtain ⟨t101, A20, H⟩ := H
  replace H : (if t101 = true then (if (l0.length : Int) < 4 then (ldh_Kind.j0 k l0 true) else (if 2 < (l0.length : Int) then (if (rd l0 2) = 45 then (if 3 < (l0.length : Int) then (ldh_Kind.j0 k l0 ((rd l0 3) != 45)) else (none)) else (ldh_Kind.j0 k l0 true)) else (none))) else (some 0)) = some r := H
  have A2 := Aside0.mk A20
  clear A20
  by_cases c3 : t101 = true
  · subst c3
    have H1 : (if (l0.length : Int) < 4 then (ldh_Kind.j0 k l0 true) else (if 2 < (l0.length : Int) then (if (rd l0 2) = 45 then (if 3 < (l0.length : Int) then (ldh_Kind.j0 k l0 ((rd l0 3) != 45)) else (none)) else (ldh_Kind.j0 k l0 true)) else (none))) = some r := by rw [if_pos rfl] at H; exact H
    clear H
    have H := H1
    clear H1
    have HC4 := Aside0.mk H
    clear H
    go_enter Try.func17, Try.ntmps17
    go_upto_region 3 with (first | ((with_reducible refine gate_callee (f := 18) rfl ?_); refine goesL_ (some 5) rfl rfl Try.func18 (by kernel_rfl) rfl #[.slice A0 l0.length c0] rfl (by (try simp only [List.map_toArray, List.map_cons, List.map_nil]); first | done | rfl | (simp only [List.length_drop, List.length_take]; rfl)) ?_; (with_reducible refine (ldh_Is.calls k _ _ l0 true _ ?side1 ?side2 A2.out).mono ?_); (case side1 => repeat (first | exact HR0.out | (with_reducible refine Kd.C_alloc ?_ _) | (with_reducible refine Kd.C_drewN ?_ _) | (with_reducible refine Kd.C_drew ?_))); (case side2 => exact HC0.out); rintro e w' ⟨rfl, ⟨nd, rfl⟩⟩; refine ⟨_, rfl, ?_⟩))
    (try simp only [Act.put, List.setIfInBounds_toArray, List.set_cons_zero, List.set_cons_succ])
    go_cut [7] (fun v7 wc => ∃ (kq : Nat) (x7_3 : Bool), v7 = .bool x7_3 ∧ Aside0 (ldh_Kind.j0 kq l0 x7_3 = some r) ∧ Aside0 (kq ≤ k) ∧ Aside0 (Below w.heap.size w wc))
    case first =>
      have H := HC4.out
      clear HC4
      by_cases c5 : (l0.length : Int) < 4
      · rw [if_pos c5] at H
        have c5b0 : decide ((l0.length : Int) < 4) = true := decide_eq_true c5
        have c5b1 : decide (l0.length < 4) = true := decide_eq_true (by omega)
        clear c5
        (first | rw [c5b0] | (simp only [i64_w, i32_w]; rw [c5b0]) | rw [c5b1] | (simp only [i64_w, i32_w]; rw [c5b1]) | skip)
        have H' := Aside0.mk H
        clear H
        go_wp2
        go_meet
        case rel => exact ⟨_, (true), (by first | rfl | (simp; done) | (simp [*]; done)), H', ⟨by first | omega | exact Nat.le_refl _⟩, ⟨by repeat (first | (with_reducible first | exact HB.out | apply below_alloc | apply pw_below_drewN | apply below_drew1) | exact HB.out)⟩⟩
      · rw [if_neg c5] at H
        have c5b0 : decide ((l0.length : Int) < 4) = false := decide_eq_false c5
        have c5b1 : decide (l0.length < 4) = false := decide_eq_false (by omega)
        clear c5
        (first | rw [c5b0] | (simp only [i64_w, i32_w]; rw [c5b0]) | rw [c5b1] | (simp only [i64_w, i32_w]; rw [c5b1]) | skip)
        by_cases c6 : 2 < (l0.length : Int)
        · rw [if_pos c6] at H
          have c6b0 : decide (2 < (l0.length : Int)) = true := decide_eq_true c6
          have c6b1 : decide (2 < l0.length) = true := decide_eq_true (by omega)
          clear c6
          by_cases c7 : (rd l0 2) = 45
          · rw [if_pos c7] at H
            have c7b0 : ((rd l0 2) == 45) = true := beq_iff_eq.mpr c7
            have c7b1 : ((rd l0 2) != 45) = false := bne_eq_false_iff_eq.mpr c7
            clear c7
            by_cases c8 : 3 < (l0.length : Int)
            · rw [if_pos c8] at H
              have c8b0 : decide (3 < (l0.length : Int)) = true := decide_eq_true c8
              have c8b1 : decide (3 < l0.length) = true := decide_eq_true (by omega)
              clear c8
              have H' := Aside0.mk H
              clear H
              have p102 : 0 ≤ (2 : Int) := (by omega)
              have q102 : 2 < (l0.length : Int) := of_decide_eq_true (by first | (with_reducible assumption) | assumption)
              obtain ⟨ad102, e102, hx102_0⟩ := Kd.at_int HR0.out 2 p102 q102
              cases e102
              (try simp only [show (2 : Int).toNat = 2 from rfl, Nat.reduceMul, Nat.reduceEqDiff, Go.Addr.add, ↓reduceIte] at hx102_0)
              have qi102 : (2 < l0.length) = True := eq_true (by omega)
              (try rw [show ((2 : Int)).toNat = 2 from rfl] at hx102_0)
              replace hx102_0 := (HB.out.cell (World.block_lt_of_cell? w _ hx102_0)).trans hx102_0
              replace p102 := eq_true p102
              replace q102 := eq_true q102
              have p103 : 0 ≤ (3 : Int) := (by omega)
              have q103 : 3 < (l0.length : Int) := of_decide_eq_true (by first | (with_reducible assumption) | assumption)
              obtain ⟨ad103, e103, hx103_0⟩ := Kd.at_int HR0.out 3 p103 q103
              obtain rfl : ad102 = ad103 := (by injection e103)
              (try simp only [show (3 : Int).toNat = 3 from rfl, Nat.reduceMul, Nat.reduceEqDiff, Go.Addr.add, ↓reduceIte] at hx103_0)
              have qi103 : (3 < l0.length) = True := eq_true (by omega)
              (try rw [show ((3 : Int)).toNat = 3 from rfl] at hx103_0)
              replace hx103_0 := (HB.out.cell (World.block_lt_of_cell? w _ hx103_0)).trans hx103_0
              replace p103 := eq_true p103
              replace q103 := eq_true q103
              go_wp2
              go_meet
              case rel => exact ⟨_, (((rd l0 3) != 45)), (by first | rfl | (simp; done) | (simp [*]; done)), H', ⟨by first | omega | exact Nat.le_refl _⟩, ⟨by repeat (first | (with_reducible first | exact HB.out | apply below_alloc | apply pw_below_drewN | apply below_drew1) | exact HB.out)⟩⟩
            · rw [if_neg c8] at H
              exact absurd H (by simp)
          · rw [if_neg c7] at H
            have c7b0 : ((rd l0 2) == 45) = false := beq_eq_false_iff_ne.mpr c7
            have c7b1 : ((rd l0 2) != 45) = true := bne_iff_ne.mpr c7
            have H' := Aside0.mk H
            clear H
            have p102 : 0 ≤ (2 : Int) := (by omega)
            have q102 : 2 < (l0.length : Int) := of_decide_eq_true (by first | (with_reducible assumption) | assumption)
            obtain ⟨ad102, e102, hx102_0⟩ := Kd.at_int HR0.out 2 p102 q102
            cases e102
            (try simp only [show (2 : Int).toNat = 2 from rfl, Nat.reduceMul, Nat.reduceEqDiff, Go.Addr.add, ↓reduceIte] at hx102_0)
            have qi102 : (2 < l0.length) = True := eq_true (by omega)
            (try rw [show ((2 : Int)).toNat = 2 from rfl] at hx102_0)
            replace hx102_0 := (HB.out.cell (World.block_lt_of_cell? w _ hx102_0)).trans hx102_0
            replace p102 := eq_true p102
            replace q102 := eq_true q102
            go_wp2
            go_meet
            case rel => exact ⟨_, (true), (by first | rfl | (simp; done) | (simp [*]; done)), H', ⟨by first | omega | exact Nat.le_refl _⟩, ⟨by repeat (first | (with_reducible first | exact HB.out | apply below_alloc | apply pw_below_drewN | apply below_drew1) | exact HB.out)⟩⟩
        · rw [if_neg c6] at H
          exact absurd H (by simp)
    case rest =>
      clear HC4
      try clear c1
      try clear p1
      try clear q1
      try clear hx1
      try clear qi1
      try clear p2
      try clear c3
      try clear c5
      try clear c5b0
      try clear c5b1
      try clear c6
      try clear c6b0
      try clear c6b1
      try clear c7
      try clear c7b0
      try clear c7b1
      try clear c8
      try clear c8b0
      try clear c8b1
      try clear hx102_0
      try clear hx103_0
      try clear p102
      try clear p103
      try clear q102
      try clear q103
      obtain ⟨kq, x7_3, rfl, HA, HJ3, HB⟩ := hcut
      cases kq with
      | zero => exact absurd HA.out (by simp [ldh_Kind.j0])
      | succ kj3 =>
        have H := HA.out
        clear HA
        simp only [ldh_Kind.j0] at H
        by_cases c9 : x7_3 = true
        · subst c9
          have H1 : (some 1) = some r := by rw [if_pos rfl] at H; exact H
          clear H
          have H := H1
          clear H1
          obtain rfl := Option.some.inj H
          go_wp2
          go_ret
          exact ⟨by first | rfl | (simp [errW_none, errW_some] <;> rfl) | (simp [*, errW_none, errW_some] <;> rfl), by repeat (first | (with_reducible first | exact HB.out | apply below_alloc | apply pw_below_drewN | apply below_drew1) | exact HB.out)⟩
        · replace c9 := Bool.eq_false_iff.mpr c9
          subst c9
          have H1 : (if (l0.length : Int) > 4 then ((ldh_Lower.f kj3 l0).bind fun t104 => ((bytesLit.f ([120, 110, 45, 45] : List Int)).bind fun t107 => ((bytes_HasPrefix.f t104 t107).bind fun t110 => (if t110 = true then (some 3) else (some 2))))) else (some 2)) = some r := by rw [if_neg (show ¬ (false = true) by decide)] at H; exact H
          clear H
          have H := H1
          clear H1
          by_cases c10 : (l0.length : Int) > 4
          · rw [if_pos c10] at H
            have c10b0 : decide (4 < (l0.length : Int)) = true := decide_eq_true c10
            have c10b1 : decide (4 < l0.length) = true := decide_eq_true (by omega)
            clear c10
            replace H := Option.bind_eq_some_iff.mp H
            obtain ⟨t104, A110, H⟩ := H
            replace H : ((bytesLit.f ([120, 110, 45, 45] : List Int)).bind fun t107 => ((bytes_HasPrefix.f t104 t107).bind fun t110 => (if t110 = true then (some 3) else (some 2)))) = some r := H
            have A11 := Aside0.mk A110
            clear A110
            replace H := Option.bind_eq_some_iff.mp H
            obtain ⟨t107, A120, H⟩ := H
            replace H : ((bytes_HasPrefix.f t104 t107).bind fun t110 => (if t110 = true then (some 3) else (some 2))) = some r := H
            have A12 := Aside0.mk A120
            clear A120
            replace H := Option.bind_eq_some_iff.mp H
            obtain ⟨t110, A130, H⟩ := H
            replace H : (if t110 = true then (some 3) else (some 2)) = some r := H
            have A13 := Aside0.mk A130
            clear A130
            by_cases c14 : t110 = true
            · subst c14
              have H1 : (some 3) = some r := by rw [if_pos rfl] at H; exact H
              clear H
              have H := H1
              clear H1
              obtain rfl := Option.some.inj H
              go_wp2_with (first | (go_at_call 19; (with_reducible refine (ldh_Lower.calls kj3 _ _ l0 t104 _ ?side1 ?side2 A11.out).mono ?_); (case side1 => repeat (first | exact (Kd.C_below HR0.out HB.out) | (with_reducible refine Kd.C_alloc ?_ _) | (with_reducible refine Kd.C_drewN ?_ _) | (with_reducible refine Kd.C_drew ?_))); (case side2 => exact HC0.out); rintro e w15 ⟨v105, rfl, ho0, hb⟩; have n0_ := Aside0.mk (Kd.R_lower ho0 (below_size (by repeat (first | (with_reducible first | exact HB.out | apply below_alloc | apply pw_below_drewN | apply below_drew1) | exact HB.out)))); have n1_ := Aside0.mk (below_step (by repeat (first | (with_reducible first | exact HB.out | apply below_alloc | apply pw_below_drewN | apply below_drew1) | exact HB.out)) hb); clear HB; have HO106 := n0_; have HB := n1_; clear n0_ n1_; (try clear hb); (try clear hb2); (try clear hk); (try clear hi); (try clear ho0)) | ((with_reducible refine gate_dst (N := 31) rfl ?_); (try (refine gate_guard (by rfl) ?_; dsimp only)); refine bytesLit.step 22 5 _ ([120, 110, 45, 45] : List Int) t107 A12.out rfl rfl rfl Try.underlying22 Try.underlying5 rfl rfl (by decide) (by decide) ?_; intro v108 w16 ho0 hb; have n0_ := Aside0.mk (Kd.R_below (by (with_reducible repeat (first | apply Kd.R_alloc | apply Kd.R_drewN | apply Kd.R_drew)); exact HO106.out) hb); have n1_ := Aside0.mk (Kd.V_lower (Kd.V_mono (ok' := fun k_ => some k_ ≠ (v105 : Value).ownBlock) ho0 (fun k_ hk_ => (Kd.fresh' (Kd.R_lt (by (with_reducible repeat (first | apply Kd.R_alloc | apply Kd.R_drewN | apply Kd.R_drew)); exact HO106.out)) k_ hk_))) (below_size (by repeat (first | (with_reducible first | exact HB.out | apply below_alloc | apply pw_below_drewN | apply below_drew1) | exact HB.out)))); have n2_ := Aside0.mk (below_step (by repeat (first | (with_reducible first | exact HB.out | apply below_alloc | apply pw_below_drewN | apply below_drew1) | exact HB.out)) hb); clear HO106; clear HB; have HO106 := n0_; have HO109 := n1_; have HB := n2_; clear n0_ n1_ n2_; (try clear hb); (try clear hb2); (try clear hk); (try clear hi); (try clear ho0); obtain ⟨Ao17, co17, eo17⟩ := Kd.R_slice HO106.out; subst eo17; obtain ⟨Ao18, co18, eo18⟩ := Kd.V_slice HO109.out; subst eo18) | (go_at_call 45; (with_reducible refine (bytes_HasPrefix.calls _ _ t104 _ _ t107 true _ ?side1 ?side2 ?side3 ?side4 A13.out).mono ?_); (case side1 => repeat (first | exact (Kd.R_reads' HO106.out).2.2 | (with_reducible refine Kd.C_alloc ?_ _) | (with_reducible refine Kd.C_drewN ?_ _) | (with_reducible refine Kd.C_drew ?_))); (case side2 => exact (Kd.R_reads' HO106.out).2.1); (case side3 => repeat (first | exact (Kd.V_reads' HO109.out).2.2 | (with_reducible refine Kd.C_alloc ?_ _) | (with_reducible refine Kd.C_drewN ?_ _) | (with_reducible refine Kd.C_drew ?_))); (case side4 => exact (Kd.V_reads' HO109.out).2.1); rintro e w' ⟨rfl, ⟨nd, rfl⟩⟩))
              go_ret
              exact ⟨by first | rfl | (simp [errW_none, errW_some] <;> rfl) | (simp [*, errW_none, errW_some] <;> rfl), by repeat (first | (with_reducible first | exact HB.out | apply below_alloc | apply pw_below_drewN | apply below_drew1) | exact HB.out)⟩
            · replace c14 := Bool.eq_false_iff.mpr c14
              subst c14
              have H1 : (some 2) = some r := by rw [if_neg (show ¬ (false = true) by decide)] at H; exact H
              clear H
              have H := H1
              clear H1
              obtain rfl := Option.some.inj H
              go_wp2_with (first | (go_at_call 19; (with_reducible refine (ldh_Lower.calls kj3 _ _ l0 t104 _ ?side1 ?side2 A11.out).mono ?_); (case side1 => repeat (first | exact (Kd.C_below HR0.out HB.out) | (with_reducible refine Kd.C_alloc ?_ _) | (with_reducible refine Kd.C_drewN ?_ _) | (with_reducible refine Kd.C_drew ?_))); (case side2 => exact HC0.out); rintro e w19 ⟨v105, rfl, ho0, hb⟩; have n0_ := Aside0.mk (Kd.R_lower ho0 (below_size (by repeat (first | (with_reducible first | exact HB.out | apply below_alloc | apply pw_below_drewN | apply below_drew1) | exact HB.out)))); have n1_ := Aside0.mk (below_step (by repeat (first | (with_reducible first | exact HB.out | apply below_alloc | apply pw_below_drewN | apply below_drew1) | exact HB.out)) hb); clear HB; have HO106 := n0_; have HB := n1_; clear n0_ n1_; (try clear hb); (try clear hb2); (try clear hk); (try clear hi); (try clear ho0)) | ((with_reducible refine gate_dst (N := 31) rfl ?_); (try (refine gate_guard (by rfl) ?_; dsimp only)); refine bytesLit.step 22 5 _ ([120, 110, 45, 45] : List Int) t107 A12.out rfl rfl rfl Try.underlying22 Try.underlying5 rfl rfl (by decide) (by decide) ?_; intro v108 w20 ho0 hb; have n0_ := Aside0.mk (Kd.R_below (by (with_reducible repeat (first | apply Kd.R_alloc | apply Kd.R_drewN | apply Kd.R_drew)); exact HO106.out) hb); have n1_ := Aside0.mk (Kd.V_lower (Kd.V_mono (ok' := fun k_ => some k_ ≠ (v105 : Value).ownBlock) ho0 (fun k_ hk_ => (Kd.fresh' (Kd.R_lt (by (with_reducible repeat (first | apply Kd.R_alloc | apply Kd.R_drewN | apply Kd.R_drew)); exact HO106.out)) k_ hk_))) (below_size (by repeat (first | (with_reducible first | exact HB.out | apply below_alloc | apply pw_below_drewN | apply below_drew1) | exact HB.out)))); have n2_ := Aside0.mk (below_step (by repeat (first | (with_reducible first | exact HB.out | apply below_alloc | apply pw_below_drewN | apply below_drew1) | exact HB.out)) hb); clear HO106; clear HB; have HO106 := n0_; have HO109 := n1_; have HB := n2_; clear n0_ n1_ n2_; (try clear hb); (try clear hb2); (try clear hk); (try clear hi); (try clear ho0); obtain ⟨Ao21, co21, eo21⟩ := Kd.R_slice HO106.out; subst eo21; obtain ⟨Ao22, co22, eo22⟩ := Kd.V_slice HO109.out; subst eo22) | (go_at_call 45; (with_reducible refine (bytes_HasPrefix.calls _ _ t104 _ _ t107 false _ ?side1 ?side2 ?side3 ?side4 A13.out).mono ?_); (case side1 => repeat (first | exact (Kd.R_reads' HO106.out).2.2 | (with_reducible refine Kd.C_alloc ?_ _) | (with_reducible refine Kd.C_drewN ?_ _) | (with_reducible refine Kd.C_drew ?_))); (case side2 => exact (Kd.R_reads' HO106.out).2.1); (case side3 => repeat (first | exact (Kd.V_reads' HO109.out).2.2 | (with_reducible refine Kd.C_alloc ?_ _) | (with_reducible refine Kd.C_drewN ?_ _) | (with_reducible refine Kd.C_drew ?_))); (case side4 => exact (Kd.V_reads' HO109.out).2.1); rintro e w' ⟨rfl, ⟨nd, rfl⟩⟩))
              go_ret
              exact ⟨by first | rfl | (simp [errW_none, errW_some] <;> rfl) | (simp [*, errW_none, errW_some] <;> rfl), by repeat (first | (with_reducible first | exact HB.out | apply below_alloc | apply pw_below_drewN | apply below_drew1) | exact HB.out)⟩
          · rw [if_neg c10] at H
            have c10b0 : decide (4 < (l0.length : Int)) = false := decide_eq_false c10
            have c10b1 : decide (4 < l0.length) = false := decide_eq_false (by omega)
            clear c10
            obtain rfl := Option.some.inj H
            go_wp2
            go_ret
            exact ⟨by first | rfl | (simp [errW_none, errW_some] <;> rfl) | (simp [*, errW_none, errW_some] <;> rfl), by repeat (first | (with_reducible first | exact HB.out | apply below_alloc | apply pw_below_drewN | apply below_drew1) | exact HB.out)⟩
  · replace c3 := Bool.eq_false_iff.mpr c3
    subst c3
    have H1 : (some 0) = some r := by rw [if_neg (show ¬ (false = true) by decide)] at H; exact H
    clear H
    have H := H1
    clear H1
    obtain rfl := Option.some.inj H
    go_enter Try.func17, Try.ntmps17
    go_wp2_with (first | ((with_reducible refine gate_callee (f := 18) rfl ?_); refine goesL_ (some 5) rfl rfl Try.func18 (by kernel_rfl) rfl #[.slice A0 l0.length c0] rfl (by (try simp only [List.map_toArray, List.map_cons, List.map_nil]); first | done | rfl | (simp only [List.length_drop, List.length_take]; rfl)) ?_; (with_reducible refine (ldh_Is.calls k _ _ l0 false _ ?side1 ?side2 A2.out).mono ?_); (case side1 => repeat (first | exact HR0.out | (with_reducible refine Kd.C_alloc ?_ _) | (with_reducible refine Kd.C_drewN ?_ _) | (with_reducible refine Kd.C_drew ?_))); (case side2 => exact HC0.out); rintro e w' ⟨rfl, ⟨nd, rfl⟩⟩; refine ⟨_, rfl, ?_⟩))
    go_ret
    exact ⟨by first | rfl | (simp [errW_none, errW_some] <;> rfl) | (simp [*, errW_none, errW_some] <;> rfl), by repeat (first | (with_reducible first | exact HB.out | apply below_alloc | apply pw_below_drewN | apply below_drew1) | exact HB.out)⟩

end Go.Proofs.Ytooiajkbpkfplaa.Q

-- from Qf15
-- Made by hp.py, a program of this session, with the kit's printer. Not trusted: Lean checks it.
namespace Go.Proofs.Ytooiajkbpkfplaa.Q
open Go.RowKit Go.Proofs.YtooiajkbpkfplaaW.PrintWords Go.Proofs.YtooiajkbpkfplaaW.PrintLast Go.Proofs.YtooiajkbpkfplaaW.PrintMore
attribute [local go_sem] max2_int min2_int max_two min_two max_three min_three max_four min_four   -- for this text's walks alone
set_option linter.unusedVariables false
set_option linter.unusedSimpArgs false

/-! ### paronymlaw11_awake: function 15 -/
def paronymlaw11_awake.f (k : Nat)  : Option (Bool) := (bytesLit.f ([120, 110, 45, 45, 97] : List Int)).bind fun t101 => ((ldh_Kind.f k t101).bind fun t104 => (if t104 = 3 then ((bytesLit.f ([97, 98, 45, 45, 99] : List Int)).bind fun t105 => ((ldh_Kind.f k t105).bind fun t108 => (if t108 = 2 then ((bytesLit.f ([97, 45, 98] : List Int)).bind fun t109 => ((ldh_Kind.f k t109).bind fun t112 => (if t112 = 1 then ((bytesLit.f ([45, 97] : List Int)).bind fun t113 => ((ldh_Kind.f k t113).bind fun t116 => (some (t116 == 0)))) else (some false)))) else (some false)))) else (some false)))
theorem paronymlaw11_awake.mono : ∀ k, LeO (paronymlaw11_awake.f k ) (paronymlaw11_awake.f (k + 1) ) := by
  intro  k
  unfold paronymlaw11_awake.f
  repeat' first
      | (with_reducible exact ldh_Kind.mono _ _)
      | (with_reducible exact LeO.refl _)
      | (with_reducible exact LeO.none _)
      | (with_reducible refine LeO.ite ?_ ?_)
      | (with_reducible refine LeO.bind ?_ (fun _ => ?_))
      | exact ldh_Kind.mono _ _
      | exact LeO.none _
      | refine LeO.ite ?_ ?_
      | refine LeO.bind ?_ (fun _ => ?_)
set_option maxHeartbeats 8000000 in
set_option maxRecDepth 100000 in
theorem paronymlaw11_awake.calls (k : Nat)  (r : Bool) (w : World) (h : paronymlaw11_awake.f k  = some r) :
    Calls Try.prog 15 #[] w fun e w' => e = .returned (.bool r) ∧ Below w.heap.size w w' := by
  have HB := Aside0.mk (Below.refl w.heap.size w)
  have H : ((bytesLit.f ([120, 110, 45, 45, 97] : List Int)).bind fun t101 => ((ldh_Kind.f k t101).bind fun t104 => (if t104 = 3 then ((bytesLit.f ([97, 98, 45, 45, 99] : List Int)).bind fun t105 => ((ldh_Kind.f k t105).bind fun t108 => (if t108 = 2 then ((bytesLit.f ([97, 45, 98] : List Int)).bind fun t109 => ((ldh_Kind.f k t109).bind fun t112 => (if t112 = 1 then ((bytesLit.f ([45, 97] : List Int)).bind fun t113 => ((ldh_Kind.f k t113).bind fun t116 => (some (t116 == 0)))) else (some false)))) else (some false)))) else (some false)))) = some r := h
  clear h
  replace H := Option.bind_eq_some_iff.mp H
  obtain ⟨t101, A10, H⟩ := H
  replace H : ((ldh_Kind.f k t101).bind fun t104 => (if t104 = 3 then ((bytesLit.f ([97, 98, 45, 45, 99] : List Int)).bind fun t105 => ((ldh_Kind.f k t105).bind fun t108 => (if t108 = 2 then ((bytesLit.f ([97, 45, 98] : List Int)).bind fun t109 => ((ldh_Kind.f k t109).bind fun t112 => (if t112 = 1 then ((bytesLit.f ([45, 97] : List Int)).bind fun t113 => ((ldh_Kind.f k t113).bind fun t116 => (some (t116 == 0)))) else (some false)))) else (some false)))) else (some false))) = some r := H
  have A1 := Aside0.mk A10
  clear A10
  replace H := Option.bind_eq_some_iff.mp H
  obtain ⟨t104, A20, H⟩ := H
  replace H : (if t104 = 3 then ((bytesLit.f ([97, 98, 45, 45, 99] : List Int)).bind fun t105 => ((ldh_Kind.f k t105).bind fun t108 => (if t108 = 2 then ((bytesLit.f ([97, 45, 98] : List Int)).bind fun t109 => ((ldh_Kind.f k t109).bind fun t112 => (if t112 = 1 then ((bytesLit.f ([45, 97] : List Int)).bind fun t113 => ((ldh_Kind.f k t113).bind fun t116 => (some (t116 == 0)))) else (some false)))) else (some false)))) else (some false)) = some r := H
  have A2 := Aside0.mk A20
  clear A20
  by_cases c3 : t104 = 3
  · rw [if_pos c3] at H
    have c3b0 : (t104 == 3) = true := beq_iff_eq.mpr c3
    have c3b1 : (t104 != 3) = false := bne_eq_false_iff_eq.mpr c3
    clear c3
    replace H := Option.bind_eq_some_iff.mp H
    obtain ⟨t105, A40, H⟩ := H
    replace H : ((ldh_Kind.f k t105).bind fun t108 => (if t108 = 2 then ((bytesLit.f ([97, 45, 98] : List Int)).bind fun t109 => ((ldh_Kind.f k t109).bind fun t112 => (if t112 = 1 then ((bytesLit.f ([45, 97] : List Int)).bind fun t113 => ((ldh_Kind.f k t113).bind fun t116 => (some (t116 == 0)))) else (some false)))) else (some false))) = some r := H
    have A4 := Aside0.mk A40
    clear A40
    replace H := Option.bind_eq_some_iff.mp H
    obtain ⟨t108, A50, H⟩ := H
    replace H : (if t108 = 2 then ((bytesLit.f ([97, 45, 98] : List Int)).bind fun t109 => ((ldh_Kind.f k t109).bind fun t112 => (if t112 = 1 then ((bytesLit.f ([45, 97] : List Int)).bind fun t113 => ((ldh_Kind.f k t113).bind fun t116 => (some (t116 == 0)))) else (some false)))) else (some false)) = some r := H
    have A5 := Aside0.mk A50
    clear A50
    by_cases c6 : t108 = 2
    · rw [if_pos c6] at H
      have c6b0 : (t108 == 2) = true := beq_iff_eq.mpr c6
      have c6b1 : (t108 != 2) = false := bne_eq_false_iff_eq.mpr c6
      clear c6
      replace H := Option.bind_eq_some_iff.mp H
      obtain ⟨t109, A70, H⟩ := H
      replace H : ((ldh_Kind.f k t109).bind fun t112 => (if t112 = 1 then ((bytesLit.f ([45, 97] : List Int)).bind fun t113 => ((ldh_Kind.f k t113).bind fun t116 => (some (t116 == 0)))) else (some false))) = some r := H
      have A7 := Aside0.mk A70
      clear A70
      replace H := Option.bind_eq_some_iff.mp H
      obtain ⟨t112, A80, H⟩ := H
      replace H : (if t112 = 1 then ((bytesLit.f ([45, 97] : List Int)).bind fun t113 => ((ldh_Kind.f k t113).bind fun t116 => (some (t116 == 0)))) else (some false)) = some r := H
      have A8 := Aside0.mk A80
      clear A80
      by_cases c9 : t112 = 1
      · rw [if_pos c9] at H
        have c9b0 : (t112 == 1) = true := beq_iff_eq.mpr c9
        have c9b1 : (t112 != 1) = false := bne_eq_false_iff_eq.mpr c9
        clear c9
        replace H := Option.bind_eq_some_iff.mp H
        obtain ⟨t113, A100, H⟩ := H
        replace H : ((ldh_Kind.f k t113).bind fun t116 => (some (t116 == 0))) = some r := H
        have A10 := Aside0.mk A100
        clear A100
        replace H := Option.bind_eq_some_iff.mp H
        obtain ⟨t116, A110, H⟩ := H
        replace H : (some (t116 == 0)) = some r := H
        have A11 := Aside0.mk A110
        clear A110
        obtain rfl := Option.some.inj H
        go_enter Try.func15, Try.ntmps15
        go_wp2_with (first | ((with_reducible refine gate_dst (N := 2) rfl ?_); (try (refine gate_guard (by rfl) ?_; dsimp only)); refine bytesLit.step 22 5 _ ([120, 110, 45, 45, 97] : List Int) t101 A1.out rfl rfl rfl Try.underlying22 Try.underlying5 rfl rfl (by decide) (by decide) ?_; intro v102 w12 ho0 hb; have n0_ := Aside0.mk (Kd.V_lower (Kd.V_mono (ok' := fun k_ => True) ho0 (fun k_ hk_ => trivial)) (below_size (by repeat (first | (with_reducible first | exact HB.out | apply below_alloc | apply pw_below_drewN | apply below_drew1) | exact HB.out)))); have n1_ := Aside0.mk (below_step (by repeat (first | (with_reducible first | exact HB.out | apply below_alloc | apply pw_below_drewN | apply below_drew1) | exact HB.out)) hb); clear HB; have HO103 := n0_; have HB := n1_; clear n0_ n1_; (try clear hb); (try clear hb2); (try clear hk); (try clear hi); (try clear ho0); obtain ⟨Ao13, co13, eo13⟩ := Kd.V_slice HO103.out; subst eo13) | ((with_reducible refine gate_callee (f := 17) rfl ?_); refine goesL_ (some 3) rfl rfl Try.func17 (by kernel_rfl) rfl #[.slice Ao13 t101.length co13] rfl (by (try simp only [List.map_toArray, List.map_cons, List.map_nil]); first | done | rfl | (simp only [List.length_drop, List.length_take]; rfl)) ?_; (with_reducible refine (ldh_Kind.calls k _ _ t101 t104 _ ?side1 ?side2 A2.out).mono ?_); (case side1 => repeat (first | exact (Kd.V_reads' HO103.out).2.2 | (with_reducible refine Kd.C_alloc ?_ _) | (with_reducible refine Kd.C_drewN ?_ _) | (with_reducible refine Kd.C_drew ?_))); (case side2 => exact (Kd.V_reads' HO103.out).2.1); rintro e w14 ⟨rfl, hb⟩; refine ⟨_, rfl, ?_⟩; have n0_ := Aside0.mk (Kd.V_below (by (with_reducible repeat (first | apply Kd.V_alloc | apply Kd.V_drewN | apply Kd.V_drew)); exact HO103.out) hb); have n1_ := Aside0.mk (below_step (by repeat (first | (with_reducible first | exact HB.out | apply below_alloc | apply pw_below_drewN | apply below_drew1) | exact HB.out)) hb); clear HO103; clear HB; have HO103 := n0_; have HB := n1_; clear n0_ n1_; (try clear hb); (try clear hb2); (try clear hk); (try clear hi)) | ((with_reducible refine gate_dst (N := 7) rfl ?_); (try (refine gate_guard (by rfl) ?_; dsimp only)); refine bytesLit.step 22 5 _ ([97, 98, 45, 45, 99] : List Int) t105 A4.out rfl rfl rfl Try.underlying22 Try.underlying5 rfl rfl (by decide) (by decide) ?_; intro v106 w15 ho0 hb; have n0_ := Aside0.mk (Kd.V_below (by (with_reducible repeat (first | apply Kd.V_alloc | apply Kd.V_drewN | apply Kd.V_drew)); exact HO103.out) hb); have n1_ := Aside0.mk (Kd.V_lower (Kd.V_mono (ok' := fun k_ => True) ho0 (fun k_ hk_ => trivial)) (below_size (by repeat (first | (with_reducible first | exact HB.out | apply below_alloc | apply pw_below_drewN | apply below_drew1) | exact HB.out)))); have n2_ := Aside0.mk (below_step (by repeat (first | (with_reducible first | exact HB.out | apply below_alloc | apply pw_below_drewN | apply below_drew1) | exact HB.out)) hb); clear HO103; clear HB; have HO103 := n0_; have HO107 := n1_; have HB := n2_; clear n0_ n1_ n2_; (try clear hb); (try clear hb2); (try clear hk); (try clear hi); (try clear ho0); obtain ⟨Ao16, co16, eo16⟩ := Kd.V_slice HO107.out; subst eo16) | (go_at_call 17; (with_reducible refine (ldh_Kind.calls k _ _ t105 t108 _ ?side1 ?side2 A5.out).mono ?_); (case side1 => repeat (first | exact (Kd.V_reads' HO107.out).2.2 | (with_reducible refine Kd.C_alloc ?_ _) | (with_reducible refine Kd.C_drewN ?_ _) | (with_reducible refine Kd.C_drew ?_))); (case side2 => exact (Kd.V_reads' HO107.out).2.1); rintro e w17 ⟨rfl, hb⟩; have n0_ := Aside0.mk (Kd.V_below (by (with_reducible repeat (first | apply Kd.V_alloc | apply Kd.V_drewN | apply Kd.V_drew)); exact HO103.out) hb); have n1_ := Aside0.mk (Kd.V_below (by (with_reducible repeat (first | apply Kd.V_alloc | apply Kd.V_drewN | apply Kd.V_drew)); exact HO107.out) hb); have n2_ := Aside0.mk (below_step (by repeat (first | (with_reducible first | exact HB.out | apply below_alloc | apply pw_below_drewN | apply below_drew1) | exact HB.out)) hb); clear HO103; clear HO107; clear HB; have HO103 := n0_; have HO107 := n1_; have HB := n2_; clear n0_ n1_ n2_; (try clear hb); (try clear hb2); (try clear hk); (try clear hi)) | ((with_reducible refine gate_dst (N := 13) rfl ?_); (try (refine gate_guard (by rfl) ?_; dsimp only)); refine bytesLit.step 22 5 _ ([97, 45, 98] : List Int) t109 A7.out rfl rfl rfl Try.underlying22 Try.underlying5 rfl rfl (by decide) (by decide) ?_; intro v110 w18 ho0 hb; have n0_ := Aside0.mk (Kd.V_below (by (with_reducible repeat (first | apply Kd.V_alloc | apply Kd.V_drewN | apply Kd.V_drew)); exact HO103.out) hb); have n1_ := Aside0.mk (Kd.V_below (by (with_reducible repeat (first | apply Kd.V_alloc | apply Kd.V_drewN | apply Kd.V_drew)); exact HO107.out) hb); have n2_ := Aside0.mk (Kd.V_lower (Kd.V_mono (ok' := fun k_ => True) ho0 (fun k_ hk_ => trivial)) (below_size (by repeat (first | (with_reducible first | exact HB.out | apply below_alloc | apply pw_below_drewN | apply below_drew1) | exact HB.out)))); have n3_ := Aside0.mk (below_step (by repeat (first | (with_reducible first | exact HB.out | apply below_alloc | apply pw_below_drewN | apply below_drew1) | exact HB.out)) hb); clear HO103; clear HO107; clear HB; have HO103 := n0_; have HO107 := n1_; have HO111 := n2_; have HB := n3_; clear n0_ n1_ n2_ n3_; (try clear hb); (try clear hb2); (try clear hk); (try clear hi); (try clear ho0); obtain ⟨Ao19, co19, eo19⟩ := Kd.V_slice HO111.out; subst eo19) | (go_at_call 17; (with_reducible refine (ldh_Kind.calls k _ _ t109 t112 _ ?side1 ?side2 A8.out).mono ?_); (case side1 => repeat (first | exact (Kd.V_reads' HO111.out).2.2 | (with_reducible refine Kd.C_alloc ?_ _) | (with_reducible refine Kd.C_drewN ?_ _) | (with_reducible refine Kd.C_drew ?_))); (case side2 => exact (Kd.V_reads' HO111.out).2.1); rintro e w20 ⟨rfl, hb⟩; have n0_ := Aside0.mk (Kd.V_below (by (with_reducible repeat (first | apply Kd.V_alloc | apply Kd.V_drewN | apply Kd.V_drew)); exact HO103.out) hb); have n1_ := Aside0.mk (Kd.V_below (by (with_reducible repeat (first | apply Kd.V_alloc | apply Kd.V_drewN | apply Kd.V_drew)); exact HO107.out) hb); have n2_ := Aside0.mk (Kd.V_below (by (with_reducible repeat (first | apply Kd.V_alloc | apply Kd.V_drewN | apply Kd.V_drew)); exact HO111.out) hb); have n3_ := Aside0.mk (below_step (by repeat (first | (with_reducible first | exact HB.out | apply below_alloc | apply pw_below_drewN | apply below_drew1) | exact HB.out)) hb); clear HO103; clear HO107; clear HO111; clear HB; have HO103 := n0_; have HO107 := n1_; have HO111 := n2_; have HB := n3_; clear n0_ n1_ n2_ n3_; (try clear hb); (try clear hb2); (try clear hk); (try clear hi)) | ((with_reducible refine gate_dst (N := 19) rfl ?_); (try (refine gate_guard (by rfl) ?_; dsimp only)); refine bytesLit.step 22 5 _ ([45, 97] : List Int) t113 A10.out rfl rfl rfl Try.underlying22 Try.underlying5 rfl rfl (by decide) (by decide) ?_; intro v114 w21 ho0 hb; have n0_ := Aside0.mk (Kd.V_below (by (with_reducible repeat (first | apply Kd.V_alloc | apply Kd.V_drewN | apply Kd.V_drew)); exact HO103.out) hb); have n1_ := Aside0.mk (Kd.V_below (by (with_reducible repeat (first | apply Kd.V_alloc | apply Kd.V_drewN | apply Kd.V_drew)); exact HO107.out) hb); have n2_ := Aside0.mk (Kd.V_below (by (with_reducible repeat (first | apply Kd.V_alloc | apply Kd.V_drewN | apply Kd.V_drew)); exact HO111.out) hb); have n3_ := Aside0.mk (Kd.V_lower (Kd.V_mono (ok' := fun k_ => True) ho0 (fun k_ hk_ => trivial)) (below_size (by repeat (first | (with_reducible first | exact HB.out | apply below_alloc | apply pw_below_drewN | apply below_drew1) | exact HB.out)))); have n4_ := Aside0.mk (below_step (by repeat (first | (with_reducible first | exact HB.out | apply below_alloc | apply pw_below_drewN | apply below_drew1) | exact HB.out)) hb); clear HO103; clear HO107; clear HO111; clear HB; have HO103 := n0_; have HO107 := n1_; have HO111 := n2_; have HO115 := n3_; have HB := n4_; clear n0_ n1_ n2_ n3_ n4_; (try clear hb); (try clear hb2); (try clear hk); (try clear hi); (try clear ho0); obtain ⟨Ao22, co22, eo22⟩ := Kd.V_slice HO115.out; subst eo22) | (go_at_call 17; (with_reducible refine (ldh_Kind.calls k _ _ t113 t116 _ ?side1 ?side2 A11.out).mono ?_); (case side1 => repeat (first | exact (Kd.V_reads' HO115.out).2.2 | (with_reducible refine Kd.C_alloc ?_ _) | (with_reducible refine Kd.C_drewN ?_ _) | (with_reducible refine Kd.C_drew ?_))); (case side2 => exact (Kd.V_reads' HO115.out).2.1); rintro e w23 ⟨rfl, hb⟩; have n0_ := Aside0.mk (Kd.V_below (by (with_reducible repeat (first | apply Kd.V_alloc | apply Kd.V_drewN | apply Kd.V_drew)); exact HO103.out) hb); have n1_ := Aside0.mk (Kd.V_below (by (with_reducible repeat (first | apply Kd.V_alloc | apply Kd.V_drewN | apply Kd.V_drew)); exact HO107.out) hb); have n2_ := Aside0.mk (Kd.V_below (by (with_reducible repeat (first | apply Kd.V_alloc | apply Kd.V_drewN | apply Kd.V_drew)); exact HO111.out) hb); have n3_ := Aside0.mk (Kd.V_below (by (with_reducible repeat (first | apply Kd.V_alloc | apply Kd.V_drewN | apply Kd.V_drew)); exact HO115.out) hb); have n4_ := Aside0.mk (below_step (by repeat (first | (with_reducible first | exact HB.out | apply below_alloc | apply pw_below_drewN | apply below_drew1) | exact HB.out)) hb); clear HO103; clear HO107; clear HO111; clear HO115; clear HB; have HO103 := n0_; have HO107 := n1_; have HO111 := n2_; have HO115 := n3_; have HB := n4_; clear n0_ n1_ n2_ n3_ n4_; (try clear hb); (try clear hb2); (try clear hk); (try clear hi)))
        go_ret
        exact ⟨by first | rfl | (simp [errW_none, errW_some] <;> rfl) | (simp [*, errW_none, errW_some] <;> rfl), by repeat (first | (with_reducible first | exact HB.out | apply below_alloc | apply pw_below_drewN | apply below_drew1) | exact HB.out)⟩
      · rw [if_neg c9] at H
        have c9b0 : (t112 == 1) = false := beq_eq_false_iff_ne.mpr c9
        have c9b1 : (t112 != 1) = true := bne_iff_ne.mpr c9
        obtain rfl := Option.some.inj H
        go_enter Try.func15, Try.ntmps15
        go_wp2_with (first | ((with_reducible refine gate_dst (N := 2) rfl ?_); (try (refine gate_guard (by rfl) ?_; dsimp only)); refine bytesLit.step 22 5 _ ([120, 110, 45, 45, 97] : List Int) t101 A1.out rfl rfl rfl Try.underlying22 Try.underlying5 rfl rfl (by decide) (by decide) ?_; intro v102 w24 ho0 hb; have n0_ := Aside0.mk (Kd.V_lower (Kd.V_mono (ok' := fun k_ => True) ho0 (fun k_ hk_ => trivial)) (below_size (by repeat (first | (with_reducible first | exact HB.out | apply below_alloc | apply pw_below_drewN | apply below_drew1) | exact HB.out)))); have n1_ := Aside0.mk (below_step (by repeat (first | (with_reducible first | exact HB.out | apply below_alloc | apply pw_below_drewN | apply below_drew1) | exact HB.out)) hb); clear HB; have HO103 := n0_; have HB := n1_; clear n0_ n1_; (try clear hb); (try clear hb2); (try clear hk); (try clear hi); (try clear ho0); obtain ⟨Ao25, co25, eo25⟩ := Kd.V_slice HO103.out; subst eo25) | ((with_reducible refine gate_callee (f := 17) rfl ?_); refine goesL_ (some 3) rfl rfl Try.func17 (by kernel_rfl) rfl #[.slice Ao25 t101.length co25] rfl (by (try simp only [List.map_toArray, List.map_cons, List.map_nil]); first | done | rfl | (simp only [List.length_drop, List.length_take]; rfl)) ?_; (with_reducible refine (ldh_Kind.calls k _ _ t101 t104 _ ?side1 ?side2 A2.out).mono ?_); (case side1 => repeat (first | exact (Kd.V_reads' HO103.out).2.2 | (with_reducible refine Kd.C_alloc ?_ _) | (with_reducible refine Kd.C_drewN ?_ _) | (with_reducible refine Kd.C_drew ?_))); (case side2 => exact (Kd.V_reads' HO103.out).2.1); rintro e w26 ⟨rfl, hb⟩; refine ⟨_, rfl, ?_⟩; have n0_ := Aside0.mk (Kd.V_below (by (with_reducible repeat (first | apply Kd.V_alloc | apply Kd.V_drewN | apply Kd.V_drew)); exact HO103.out) hb); have n1_ := Aside0.mk (below_step (by repeat (first | (with_reducible first | exact HB.out | apply below_alloc | apply pw_below_drewN | apply below_drew1) | exact HB.out)) hb); clear HO103; clear HB; have HO103 := n0_; have HB := n1_; clear n0_ n1_; (try clear hb); (try clear hb2); (try clear hk); (try clear hi)) | ((with_reducible refine gate_dst (N := 7) rfl ?_); (try (refine gate_guard (by rfl) ?_; dsimp only)); refine bytesLit.step 22 5 _ ([97, 98, 45, 45, 99] : List Int) t105 A4.out rfl rfl rfl Try.underlying22 Try.underlying5 rfl rfl (by decide) (by decide) ?_; intro v106 w27 ho0 hb; have n0_ := Aside0.mk (Kd.V_below (by (with_reducible repeat (first | apply Kd.V_alloc | apply Kd.V_drewN | apply Kd.V_drew)); exact HO103.out) hb); have n1_ := Aside0.mk (Kd.V_lower (Kd.V_mono (ok' := fun k_ => True) ho0 (fun k_ hk_ => trivial)) (below_size (by repeat (first | (with_reducible first | exact HB.out | apply below_alloc | apply pw_below_drewN | apply below_drew1) | exact HB.out)))); have n2_ := Aside0.mk (below_step (by repeat (first | (with_reducible first | exact HB.out | apply below_alloc | apply pw_below_drewN | apply below_drew1) | exact HB.out)) hb); clear HO103; clear HB; have HO103 := n0_; have HO107 := n1_; have HB := n2_; clear n0_ n1_ n2_; (try clear hb); (try clear hb2); (try clear hk); (try clear hi); (try clear ho0); obtain ⟨Ao28, co28, eo28⟩ := Kd.V_slice HO107.out; subst eo28) | (go_at_call 17; (with_reducible refine (ldh_Kind.calls k _ _ t105 t108 _ ?side1 ?side2 A5.out).mono ?_); (case side1 => repeat (first | exact (Kd.V_reads' HO107.out).2.2 | (with_reducible refine Kd.C_alloc ?_ _) | (with_reducible refine Kd.C_drewN ?_ _) | (with_reducible refine Kd.C_drew ?_))); (case side2 => exact (Kd.V_reads' HO107.out).2.1); rintro e w29 ⟨rfl, hb⟩; have n0_ := Aside0.mk (Kd.V_below (by (with_reducible repeat (first | apply Kd.V_alloc | apply Kd.V_drewN | apply Kd.V_drew)); exact HO103.out) hb); have n1_ := Aside0.mk (Kd.V_below (by (with_reducible repeat (first | apply Kd.V_alloc | apply Kd.V_drewN | apply Kd.V_drew)); exact HO107.out) hb); have n2_ := Aside0.mk (below_step (by repeat (first | (with_reducible first | exact HB.out | apply below_alloc | apply pw_below_drewN | apply below_drew1) | exact HB.out)) hb); clear HO103; clear HO107; clear HB; have HO103 := n0_; have HO107 := n1_; have HB := n2_; clear n0_ n1_ n2_; (try clear hb); (try clear hb2); (try clear hk); (try clear hi)) | ((with_reducible refine gate_dst (N := 13) rfl ?_); (try (refine gate_guard (by rfl) ?_; dsimp only)); refine bytesLit.step 22 5 _ ([97, 45, 98] : List Int) t109 A7.out rfl rfl rfl Try.underlying22 Try.underlying5 rfl rfl (by decide) (by decide) ?_; intro v110 w30 ho0 hb; have n0_ := Aside0.mk (Kd.V_below (by (with_reducible repeat (first | apply Kd.V_alloc | apply Kd.V_drewN | apply Kd.V_drew)); exact HO103.out) hb); have n1_ := Aside0.mk (Kd.V_below (by (with_reducible repeat (first | apply Kd.V_alloc | apply Kd.V_drewN | apply Kd.V_drew)); exact HO107.out) hb); have n2_ := Aside0.mk (Kd.V_lower (Kd.V_mono (ok' := fun k_ => True) ho0 (fun k_ hk_ => trivial)) (below_size (by repeat (first | (with_reducible first | exact HB.out | apply below_alloc | apply pw_below_drewN | apply below_drew1) | exact HB.out)))); have n3_ := Aside0.mk (below_step (by repeat (first | (with_reducible first | exact HB.out | apply below_alloc | apply pw_below_drewN | apply below_drew1) | exact HB.out)) hb); clear HO103; clear HO107; clear HB; have HO103 := n0_; have HO107 := n1_; have HO111 := n2_; have HB := n3_; clear n0_ n1_ n2_ n3_; (try clear hb); (try clear hb2); (try clear hk); (try clear hi); (try clear ho0); obtain ⟨Ao31, co31, eo31⟩ := Kd.V_slice HO111.out; subst eo31) | (go_at_call 17; (with_reducible refine (ldh_Kind.calls k _ _ t109 t112 _ ?side1 ?side2 A8.out).mono ?_); (case side1 => repeat (first | exact (Kd.V_reads' HO111.out).2.2 | (with_reducible refine Kd.C_alloc ?_ _) | (with_reducible refine Kd.C_drewN ?_ _) | (with_reducible refine Kd.C_drew ?_))); (case side2 => exact (Kd.V_reads' HO111.out).2.1); rintro e w32 ⟨rfl, hb⟩; have n0_ := Aside0.mk (Kd.V_below (by (with_reducible repeat (first | apply Kd.V_alloc | apply Kd.V_drewN | apply Kd.V_drew)); exact HO103.out) hb); have n1_ := Aside0.mk (Kd.V_below (by (with_reducible repeat (first | apply Kd.V_alloc | apply Kd.V_drewN | apply Kd.V_drew)); exact HO107.out) hb); have n2_ := Aside0.mk (Kd.V_below (by (with_reducible repeat (first | apply Kd.V_alloc | apply Kd.V_drewN | apply Kd.V_drew)); exact HO111.out) hb); have n3_ := Aside0.mk (below_step (by repeat (first | (with_reducible first | exact HB.out | apply below_alloc | apply pw_below_drewN | apply below_drew1) | exact HB.out)) hb); clear HO103; clear HO107; clear HO111; clear HB; have HO103 := n0_; have HO107 := n1_; have HO111 := n2_; have HB := n3_; clear n0_ n1_ n2_ n3_; (try clear hb); (try clear hb2); (try clear hk); (try clear hi)))
        go_ret
        exact ⟨by first | rfl | (simp [errW_none, errW_some] <;> rfl) | (simp [*, errW_none, errW_some] <;> rfl), by repeat (first | (with_reducible first | exact HB.out | apply below_alloc | apply pw_below_drewN | apply below_drew1) | exact HB.out)⟩
    · rw [if_neg c6] at H
      have c6b0 : (t108 == 2) = false := beq_eq_false_iff_ne.mpr c6
      have c6b1 : (t108 != 2) = true := bne_iff_ne.mpr c6
      obtain rfl := Option.some.inj H
      go_enter Try.func15, Try.ntmps15
      go_wp2_with (first | ((with_reducible refine gate_dst (N := 2) rfl ?_); (try (refine gate_guard (by rfl) ?_; dsimp only)); refine bytesLit.step 22 5 _ ([120, 110, 45, 45, 97] : List Int) t101 A1.out rfl rfl rfl Try.underlying22 Try.underlying5 rfl rfl (by decide) (by decide) ?_; intro v102 w33 ho0 hb; have n0_ := Aside0.mk (Kd.V_lower (Kd.V_mono (ok' := fun k_ => True) ho0 (fun k_ hk_ => trivial)) (below_size (by repeat (first | (with_reducible first | exact HB.out | apply below_alloc | apply pw_below_drewN | apply below_drew1) | exact HB.out)))); have n1_ := Aside0.mk (below_step (by repeat (first | (with_reducible first | exact HB.out | apply below_alloc | apply pw_below_drewN | apply below_drew1) | exact HB.out)) hb); clear HB; have HO103 := n0_; have HB := n1_; clear n0_ n1_; (try clear hb); (try clear hb2); (try clear hk); (try clear hi); (try clear ho0); obtain ⟨Ao34, co34, eo34⟩ := Kd.V_slice HO103.out; subst eo34) | ((with_reducible refine gate_callee (f := 17) rfl ?_); refine goesL_ (some 3) rfl rfl Try.func17 (by kernel_rfl) rfl #[.slice Ao34 t101.length co34] rfl (by (try simp only [List.map_toArray, List.map_cons, List.map_nil]); first | done | rfl | (simp only [List.length_drop, List.length_take]; rfl)) ?_; (with_reducible refine (ldh_Kind.calls k _ _ t101 t104 _ ?side1 ?side2 A2.out).mono ?_); (case side1 => repeat (first | exact (Kd.V_reads' HO103.out).2.2 | (with_reducible refine Kd.C_alloc ?_ _) | (with_reducible refine Kd.C_drewN ?_ _) | (with_reducible refine Kd.C_drew ?_))); (case side2 => exact (Kd.V_reads' HO103.out).2.1); rintro e w35 ⟨rfl, hb⟩; refine ⟨_, rfl, ?_⟩; have n0_ := Aside0.mk (Kd.V_below (by (with_reducible repeat (first | apply Kd.V_alloc | apply Kd.V_drewN | apply Kd.V_drew)); exact HO103.out) hb); have n1_ := Aside0.mk (below_step (by repeat (first | (with_reducible first | exact HB.out | apply below_alloc | apply pw_below_drewN | apply below_drew1) | exact HB.out)) hb); clear HO103; clear HB; have HO103 := n0_; have HB := n1_; clear n0_ n1_; (try clear hb); (try clear hb2); (try clear hk); (try clear hi)) | ((with_reducible refine gate_dst (N := 7) rfl ?_); (try (refine gate_guard (by rfl) ?_; dsimp only)); refine bytesLit.step 22 5 _ ([97, 98, 45, 45, 99] : List Int) t105 A4.out rfl rfl rfl Try.underlying22 Try.underlying5 rfl rfl (by decide) (by decide) ?_; intro v106 w36 ho0 hb; have n0_ := Aside0.mk (Kd.V_below (by (with_reducible repeat (first | apply Kd.V_alloc | apply Kd.V_drewN | apply Kd.V_drew)); exact HO103.out) hb); have n1_ := Aside0.mk (Kd.V_lower (Kd.V_mono (ok' := fun k_ => True) ho0 (fun k_ hk_ => trivial)) (below_size (by repeat (first | (with_reducible first | exact HB.out | apply below_alloc | apply pw_below_drewN | apply below_drew1) | exact HB.out)))); have n2_ := Aside0.mk (below_step (by repeat (first | (with_reducible first | exact HB.out | apply below_alloc | apply pw_below_drewN | apply below_drew1) | exact HB.out)) hb); clear HO103; clear HB; have HO103 := n0_; have HO107 := n1_; have HB := n2_; clear n0_ n1_ n2_; (try clear hb); (try clear hb2); (try clear hk); (try clear hi); (try clear ho0); obtain ⟨Ao37, co37, eo37⟩ := Kd.V_slice HO107.out; subst eo37) | (go_at_call 17; (with_reducible refine (ldh_Kind.calls k _ _ t105 t108 _ ?side1 ?side2 A5.out).mono ?_); (case side1 => repeat (first | exact (Kd.V_reads' HO107.out).2.2 | (with_reducible refine Kd.C_alloc ?_ _) | (with_reducible refine Kd.C_drewN ?_ _) | (with_reducible refine Kd.C_drew ?_))); (case side2 => exact (Kd.V_reads' HO107.out).2.1); rintro e w38 ⟨rfl, hb⟩; have n0_ := Aside0.mk (Kd.V_below (by (with_reducible repeat (first | apply Kd.V_alloc | apply Kd.V_drewN | apply Kd.V_drew)); exact HO103.out) hb); have n1_ := Aside0.mk (Kd.V_below (by (with_reducible repeat (first | apply Kd.V_alloc | apply Kd.V_drewN | apply Kd.V_drew)); exact HO107.out) hb); have n2_ := Aside0.mk (below_step (by repeat (first | (with_reducible first | exact HB.out | apply below_alloc | apply pw_below_drewN | apply below_drew1) | exact HB.out)) hb); clear HO103; clear HO107; clear HB; have HO103 := n0_; have HO107 := n1_; have HB := n2_; clear n0_ n1_ n2_; (try clear hb); (try clear hb2); (try clear hk); (try clear hi)))
      go_ret
      exact ⟨by first | rfl | (simp [errW_none, errW_some] <;> rfl) | (simp [*, errW_none, errW_some] <;> rfl), by repeat (first | (with_reducible first | exact HB.out | apply below_alloc | apply pw_below_drewN | apply below_drew1) | exact HB.out)⟩
  · rw [if_neg c3] at H
    have c3b0 : (t104 == 3) = false := beq_eq_false_iff_ne.mpr c3
    have c3b1 : (t104 != 3) = true := bne_iff_ne.mpr c3
    obtain rfl := Option.some.inj H
    go_enter Try.func15, Try.ntmps15
    go_wp2_with (first | ((with_reducible refine gate_dst (N := 2) rfl ?_); (try (refine gate_guard (by rfl) ?_; dsimp only)); refine bytesLit.step 22 5 _ ([120, 110, 45, 45, 97] : List Int) t101 A1.out rfl rfl rfl Try.underlying22 Try.underlying5 rfl rfl (by decide) (by decide) ?_; intro v102 w39 ho0 hb; have n0_ := Aside0.mk (Kd.V_lower (Kd.V_mono (ok' := fun k_ => True) ho0 (fun k_ hk_ => trivial)) (below_size (by repeat (first | (with_reducible first | exact HB.out | apply below_alloc | apply pw_below_drewN | apply below_drew1) | exact HB.out)))); have n1_ := Aside0.mk (below_step (by repeat (first | (with_reducible first | exact HB.out | apply below_alloc | apply pw_below_drewN | apply below_drew1) | exact HB.out)) hb); clear HB; have HO103 := n0_; have HB := n1_; clear n0_ n1_; (try clear hb); (try clear hb2); (try clear hk); (try clear hi); (try clear ho0); obtain ⟨Ao40, co40, eo40⟩ := Kd.V_slice HO103.out; subst eo40) | ((with_reducible refine gate_callee (f := 17) rfl ?_); refine goesL_ (some 3) rfl rfl Try.func17 (by kernel_rfl) rfl #[.slice Ao40 t101.length co40] rfl (by (try simp only [List.map_toArray, List.map_cons, List.map_nil]); first | done | rfl | (simp only [List.length_drop, List.length_take]; rfl)) ?_; (with_reducible refine (ldh_Kind.calls k _ _ t101 t104 _ ?side1 ?side2 A2.out).mono ?_); (case side1 => repeat (first | exact (Kd.V_reads' HO103.out).2.2 | (with_reducible refine Kd.C_alloc ?_ _) | (with_reducible refine Kd.C_drewN ?_ _) | (with_reducible refine Kd.C_drew ?_))); (case side2 => exact (Kd.V_reads' HO103.out).2.1); rintro e w41 ⟨rfl, hb⟩; refine ⟨_, rfl, ?_⟩; have n0_ := Aside0.mk (Kd.V_below (by (with_reducible repeat (first | apply Kd.V_alloc | apply Kd.V_drewN | apply Kd.V_drew)); exact HO103.out) hb); have n1_ := Aside0.mk (below_step (by repeat (first | (with_reducible first | exact HB.out | apply below_alloc | apply pw_below_drewN | apply below_drew1) | exact HB.out)) hb); clear HO103; clear HB; have HO103 := n0_; have HB := n1_; clear n0_ n1_; (try clear hb); (try clear hb2); (try clear hk); (try clear hi)))
    go_ret
    exact ⟨by first | rfl | (simp [errW_none, errW_some] <;> rfl) | (simp [*, errW_none, errW_some] <;> rfl), by repeat (first | (with_reducible first | exact HB.out | apply below_alloc | apply pw_below_drewN | apply below_drew1) | exact HB.out)⟩

end Go.Proofs.Ytooiajkbpkfplaa.Q

-- from Qf16
-- Made by hp.py, a program of this session, with the kit's printer. Not trusted: Lean checks it.
namespace Go.Proofs.Ytooiajkbpkfplaa.Q
open Go.RowKit Go.Proofs.YtooiajkbpkfplaaW.PrintWords Go.Proofs.YtooiajkbpkfplaaW.PrintLast Go.Proofs.YtooiajkbpkfplaaW.PrintMore
attribute [local go_sem] max2_int min2_int max_two min_two max_three min_three max_four min_four   -- for this text's walks alone
set_option linter.unusedVariables false
set_option linter.unusedSimpArgs false

/-! ### paronymref11_Kind: function 16 -/
mutual
def paronymref11_Kind.j0 : Nat → ByteArray → Bool → Option (Int)
  | 0, _, _ => none
  | k + 1, x0, x27 => if x27 = true then (some 0) else (paronymref11_Kind.l0 k x0 0)
def paronymref11_Kind.l0 : Nat → ByteArray → Int → Option (Int)
  | 0, _, _ => none
  | k + 1, x0, x3 => if x3 < (x0.size : Int) then (if 0 ≤ x3 then (if (bt x0 x3) = 45 then (paronymref11_Kind.l0 k x0 (wrap64 (x3 + 1))) else (if (bt x0 x3) < 48 then (if (bt x0 x3) < 97 then (some 0) else (if (bt x0 x3) > 122 then (some 0) else (paronymref11_Kind.l0 k x0 (wrap64 (x3 + 1))))) else (if (bt x0 x3) > 57 then (if (bt x0 x3) < 97 then (some 0) else (if (bt x0 x3) > 122 then (some 0) else (paronymref11_Kind.l0 k x0 (wrap64 (x3 + 1))))) else (paronymref11_Kind.l0 k x0 (wrap64 (x3 + 1)))))) else (none)) else (if (x0.size : Int) < 4 then (paronymref11_Kind.j2 k x0 true) else (if 2 ≤ 4 then (if 4 ≤ (x0.size : Int) then (paronymref11_Kind.j2 k x0 ((x0.extract 2 4).toList != ([45, 45] : List UInt8))) else (none)) else (none)))
def paronymref11_Kind.j2 : Nat → ByteArray → Bool → Option (Int)
  | 0, _, _ => none
  | k + 1, x0, x62 => if x62 = true then (some 1) else (if (x0.size : Int) > 4 then (if 0 ≤ 4 then (if 4 ≤ (x0.size : Int) then (if (x0.extract 0 4).toList = ([120, 110, 45, 45] : List UInt8) then (some 3) else (some 2)) else (none)) else (none)) else (some 2))
end
def paronymref11_Kind.f (k : Nat) (a0 : ByteArray) : Option (Int) := (paronymref11_Lower.f k a0).bind fun t101 => (if (t101.size : Int) < 1 then (paronymref11_Kind.j0 k t101 true) else (if (t101.size : Int) > 63 then (paronymref11_Kind.j0 k t101 true) else (if 0 < (t101.size : Int) then (if (bt t101 0) = 45 then (paronymref11_Kind.j0 k t101 true) else (if 0 ≤ (wrap64 ((t101.size : Int) - 1)) then (if (wrap64 ((t101.size : Int) - 1)) < (t101.size : Int) then (paronymref11_Kind.j0 k t101 ((bt t101 (wrap64 ((t101.size : Int) - 1))) == 45)) else (none)) else (none))) else (none))))
theorem paronymref11_Kind.mono_l : ∀ k, (∀ y0 y1, LeO (paronymref11_Kind.j0 k y0 y1) (paronymref11_Kind.j0 (k + 1) y0 y1)) ∧ (∀ y0 y1, LeO (paronymref11_Kind.l0 k y0 y1) (paronymref11_Kind.l0 (k + 1) y0 y1)) ∧ (∀ y0 y1, LeO (paronymref11_Kind.j2 k y0 y1) (paronymref11_Kind.j2 (k + 1) y0 y1))
  | 0 => ⟨fun _ _ r h => by simp [paronymref11_Kind.j0] at h, fun _ _ r h => by simp [paronymref11_Kind.l0] at h, fun _ _ r h => by simp [paronymref11_Kind.j2] at h⟩
  | k + 1 => by
    obtain ⟨ih0, ih1, ih2⟩ := paronymref11_Kind.mono_l k
    refine ⟨?_, ?_, ?_⟩
    · intro y0 y1
      unfold paronymref11_Kind.j0
      repeat' first
      | (with_reducible exact ih0 _ _)
      | (with_reducible exact ih1 _ _)
      | (with_reducible exact ih2 _ _)
      | (with_reducible exact paronymref11_Lower.mono _ _)
      | (with_reducible exact LeO.refl _)
      | (with_reducible exact LeO.none _)
      | (with_reducible refine LeO.ite ?_ ?_)
      | (with_reducible refine LeO.bind ?_ (fun _ => ?_))
      | exact ih0 _ _
      | exact ih1 _ _
      | exact ih2 _ _
      | exact paronymref11_Lower.mono _ _
      | exact LeO.none _
      | refine LeO.ite ?_ ?_
      | refine LeO.bind ?_ (fun _ => ?_)
    · intro y0 y1
      unfold paronymref11_Kind.l0
      repeat' first
      | (with_reducible exact ih0 _ _)
      | (with_reducible exact ih1 _ _)
      | (with_reducible exact ih2 _ _)
      | (with_reducible exact paronymref11_Lower.mono _ _)
      | (with_reducible exact LeO.refl _)
      | (with_reducible exact LeO.none _)
      | (with_reducible refine LeO.ite ?_ ?_)
      | (with_reducible refine LeO.bind ?_ (fun _ => ?_))
      | exact ih0 _ _
      | exact ih1 _ _
      | exact ih2 _ _
      | exact paronymref11_Lower.mono _ _
      | exact LeO.none _
      | refine LeO.ite ?_ ?_
      | refine LeO.bind ?_ (fun _ => ?_)
    · intro y0 y1
      unfold paronymref11_Kind.j2
      repeat' first
      | (with_reducible exact ih0 _ _)
      | (with_reducible exact ih1 _ _)
      | (with_reducible exact ih2 _ _)
      | (with_reducible exact paronymref11_Lower.mono _ _)
      | (with_reducible exact LeO.refl _)
      | (with_reducible exact LeO.none _)
      | (with_reducible refine LeO.ite ?_ ?_)
      | (with_reducible refine LeO.bind ?_ (fun _ => ?_))
      | exact ih0 _ _
      | exact ih1 _ _
      | exact ih2 _ _
      | exact paronymref11_Lower.mono _ _
      | exact LeO.none _
      | refine LeO.ite ?_ ?_
      | refine LeO.bind ?_ (fun _ => ?_)
theorem paronymref11_Kind.mono : ∀ a0 k, LeO (paronymref11_Kind.f k a0) (paronymref11_Kind.f (k + 1) a0) := by
  intro a0 k
  obtain ⟨ih0, ih1, ih2⟩ := paronymref11_Kind.mono_l k
  unfold paronymref11_Kind.f
  repeat' first
      | (with_reducible exact ih0 _ _)
      | (with_reducible exact ih1 _ _)
      | (with_reducible exact ih2 _ _)
      | (with_reducible exact paronymref11_Lower.mono _ _)
      | (with_reducible exact LeO.refl _)
      | (with_reducible exact LeO.none _)
      | (with_reducible refine LeO.ite ?_ ?_)
      | (with_reducible refine LeO.bind ?_ (fun _ => ?_))
      | exact ih0 _ _
      | exact ih1 _ _
      | exact ih2 _ _
      | exact paronymref11_Lower.mono _ _
      | exact LeO.none _
      | refine LeO.ite ?_ ?_
      | refine LeO.bind ?_ (fun _ => ?_)
set_option maxHeartbeats 8000000 in
set_option maxRecDepth 100000 in
theorem paronymref11_Kind.calls (k : Nat) (a0 : ByteArray) (r : Int) (w : World) (h : paronymref11_Kind.f k a0 = some r) :
    Calls Try.prog 16 #[.string a0] w fun e w' => e = .returned (.int .i64 r) ∧ Below w.heap.size w w' := by
  have HB := Aside0.mk (Below.refl w.heap.size w)
  have H : ((paronymref11_Lower.f k a0).bind fun t101 => (if (t101.size : Int) < 1 then (paronymref11_Kind.j0 k t101 true) else (if (t101.size : Int) > 63 then (paronymref11_Kind.j0 k t101 true) else (if 0 < (t101.size : Int) then (if (bt t101 0) = 45 then (paronymref11_Kind.j0 k t101 true) else (if 0 ≤ (wrap64 ((t101.size : Int) - 1)) then (if (wrap64 ((t101.size : Int) - 1)) < (t101.size : Int) then (paronymref11_Kind.j0 k t101 ((bt t101 (wrap64 ((t101.size : Int) - 1))) == 45)) else (none)) else (none))) else (none))))) = some r := h
  clear h
  replace H := Option.bind_eq_some_iff.mp H
  obtain ⟨t101, A20, H⟩ := H
  replace H : (if (t101.size : Int) < 1 then (paronymref11_Kind.j0 k t101 true) else (if (t101.size : Int) > 63 then (paronymref11_Kind.j0 k t101 true) else (if 0 < (t101.size : Int) then (if (bt t101 0) = 45 then (paronymref11_Kind.j0 k t101 true) else (if 0 ≤ (wrap64 ((t101.size : Int) - 1)) then (if (wrap64 ((t101.size : Int) - 1)) < (t101.size : Int) then (paronymref11_Kind.j0 k t101 ((bt t101 (wrap64 ((t101.size : Int) - 1))) == 45)) else (none)) else (none))) else (none)))) = some r := H
  have A2 := Aside0.mk A20
  clear A20
  have HC3 := Aside0.mk H
  clear H
  go_enter Try.func16, Try.ntmps16
  go_upto_region 2 with (first | ((with_reducible refine gate_callee (f := 20) rfl ?_); refine goesL_ (some 6) rfl rfl Try.func20 (by kernel_rfl) rfl #[.string a0] rfl (by (try simp only [List.map_toArray, List.map_cons, List.map_nil]); first | done | rfl | (simp only [List.length_drop, List.length_take]; rfl)) ?_; (with_reducible refine (paronymref11_Lower.calls k a0 t101 _ A2.out).mono ?_); rintro e w4 ⟨rfl, hb⟩; refine ⟨_, rfl, ?_⟩; have n0_ := Aside0.mk (below_step (by repeat (first | (with_reducible first | exact HB.out | apply below_alloc | apply pw_below_drewN | apply below_drew1) | exact HB.out)) hb); clear HB; have HB := n0_; clear n0_; (try clear hb); (try clear hb2); (try clear hk); (try clear hi)))
  (try simp only [Act.put, List.setIfInBounds_toArray, List.set_cons_zero, List.set_cons_succ])
  go_cut [27] (fun v27 wc => ∃ (kq : Nat) (x27_2 : Bool), v27 = .bool x27_2 ∧ Aside0 (paronymref11_Kind.j0 kq t101 x27_2 = some r) ∧ Aside0 (kq ≤ k) ∧ Aside0 (Below w.heap.size w wc))
  case first =>
    have H := HC3.out
    clear HC3
    by_cases c5 : (t101.size : Int) < 1
    · rw [if_pos c5] at H
      have c5b0 : decide ((t101.size : Int) < 1) = true := decide_eq_true c5
      have c5b1 : decide (t101.size < 1) = true := decide_eq_true (by omega)
      clear c5
      (first | rw [c5b0] | (simp only [i64_w, i32_w]; rw [c5b0]) | rw [c5b1] | (simp only [i64_w, i32_w]; rw [c5b1]) | skip)
      have H' := Aside0.mk H
      clear H
      go_wp2
      go_meet
      case rel => exact ⟨_, (true), (by first | rfl | (simp; done) | (simp [*]; done)), H', ⟨by first | omega | exact Nat.le_refl _⟩, ⟨by repeat (first | (with_reducible first | exact HB.out | apply below_alloc | apply pw_below_drewN | apply below_drew1) | exact HB.out)⟩⟩
    · rw [if_neg c5] at H
      have c5b0 : decide ((t101.size : Int) < 1) = false := decide_eq_false c5
      have c5b1 : decide (t101.size < 1) = false := decide_eq_false (by omega)
      clear c5
      (first | rw [c5b0] | (simp only [i64_w, i32_w]; rw [c5b0]) | rw [c5b1] | (simp only [i64_w, i32_w]; rw [c5b1]) | skip)
      by_cases c6 : (t101.size : Int) > 63
      · rw [if_pos c6] at H
        have c6b0 : decide (63 < (t101.size : Int)) = true := decide_eq_true c6
        have c6b1 : decide (63 < t101.size) = true := decide_eq_true (by omega)
        clear c6
        have H' := Aside0.mk H
        clear H
        go_wp2
        go_meet
        case rel => exact ⟨_, (true), (by first | rfl | (simp; done) | (simp [*]; done)), H', ⟨by first | omega | exact Nat.le_refl _⟩, ⟨by repeat (first | (with_reducible first | exact HB.out | apply below_alloc | apply pw_below_drewN | apply below_drew1) | exact HB.out)⟩⟩
      · rw [if_neg c6] at H
        have c6b0 : decide (63 < (t101.size : Int)) = false := decide_eq_false c6
        have c6b1 : decide (63 < t101.size) = false := decide_eq_false (by omega)
        clear c6
        by_cases c7 : 0 < (t101.size : Int)
        · rw [if_pos c7] at H
          have c7b0 : decide (0 < (t101.size : Int)) = true := decide_eq_true c7
          have c7b1 : decide (0 < t101.size) = true := decide_eq_true (by omega)
          clear c7
          by_cases c9 : (bt t101 0) = 45
          · rw [if_pos c9] at H
            have c9b0 : ((bt t101 0) == 45) = true := beq_iff_eq.mpr c9
            have c9b1 : ((bt t101 0) != 45) = false := bne_eq_false_iff_eq.mpr c9
            clear c9
            have H' := Aside0.mk H
            clear H
            have p8 : 0 ≤ (0 : Int) := (by omega)
            have q8 : 0 < t101.size := (by have : (0 : Int) < (t101.size : Int) := of_decide_eq_true (by first | (with_reducible assumption) | assumption); omega)
            have hx8 : ∀ h : 0 < t101.size, ((t101[0]'h).toNat : Int) = bt t101 0 := bt_at t101 0
            clear p8
            have qi8 : (0 < (t101.size : Int)) = True := eq_true (of_decide_eq_true (by first | (with_reducible assumption) | assumption))
            replace q8 := eq_true q8
            go_wp2
            go_meet
            case rel => exact ⟨_, (true), (by first | rfl | (simp; done) | (simp [*]; done)), H', ⟨by first | omega | exact Nat.le_refl _⟩, ⟨by repeat (first | (with_reducible first | exact HB.out | apply below_alloc | apply pw_below_drewN | apply below_drew1) | exact HB.out)⟩⟩
          · rw [if_neg c9] at H
            have c9b0 : ((bt t101 0) == 45) = false := beq_eq_false_iff_ne.mpr c9
            have c9b1 : ((bt t101 0) != 45) = true := bne_iff_ne.mpr c9
            obtain ⟨ji10, hji10⟩ : ∃ j_ : Int, (wrap64 ((t101.size : Int) - 1)) = j_ := ⟨_, rfl⟩
            replace H : (if 0 ≤ (ji10) then (if (ji10) < (t101.size : Int) then (paronymref11_Kind.j0 k t101 ((bt t101 (ji10)) == 45)) else (none)) else (none)) = some r := by first | (rw [hji10] at H; exact H) | (simp only [hji10] at H ⊢; exact H)
            have hji10w : (IntKind.i64.wrap ((t101.size : Int) - 1)) = ji10 := (i64_w _).trans hji10
            by_cases c11 : 0 ≤ (ji10)
            · rw [if_pos c11] at H
              have c11b0 : decide (0 ≤ (ji10)) = true := decide_eq_true c11
              clear c11
              by_cases c12 : (ji10) < (t101.size : Int)
              · rw [if_pos c12] at H
                have c12b0 : decide ((ji10) < (t101.size : Int)) = true := decide_eq_true c12
                clear c12
                have H' := Aside0.mk H
                clear H
                have p8 : 0 ≤ (0 : Int) := (by omega)
                have q8 : 0 < t101.size := (by have : (0 : Int) < (t101.size : Int) := of_decide_eq_true (by first | (with_reducible assumption) | assumption); omega)
                have hx8 : ∀ h : 0 < t101.size, ((t101[0]'h).toNat : Int) = bt t101 0 := bt_at t101 0
                clear p8
                have qi8 : (0 < (t101.size : Int)) = True := eq_true (of_decide_eq_true (by first | (with_reducible assumption) | assumption))
                replace q8 := eq_true q8
                have p13 : 0 ≤ ((ji10) : Int) := of_decide_eq_true (by first | (with_reducible assumption) | assumption)
                have q13 : (ji10) < (t101.size : Int) := of_decide_eq_true (by first | (with_reducible assumption) | assumption)
                have hx13 := bt_at t101 (ji10)
                replace p13 := eq_true p13
                replace q13 := eq_true q13
                go_wp2
                go_meet
                case rel => exact ⟨_, (((bt t101 (ji10)) == 45)), (by first | rfl | (simp; done) | (simp only [← hji10] <;> (first | rfl | simp)) | (simp [*]; done)), H', ⟨by first | omega | exact Nat.le_refl _⟩, ⟨by repeat (first | (with_reducible first | exact HB.out | apply below_alloc | apply pw_below_drewN | apply below_drew1) | exact HB.out)⟩⟩
              · rw [if_neg c12] at H
                exact absurd H (by simp)
            · rw [if_neg c11] at H
              exact absurd H (by simp)
        · rw [if_neg c7] at H
          exact absurd H (by simp)
  case rest =>
    clear HC3
    try clear c1
    try clear p1
    try clear q1
    try clear hx1
    try clear c2
    try clear p2
    try clear c5
    try clear c5b0
    try clear c5b1
    try clear c6
    try clear c6b0
    try clear c6b1
    try clear p6
    try clear c7
    try clear c7b0
    try clear c7b1
    try clear p8
    try clear q8
    try clear hx8
    try clear qi8
    try clear c9
    try clear c9b0
    try clear c9b1
    try clear c11
    try clear c11b0
    try clear c12
    try clear c12b0
    try clear p13
    try clear q13
    try clear hx13
    try clear p13
    try clear p8
    try clear q13
    try clear q8
    obtain ⟨kq, x27_2, rfl, HA, HJ2, HB⟩ := hcut
    cases kq with
    | zero => exact absurd HA.out (by simp [paronymref11_Kind.j0])
    | succ kj2 =>
      have H := HA.out
      clear HA
      simp only [paronymref11_Kind.j0] at H
      by_cases c14 : x27_2 = true
      · subst c14
        have H1 : (some 0) = some r := by rw [if_pos rfl] at H; exact H
        clear H
        have H := H1
        clear H1
        obtain rfl := Option.some.inj H
        go_wp2
        go_ret
        exact ⟨by first | rfl | (simp [errW_none, errW_some] <;> rfl) | (simp [*, errW_none, errW_some] <;> rfl), by repeat (first | (with_reducible first | exact HB.out | apply below_alloc | apply pw_below_drewN | apply below_drew1) | exact HB.out)⟩
      · replace c14 := Bool.eq_false_iff.mpr c14
        subst c14
        have H1 : (paronymref11_Kind.l0 kj2 t101 0) = some r := by rw [if_neg (show ¬ (false = true) by decide)] at H; exact H
        clear H
        have H := H1
        clear H1
        have H' := Aside0.mk H
        clear H
        go_wp2
        go_loopg [3] kj2 (fun kq v3 w' => ∃ (x3_2 : Int), v3 = .int .i64 x3_2 ∧ Aside0 (paronymref11_Kind.l0 kq t101 x3_2 = some r) ∧ Aside0 (kq ≤ kj2) ∧ Aside0 (Below w.heap.size w w'))
        case atStart => exact ⟨(0), (by first | rfl | (simp; done) | (simp [*]; done)), H', ⟨Nat.le_refl _⟩, ⟨by repeat (first | (with_reducible first | exact HB.out | apply below_alloc | apply pw_below_drewN | apply below_drew1) | exact HB.out)⟩⟩
        case round =>
          clear H'
          try clear c1
          try clear p1
          try clear q1
          try clear hx1
          try clear c2
          try clear p2
          try clear c5
          try clear c5b0
          try clear c5b1
          try clear c6
          try clear c6b0
          try clear c6b1
          try clear p6
          try clear c7
          try clear c7b0
          try clear c7b1
          try clear p8
          try clear q8
          try clear hx8
          try clear qi8
          try clear c9
          try clear c9b0
          try clear c9b1
          try clear c11
          try clear c11b0
          try clear c12
          try clear c12b0
          try clear p13
          try clear q13
          try clear hx13
          try clear c14
          try clear p1
          try clear p13
          try clear p2
          try clear p6
          try clear p8
          try clear q1
          try clear q13
          try clear q8
          obtain ⟨x3_2, rfl, HA, HK2, HB⟩ := hrel
          cases gk with
          | zero => exact absurd HA.out (by simp [paronymref11_Kind.l0])
          | succ k2 =>
            have H := HA.out
            clear HA
            simp only [paronymref11_Kind.l0] at H
            by_cases c15 : x3_2 < (t101.size : Int)
            · rw [if_pos c15] at H
              have c15b0 : decide (x3_2 < (t101.size : Int)) = true := decide_eq_true c15
              clear c15
              by_cases c16 : 0 ≤ x3_2
              · rw [if_pos c16] at H
                have c16b0 : decide (0 ≤ x3_2) = true := decide_eq_true c16
                clear c16
                by_cases c18 : (bt t101 x3_2) = 45
                · rw [if_pos c18] at H
                  have c18b0 : ((bt t101 x3_2) == 45) = true := beq_iff_eq.mpr c18
                  have c18b1 : ((bt t101 x3_2) != 45) = false := bne_eq_false_iff_eq.mpr c18
                  clear c18
                  have H' := Aside0.mk H
                  clear H
                  have p17 : 0 ≤ (x3_2 : Int) := of_decide_eq_true (by first | (with_reducible assumption) | assumption)
                  have q17 : x3_2 < (t101.size : Int) := of_decide_eq_true (by first | (with_reducible assumption) | assumption)
                  have hx17 := bt_at t101 x3_2
                  replace p17 := eq_true p17
                  replace q17 := eq_true q17
                  go_wp2
                  go_roundg k2
                  case measure => have := HJ2.out; have := HK2.out; omega
                  case rel => exact ⟨(wrap64 (x3_2 + 1)), (by first | rfl | (simp; done) | (simp [*]; done)), H', ⟨by have := HJ2.out; have := HK2.out; omega⟩, ⟨by repeat (first | (with_reducible first | exact HB.out | apply below_alloc | apply pw_below_drewN | apply below_drew1) | exact HB.out)⟩⟩
                · rw [if_neg c18] at H
                  have c18b0 : ((bt t101 x3_2) == 45) = false := beq_eq_false_iff_ne.mpr c18
                  have c18b1 : ((bt t101 x3_2) != 45) = true := bne_iff_ne.mpr c18
                  by_cases c19 : (bt t101 x3_2) < 48
                  · rw [if_pos c19] at H
                    have c19b0 : decide ((bt t101 x3_2) < 48) = true := decide_eq_true c19
                    clear c19
                    by_cases c20 : (bt t101 x3_2) < 97
                    · rw [if_pos c20] at H
                      have c20b0 : decide ((bt t101 x3_2) < 97) = true := decide_eq_true c20
                      clear c20
                      obtain rfl := Option.some.inj H
                      have p17 : 0 ≤ (x3_2 : Int) := of_decide_eq_true (by first | (with_reducible assumption) | assumption)
                      have q17 : x3_2 < (t101.size : Int) := of_decide_eq_true (by first | (with_reducible assumption) | assumption)
                      have hx17 := bt_at t101 x3_2
                      replace p17 := eq_true p17
                      replace q17 := eq_true q17
                      go_wp2
                      go_ret
                      exact ⟨by first | rfl | (simp [errW_none, errW_some] <;> rfl) | (simp [*, errW_none, errW_some] <;> rfl), by repeat (first | (with_reducible first | exact HB.out | apply below_alloc | apply pw_below_drewN | apply below_drew1) | exact HB.out)⟩
                    · rw [if_neg c20] at H
                      have c20b0 : decide ((bt t101 x3_2) < 97) = false := decide_eq_false c20
                      clear c20
                      by_cases c21 : (bt t101 x3_2) > 122
                      · rw [if_pos c21] at H
                        have c21b0 : decide (122 < (bt t101 x3_2)) = true := decide_eq_true c21
                        clear c21
                        obtain rfl := Option.some.inj H
                        have p17 : 0 ≤ (x3_2 : Int) := of_decide_eq_true (by first | (with_reducible assumption) | assumption)
                        have q17 : x3_2 < (t101.size : Int) := of_decide_eq_true (by first | (with_reducible assumption) | assumption)
                        have hx17 := bt_at t101 x3_2
                        replace p17 := eq_true p17
                        replace q17 := eq_true q17
                        go_wp2
                        go_ret
                        exact ⟨by first | rfl | (simp [errW_none, errW_some] <;> rfl) | (simp [*, errW_none, errW_some] <;> rfl), by repeat (first | (with_reducible first | exact HB.out | apply below_alloc | apply pw_below_drewN | apply below_drew1) | exact HB.out)⟩
                      · rw [if_neg c21] at H
                        have c21b0 : decide (122 < (bt t101 x3_2)) = false := decide_eq_false c21
                        clear c21
                        have H' := Aside0.mk H
                        clear H
                        have p17 : 0 ≤ (x3_2 : Int) := of_decide_eq_true (by first | (with_reducible assumption) | assumption)
                        have q17 : x3_2 < (t101.size : Int) := of_decide_eq_true (by first | (with_reducible assumption) | assumption)
                        have hx17 := bt_at t101 x3_2
                        replace p17 := eq_true p17
                        replace q17 := eq_true q17
                        go_wp2
                        go_roundg k2
                        case measure => have := HJ2.out; have := HK2.out; omega
                        case rel => exact ⟨(wrap64 (x3_2 + 1)), (by first | rfl | (simp; done) | (simp [*]; done)), H', ⟨by have := HJ2.out; have := HK2.out; omega⟩, ⟨by repeat (first | (with_reducible first | exact HB.out | apply below_alloc | apply pw_below_drewN | apply below_drew1) | exact HB.out)⟩⟩
                  · rw [if_neg c19] at H
                    have c19b0 : decide ((bt t101 x3_2) < 48) = false := decide_eq_false c19
                    clear c19
                    by_cases c22 : (bt t101 x3_2) > 57
                    · rw [if_pos c22] at H
                      have c22b0 : decide (57 < (bt t101 x3_2)) = true := decide_eq_true c22
                      clear c22
                      by_cases c23 : (bt t101 x3_2) < 97
                      · rw [if_pos c23] at H
                        have c23b0 : decide ((bt t101 x3_2) < 97) = true := decide_eq_true c23
                        clear c23
                        obtain rfl := Option.some.inj H
                        have p17 : 0 ≤ (x3_2 : Int) := of_decide_eq_true (by first | (with_reducible assumption) | assumption)
                        have q17 : x3_2 < (t101.size : Int) := of_decide_eq_true (by first | (with_reducible assumption) | assumption)
                        have hx17 := bt_at t101 x3_2
                        replace p17 := eq_true p17
                        replace q17 := eq_true q17
                        go_wp2
                        go_ret
                        exact ⟨by first | rfl | (simp [errW_none, errW_some] <;> rfl) | (simp [*, errW_none, errW_some] <;> rfl), by repeat (first | (with_reducible first | exact HB.out | apply below_alloc | apply pw_below_drewN | apply below_drew1) | exact HB.out)⟩
                      · rw [if_neg c23] at H
                        have c23b0 : decide ((bt t101 x3_2) < 97) = false := decide_eq_false c23
                        clear c23
                        by_cases c24 : (bt t101 x3_2) > 122
                        · rw [if_pos c24] at H
                          have c24b0 : decide (122 < (bt t101 x3_2)) = true := decide_eq_true c24
                          clear c24
                          obtain rfl := Option.some.inj H
                          have p17 : 0 ≤ (x3_2 : Int) := of_decide_eq_true (by first | (with_reducible assumption) | assumption)
                          have q17 : x3_2 < (t101.size : Int) := of_decide_eq_true (by first | (with_reducible assumption) | assumption)
                          have hx17 := bt_at t101 x3_2
                          replace p17 := eq_true p17
                          replace q17 := eq_true q17
                          go_wp2
                          go_ret
                          exact ⟨by first | rfl | (simp [errW_none, errW_some] <;> rfl) | (simp [*, errW_none, errW_some] <;> rfl), by repeat (first | (with_reducible first | exact HB.out | apply below_alloc | apply pw_below_drewN | apply below_drew1) | exact HB.out)⟩
                        · rw [if_neg c24] at H
                          have c24b0 : decide (122 < (bt t101 x3_2)) = false := decide_eq_false c24
                          clear c24
                          have H' := Aside0.mk H
                          clear H
                          have p17 : 0 ≤ (x3_2 : Int) := of_decide_eq_true (by first | (with_reducible assumption) | assumption)
                          have q17 : x3_2 < (t101.size : Int) := of_decide_eq_true (by first | (with_reducible assumption) | assumption)
                          have hx17 := bt_at t101 x3_2
                          replace p17 := eq_true p17
                          replace q17 := eq_true q17
                          go_wp2
                          go_roundg k2
                          case measure => have := HJ2.out; have := HK2.out; omega
                          case rel => exact ⟨(wrap64 (x3_2 + 1)), (by first | rfl | (simp; done) | (simp [*]; done)), H', ⟨by have := HJ2.out; have := HK2.out; omega⟩, ⟨by repeat (first | (with_reducible first | exact HB.out | apply below_alloc | apply pw_below_drewN | apply below_drew1) | exact HB.out)⟩⟩
                    · rw [if_neg c22] at H
                      have c22b0 : decide (57 < (bt t101 x3_2)) = false := decide_eq_false c22
                      clear c22
                      have H' := Aside0.mk H
                      clear H
                      have p17 : 0 ≤ (x3_2 : Int) := of_decide_eq_true (by first | (with_reducible assumption) | assumption)
                      have q17 : x3_2 < (t101.size : Int) := of_decide_eq_true (by first | (with_reducible assumption) | assumption)
                      have hx17 := bt_at t101 x3_2
                      replace p17 := eq_true p17
                      replace q17 := eq_true q17
                      go_wp2
                      go_roundg k2
                      case measure => have := HJ2.out; have := HK2.out; omega
                      case rel => exact ⟨(wrap64 (x3_2 + 1)), (by first | rfl | (simp; done) | (simp [*]; done)), H', ⟨by have := HJ2.out; have := HK2.out; omega⟩, ⟨by repeat (first | (with_reducible first | exact HB.out | apply below_alloc | apply pw_below_drewN | apply below_drew1) | exact HB.out)⟩⟩
              · rw [if_neg c16] at H
                exact absurd H (by simp)
            · rw [if_neg c15] at H
              have c15b0 : decide (x3_2 < (t101.size : Int)) = false := decide_eq_false c15
              clear c15
              have HC25 := Aside0.mk H
              clear H
              go_upto_region 10 with (fail)
              go_cut [62] (fun v62 wc => ∃ (kq : Nat) (x62_24 : Bool), v62 = .bool x62_24 ∧ Aside0 (paronymref11_Kind.j2 kq t101 x62_24 = some r) ∧ Aside0 (kq ≤ k2) ∧ Aside0 (Below w.heap.size w wc))
              case first =>
                have H := HC25.out
                clear HC25
                by_cases c26 : (t101.size : Int) < 4
                · rw [if_pos c26] at H
                  have c26b0 : decide ((t101.size : Int) < 4) = true := decide_eq_true c26
                  have c26b1 : decide (t101.size < 4) = true := decide_eq_true (by omega)
                  clear c26
                  (first | rw [c26b0] | (simp only [i64_w, i32_w]; rw [c26b0]) | rw [c26b1] | (simp only [i64_w, i32_w]; rw [c26b1]) | skip)
                  have H' := Aside0.mk H
                  clear H
                  go_wp2
                  go_meet
                  case rel => exact ⟨_, (true), (by first | rfl | (simp; done) | (simp [*]; done)), H', ⟨by have := HJ2.out; have := HK2.out; first | omega | exact Nat.le_refl _⟩, ⟨by repeat (first | (with_reducible first | exact HB.out | apply below_alloc | apply pw_below_drewN | apply below_drew1) | exact HB.out)⟩⟩
                · rw [if_neg c26] at H
                  have c26b0 : decide ((t101.size : Int) < 4) = false := decide_eq_false c26
                  have c26b1 : decide (t101.size < 4) = false := decide_eq_false (by omega)
                  clear c26
                  (first | rw [c26b0] | (simp only [i64_w, i32_w]; rw [c26b0]) | rw [c26b1] | (simp only [i64_w, i32_w]; rw [c26b1]) | skip)
                  by_cases c27 : 2 ≤ 4
                  · rw [if_pos c27] at H
                    have c27b0 := eq_true c27
                    have c27b1 : decide (2 ≤ 4) = true := decide_eq_true c27
                    clear c27
                    by_cases c28 : 4 ≤ (t101.size : Int)
                    · rw [if_pos c28] at H
                      have c28b0 := eq_true c28
                      have c28b1 : decide (4 ≤ (t101.size : Int)) = true := decide_eq_true c28
                      clear c28
                      have H' := Aside0.mk H
                      clear H
                      go_wp2
                      go_meet
                      case rel => exact ⟨_, (((t101.extract 2 4).toList != ([45, 45] : List UInt8))), (by first | rfl | (simp; done) | (simp [*]; done)), H', ⟨by have := HJ2.out; have := HK2.out; first | omega | exact Nat.le_refl _⟩, ⟨by repeat (first | (with_reducible first | exact HB.out | apply below_alloc | apply pw_below_drewN | apply below_drew1) | exact HB.out)⟩⟩
                    · rw [if_neg c28] at H
                      exact absurd H (by simp)
                  · rw [if_neg c27] at H
                    exact absurd H (by simp)
              case rest =>
                clear HC25
                try clear c1
                try clear p1
                try clear q1
                try clear hx1
                try clear c2
                try clear p2
                try clear c5
                try clear c5b0
                try clear c5b1
                try clear c6
                try clear c6b0
                try clear c6b1
                try clear p6
                try clear c7
                try clear c7b0
                try clear c7b1
                try clear p8
                try clear q8
                try clear hx8
                try clear qi8
                try clear c9
                try clear c9b0
                try clear c9b1
                try clear c11
                try clear c11b0
                try clear c12
                try clear c12b0
                try clear p13
                try clear q13
                try clear hx13
                try clear c14
                try clear c15
                try clear c15b0
                try clear c16
                try clear c16b0
                try clear p17
                try clear q17
                try clear hx17
                try clear c18
                try clear c18b0
                try clear c18b1
                try clear c19
                try clear c19b0
                try clear c20
                try clear c20b0
                try clear c21
                try clear c21b0
                try clear c22
                try clear c22b0
                try clear c23
                try clear c23b0
                try clear c24
                try clear c24b0
                try clear c26
                try clear c26b0
                try clear c26b1
                try clear c27
                try clear c27b0
                try clear c27b1
                try clear c28
                try clear c28b0
                try clear c28b1
                try clear p1
                try clear p13
                try clear p17
                try clear p2
                try clear p6
                try clear p8
                try clear q1
                try clear q13
                try clear q17
                try clear q8
                obtain ⟨kq, x62_24, rfl, HA, HJ24, HB⟩ := hcut
                cases kq with
                | zero => exact absurd HA.out (by simp [paronymref11_Kind.j2])
                | succ kj24 =>
                  have H := HA.out
                  clear HA
                  simp only [paronymref11_Kind.j2] at H
                  by_cases c29 : x62_24 = true
                  · subst c29
                    have H1 : (some 1) = some r := by rw [if_pos rfl] at H; exact H
                    clear H
                    have H := H1
                    clear H1
                    obtain rfl := Option.some.inj H
                    go_wp2
                    go_ret
                    exact ⟨by first | rfl | (simp [errW_none, errW_some] <;> rfl) | (simp [*, errW_none, errW_some] <;> rfl), by repeat (first | (with_reducible first | exact HB.out | apply below_alloc | apply pw_below_drewN | apply below_drew1) | exact HB.out)⟩
                  · replace c29 := Bool.eq_false_iff.mpr c29
                    subst c29
                    have H1 : (if (t101.size : Int) > 4 then (if 0 ≤ 4 then (if 4 ≤ (t101.size : Int) then (if (t101.extract 0 4).toList = ([120, 110, 45, 45] : List UInt8) then (some 3) else (some 2)) else (none)) else (none)) else (some 2)) = some r := by rw [if_neg (show ¬ (false = true) by decide)] at H; exact H
                    clear H
                    have H := H1
                    clear H1
                    by_cases c30 : (t101.size : Int) > 4
                    · rw [if_pos c30] at H
                      have c30b0 : decide (4 < (t101.size : Int)) = true := decide_eq_true c30
                      have c30b1 : decide (4 < t101.size) = true := decide_eq_true (by omega)
                      clear c30
                      by_cases c31 : 0 ≤ 4
                      · rw [if_pos c31] at H
                        have c31b0 := eq_true c31
                        have c31b1 : decide (0 ≤ 4) = true := decide_eq_true c31
                        clear c31
                        by_cases c32 : 4 ≤ (t101.size : Int)
                        · rw [if_pos c32] at H
                          have c32b0 := eq_true c32
                          have c32b1 : decide (4 ≤ (t101.size : Int)) = true := decide_eq_true c32
                          clear c32
                          by_cases c33 : (t101.extract 0 4).toList = ([120, 110, 45, 45] : List UInt8)
                          · rw [if_pos c33] at H
                            have c33b0 : ((t101.extract 0 4).toList == ([120, 110, 45, 45] : List UInt8)) = true := beq_iff_eq.mpr c33
                            have c33b1 : ((t101.extract 0 4).toList != ([120, 110, 45, 45] : List UInt8)) = false := bne_eq_false_iff_eq.mpr c33
                            clear c33
                            obtain rfl := Option.some.inj H
                            go_wp2
                            go_ret
                            exact ⟨by first | rfl | (simp [errW_none, errW_some] <;> rfl) | (simp [*, errW_none, errW_some] <;> rfl), by repeat (first | (with_reducible first | exact HB.out | apply below_alloc | apply pw_below_drewN | apply below_drew1) | exact HB.out)⟩
                          · rw [if_neg c33] at H
                            have c33b0 : ((t101.extract 0 4).toList == ([120, 110, 45, 45] : List UInt8)) = false := beq_eq_false_iff_ne.mpr c33
                            have c33b1 : ((t101.extract 0 4).toList != ([120, 110, 45, 45] : List UInt8)) = true := bne_iff_ne.mpr c33
                            obtain rfl := Option.some.inj H
                            go_wp2
                            go_ret
                            exact ⟨by first | rfl | (simp [errW_none, errW_some] <;> rfl) | (simp [*, errW_none, errW_some] <;> rfl), by repeat (first | (with_reducible first | exact HB.out | apply below_alloc | apply pw_below_drewN | apply below_drew1) | exact HB.out)⟩
                        · rw [if_neg c32] at H
                          exact absurd H (by simp)
                      · rw [if_neg c31] at H
                        exact absurd H (by simp)
                    · rw [if_neg c30] at H
                      have c30b0 : decide (4 < (t101.size : Int)) = false := decide_eq_false c30
                      have c30b1 : decide (4 < t101.size) = false := decide_eq_false (by omega)
                      clear c30
                      obtain rfl := Option.some.inj H
                      go_wp2
                      go_ret
                      exact ⟨by first | rfl | (simp [errW_none, errW_some] <;> rfl) | (simp [*, errW_none, errW_some] <;> rfl), by repeat (first | (with_reducible first | exact HB.out | apply below_alloc | apply pw_below_drewN | apply below_drew1) | exact HB.out)⟩

end Go.Proofs.Ytooiajkbpkfplaa.Q

-- from Pldh
/- What the functions of package ldh and of its reference come to, on lists of numbers: lower, isLdh, kind. The lists hold octets and are shorter than 2^40 elements. -/
namespace Go.Proofs.Ytooiajkbpkfplaa.K
set_option linter.unusedVariables false
set_option linter.unusedSimpArgs false
open Go.RowKit Go.Proofs.YtooiajkbpkfplaaW.PrintWords Go.Proofs.Ytooiajkbpkfplaa.Q

def lower (x : Int) : Int := if 65 ≤ x ∧ x ≤ 90 then x + 32 else x
theorem lower_oct (x : Int) (h0 : 0 ≤ x) (h1 : x ≤ 255) : 0 ≤ lower x ∧ lower x ≤ 255 := by unfold lower; split <;> omega
theorem utf_Lower_is {x : Int} (h0 : 0 ≤ x) (h1 : x ≤ 255) : utf_Lower.f (wrap64 x) = some (lower x) := by
  rw [w64 (by omega) (by omega)]
  unfold utf_Lower.f lower
  by_cases a : x ≥ 65
  · by_cases b : x ≤ 90
    · rw [if_pos a, if_pos b, if_pos ⟨a, b⟩, w64 (by omega) (by omega)]
    · rw [if_pos a, if_neg b, if_neg (by omega)]
  · rw [if_neg a, if_neg (by omega)]
theorem set_take_drop (m : List Int) (f : Int → Int) (i : Nat) (h : i < m.length) : ((m.take i).map f ++ m.drop i).set i (f (rd m i)) = (m.take (i + 1)).map f ++ m.drop (i + 1) := by
  have hl : ((m.take i).map f).length = i := by simp; omega
  rw [drop_cons m i h, take_snoc m i h, List.set_append_right _ _ (by omega), hl]
  simp
theorem ldh_Lower_ev (l : List Int) (h : Oct l) (hl : l.length ≤ 281474976710656) : Ev (fun k => ldh_Lower.f k l) (l.map lower) := by
  have key : ∀ (d i : Nat), l.length - i = d → i ≤ l.length → Ev (fun k => ldh_Lower.l0 k ((l.take i).map lower ++ l.drop i) i) (l.map lower) := by
    intro d
    induction d with
    | zero =>
      intro i h1 h2
      have : i = l.length := by omega
      subst this
      refine Ev.step (fun k => rfl) (Ev.neg (by simp) ?_)
      simp only [List.take_length, List.drop_length, List.append_nil]
      exact Ev.now _
    | succ d ih =>
      intro i h1 h2
      have hi : i < l.length := by omega
      have hr : rd ((l.take i).map lower ++ l.drop i) (i : Int) = rd l i := by
        rw [rd_append_right (by simp; omega), drop_cons l i hi]
        have : ((i : Int) - (((l.take i).map lower).length : Int)) = 0 := by simp; omega
        rw [this]; rfl
      have hb := h.rd (i := (i : Int)) (by omega) (by omega)
      refine Ev.step (fun k => rfl) (Ev.pos (by simp; omega) (Ev.pos (by omega) ?_))
      rw [hr]
      refine Ev.bindS (utf_Lower_is hb.1 hb.2) ?_
      have hm : lower (rd l i) % 256 = lower (rd l i) := by have := lower_oct _ hb.1 hb.2; omega
      rw [hm, Int.toNat_natCast, set_take_drop l lower i hi, w64 (by omega) (by omega)]
      exact ih (i + 1) (by omega) (by omega)
  have := key l.length 0 (by omega) (by omega)
  unfold ldh_Lower.f
  refine Ev.pos hl ?_
  simpa using this

/-! the reference's Lower -/
theorem refLower_ev (l : List Int) (h : Oct l) (hl : l.length < 140737488355328) : Ev (fun k => paronymref11_Lower.f k (strOfNums l)) (strOfNums (l.map lower)) := by
  have key : ∀ (d i : Nat), l.length - i = d → i ≤ l.length → Ev (fun k => paronymref11_Lower.l0 k (strOfNums l) ((l.take i).map lower) i) (strOfNums (l.map lower)) := by
    intro d
    induction d with
    | zero =>
      intro i h1 h2
      have : i = l.length := by omega
      subst this
      refine Ev.step (fun k => rfl) (Ev.neg (by rw [size_str]; omega) ?_)
      simp only [List.take_length]
      exact Ev.now _
    | succ d ih =>
      intro i h1 h2
      have hi : i < l.length := by omega
      have hb := h.rd (i := (i : Int)) (by omega) (by omega)
      have e : bt (strOfNums l) (i : Int) = rd l i := bt_str h (by omega) (by omega)
      have hlen : ((l.take i).map lower).length < 140737488355328 := by simp; omega
      have hn := ih (i + 1) (by omega) (by omega)
      rw [take_snoc l i hi, List.map_append] at hn
      refine Ev.step (fun k => rfl) (Ev.pos (by rw [size_str]; omega) (Ev.pos (by omega) ?_))
      rw [e, w64 (by omega) (by omega)]
      by_cases a : rd l i ≥ 65
      · refine Ev.pos a ?_
        by_cases b : rd l i ≤ 90
        · refine Ev.pos b (Ev.pos hlen ?_)
          have : lower (rd l i) = (rd l i + 32) % 256 := by unfold lower; rw [if_pos ⟨a, b⟩]; omega
          rw [← this]; exact hn
        · refine Ev.neg b (Ev.pos hlen ?_)
          have : lower (rd l i) = rd l i := by unfold lower; rw [if_neg (by omega)]
          simp only [List.map_cons, List.map_nil, this] at hn; exact hn
      · refine Ev.neg a (Ev.pos hlen ?_)
        have : lower (rd l i) = rd l i := by unfold lower; rw [if_neg (by omega)]
        simp only [List.map_cons, List.map_nil, this] at hn; exact hn
  have := key l.length 0 (by omega) (by omega)
  unfold paronymref11_Lower.f
  simpa using this

/-! Is, Kind -/
def within (c a b : Int) : Bool := decide (a ≤ c) && decide (c ≤ b)
def letter (c : Int) : Bool := within c 97 122 || within c 65 90 || within c 48 57 || c == 45
theorem within_is (c a b : Int) : ldh_within_byte.f c a b = some (within c a b) := by
  unfold ldh_within_byte.f within
  by_cases h : c ≥ a
  · rw [if_pos h]; have : a ≤ c := h; simp [this]
  · rw [if_neg h]; have : ¬ a ≤ c := h; simp [this]
theorem letter_is (c : Int) : ldh_letter.f c = some (letter c) := by
  unfold ldh_letter.f letter
  simp only [within_is, Option.bind_some]
  cases within c 97 122 <;> cases within c 65 90 <;> cases within c 48 57 <;> simp
theorem strange_is (c : Int) : ldh_Is_1.f c = some (!letter c) := by
  unfold ldh_Is_1.f; rw [letter_is]; rfl
def isLdh (l : List Int) : Bool := decide (1 ≤ l.length) && (decide (l.length ≤ 63) && (!(l.any fun c => !letter c) && ((rd l 0 != 45) && (rd l ((l.length : Int) - 1) != 45))))
theorem ldh_Is_ev (l : List Int) (hl : l.length ≤ 1099511627776) : Ev (fun k => ldh_Is.f k l) (isLdh l) := by
  unfold ldh_Is.f slices_ContainsFunc_byte_byte_at_ldh_Is_1.f slices_IndexFunc_byte_byte_at_ldh_Is_1.f
  refine Ev.bind (contains_ev (p := ldh_Is_1.f) (q := fun c => !letter c) (fun k x n i => rfl) l (by omega) (fun y _ => strange_is y)) ?_
  unfold isLdh
  by_cases a : (l.length : Int) ≥ 1
  · have a' : 1 ≤ l.length := by omega
    refine Ev.pos a ?_
    simp only [a', decide_true, Bool.true_and]
    by_cases b : (l.length : Int) ≤ 63
    · have b' : l.length ≤ 63 := by omega
      refine Ev.pos b ?_
      simp only [b', decide_true, Bool.true_and]
      cases hc : l.any fun c => !letter c with
      | true => exact Ev.pos rfl (Ev.ret (by simp))
      | false =>
        refine Ev.neg (by decide) (Ev.pos (by omega) ?_)
        by_cases e : rd l 0 = 45
        · exact Ev.pos e (Ev.ret (by simp [e]))
        · refine Ev.neg e ?_
          rw [w64 (by omega) (by omega)]
          exact Ev.pos (by omega) (Ev.pos (by omega) (Ev.ret (by simp [e])))
    · have b' : ¬ l.length ≤ 63 := by omega
      exact Ev.neg b (Ev.ret (by simp [b']))
  · have a' : ¬ 1 ≤ l.length := by omega
    exact Ev.neg a (Ev.ret (by simp [a']))
theorem HasPrefix_is (l m : List Int) (hl : Oct l) (hm : Oct m) : bytes_HasPrefix.f l m = some (decide (m.length ≤ l.length) && decide (l.take m.length = m)) := by
  unfold bytes_HasPrefix.f bytes_Equal.f
  by_cases a : (l.length : Int) ≥ (m.length : Int)
  · have a' : m.length ≤ l.length := by omega
    rw [if_pos a, if_pos (by omega), if_pos (by omega)]
    simp only [Option.bind_some, Int.toNat_natCast, a', decide_true, Bool.true_and, Option.some.injEq]
    rw [Bool.eq_iff_iff]
    simp only [beq_iff_eq, decide_eq_true_eq, toList_eq_iff]
    exact ⟨fun h => str_inj (hl.take _) hm h, fun h => by rw [h]⟩
  · rw [if_neg a]
    have a' : ¬ m.length ≤ l.length := by omega
    simp [a']
def xn : List Int := [120, 110, 45, 45]
theorem oct_xn : Oct xn := by intro x hx; simp [xn] at hx; omega
def kind (l : List Int) : Int :=
  if isLdh l = true then (if (l.length : Int) < 4 ∨ rd l 2 ≠ 45 ∨ rd l 3 ≠ 45 then 1 else if 4 < l.length ∧ (l.map lower).take 4 = xn then 3 else 2) else 0
theorem ldh_Kind_ev (l : List Int) (h : Oct l) (hl : l.length ≤ 1099511627776) : Ev (fun k => ldh_Kind.f k l) (kind l) := by
  have hj : ∀ b : Bool, Ev (fun k => ldh_Kind.j0 k l b) (if b = true then 1 else if 4 < l.length ∧ (l.map lower).take 4 = xn then 3 else 2) := by
    intro b
    cases b with
    | true => exact Ev.step (f := fun _ => some 1) (fun k => rfl) (Ev.now _)
    | false =>
      refine Ev.step (fun k => rfl) ?_
      rw [if_neg (by decide)]
      by_cases a : (l.length : Int) > 4
      · refine Ev.pos a (Ev.bind (ldh_Lower_ev l h (by omega)) (Ev.bindS (o := bytesLit.f _) rfl (Ev.bindS (HasPrefix_is _ xn (h.map lower_oct) oct_xn) ?_)))
        have e : xn.length = 4 := rfl
        rw [e]
        have a1 : 4 ≤ (l.map lower).length := by simp; omega
        simp only [a1, decide_true, Bool.true_and]
        by_cases c : (l.map lower).take 4 = xn
        · exact Ev.pos (decide_eq_true c) (Ev.ret (if_pos ⟨by omega, c⟩).symm)
        · exact Ev.neg (by simp [c]) (Ev.ret (if_neg (fun z => c z.2)).symm)
      · exact Ev.neg a (Ev.ret (if_neg (fun z => by omega)).symm)
  unfold ldh_Kind.f kind
  refine Ev.bind (ldh_Is_ev l hl) ?_
  by_cases i : isLdh l = true
  · rw [if_pos i]
    refine Ev.pos i ?_
    by_cases a : (l.length : Int) < 4
    · rw [if_pos (.inl a)]; exact Ev.pos a (hj true)
    · refine Ev.neg a (Ev.pos (by omega) ?_)
      by_cases b : rd l 2 = 45
      · refine Ev.pos b (Ev.pos (by omega) ?_)
        by_cases c : rd l 3 = 45
        · rw [if_neg (by simp [b, c]; omega)]
          have := hj (rd l 3 != 45)
          simpa [c] using this
        · rw [if_pos (.inr (.inr c))]
          have := hj (rd l 3 != 45)
          simpa [c] using this
      · rw [if_pos (.inr (.inl b))]; exact Ev.neg b (hj true)
  · rw [if_neg i]; exact Ev.neg i (Ev.now _)

/-- The document's examples. -/
theorem awake_ev : Ev (fun k => paronymlaw11_awake.f k) true := by
  have o1 : Oct [120, 110, 45, 45, 97] := by intro x hx; simp at hx; omega
  have o2 : Oct [97, 98, 45, 45, 99] := by intro x hx; simp at hx; omega
  have o3 : Oct [97, 45, 98] := by intro x hx; simp at hx; omega
  have o4 : Oct [45, 97] := by intro x hx; simp at hx; omega
  unfold paronymlaw11_awake.f
  refine Ev.bindS (o := bytesLit.f _) rfl (Ev.bind (ldh_Kind_ev _ o1 (by decide)) (Ev.pos (by decide) ?_))
  refine Ev.bindS (o := bytesLit.f _) rfl (Ev.bind (ldh_Kind_ev _ o2 (by decide)) (Ev.pos (by decide) ?_))
  refine Ev.bindS (o := bytesLit.f _) rfl (Ev.bind (ldh_Kind_ev _ o3 (by decide)) (Ev.pos (by decide) ?_))
  exact Ev.bindS (o := bytesLit.f _) rfl (Ev.bind (ldh_Kind_ev _ o4 (by decide)) (Ev.ret (by decide)))

end Go.Proofs.Ytooiajkbpkfplaa.K

-- from Honce
/- PunyOnce: the walk. What the plain lemmas say of Decode, Encode and Lower at one input gives the law's answer there. -/
namespace Go.Proofs.Ytooiajkbpkfplaa.Q
open Go.RowKit Go.Proofs.YtooiajkbpkfplaaW.PrintWords Go.Proofs.YtooiajkbpkfplaaW.PrintLast Go.Proofs.YtooiajkbpkfplaaW.PrintMore
set_option linter.unusedVariables false
set_option linter.unusedSimpArgs false

set_option maxHeartbeats 2000000 in
set_option maxRecDepth 100000 in
theorem paronymlaw12_PunyOnce.calls (k : Nat) (A0 : Option Addr) (c0 : Nat) (l0 s c : List Int) (e0 : Int) (m : ByteArray) (w : World) (hr0 : Kd.C (Kd.int .u8) w A0 l0.length l0) (hc0 : l0.length ≤ c0)
    (ha : paronymlaw12_awake.f k = some true) (hd : l0.length ≤ 300 → puny_Decode.f k l0 = some (s, e0)) (hs : e0 ≠ 0 → s = []) (he : l0.length ≤ 300 → e0 = 0 → puny_Encode.f k s = some (c, 0)) (h1 : l0.length ≤ 300 → e0 = 0 → paronymref11_Lower.f k (strOfNums c) = some m) (h2 : l0.length ≤ 300 → e0 = 0 → paronymref11_Lower.f k (strOfNums l0) = some m) :
    Calls Try.prog 14 #[.slice A0 l0.length c0] w fun e w' => e = .returned (.bool true) ∧ Below w.heap.size w w' := by
  have HR0 := Aside0.mk hr0
  have HC0 := Aside0.mk hc0
  have HA := Aside0.mk ha
  have HD := Aside0.mk hd
  have HE := Aside0.mk he
  have HL1 := Aside0.mk h1
  have HL2 := Aside0.mk h2
  have HS := Aside0.mk hs
  clear hr0 hc0 ha hd he h1 h2 hs
  have HB := Aside0.mk (Below.refl w.heap.size w)
  go_enter Try.func14, Try.ntmps14
  by_cases big : (l0.length : Int) > 300
  · go_wp2_with (first
      | (go_at_call 25
         (with_reducible refine (paronymlaw12_awake.calls k true _ HA.out).mono ?_)
         rintro e w1 ⟨rfl, hb⟩
         have n0_ := Aside0.mk (below_step HB.out hb)
         clear HB hb
         have HB := n0_
         clear n0_))
    go_ret
    exact ⟨rfl, HB.out⟩
  · have hle : l0.length ≤ 300 := by omega
    have HD' := Aside0.mk (HD.out hle)
    by_cases z : e0 = 0
    · subst z
      have HE' := Aside0.mk (HE.out hle rfl)
      have HL1' := Aside0.mk (HL1.out hle rfl)
      have HL2' := Aside0.mk (HL2.out hle rfl)
      clear HD HE HL1 HL2 HS
      go_wp2_with (first
        | (go_at_call 25
           (with_reducible refine (paronymlaw12_awake.calls k true _ HA.out).mono ?_)
           rintro e w1 ⟨rfl, hb⟩
           have n0_ := Aside0.mk (below_step HB.out hb)
           clear HB hb
           have HB := n0_
           clear n0_)
        | (go_at_call 43
           (with_reducible refine (puny_Decode.calls k (fun k_ => k_ < w.heap.size) _ _ l0 s 0 _ ?side1 HD'.out).mono ?_)
           (case side1 => exact Kd.V_mk HC0.out (Kd.F_below (Kd.C_F (Kd.heap_int .u8) HR0.out) HB.out))
           rintro e w2 ⟨v3, rfl, ho0, hb⟩
           have n0_ := Aside0.mk (Kd.R_lower (Kd.R_mono (ok' := fun k_ => True) ho0 (fun _ hk_ => trivial)) (below_size HB.out))
           have n1_ := Aside0.mk (below_step HB.out hb)
           obtain ⟨A1, c1, rfl⟩ := Kd.R_slice ho0
           clear HB hb ho0
           have HB := n1_
           have HO := n0_
           clear n0_ n1_)
        | (go_at_call 26
           (with_reducible refine (puny_Encode.calls k _ _ s c 0 _ ?side1 ?side2 HE'.out).mono ?_)
           (case side1 => exact (Kd.R_reads' HO.out).2.2)
           (case side2 => exact (Kd.R_reads' HO.out).2.1)
           rintro e w3 ⟨v5, rfl, ho0, hb⟩
           have n0_ := Aside0.mk (Kd.R_lower ho0 (below_size HB.out))
           have n1_ := Aside0.mk (below_step HB.out hb)
           clear HB hb ho0
           have HB := n1_
           have HP := n0_
           clear n0_ n1_
           have hcvc := own_string (P := Try.prog) Try.underlying22 Try.underlying5 Try.underlying9 (Kd.own_of_R HP.out)
           have hcvb := Kd.C_string (P := Try.prog) (A := A0) (c := c0) Try.underlying22 Try.underlying5 Try.underlying9 (Kd.C_below HR0.out HB.out)))
      have HBd := Aside0.mk (below_drew1 HB.out)
      have HPd := Aside0.mk (Kd.R_drew HP.out)
      have hcvcd := own_string (P := Try.prog) Try.underlying22 Try.underlying5 Try.underlying9 (Kd.own_of_R HPd.out)
      have hcvbd := Kd.C_string (P := Try.prog) (A := A0) (c := c0) Try.underlying22 Try.underlying5 Try.underlying9 (Kd.C_below HR0.out HBd.out)
      go_region_with (first
        | (go_at_call 20
           (with_reducible refine (paronymref11_Lower.calls k (strOfNums c) m _ HL1'.out).mono ?_)
           rintro e w4 ⟨rfl, hb4⟩
           have HB4 := Aside0.mk (below_step HBd.out hb4)
           have hcvb4 := Kd.C_string (P := Try.prog) (A := A0) (c := c0) Try.underlying22 Try.underlying5 Try.underlying9 (Kd.C_below HR0.out HB4.out))
        | (go_at_call 20
           (with_reducible refine (paronymref11_Lower.calls k (strOfNums l0) m _ HL2'.out).mono ?_)
           rintro e w5 ⟨rfl, hb5⟩
           have HB5 := Aside0.mk (below_step HB4.out hb5)))
      all_goals simp only [List.getElem_toArray, List.getElem_cons_succ, List.getElem_cons_zero, Act.put, List.setIfInBounds_toArray, List.set_cons_zero, List.set_cons_succ]
      all_goals show Exit.then _ _ Exit.normal _ _
      all_goals refine (‹∀ (a : Act) (w : World), Code.wp _ Code.ret _ a w → _› : ∀ (a : Act) (w : World), Code.wp _ Code.ret _ a w → _) _ _ ?_
      all_goals show Code.wp Try.prog Code.ret (bodyPost Try.prog Try.f14 (fun e w' => e = Ending.returned (Value.bool true) ∧ Below w.heap.size w w')) _ _
      all_goals go_wp2
      all_goals go_ret
      all_goals exact ⟨rfl, HB5.out⟩
    · have zt : (e0 != 0) = true := bne_iff_ne.mpr z
      have hs0 := HS.out z
      subst hs0
      clear HE HL1 HL2 HS HD
      go_wp2_with (first
        | (go_at_call 25
           (with_reducible refine (paronymlaw12_awake.calls k true _ HA.out).mono ?_)
           rintro e w1 ⟨rfl, hb⟩
           have n0_ := Aside0.mk (below_step HB.out hb)
           clear HB hb
           have HB := n0_
           clear n0_)
        | (go_at_call 43
           (with_reducible refine (puny_Decode.calls k (fun k_ => k_ < w.heap.size) _ _ l0 [] e0 _ ?side1 HD'.out).mono ?_)
           (case side1 => exact Kd.V_mk HC0.out (Kd.F_below (Kd.C_F (Kd.heap_int .u8) HR0.out) HB.out))
           rintro e w2 ⟨v3, rfl, ho0, hb⟩
           have n1_ := Aside0.mk (below_step HB.out hb)
           obtain ⟨A1, c1, rfl⟩ := Kd.R_slice ho0
           clear HB hb ho0
           have HB := n1_
           clear n1_))
      go_ret
      exact ⟨by first | rfl | (simp [*]; done), HB.out⟩

theorem paronymlaw12_PunyOnce.walk (a0 : Option Addr) (len0 cap0 : Nat) (z0 : List Int) (w : World) (w0 : (a0 = none ∧ len0 = 0 ∧ cap0 = 0 ∧ z0 = []) ∨ ∃ x, a0 = some x ∧ len0 ≤ cap0 ∧ cap0 ≤ maxLen ∧ z0.length = cap0 ∧ (∀ i, i < z0.length → w.cell? (x.add i) = some (.int .u8 (z0.getD i 0))) ∧ ∀ n ∈ z0, (Lit.int .u8 n).wf = true) (y0 : len0 * 1 ≤ 140737488351232) :
    Calls Try.prog 14 #[.slice a0 len0 cap0] w fun e w' => e = .returned (.bool true) ∧ Below w.heap.size w w' := by
  obtain ⟨l0, rfl, hr0, hm0, hw0, hc0⟩ := ReadsInt.ofRowC w0
  have ho := K.oct_of_wf hw0
  obtain ⟨ka, hka⟩ := K.awake12_ev
  by_cases big : l0.length ≤ 300
  · obtain ⟨kd, hkd⟩ := K.Decode12_ev ho (by omega)
    by_cases z : (K.decode l0).2 = 0
    · obtain ⟨t, ht⟩ : ∃ t, K.decode l0 = (t, 0) := ⟨(K.decode l0).1, Prod.ext rfl z⟩
      rw [ht] at hkd
      obtain ⟨hlow, hlen, hsc⟩ := K.decode_pform_low (fun x hx => (ho x hx).1) ht
      obtain ⟨ke, hke⟩ := K.Encode12_ev (s := t) (by omega) (by omega)
      have hen : K.encode12 t = (K.pform t, 0) := by
        unfold K.encode12
        rw [if_neg (fun h => by
          obtain ⟨x, hx, hp⟩ := List.any_eq_true.1 h
          have := List.all_eq_true.1 hsc x hx
          rw [this] at hp
          simp at hp), if_neg (by omega)]
      rw [hen] at hke
      have hoc := (K.low_oct ho hlow).1
      obtain ⟨k1, hk1⟩ := K.refLower_ev (K.pform t) hoc (by have := (K.low_oct ho hlow).2; omega)
      obtain ⟨k2, hk2⟩ := K.refLower_ev l0 ho (by omega)
      have hm : strOfNums ((K.pform t).map K.lower) = strOfNums (l0.map K.lower) := congrArg strOfNums hlow
      exact paronymlaw12_PunyOnce.calls (max (max ka kd) (max ke (max k1 k2))) a0 cap0 l0 t (K.pform t) 0 (strOfNums (l0.map K.lower)) w (Kd.C_of_reads (d := (0 : Int)) (h1 := fun _ => rfl) hr0) hc0 (hka _ (by omega)) (fun _ => hkd _ (by omega)) (fun h => absurd rfl h) (fun _ _ => hke _ (by omega)) (fun _ _ => hm ▸ hk1 _ (by omega)) (fun _ _ => hk2 _ (by omega))
    · exact paronymlaw12_PunyOnce.calls (max ka kd) a0 cap0 l0 (K.decode l0).1 [] (K.decode l0).2 ⟨#[]⟩ w (Kd.C_of_reads (d := (0 : Int)) (h1 := fun _ => rfl) hr0) hc0 (hka _ (by omega)) (fun _ => hkd _ (by omega)) (fun _ => K.decode_err z) (fun _ h => absurd h z) (fun _ h => absurd h z) (fun _ h => absurd h z)
  · exact paronymlaw12_PunyOnce.calls ka a0 cap0 l0 [] [] 0 ⟨#[]⟩ w (Kd.C_of_reads (d := (0 : Int)) (h1 := fun _ => rfl) hr0) hc0 (hka _ (by omega)) (fun h => absurd h big) (fun _ => rfl) (fun h => absurd h big) (fun h => absurd h big) (fun h => absurd h big)
end Go.Proofs.Ytooiajkbpkfplaa.Q
