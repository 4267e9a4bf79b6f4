/- Part 1 of 1 of the proof of PunyPlain: an ASCII text's form is it and a hyphen, or nothing of none. For every input; no condition. -/
import Derived.Test.YtooiajkbpkfplaaProg
import Derived.Below
import Derived.Deep.Draws
import Derived.Deep.AppendLies
import Derived.Maps.AppendAt
import Derived.OwnWalk
import Derived.Laws.BytesArg
import Derived.Laws.MakeOwn
import Derived.Laws.OwnMore
import Derived.Deep.OwnRows
import Derived.Tactics
import Derived.Lib.ConvBytes
import Derived.Laws.Slices
import Derived.WalkKit
import Derived.KernelRfl
import Derived.RowKit3
import Derived.Deep.LoopGhost
import Derived.Deep.QuietTactic
import Derived.BigQuiet
import Derived.WideLaws
import Derived.Deep.DeepCutAuto
import Derived.Deep.CutBlock
import Derived.Deep.RegionHeld3
import Derived.Laws.Rows
import Derived.Lib.AppendStr
import Derived.ArgAppend
import Derived.Laws.IdiomCopy
import Derived.OrdersHeld
import Derived.Laws.BitsLemmas
import Derived.RowKit
import Derived.Test.YtooiajkbpkfplaaWWords
import Derived.Test.YtooiajkbpkfplaaWLast
import Derived.Test.YtooiajkbpkfplaaWTab
import Derived.Test.YtooiajkbpkfplaaWFour
import Derived.Test.YtooiajkbpkfplaaWQPut
import Derived.Test.YtooiajkbpkfplaaWApart
import Derived.Test.YtooiajkbpkfplaaWArr
import Derived.Test.YtooiajkbpkfplaaWZeros
import Derived.Test.YtooiajkbpkfplaaWFoot
import Derived.Test.YtooiajkbpkfplaaWKept
import Derived.Test.YtooiajkbpkfplaaWShare
import Derived.Test.YtooiajkbpkfplaaWN
import Derived.Test.YtooiajkbpkfplaaWFootNe
import Derived.Test.YtooiajkbpkfplaaWAt
import Derived.Test.YtooiajkbpkfplaaWEqStruct
import Derived.Test.YtooiajkbpkfplaaWRepsOne
import Derived.Test.YtooiajkbpkfplaaWInv
import Derived.Test.YtooiajkbpkfplaaWInvWords
import Derived.Test.YtooiajkbpkfplaaWGuard
import Derived.Test.YtooiajkbpkfplaaWNEv
import Derived.Test.YtooiajkbpkfplaaWMore
import Derived.Lib.Bytes
import Derived.Test.YtooiajkbpkfplaaRows
import Derived.ProofKit
import Derived.OpenShut
import Derived.ShutString
import Derived.ChangeOld
import Derived.SizedLaws
import Derived.Test.YtooiajkbpkfplaaWSized

-- from Qh
-- Made by hp.py, a program of this session, with the kit's printer. Not trusted: Lean checks it.
namespace Go.Proofs.Ytooiajkbpkfplaa.Q
open Go.RowKit Go.Proofs.YtooiajkbpkfplaaW.PrintWords Go.Proofs.YtooiajkbpkfplaaW.PrintLast Go.Proofs.YtooiajkbpkfplaaW.PrintMore
attribute [local go_sem] max2_int min2_int max_two min_two max_three min_three max_four min_four   -- for this text's walks alone
set_option linter.unusedVariables false
set_option linter.unusedSimpArgs false



def errW : Option Int → Value
  | none => .nilIface
  | some c => .iface 0 (.int .i64 c)
theorem errW_none : errW none = .nilIface := rfl
theorem errW_some (c : Int) : errW (some c) = .iface 0 (.int .i64 c) := rfl

theorem info3 : (Try.prog.info? 3).map (fun i => (i.zero, i.size, i.bytes)) = some (some (.int .i64 0), 1, 8) := by kernel_rfl
theorem info5 : (Try.prog.info? 5).map (fun i => (i.zero, i.size, i.bytes)) = some (some (.int .u8 0), 1, 1) := by kernel_rfl
-- the values' own types

end Go.Proofs.Ytooiajkbpkfplaa.Q

-- from Qf51
-- Made by hp.py, a program of this session, with the kit's printer. Not trusted: Lean checks it.
namespace Go.Proofs.Ytooiajkbpkfplaa.Q
open Go.RowKit Go.Proofs.YtooiajkbpkfplaaW.PrintWords Go.Proofs.YtooiajkbpkfplaaW.PrintLast Go.Proofs.YtooiajkbpkfplaaW.PrintMore
attribute [local go_sem] max2_int min2_int max_two min_two max_three min_three max_four min_four   -- for this text's walks alone
set_option linter.unusedVariables false
set_option linter.unusedSimpArgs false

/-! ### puny_least: function 51 -/
def puny_least.l0 : Nat → Int → Int → List Int → Int → Int → Option (Int)
  | 0, _, _, _, _, _ => none
  | k + 1, x1, x5, x8, x9, x10 => if x10 < x9 then (if 0 ≤ x10 then (if x10 < (x8.length : Int) then (if (rd x8 x10) ≥ x1 then (puny_least.l0 k x1 (mn x5 (rd x8 x10)) x8 x9 (wrap64 (x10 + 1))) else (puny_least.l0 k x1 x5 x8 x9 (wrap64 (x10 + 1)))) else (none)) else (none)) else (some x5)
def puny_least.f (k : Nat) (l0 : List Int) (a1 : Int) : Option (Int) := puny_least.l0 k a1 9223372036854775807 l0 (l0.length : Int) 0
theorem puny_least.mono_l : ∀ k, (∀ y0 y1 y2 y3 y4, LeO (puny_least.l0 k y0 y1 y2 y3 y4) (puny_least.l0 (k + 1) y0 y1 y2 y3 y4))
  | 0 => fun _ _ _ _ _ r h => by simp [puny_least.l0] at h
  | k + 1 => by
    have ih0 := puny_least.mono_l k
    · intro y0 y1 y2 y3 y4
      unfold puny_least.l0
      repeat' first
      | (with_reducible exact ih0 _ _ _ _ _)
      | (with_reducible exact LeO.refl _)
      | (with_reducible exact LeO.none _)
      | (with_reducible refine LeO.ite ?_ ?_)
      | (with_reducible refine LeO.bind ?_ (fun _ => ?_))
      | exact ih0 _ _ _ _ _
      | exact LeO.none _
      | refine LeO.ite ?_ ?_
      | refine LeO.bind ?_ (fun _ => ?_)
theorem puny_least.mono : ∀ a0 a1 k, LeO (puny_least.f k a0 a1) (puny_least.f (k + 1) a0 a1) := by
  intro a0 a1 k
  have ih0 := puny_least.mono_l k
  unfold puny_least.f
  repeat' first
      | (with_reducible exact ih0 _ _ _ _ _)
      | (with_reducible exact LeO.refl _)
      | (with_reducible exact LeO.none _)
      | (with_reducible refine LeO.ite ?_ ?_)
      | (with_reducible refine LeO.bind ?_ (fun _ => ?_))
      | exact ih0 _ _ _ _ _
      | exact LeO.none _
      | refine LeO.ite ?_ ?_
      | refine LeO.bind ?_ (fun _ => ?_)
set_option maxHeartbeats 8000000 in
set_option maxRecDepth 100000 in
theorem puny_least.calls (k : Nat) (A0 : Option Addr) (c0 : Nat) (l0 : List Int) (a1 : Int) (r : Int) (w : World) (hr0 : Kd.C (Kd.int .i64) w A0 l0.length l0) (hc0 : l0.length ≤ c0) (h : puny_least.f k l0 a1 = some r) :
    Calls Try.prog 51 #[.slice A0 l0.length c0, .int .i64 a1] w fun e w' => e = .returned (.int .i64 r) ∧ Below w.heap.size w w' := by
  have HR0 := Aside0.mk hr0
  have HC0 := Aside0.mk hc0
  clear hr0 hc0
  have HB := Aside0.mk (Below.refl w.heap.size w)
  have H : (puny_least.l0 k a1 9223372036854775807 l0 (l0.length : Int) 0) = some r := h
  clear h
  have H' := Aside0.mk H
  clear H
  go_enter Try.func51, Try.ntmps51
  go_wp2
  go_loopg [5, 10] k (fun kq v5 v10 w' => ∃ (x5_1 : Int) (x10_1 : Int), v5 = .int .i64 x5_1 ∧ v10 = .int .i64 x10_1 ∧ Aside0 (puny_least.l0 kq a1 x5_1 l0 (l0.length : Int) x10_1 = some r) ∧ Aside0 (kq ≤ k) ∧ Aside0 (Below w.heap.size w w'))
  case atStart => exact ⟨(9223372036854775807), (0), (by first | rfl | (simp; done) | (simp [*]; done)), (by first | rfl | (simp; done) | (simp [*]; done)), H', ⟨Nat.le_refl _⟩, ⟨by repeat (first | (with_reducible first | exact HB.out | apply below_alloc | apply pw_below_drewN | apply below_drew1) | exact HB.out)⟩⟩
  case round =>
    clear H'
    try clear p2
    obtain ⟨x5_1, x10_1, rfl, rfl, HA, HK1, HB⟩ := hrel
    cases gk with
    | zero => exact absurd HA.out (by simp [puny_least.l0])
    | succ k1 =>
      have H := HA.out
      clear HA
      simp only [puny_least.l0] at H
      by_cases c3 : x10_1 < (l0.length : Int)
      · rw [if_pos c3] at H
        have c3b0 : decide (x10_1 < (l0.length : Int)) = true := decide_eq_true c3
        clear c3
        by_cases c4 : 0 ≤ x10_1
        · rw [if_pos c4] at H
          have c4b0 : decide (0 ≤ x10_1) = true := decide_eq_true c4
          clear c4
          by_cases c5 : x10_1 < (l0.length : Int)
          · rw [if_pos c5] at H
            have c5b0 : decide (x10_1 < (l0.length : Int)) = true := decide_eq_true c5
            clear c5
            by_cases c6 : (rd l0 x10_1) ≥ a1
            · rw [if_pos c6] at H
              have c6b0 : decide (a1 ≤ (rd l0 x10_1)) = true := decide_eq_true c6
              clear c6
              obtain ⟨ji7, hji7⟩ : ∃ j_ : Int, (mn x5_1 (rd l0 x10_1)) = j_ := ⟨_, rfl⟩
              replace H : (puny_least.l0 k1 a1 ji7 l0 (l0.length : Int) (wrap64 (x10_1 + 1))) = some r := by first | (rw [hji7] at H; exact H) | (simp only [hji7] at H ⊢; exact H)
              have hji7_ : (if (rd l0 x10_1) < x5_1 then (rd l0 x10_1) else x5_1) = ji7 := hji7
              have H' := Aside0.mk H
              clear H
              have p101 : 0 ≤ (x10_1 : Int) := of_decide_eq_true (by first | (with_reducible assumption) | assumption)
              have q101 : x10_1 < (l0.length : Int) := of_decide_eq_true (by first | (with_reducible assumption) | assumption)
              obtain ⟨ad101, e101, hx101_0⟩ := Kd.at_int HR0.out x10_1 p101 q101
              cases e101
              replace hx101_0 := (HB.out.cell (World.block_lt_of_cell? w _ hx101_0)).trans hx101_0
              replace p101 := eq_true p101
              replace q101 := eq_true q101
              go_wp2
              go_roundg k1
              case measure => have := HK1.out; omega
              case rel => exact ⟨(ji7), (wrap64 (x10_1 + 1)), (by first | rfl | (simp; done) | (simp only [← hji7] <;> (first | rfl | simp)) | (simp [*]; done)), (by first | rfl | (simp; done) | (simp [*]; done)), H', ⟨by have := HK1.out; omega⟩, ⟨by repeat (first | (with_reducible first | exact HB.out | apply below_alloc | apply pw_below_drewN | apply below_drew1) | exact HB.out)⟩⟩
            · rw [if_neg c6] at H
              have c6b0 : decide (a1 ≤ (rd l0 x10_1)) = false := decide_eq_false c6
              clear c6
              have H' := Aside0.mk H
              clear H
              have p101 : 0 ≤ (x10_1 : Int) := of_decide_eq_true (by first | (with_reducible assumption) | assumption)
              have q101 : x10_1 < (l0.length : Int) := of_decide_eq_true (by first | (with_reducible assumption) | assumption)
              obtain ⟨ad101, e101, hx101_0⟩ := Kd.at_int HR0.out x10_1 p101 q101
              cases e101
              replace hx101_0 := (HB.out.cell (World.block_lt_of_cell? w _ hx101_0)).trans hx101_0
              replace p101 := eq_true p101
              replace q101 := eq_true q101
              go_wp2
              go_roundg k1
              case measure => have := HK1.out; omega
              case rel => exact ⟨(x5_1), (wrap64 (x10_1 + 1)), (by first | rfl | (simp; done) | (simp [*]; done)), (by first | rfl | (simp; done) | (simp [*]; done)), H', ⟨by have := HK1.out; omega⟩, ⟨by repeat (first | (with_reducible first | exact HB.out | apply below_alloc | apply pw_below_drewN | apply below_drew1) | exact HB.out)⟩⟩
          · rw [if_neg c5] at H
            exact absurd H (by simp)
        · rw [if_neg c4] at H
          exact absurd H (by simp)
      · rw [if_neg c3] at H
        have c3b0 : decide (x10_1 < (l0.length : Int)) = false := decide_eq_false c3
        clear c3
        obtain rfl := Option.some.inj H
        go_wp2
        go_ret
        exact ⟨by first | rfl | (simp [errW_none, errW_some] <;> rfl) | (simp [*, errW_none, errW_some] <;> rfl), by repeat (first | (with_reducible first | exact HB.out | apply below_alloc | apply pw_below_drewN | apply below_drew1) | exact HB.out)⟩

end Go.Proofs.Ytooiajkbpkfplaa.Q

-- from Qf72
-- Made by hp.py, a program of this session, with the kit's printer. Not trusted: Lean checks it.
namespace Go.Proofs.Ytooiajkbpkfplaa.Q
open Go.RowKit Go.Proofs.YtooiajkbpkfplaaW.PrintWords Go.Proofs.YtooiajkbpkfplaaW.PrintLast Go.Proofs.YtooiajkbpkfplaaW.PrintMore
attribute [local go_sem] max2_int min2_int max_two min_two max_three min_three max_four min_four   -- for this text's walks alone
set_option linter.unusedVariables false
set_option linter.unusedSimpArgs false

/-! ### puny_threshold: function 72 -/
def puny_threshold.f (a0 : Int) (a1 : Int) : Option (Int) := some (mn (mx (wrap64 (a0 - a1)) 1) 26)
set_option maxHeartbeats 8000000 in
set_option maxRecDepth 100000 in
theorem puny_threshold.calls (a0 : Int) (a1 : Int) (r : Int) (w : World) (h : puny_threshold.f a0 a1 = some r) :
    Calls Try.prog 72 #[.int .i64 a0, .int .i64 a1] w fun e w' => e = .returned (.int .i64 r) ∧ Below w.heap.size w w' := by
  have HB := Aside0.mk (Below.refl w.heap.size w)
  have H : (some (mn (mx (wrap64 (a0 - a1)) 1) 26)) = some r := h
  clear h
  obtain ⟨ji3, hji3⟩ : ∃ j_ : Int, (mx (wrap64 (a0 - a1)) 1) = j_ := ⟨_, rfl⟩
  replace H : (some (mn (ji3) 26)) = some r := by first | (rw [hji3] at H; exact H) | (simp only [hji3] at H ⊢; exact H)
  (try (have hji3l : 1 ≤ ji3 := by (rw [← hji3]; unfold mx; (repeat' split) <;> omega)))
  (try (have hji3m : 0 ≤ ji3 := by omega))
  have hji3_ : (if (wrap64 (a0 - a1)) < 1 then 1 else (wrap64 (a0 - a1))) = ji3 := hji3
  obtain ⟨ji4, hji4⟩ : ∃ j_ : Int, (mn (ji3) 26) = j_ := ⟨_, rfl⟩
  replace H : (some ji4) = some r := by first | (rw [hji4] at H; exact H) | (simp only [hji4] at H ⊢; exact H)
  have hji4_ : (if 26 < (ji3) then 26 else (ji3)) = ji4 := hji4
  obtain rfl := Option.some.inj H
  go_enter Try.func72, Try.ntmps72
  go_wp2
  go_ret
  exact ⟨by first | rfl | (simp [errW_none, errW_some] <;> rfl) | (simp only [← hji3, ← hji4]; first | rfl | (simp [errW_none, errW_some] <;> rfl)) | (simp [*, errW_none, errW_some] <;> rfl), by repeat (first | (with_reducible first | exact HB.out | apply below_alloc | apply pw_below_drewN | apply below_drew1) | exact HB.out)⟩

end Go.Proofs.Ytooiajkbpkfplaa.Q

-- from Qf52
-- Made by hp.py, a program of this session, with the kit's printer. Not trusted: Lean checks it.
namespace Go.Proofs.Ytooiajkbpkfplaa.Q
open Go.RowKit Go.Proofs.YtooiajkbpkfplaaW.PrintWords Go.Proofs.YtooiajkbpkfplaaW.PrintLast Go.Proofs.YtooiajkbpkfplaaW.PrintMore
attribute [local go_sem] max2_int min2_int max_two min_two max_three min_three max_four min_four   -- for this text's walks alone
set_option linter.unusedVariables false
set_option linter.unusedSimpArgs false

/-! ### puny_number: function 52 -/
def puny_number.l0 : Nat → Int → Int → List Int → Int → Option (List Int)
  | 0, _, _, _, _ => none
  | k + 1, x0, x1, x5, x6 => (puny_threshold.f x6 x1).bind fun t101 => (if x0 < t101 then (if 0 ≤ x0 then (if x0 < 36 then (if x5.length < 140737488355328 then (some (x5 ++ [bt (⟨#[97, 98, 99, 100, 101, 102, 103, 104, 105, 106, 107, 108, 109, 110, 111, 112, 113, 114, 115, 116, 117, 118, 119, 120, 121, 122, 48, 49, 50, 51, 52, 53, 54, 55, 56, 57]⟩ : ByteArray) x0])) else (none)) else (none)) else (none)) else (if (wrap64 (36 - t101)) = 0 then (none) else (if 0 ≤ (wrap64 (t101 + (Int.tmod (wrap64 (x0 - t101)) (wrap64 (36 - t101))))) then (if (wrap64 (t101 + (Int.tmod (wrap64 (x0 - t101)) (wrap64 (36 - t101))))) < 36 then (if x5.length < 140737488355328 then (puny_number.l0 k (wrap64 (Int.tdiv (wrap64 (x0 - t101)) (wrap64 (36 - t101)))) x1 (x5 ++ [bt (⟨#[97, 98, 99, 100, 101, 102, 103, 104, 105, 106, 107, 108, 109, 110, 111, 112, 113, 114, 115, 116, 117, 118, 119, 120, 121, 122, 48, 49, 50, 51, 52, 53, 54, 55, 56, 57]⟩ : ByteArray) (wrap64 (t101 + (Int.tmod (wrap64 (x0 - t101)) (wrap64 (36 - t101)))))]) (wrap64 (x6 + 36))) else (none)) else (none)) else (none))))
def puny_number.f (k : Nat) (a0 : Int) (a1 : Int) : Option (List Int) := puny_number.l0 k a0 a1 ([] : List Int) 36
theorem puny_number.mono_l : ∀ k, (∀ y0 y1 y2 y3, LeO (puny_number.l0 k y0 y1 y2 y3) (puny_number.l0 (k + 1) y0 y1 y2 y3))
  | 0 => fun _ _ _ _ r h => by simp [puny_number.l0] at h
  | k + 1 => by
    have ih0 := puny_number.mono_l k
    · intro y0 y1 y2 y3
      unfold puny_number.l0
      repeat' first
      | (with_reducible exact ih0 _ _ _ _)
      | (with_reducible exact LeO.refl _)
      | (with_reducible exact LeO.none _)
      | (with_reducible refine LeO.ite ?_ ?_)
      | (with_reducible refine LeO.bind ?_ (fun _ => ?_))
      | exact ih0 _ _ _ _
      | exact LeO.none _
      | refine LeO.ite ?_ ?_
      | refine LeO.bind ?_ (fun _ => ?_)
theorem puny_number.mono : ∀ a0 a1 k, LeO (puny_number.f k a0 a1) (puny_number.f (k + 1) a0 a1) := by
  intro a0 a1 k
  have ih0 := puny_number.mono_l k
  unfold puny_number.f
  repeat' first
      | (with_reducible exact ih0 _ _ _ _)
      | (with_reducible exact LeO.refl _)
      | (with_reducible exact LeO.none _)
      | (with_reducible refine LeO.ite ?_ ?_)
      | (with_reducible refine LeO.bind ?_ (fun _ => ?_))
      | exact ih0 _ _ _ _
      | exact LeO.none _
      | refine LeO.ite ?_ ?_
      | refine LeO.bind ?_ (fun _ => ?_)
set_option maxHeartbeats 8000000 in
set_option maxRecDepth 100000 in
theorem puny_number.calls (k : Nat) (a0 : Int) (a1 : Int) (r : List Int) (w : World) (h : puny_number.f k a0 a1 = some r) :
    Calls Try.prog 52 #[.int .i64 a0, .int .i64 a1] w fun e w' => ∃ v0_ : Value, e = .returned (v0_) ∧ Kd.R (Kd.int .u8) 5 w' w.heap.size (fun _ => True) v0_ r ∧ Below w.heap.size w w' := by
  have HB := Aside0.mk (Below.refl w.heap.size w)
  have H : (puny_number.l0 k a0 a1 ([] : List Int) 36) = some r := h
  clear h
  have H' := Aside0.mk H
  clear H
  go_enter Try.func52, Try.ntmps52
  go_wp2
  go_loopg [0, 5, 6] k (fun kq v0 v5 v6 w' => ∃ (x0_1 : Int) (x5_1 : List Int) (x6_1 : Int), v0 = .int .i64 x0_1 ∧ v6 = .int .i64 x6_1 ∧ Aside0 (puny_number.l0 kq x0_1 a1 x5_1 x6_1 = some r) ∧ Aside0 (kq ≤ k) ∧ Aside0 (Kd.R (Kd.int .u8) 5 w' w.heap.size (fun _ => True) v5 x5_1) ∧ Aside0 (Below w.heap.size w w'))
  case atStart => exact ⟨(a0), (([] : List Int)), (36), (by first | rfl | (simp; done) | (simp [*]; done)), (by first | rfl | (simp; done) | (simp [*]; done)), H', ⟨Nat.le_refl _⟩, ⟨by first | exact Kd.R_nil _ _ _ _ _ | exact Kd.N_nil _ _ _ _ _ | exact Kd.V_nil _ _ _ _ _ | exact Kd.Q_nil _ _ _ _ _ | exact Kd.S_nil _ _ _ _ _⟩, ⟨by repeat (first | (with_reducible first | exact HB.out | apply below_alloc | apply pw_below_drewN | apply below_drew1) | exact HB.out)⟩⟩
  case round =>
    clear H'
    try clear p2
    obtain ⟨x0_1, x5_1, x6_1, rfl, rfl, HA, HK1, HO_5, HB⟩ := hrel
    cases gk with
    | zero => exact absurd HA.out (by simp [puny_number.l0])
    | succ k1 =>
      have H := HA.out
      clear HA
      simp only [puny_number.l0] at H
      replace H := Option.bind_eq_some_iff.mp H
      obtain ⟨t101, A30, H⟩ := H
      replace H : (if x0_1 < t101 then (if 0 ≤ x0_1 then (if x0_1 < 36 then (if x5_1.length < 140737488355328 then (some (x5_1 ++ [bt (⟨#[97, 98, 99, 100, 101, 102, 103, 104, 105, 106, 107, 108, 109, 110, 111, 112, 113, 114, 115, 116, 117, 118, 119, 120, 121, 122, 48, 49, 50, 51, 52, 53, 54, 55, 56, 57]⟩ : ByteArray) x0_1])) else (none)) else (none)) else (none)) else (if (wrap64 (36 - t101)) = 0 then (none) else (if 0 ≤ (wrap64 (t101 + (Int.tmod (wrap64 (x0_1 - t101)) (wrap64 (36 - t101))))) then (if (wrap64 (t101 + (Int.tmod (wrap64 (x0_1 - t101)) (wrap64 (36 - t101))))) < 36 then (if x5_1.length < 140737488355328 then (puny_number.l0 k1 (wrap64 (Int.tdiv (wrap64 (x0_1 - t101)) (wrap64 (36 - t101)))) a1 (x5_1 ++ [bt (⟨#[97, 98, 99, 100, 101, 102, 103, 104, 105, 106, 107, 108, 109, 110, 111, 112, 113, 114, 115, 116, 117, 118, 119, 120, 121, 122, 48, 49, 50, 51, 52, 53, 54, 55, 56, 57]⟩ : ByteArray) (wrap64 (t101 + (Int.tmod (wrap64 (x0_1 - t101)) (wrap64 (36 - t101)))))]) (wrap64 (x6_1 + 36))) else (none)) else (none)) else (none)))) = some r := H
      have A3 := Aside0.mk A30
      clear A30
      by_cases c4 : x0_1 < t101
      · rw [if_pos c4] at H
        have c4b0 : decide (x0_1 < t101) = true := decide_eq_true c4
        clear c4
        by_cases c5 : 0 ≤ x0_1
        · rw [if_pos c5] at H
          have c5b0 : decide (0 ≤ x0_1) = true := decide_eq_true c5
          clear c5
          by_cases c6 : x0_1 < 36
          · rw [if_pos c6] at H
            have c6b0 : decide (x0_1 < 36) = true := decide_eq_true c6
            clear c6
            by_cases c8 : x5_1.length < 140737488355328
            · rw [if_pos c8] at H
              have LMc8 := Aside0.mk c8
              clear c8
              obtain ⟨y102, hy102⟩ : ∃ y_ : List Int, y_ = (x5_1 ++ [bt (⟨#[97, 98, 99, 100, 101, 102, 103, 104, 105, 106, 107, 108, 109, 110, 111, 112, 113, 114, 115, 116, 117, 118, 119, 120, 121, 122, 48, 49, 50, 51, 52, 53, 54, 55, 56, 57]⟩ : ByteArray) x0_1]) := ⟨_, rfl⟩
              replace H : (some y102) = some r := by first | (rw [hy102]; with_reducible exact H) | (have H2_ := (Option.bind_some _ _).symm.trans H; rw [hy102]; with_reducible exact H2_) | (have H2_ := (Option.bind_some _ _).symm.trans H; with_reducible exact H2_) | with_reducible exact H | (rw [hy102]; exact H) | exact H
              have Ny102 := Aside0.mk hy102
              clear hy102
              obtain rfl := Option.some.inj H
              go_wp2_with (first | ((with_reducible refine gate_callee (f := 72) rfl ?_); refine goesL_ (some 12) rfl rfl Try.func72 (by kernel_rfl) rfl #[.int .i64 x6_1, .int .i64 a1] rfl (by (try simp only [List.map_toArray, List.map_cons, List.map_nil]); first | done | rfl | (simp only [List.length_drop, List.length_take]; rfl)) ?_; (with_reducible refine (puny_threshold.calls x6_1 a1 t101 _ A3.out).mono ?_); rintro e w9 ⟨rfl, hb⟩; refine ⟨_, rfl, ?_⟩; have n0_ := Aside0.mk (Kd.R_below (by (with_reducible repeat (first | apply Kd.R_alloc | apply Kd.R_drewN | apply Kd.R_drew)); exact HO_5.out) hb); have n1_ := Aside0.mk (below_step (by repeat (first | (with_reducible first | exact HB.out | apply below_alloc | apply pw_below_drewN | apply below_drew1) | exact HB.out)) hb); clear HO_5; clear HB; have HO_5 := n0_; have HB := n1_; clear n0_ n1_; (try clear hb); (try clear hb2); (try clear hk); (try clear hi); have p7 : 0 ≤ (x0_1 : Int) := of_decide_eq_true (by first | (with_reducible assumption) | assumption); have q7 : x0_1 < (36 : Int) := of_decide_eq_true (by first | (with_reducible assumption) | assumption); have hx7 := bt_at (⟨#[97, 98, 99, 100, 101, 102, 103, 104, 105, 106, 107, 108, 109, 110, 111, 112, 113, 114, 115, 116, 117, 118, 119, 120, 121, 122, 48, 49, 50, 51, 52, 53, 54, 55, 56, 57]⟩ : ByteArray) x0_1; replace p7 := eq_true p7; replace q7 := eq_true q7) | ((with_reducible refine gate_builtin (b := .append) (xs := #[.tmp 16, .tmp 19]) rfl ?_); at_builtin; refine Kd.R_append (Kd.int .u8) (w0 := w) w.heap.size rfl (.tmp 16) (.tmp 19) 22 5 (.int .u8 0) 1 rfl Try.underlying22 info5 rfl (by decide) (by omega) u5 x5_1 (bt (⟨#[97, 98, 99, 100, 101, 102, 103, 104, 105, 106, 107, 108, 109, 110, 111, 112, 113, 114, 115, 116, 117, 118, 119, 120, 121, 122, 48, 49, 50, 51, 52, 53, 54, 55, 56, 57]⟩ : ByteArray) x0_1) [.int .u8 (bt (⟨#[97, 98, 99, 100, 101, 102, 103, 104, 105, 106, 107, 108, 109, 110, 111, 112, 113, 114, 115, 116, 117, 118, 119, 120, 121, 122, 48, 49, 50, 51, 52, 53, 54, 55, 56, 57]⟩ : ByteArray) x0_1)] (fun _ => True) (fun _ => False) rfl rfl ?aP (fun _ hk => hk.elim) ?aF ?aO ?aB ?aS ?aL ?_; (case aP => exact rfl); (case aB => exact (by repeat (first | (with_reducible first | exact HB.out | apply below_alloc | apply pw_below_drewN | apply below_drew1) | exact HB.out))); (case aF => exact (fun _ _ => trivial)); (case aO => exact (by (with_reducible repeat (first | apply Kd.R_alloc | apply Kd.R_drewN | apply Kd.R_drew)); exact HO_5.out)); (case aS => exact (below_size (by repeat (first | (with_reducible first | exact HB.out | apply below_alloc | apply pw_below_drewN | apply below_drew1) | exact HB.out)))); (case aL => have := LMc8.out; omega); intro v103 w10 ho hb hg hat; rw [← Ny102.out] at ho; have n0_ := Aside0.mk (hb); have n1_ := Aside0.mk (ho); clear HB; clear HO_5; have HB := n0_; have HO104 := n1_; clear n0_ n1_; clear ho hb hg hat))
              go_ret
              exact ⟨_, by first | rfl | (simp [errW_none, errW_some] <;> rfl) | (simp [*, errW_none, errW_some] <;> rfl), by (with_reducible repeat (first | apply Kd.R_alloc | apply Kd.R_drewN | apply Kd.R_drew)); exact HO104.out, by repeat (first | (with_reducible first | exact HB.out | apply below_alloc | apply pw_below_drewN | apply below_drew1) | exact HB.out)⟩
            · rw [if_neg c8] at H
              exact absurd H (by simp)
          · rw [if_neg c6] at H
            exact absurd H (by simp)
        · rw [if_neg c5] at H
          exact absurd H (by simp)
      · rw [if_neg c4] at H
        have c4b0 : decide (x0_1 < t101) = false := decide_eq_false c4
        clear c4
        by_cases c11 : (wrap64 (36 - t101)) = 0
        · rw [if_pos c11] at H
          exact absurd H (by simp)
        · rw [if_neg c11] at H
          have c11b0 : ((wrap64 (36 - t101)) == 0) = false := beq_eq_false_iff_ne.mpr c11
          have c11b1 : ((wrap64 (36 - t101)) != 0) = true := bne_iff_ne.mpr c11
          obtain ⟨ji12, hji12⟩ : ∃ j_ : Int, (wrap64 (t101 + (Int.tmod (wrap64 (x0_1 - t101)) (wrap64 (36 - t101))))) = j_ := ⟨_, rfl⟩
          replace H : (if 0 ≤ (ji12) then (if (ji12) < 36 then (if x5_1.length < 140737488355328 then (puny_number.l0 k1 (wrap64 (Int.tdiv (wrap64 (x0_1 - t101)) (wrap64 (36 - t101)))) a1 (x5_1 ++ [bt (⟨#[97, 98, 99, 100, 101, 102, 103, 104, 105, 106, 107, 108, 109, 110, 111, 112, 113, 114, 115, 116, 117, 118, 119, 120, 121, 122, 48, 49, 50, 51, 52, 53, 54, 55, 56, 57]⟩ : ByteArray) (ji12)]) (wrap64 (x6_1 + 36))) else (none)) else (none)) else (none)) = some r := by first | (rw [hji12] at H; exact H) | (simp only [hji12] at H ⊢; exact H)
          (try rw [hji12] at A3)
          have hji12w : (IntKind.i64.wrap (t101 + (Int.tmod (wrap64 (x0_1 - t101)) (wrap64 (36 - t101))))) = ji12 := (i64_w _).trans hji12
          by_cases c13 : 0 ≤ (ji12)
          · rw [if_pos c13] at H
            have c13b0 : decide (0 ≤ (ji12)) = true := decide_eq_true c13
            clear c13
            by_cases c14 : (ji12) < 36
            · rw [if_pos c14] at H
              have c14b0 : decide ((ji12) < 36) = true := decide_eq_true c14
              clear c14
              by_cases c16 : x5_1.length < 140737488355328
              · rw [if_pos c16] at H
                have LMc16 := Aside0.mk c16
                clear c16
                obtain ⟨y105, hy105⟩ : ∃ y_ : List Int, y_ = (x5_1 ++ [bt (⟨#[97, 98, 99, 100, 101, 102, 103, 104, 105, 106, 107, 108, 109, 110, 111, 112, 113, 114, 115, 116, 117, 118, 119, 120, 121, 122, 48, 49, 50, 51, 52, 53, 54, 55, 56, 57]⟩ : ByteArray) (ji12)]) := ⟨_, rfl⟩
                replace H : (puny_number.l0 k1 (wrap64 (Int.tdiv (wrap64 (x0_1 - t101)) (wrap64 (36 - t101)))) a1 y105 (wrap64 (x6_1 + 36))) = some r := by first | (rw [hy105]; with_reducible exact H) | (have H2_ := (Option.bind_some _ _).symm.trans H; rw [hy105]; with_reducible exact H2_) | (have H2_ := (Option.bind_some _ _).symm.trans H; with_reducible exact H2_) | with_reducible exact H | (rw [hy105]; exact H) | exact H
                have Ny105 := Aside0.mk hy105
                clear hy105
                have H' := Aside0.mk H
                clear H
                go_wp2_with (first | ((with_reducible refine gate_callee (f := 72) rfl ?_); refine goesL_ (some 12) rfl rfl Try.func72 (by kernel_rfl) rfl #[.int .i64 x6_1, .int .i64 a1] rfl (by (try simp only [List.map_toArray, List.map_cons, List.map_nil]); first | done | rfl | (simp only [List.length_drop, List.length_take]; rfl)) ?_; (with_reducible refine (puny_threshold.calls x6_1 a1 t101 _ A3.out).mono ?_); rintro e w17 ⟨rfl, hb⟩; refine ⟨_, rfl, ?_⟩; have n0_ := Aside0.mk (Kd.R_below (by (with_reducible repeat (first | apply Kd.R_alloc | apply Kd.R_drewN | apply Kd.R_drew)); exact HO_5.out) hb); have n1_ := Aside0.mk (below_step (by repeat (first | (with_reducible first | exact HB.out | apply below_alloc | apply pw_below_drewN | apply below_drew1) | exact HB.out)) hb); clear HO_5; clear HB; have HO_5 := n0_; have HB := n1_; clear n0_ n1_; (try clear hb); (try clear hb2); (try clear hk); (try clear hi); have p15 : 0 ≤ ((ji12) : Int) := of_decide_eq_true (by first | (with_reducible assumption) | assumption); have q15 : (ji12) < (36 : Int) := of_decide_eq_true (by first | (with_reducible assumption) | assumption); have hx15 := bt_at (⟨#[97, 98, 99, 100, 101, 102, 103, 104, 105, 106, 107, 108, 109, 110, 111, 112, 113, 114, 115, 116, 117, 118, 119, 120, 121, 122, 48, 49, 50, 51, 52, 53, 54, 55, 56, 57]⟩ : ByteArray) (ji12); replace p15 := eq_true p15; replace q15 := eq_true q15) | ((with_reducible refine gate_builtin (b := .append) (xs := #[.tmp 21, .tmp 31]) rfl ?_); at_builtin; refine Kd.R_append (Kd.int .u8) (w0 := w) w.heap.size rfl (.tmp 21) (.tmp 31) 22 5 (.int .u8 0) 1 rfl Try.underlying22 info5 rfl (by decide) (by omega) u5 x5_1 (bt (⟨#[97, 98, 99, 100, 101, 102, 103, 104, 105, 106, 107, 108, 109, 110, 111, 112, 113, 114, 115, 116, 117, 118, 119, 120, 121, 122, 48, 49, 50, 51, 52, 53, 54, 55, 56, 57]⟩ : ByteArray) (ji12)) [.int .u8 (bt (⟨#[97, 98, 99, 100, 101, 102, 103, 104, 105, 106, 107, 108, 109, 110, 111, 112, 113, 114, 115, 116, 117, 118, 119, 120, 121, 122, 48, 49, 50, 51, 52, 53, 54, 55, 56, 57]⟩ : ByteArray) (ji12))] (fun _ => True) (fun _ => False) rfl rfl ?aP (fun _ hk => hk.elim) ?aF ?aO ?aB ?aS ?aL ?_; (case aP => exact rfl); (case aB => exact (by repeat (first | (with_reducible first | exact HB.out | apply below_alloc | apply pw_below_drewN | apply below_drew1) | exact HB.out))); (case aF => exact (fun _ _ => trivial)); (case aO => exact (by (with_reducible repeat (first | apply Kd.R_alloc | apply Kd.R_drewN | apply Kd.R_drew)); exact HO_5.out)); (case aS => exact (below_size (by repeat (first | (with_reducible first | exact HB.out | apply below_alloc | apply pw_below_drewN | apply below_drew1) | exact HB.out)))); (case aL => have := LMc16.out; omega); intro v106 w18 ho hb hg hat; rw [← Ny105.out] at ho; have n0_ := Aside0.mk (hb); have n1_ := Aside0.mk (ho); clear HB; clear HO_5; have HB := n0_; have HO107 := n1_; clear n0_ n1_; clear ho hb hg hat))
                go_roundg k1
                case measure => have := HK1.out; omega
                case rel => exact ⟨(wrap64 (Int.tdiv (wrap64 (x0_1 - t101)) (wrap64 (36 - t101)))), (y105), (wrap64 (x6_1 + 36)), (by first | rfl | (simp; done) | (simp [*]; done)), (by first | rfl | (simp; done) | (simp [*]; done)), H', ⟨by have := HK1.out; omega⟩, ⟨by (with_reducible repeat (first | apply Kd.R_alloc | apply Kd.R_drewN | apply Kd.R_drew)); exact HO107.out⟩, ⟨by repeat (first | (with_reducible first | exact HB.out | apply below_alloc | apply pw_below_drewN | apply below_drew1) | exact HB.out)⟩⟩
              · rw [if_neg c16] at H
                exact absurd H (by simp)
            · rw [if_neg c14] at H
              exact absurd H (by simp)
          · rw [if_neg c13] at H
            exact absurd H (by simp)

end Go.Proofs.Ytooiajkbpkfplaa.Q

-- from Qf53
-- Made by hp.py, a program of this session, with the kit's printer. Not trusted: Lean checks it.
namespace Go.Proofs.Ytooiajkbpkfplaa.Q
open Go.RowKit Go.Proofs.YtooiajkbpkfplaaW.PrintWords Go.Proofs.YtooiajkbpkfplaaW.PrintLast Go.Proofs.YtooiajkbpkfplaaW.PrintMore
attribute [local go_sem] max2_int min2_int max_two min_two max_three min_three max_four min_four   -- for this text's walks alone
set_option linter.unusedVariables false
set_option linter.unusedSimpArgs false

/-! ### puny_adapt: function 53 -/
mutual
def puny_adapt.j0 : Nat → Int → Int → Option (Int)
  | 0, _, _ => none
  | k + 1, x0, x1 => if x1 = 0 then (none) else (puny_adapt.l0 k (wrap64 (x0 + (wrap64 (Int.tdiv x0 x1)))) 0)
def puny_adapt.l0 : Nat → Int → Int → Option (Int)
  | 0, _, _ => none
  | k + 1, x0, x7 => if x0 > 455 then (puny_adapt.l0 k (wrap64 (Int.tdiv x0 35)) (wrap64 (x7 + 36))) else (if (wrap64 (x0 + 38)) = 0 then (none) else (some (wrap64 (x7 + (wrap64 (Int.tdiv (wrap64 (36 * x0)) (wrap64 (x0 + 38))))))))
end
def puny_adapt.f (k : Nat) (a0 : Int) (a1 : Int) (a2 : Bool) : Option (Int) := if a2 = true then (puny_adapt.j0 k (wrap64 (Int.tdiv a0 700)) a1) else (puny_adapt.j0 k (wrap64 (Int.tdiv a0 2)) a1)
theorem puny_adapt.mono_l : ∀ k, (∀ y0 y1, LeO (puny_adapt.j0 k y0 y1) (puny_adapt.j0 (k + 1) y0 y1)) ∧ (∀ y0 y1, LeO (puny_adapt.l0 k y0 y1) (puny_adapt.l0 (k + 1) y0 y1))
  | 0 => ⟨fun _ _ r h => by simp [puny_adapt.j0] at h, fun _ _ r h => by simp [puny_adapt.l0] at h⟩
  | k + 1 => by
    obtain ⟨ih0, ih1⟩ := puny_adapt.mono_l k
    refine ⟨?_, ?_⟩
    · intro y0 y1
      unfold puny_adapt.j0
      repeat' first
      | (with_reducible exact ih0 _ _)
      | (with_reducible exact ih1 _ _)
      | (with_reducible exact LeO.refl _)
      | (with_reducible exact LeO.none _)
      | (with_reducible refine LeO.ite ?_ ?_)
      | (with_reducible refine LeO.bind ?_ (fun _ => ?_))
      | exact ih0 _ _
      | exact ih1 _ _
      | exact LeO.none _
      | refine LeO.ite ?_ ?_
      | refine LeO.bind ?_ (fun _ => ?_)
    · intro y0 y1
      unfold puny_adapt.l0
      repeat' first
      | (with_reducible exact ih0 _ _)
      | (with_reducible exact ih1 _ _)
      | (with_reducible exact LeO.refl _)
      | (with_reducible exact LeO.none _)
      | (with_reducible refine LeO.ite ?_ ?_)
      | (with_reducible refine LeO.bind ?_ (fun _ => ?_))
      | exact ih0 _ _
      | exact ih1 _ _
      | exact LeO.none _
      | refine LeO.ite ?_ ?_
      | refine LeO.bind ?_ (fun _ => ?_)
theorem puny_adapt.mono : ∀ a0 a1 a2 k, LeO (puny_adapt.f k a0 a1 a2) (puny_adapt.f (k + 1) a0 a1 a2) := by
  intro a0 a1 a2 k
  obtain ⟨ih0, ih1⟩ := puny_adapt.mono_l k
  unfold puny_adapt.f
  repeat' first
      | (with_reducible exact ih0 _ _)
      | (with_reducible exact ih1 _ _)
      | (with_reducible exact LeO.refl _)
      | (with_reducible exact LeO.none _)
      | (with_reducible refine LeO.ite ?_ ?_)
      | (with_reducible refine LeO.bind ?_ (fun _ => ?_))
      | exact ih0 _ _
      | exact ih1 _ _
      | exact LeO.none _
      | refine LeO.ite ?_ ?_
      | refine LeO.bind ?_ (fun _ => ?_)
set_option maxHeartbeats 8000000 in
set_option maxRecDepth 100000 in
theorem puny_adapt.calls (k : Nat) (a0 : Int) (a1 : Int) (a2 : Bool) (r : Int) (w : World) (h : puny_adapt.f k a0 a1 a2 = some r) :
    Calls Try.prog 53 #[.int .i64 a0, .int .i64 a1, .bool a2] w fun e w' => e = .returned (.int .i64 r) ∧ Drawn0 w w' := by
  have H : (if a2 = true then (puny_adapt.j0 k (wrap64 (Int.tdiv a0 700)) a1) else (puny_adapt.j0 k (wrap64 (Int.tdiv a0 2)) a1)) = some r := h
  clear h
  have HC4 := Aside0.mk H
  clear H
  go_enter Try.func53, Try.ntmps53
  go_upto_if 8 with (fail)
  go_cut [0] (fun v0 wc => ∃ (kq : Nat) (x0_3 : Int), v0 = .int .i64 x0_3 ∧ Aside0 (puny_adapt.j0 kq x0_3 a1 = some r) ∧ Aside0 (kq ≤ k) ∧ Drawn0 w wc)
  case first =>
    have H := HC4.out
    clear HC4
    by_cases c5 : a2 = true
    · subst c5
      have H1 : (puny_adapt.j0 k (wrap64 (Int.tdiv a0 700)) a1) = some r := by rw [if_pos rfl] at H; exact H
      clear H
      have H := H1
      clear H1
      have H' := Aside0.mk H
      clear H
      go_wp2
      go_meet
      case rel => exact ⟨_, (wrap64 (Int.tdiv a0 700)), (by first | rfl | (simp; done) | (simp [*]; done)), H', ⟨by first | omega | exact Nat.le_refl _⟩, by repeat (first | exact Drawn0.refl _ | apply Drawn0.step)⟩
    · replace c5 := Bool.eq_false_iff.mpr c5
      subst c5
      have H1 : (puny_adapt.j0 k (wrap64 (Int.tdiv a0 2)) a1) = some r := by rw [if_neg (show ¬ (false = true) by decide)] at H; exact H
      clear H
      have H := H1
      clear H1
      have H' := Aside0.mk H
      clear H
      go_wp2
      go_meet
      case rel => exact ⟨_, (wrap64 (Int.tdiv a0 2)), (by first | rfl | (simp; done) | (simp [*]; done)), H', ⟨by first | omega | exact Nat.le_refl _⟩, by repeat (first | exact Drawn0.refl _ | apply Drawn0.step)⟩
  case rest =>
    clear HC4
    try clear p2
    try clear c5
    obtain ⟨kq, x0_3, rfl, HA, HJ3, ⟨mc3, rfl⟩⟩ := hcut
    cases kq with
    | zero => exact absurd HA.out (by simp [puny_adapt.j0])
    | succ kj3 =>
      have H := HA.out
      clear HA
      simp only [puny_adapt.j0] at H
      by_cases c6 : a1 = 0
      · rw [if_pos c6] at H
        exact absurd H (by simp)
      · rw [if_neg c6] at H
        have c6b0 : (a1 == 0) = false := beq_eq_false_iff_ne.mpr c6
        have c6b1 : (a1 != 0) = true := bne_iff_ne.mpr c6
        have H' := Aside0.mk H
        clear H
        go_wp2
        go_loopg [0, 7] kj3 (fun kq v0 v7 w' => ∃ (x0_2 : Int) (x7_2 : Int), v0 = .int .i64 x0_2 ∧ v7 = .int .i64 x7_2 ∧ Aside0 (puny_adapt.l0 kq x0_2 x7_2 = some r) ∧ Aside0 (kq ≤ kj3) ∧ Drawn0 w w')
        case atStart => exact ⟨(wrap64 (x0_3 + (wrap64 (Int.tdiv x0_3 a1)))), (0), (by first | rfl | (simp; done) | (simp [*]; done)), (by first | rfl | (simp; done) | (simp [*]; done)), H', ⟨Nat.le_refl _⟩, by repeat (first | exact Drawn0.refl _ | apply Drawn0.step)⟩
        case round =>
          clear H'
          try clear p2
          try clear c3
          try clear c5
          try clear c6
          try clear c6b0
          try clear c6b1
          try clear p6
          try clear p2
          obtain ⟨x0_2, x7_2, rfl, rfl, HA, HK2, ⟨m2, rfl⟩⟩ := hrel
          cases gk with
          | zero => exact absurd HA.out (by simp [puny_adapt.l0])
          | succ k2 =>
            have H := HA.out
            clear HA
            simp only [puny_adapt.l0] at H
            by_cases c7 : x0_2 > 455
            · rw [if_pos c7] at H
              have c7b0 : decide (455 < x0_2) = true := decide_eq_true c7
              clear c7
              have H' := Aside0.mk H
              clear H
              go_wp2
              go_roundg k2
              case measure => have := HJ3.out; have := HK2.out; omega
              case rel => exact ⟨(wrap64 (Int.tdiv x0_2 35)), (wrap64 (x7_2 + 36)), (by first | rfl | (simp; done) | (simp [*]; done)), (by first | rfl | (simp; done) | (simp [*]; done)), H', ⟨by have := HJ3.out; have := HK2.out; omega⟩, by repeat (first | exact Drawn0.refl _ | apply Drawn0.step)⟩
            · rw [if_neg c7] at H
              have c7b0 : decide (455 < x0_2) = false := decide_eq_false c7
              clear c7
              by_cases c8 : (wrap64 (x0_2 + 38)) = 0
              · rw [if_pos c8] at H
                exact absurd H (by simp)
              · rw [if_neg c8] at H
                have c8b0 : ((wrap64 (x0_2 + 38)) == 0) = false := beq_eq_false_iff_ne.mpr c8
                have c8b1 : ((wrap64 (x0_2 + 38)) != 0) = true := bne_iff_ne.mpr c8
                obtain rfl := Option.some.inj H
                go_wp2
                go_ret
                exact ⟨by first | rfl | (simp; done) | (simp [*]; done), by repeat (first | exact Drawn0.refl _ | apply Drawn0.step)⟩

end Go.Proofs.Ytooiajkbpkfplaa.Q

-- from Qf39
-- Made by hp.py, a program of this session, with the kit's printer. Not trusted: Lean checks it.
namespace Go.Proofs.Ytooiajkbpkfplaa.Q
open Go.RowKit Go.Proofs.YtooiajkbpkfplaaW.PrintWords Go.Proofs.YtooiajkbpkfplaaW.PrintLast Go.Proofs.YtooiajkbpkfplaaW.PrintMore
attribute [local go_sem] max2_int min2_int max_two min_two max_three min_three max_four min_four   -- for this text's walks alone
set_option linter.unusedVariables false
set_option linter.unusedSimpArgs false

/-! ### utf_Scalar: function 39 -/
def utf_Scalar.f (a0 : Int) : Option (Bool) := if a0 ≥ 0 then (if a0 ≤ 1114111 then (if a0 < 55296 then (some true) else (some (decide (a0 > 57343)))) else (some false)) else (some false)
set_option maxHeartbeats 8000000 in
set_option maxRecDepth 100000 in
theorem utf_Scalar.calls (a0 : Int) (r : Bool) (w : World) (h : utf_Scalar.f a0 = some r) :
    Calls Try.prog 39 #[.int .i64 a0] w fun e w' => e = .returned (.bool r) ∧ Drawn0 w w' := by
  have H : (if a0 ≥ 0 then (if a0 ≤ 1114111 then (if a0 < 55296 then (some true) else (some (decide (a0 > 57343)))) else (some false)) else (some false)) = some r := h
  clear h
  by_cases c2 : a0 ≥ 0
  · rw [if_pos c2] at H
    have c2b0 : decide (0 ≤ a0) = true := decide_eq_true c2
    clear c2
    by_cases c3 : a0 ≤ 1114111
    · rw [if_pos c3] at H
      have c3b0 : decide (a0 ≤ 1114111) = true := decide_eq_true c3
      clear c3
      by_cases c4 : a0 < 55296
      · rw [if_pos c4] at H
        have c4b0 : decide (a0 < 55296) = true := decide_eq_true c4
        clear c4
        obtain rfl := Option.some.inj H
        go_enter Try.func39, Try.ntmps39
        go_wp2
        go_ret
        exact ⟨by first | rfl | (simp; done) | (simp [*]; done), by repeat (first | exact Drawn0.refl _ | apply Drawn0.step)⟩
      · rw [if_neg c4] at H
        have c4b0 : decide (a0 < 55296) = false := decide_eq_false c4
        clear c4
        obtain rfl := Option.some.inj H
        go_enter Try.func39, Try.ntmps39
        go_wp2
        go_ret
        exact ⟨by first | rfl | (simp; done) | (simp [*]; done), by repeat (first | exact Drawn0.refl _ | apply Drawn0.step)⟩
    · rw [if_neg c3] at H
      have c3b0 : decide (a0 ≤ 1114111) = false := decide_eq_false c3
      clear c3
      obtain rfl := Option.some.inj H
      go_enter Try.func39, Try.ntmps39
      go_wp2
      go_ret
      exact ⟨by first | rfl | (simp; done) | (simp [*]; done), by repeat (first | exact Drawn0.refl _ | apply Drawn0.step)⟩
  · rw [if_neg c2] at H
    have c2b0 : decide (0 ≤ a0) = false := decide_eq_false c2
    clear c2
    obtain rfl := Option.some.inj H
    go_enter Try.func39, Try.ntmps39
    go_wp2
    go_ret
    exact ⟨by first | rfl | (simp; done) | (simp [*]; done), by repeat (first | exact Drawn0.refl _ | apply Drawn0.step)⟩

end Go.Proofs.Ytooiajkbpkfplaa.Q

-- from Qf50
-- Made by hp.py, a program of this session, with the kit's printer. Not trusted: Lean checks it.
namespace Go.Proofs.Ytooiajkbpkfplaa.Q
open Go.RowKit Go.Proofs.YtooiajkbpkfplaaW.PrintWords Go.Proofs.YtooiajkbpkfplaaW.PrintLast Go.Proofs.YtooiajkbpkfplaaW.PrintMore
attribute [local go_sem] max2_int min2_int max_two min_two max_three min_three max_four min_four   -- for this text's walks alone
set_option linter.unusedVariables false
set_option linter.unusedSimpArgs false

/-! ### puny_Encode_1: function 50 -/
def puny_Encode_1.f (a0 : Int) : Option (Bool) := (utf_Scalar.f a0).bind fun t101 => (some (!t101))
set_option maxHeartbeats 8000000 in
set_option maxRecDepth 100000 in
theorem puny_Encode_1.calls (a0 : Int) (r : Bool) (w : World) (h : puny_Encode_1.f a0 = some r) :
    Calls Try.prog 50 #[.int .i64 a0] w fun e w' => e = .returned (.bool r) ∧ Drawn0 w w' := by
  have H : ((utf_Scalar.f a0).bind fun t101 => (some (!t101))) = some r := h
  clear h
  replace H := Option.bind_eq_some_iff.mp H
  obtain ⟨t101, A20, H⟩ := H
  replace H : (some (!t101)) = some r := H
  have A2 := Aside0.mk A20
  clear A20
  obtain rfl := Option.some.inj H
  go_enter Try.func50, Try.ntmps50
  go_wp2_with (first | ((with_reducible refine gate_callee (f := 39) rfl ?_); refine goesL_ (some 4) rfl rfl Try.func39 (by kernel_rfl) rfl #[.int .i64 a0] rfl (by (try simp only [List.map_toArray, List.map_cons, List.map_nil]); first | done | rfl | (simp only [List.length_drop, List.length_take]; rfl)) ?_; (with_reducible refine (utf_Scalar.calls a0 t101 _ A2.out).mono ?_); rintro e w' ⟨rfl, ⟨nd, rfl⟩⟩; refine ⟨_, rfl, ?_⟩))
  go_ret
  exact ⟨by first | rfl | (simp; done) | (simp [*]; done), by repeat (first | exact Drawn0.refl _ | apply Drawn0.step)⟩

end Go.Proofs.Ytooiajkbpkfplaa.Q

-- from Qf71at50
-- Made by hp.py, a program of this session, with the kit's printer. Not trusted: Lean checks it.
namespace Go.Proofs.Ytooiajkbpkfplaa.Q
open Go.RowKit Go.Proofs.YtooiajkbpkfplaaW.PrintWords Go.Proofs.YtooiajkbpkfplaaW.PrintLast Go.Proofs.YtooiajkbpkfplaaW.PrintMore
attribute [local go_sem] max2_int min2_int max_two min_two max_three min_three max_four min_four   -- for this text's walks alone
set_option linter.unusedVariables false
set_option linter.unusedSimpArgs false

/-! ### slices_IndexFunc_int_int_at_puny_Encode_1: function 71 -/
def slices_IndexFunc_int_int_at_puny_Encode_1.l0 : Nat → List Int → Int → Int → Option (Int)
  | 0, _, _, _ => none
  | k + 1, x0, x7, x8 => if x8 < x7 then (if 0 ≤ x8 then (if x8 < (x0.length : Int) then ((puny_Encode_1.f (rd x0 x8)).bind fun t102 => (if t102 = true then (some x8) else (slices_IndexFunc_int_int_at_puny_Encode_1.l0 k x0 x7 (wrap64 (x8 + 1))))) else (none)) else (none)) else (some (-1))
def slices_IndexFunc_int_int_at_puny_Encode_1.f (k : Nat) (l0 : List Int)  : Option (Int) := slices_IndexFunc_int_int_at_puny_Encode_1.l0 k l0 (l0.length : Int) 0
theorem slices_IndexFunc_int_int_at_puny_Encode_1.mono_l : ∀ k, (∀ y0 y1 y2, LeO (slices_IndexFunc_int_int_at_puny_Encode_1.l0 k y0 y1 y2) (slices_IndexFunc_int_int_at_puny_Encode_1.l0 (k + 1) y0 y1 y2))
  | 0 => fun _ _ _ r h => by simp [slices_IndexFunc_int_int_at_puny_Encode_1.l0] at h
  | k + 1 => by
    have ih0 := slices_IndexFunc_int_int_at_puny_Encode_1.mono_l k
    · intro y0 y1 y2
      unfold slices_IndexFunc_int_int_at_puny_Encode_1.l0
      repeat' first
      | (with_reducible exact ih0 _ _ _)
      | (with_reducible exact LeO.refl _)
      | (with_reducible exact LeO.none _)
      | (with_reducible refine LeO.ite ?_ ?_)
      | (with_reducible refine LeO.bind ?_ (fun _ => ?_))
      | exact ih0 _ _ _
      | exact LeO.none _
      | refine LeO.ite ?_ ?_
      | refine LeO.bind ?_ (fun _ => ?_)
theorem slices_IndexFunc_int_int_at_puny_Encode_1.mono : ∀ a0 k, LeO (slices_IndexFunc_int_int_at_puny_Encode_1.f k a0) (slices_IndexFunc_int_int_at_puny_Encode_1.f (k + 1) a0) := by
  intro a0 k
  have ih0 := slices_IndexFunc_int_int_at_puny_Encode_1.mono_l k
  unfold slices_IndexFunc_int_int_at_puny_Encode_1.f
  repeat' first
      | (with_reducible exact ih0 _ _ _)
      | (with_reducible exact LeO.refl _)
      | (with_reducible exact LeO.none _)
      | (with_reducible refine LeO.ite ?_ ?_)
      | (with_reducible refine LeO.bind ?_ (fun _ => ?_))
      | exact ih0 _ _ _
      | exact LeO.none _
      | refine LeO.ite ?_ ?_
      | refine LeO.bind ?_ (fun _ => ?_)
set_option maxHeartbeats 8000000 in
set_option maxRecDepth 100000 in
theorem slices_IndexFunc_int_int_at_puny_Encode_1.calls (k : Nat) (A0 : Option Addr) (c0 : Nat) (l0 : List Int)  (r : Int) (w : World) (hr0 : Kd.C (Kd.int .i64) w A0 l0.length l0) (hc0 : l0.length ≤ c0) (h : slices_IndexFunc_int_int_at_puny_Encode_1.f k l0 = some r) :
    Calls Try.prog 71 #[.slice A0 l0.length c0, .func (.func 50) #[] #[]] w fun e w' => e = .returned (.int .i64 r) ∧ Drawn0 w w' := by
  have HR0 := Aside0.mk hr0
  have HC0 := Aside0.mk hc0
  clear hr0 hc0
  have H : (slices_IndexFunc_int_int_at_puny_Encode_1.l0 k l0 (l0.length : Int) 0) = some r := h
  clear h
  have H' := Aside0.mk H
  clear H
  go_enter Try.func71, Try.ntmps71
  go_wp2
  go_loopg [8] k (fun kq v8 w' => ∃ (x8_1 : Int), v8 = .int .i64 x8_1 ∧ Aside0 (slices_IndexFunc_int_int_at_puny_Encode_1.l0 kq l0 (l0.length : Int) x8_1 = some r) ∧ Aside0 (kq ≤ k) ∧ Drawn0 w w')
  case atStart => exact ⟨(0), (by first | rfl | (simp; done) | (simp [*]; done)), H', ⟨Nat.le_refl _⟩, by repeat (first | exact Drawn0.refl _ | apply Drawn0.step)⟩
  case round =>
    clear H'
    try clear p2
    obtain ⟨x8_1, rfl, HA, HK1, ⟨m1, rfl⟩⟩ := hrel
    cases gk with
    | zero => exact absurd HA.out (by simp [slices_IndexFunc_int_int_at_puny_Encode_1.l0])
    | succ k1 =>
      have H := HA.out
      clear HA
      simp only [slices_IndexFunc_int_int_at_puny_Encode_1.l0] at H
      by_cases c3 : x8_1 < (l0.length : Int)
      · rw [if_pos c3] at H
        have c3b0 : decide (x8_1 < (l0.length : Int)) = true := decide_eq_true c3
        clear c3
        by_cases c4 : 0 ≤ x8_1
        · rw [if_pos c4] at H
          have c4b0 : decide (0 ≤ x8_1) = true := decide_eq_true c4
          clear c4
          by_cases c5 : x8_1 < (l0.length : Int)
          · rw [if_pos c5] at H
            have c5b0 : decide (x8_1 < (l0.length : Int)) = true := decide_eq_true c5
            clear c5
            replace H := Option.bind_eq_some_iff.mp H
            obtain ⟨t102, A60, H⟩ := H
            replace H : (if t102 = true then (some x8_1) else (slices_IndexFunc_int_int_at_puny_Encode_1.l0 k1 l0 (l0.length : Int) (wrap64 (x8_1 + 1)))) = some r := H
            have A6 := Aside0.mk A60
            clear A60
            by_cases c7 : t102 = true
            · subst c7
              have H1 : (some x8_1) = some r := by rw [if_pos rfl] at H; exact H
              clear H
              have H := H1
              clear H1
              obtain rfl := Option.some.inj H
              have p101 : 0 ≤ (x8_1 : Int) := of_decide_eq_true (by first | (with_reducible assumption) | assumption)
              have q101 : x8_1 < (l0.length : Int) := of_decide_eq_true (by first | (with_reducible assumption) | assumption)
              obtain ⟨ad101, e101, hx101_0⟩ := Kd.at_int HR0.out x8_1 p101 q101
              cases e101
              replace p101 := eq_true p101
              replace q101 := eq_true q101
              go_wp2_with (first | (go_at_call 50; (with_reducible refine (puny_Encode_1.calls (rd l0 x8_1) true _ A6.out).mono ?_); rintro e w' ⟨rfl, ⟨nd, rfl⟩⟩))
              go_ret
              exact ⟨by first | rfl | (simp; done) | (simp [*]; done), by repeat (first | exact Drawn0.refl _ | apply Drawn0.step)⟩
            · replace c7 := Bool.eq_false_iff.mpr c7
              subst c7
              have H1 : (slices_IndexFunc_int_int_at_puny_Encode_1.l0 k1 l0 (l0.length : Int) (wrap64 (x8_1 + 1))) = some r := by rw [if_neg (show ¬ (false = true) by decide)] at H; exact H
              clear H
              have H := H1
              clear H1
              have H' := Aside0.mk H
              clear H
              have p101 : 0 ≤ (x8_1 : Int) := of_decide_eq_true (by first | (with_reducible assumption) | assumption)
              have q101 : x8_1 < (l0.length : Int) := of_decide_eq_true (by first | (with_reducible assumption) | assumption)
              obtain ⟨ad101, e101, hx101_0⟩ := Kd.at_int HR0.out x8_1 p101 q101
              cases e101
              replace p101 := eq_true p101
              replace q101 := eq_true q101
              go_wp2_with (first | (go_at_call 50; (with_reducible refine (puny_Encode_1.calls (rd l0 x8_1) false _ A6.out).mono ?_); rintro e w' ⟨rfl, ⟨nd, rfl⟩⟩))
              go_roundg k1
              case measure => have := HK1.out; omega
              case rel => exact ⟨(wrap64 (x8_1 + 1)), (by first | rfl | (simp; done) | (simp [*]; done)), H', ⟨by have := HK1.out; omega⟩, by repeat (first | exact Drawn0.refl _ | apply Drawn0.step)⟩
          · rw [if_neg c5] at H
            exact absurd H (by simp)
        · rw [if_neg c4] at H
          exact absurd H (by simp)
      · rw [if_neg c3] at H
        have c3b0 : decide (x8_1 < (l0.length : Int)) = false := decide_eq_false c3
        clear c3
        obtain rfl := Option.some.inj H
        go_wp2
        go_ret
        exact ⟨by first | rfl | (simp; done) | (simp [*]; done), by repeat (first | exact Drawn0.refl _ | apply Drawn0.step)⟩

end Go.Proofs.Ytooiajkbpkfplaa.Q

-- from Qf49at50
-- Made by hp.py, a program of this session, with the kit's printer. Not trusted: Lean checks it.
namespace Go.Proofs.Ytooiajkbpkfplaa.Q
open Go.RowKit Go.Proofs.YtooiajkbpkfplaaW.PrintWords Go.Proofs.YtooiajkbpkfplaaW.PrintLast Go.Proofs.YtooiajkbpkfplaaW.PrintMore
attribute [local go_sem] max2_int min2_int max_two min_two max_three min_three max_four min_four   -- for this text's walks alone
set_option linter.unusedVariables false
set_option linter.unusedSimpArgs false

/-! ### slices_ContainsFunc_int_int_at_puny_Encode_1: function 49 -/
def slices_ContainsFunc_int_int_at_puny_Encode_1.f (k : Nat) (l0 : List Int)  : Option (Bool) := (slices_IndexFunc_int_int_at_puny_Encode_1.f k l0).bind fun t103 => (some (decide (t103 ≥ 0)))
theorem slices_ContainsFunc_int_int_at_puny_Encode_1.mono : ∀ a0 k, LeO (slices_ContainsFunc_int_int_at_puny_Encode_1.f k a0) (slices_ContainsFunc_int_int_at_puny_Encode_1.f (k + 1) a0) := by
  intro a0 k
  unfold slices_ContainsFunc_int_int_at_puny_Encode_1.f
  repeat' first
      | (with_reducible exact slices_IndexFunc_int_int_at_puny_Encode_1.mono _ _)
      | (with_reducible exact LeO.refl _)
      | (with_reducible exact LeO.none _)
      | (with_reducible refine LeO.ite ?_ ?_)
      | (with_reducible refine LeO.bind ?_ (fun _ => ?_))
      | exact slices_IndexFunc_int_int_at_puny_Encode_1.mono _ _
      | exact LeO.none _
      | refine LeO.ite ?_ ?_
      | refine LeO.bind ?_ (fun _ => ?_)
set_option maxHeartbeats 8000000 in
set_option maxRecDepth 100000 in
theorem slices_ContainsFunc_int_int_at_puny_Encode_1.calls (k : Nat) (A0 : Option Addr) (c0 : Nat) (l0 : List Int)  (r : Bool) (w : World) (hr0 : Kd.C (Kd.int .i64) w A0 l0.length l0) (hc0 : l0.length ≤ c0) (h : slices_ContainsFunc_int_int_at_puny_Encode_1.f k l0 = some r) :
    Calls Try.prog 49 #[.slice A0 l0.length c0, .func (.func 50) #[] #[]] w fun e w' => e = .returned (.bool r) ∧ Drawn0 w w' := by
  have HR0 := Aside0.mk hr0
  have HC0 := Aside0.mk hc0
  clear hr0 hc0
  have H : ((slices_IndexFunc_int_int_at_puny_Encode_1.f k l0).bind fun t103 => (some (decide (t103 ≥ 0)))) = some r := h
  clear h
  replace H := Option.bind_eq_some_iff.mp H
  obtain ⟨t103, A30, H⟩ := H
  replace H : (some (decide (t103 ≥ 0))) = some r := H
  have A3 := Aside0.mk A30
  clear A30
  obtain rfl := Option.some.inj H
  go_enter Try.func49, Try.ntmps49
  go_wp2_with (first | (go_at_call 71; (with_reducible refine (slices_IndexFunc_int_int_at_puny_Encode_1.calls k _ _ l0 t103 _ ?side1 ?side2 A3.out).mono ?_); (case side1 => repeat (first | exact HR0.out | (with_reducible refine Kd.C_alloc ?_ _) | (with_reducible refine Kd.C_drewN ?_ _) | (with_reducible refine Kd.C_drew ?_))); (case side2 => exact HC0.out); rintro e w' ⟨rfl, ⟨nd, rfl⟩⟩))
  go_ret
  exact ⟨by first | rfl | (simp; done) | (simp [*]; done), by repeat (first | exact Drawn0.refl _ | apply Drawn0.step)⟩

end Go.Proofs.Ytooiajkbpkfplaa.Q

-- from Qf26
-- Made by hp.py, a program of this session, with the kit's printer. Not trusted: Lean checks it.
namespace Go.Proofs.Ytooiajkbpkfplaa.Q
open Go.RowKit Go.Proofs.YtooiajkbpkfplaaW.PrintWords Go.Proofs.YtooiajkbpkfplaaW.PrintLast Go.Proofs.YtooiajkbpkfplaaW.PrintMore
attribute [local go_sem] max2_int min2_int max_two min_two max_three min_three max_four min_four   -- for this text's walks alone
set_option linter.unusedVariables false
set_option linter.unusedSimpArgs false

/-! ### puny_Encode: function 26 -/
mutual
def puny_Encode.l0 : Nat → List Int → List Int → List Int → Int → Int → Option (List Int × Int)
  | 0, _, _, _, _, _ => none
  | k + 1, x0, x4, x22, x23, x24 => if x24 < x23 then (if 0 ≤ x24 then (if x24 < (x22.length : Int) then (if (rd x22 x24) < 128 then (if x4.length < 140737488355328 then (puny_Encode.l0 k x0 (x4 ++ [(rd x22 x24) % 256]) x22 x23 (wrap64 (x24 + 1))) else (none)) else (puny_Encode.l0 k x0 x4 x22 x23 (wrap64 (x24 + 1)))) else (none)) else (none)) else (if (x4.length : Int) > 0 then (if x4.length < 140737488355328 then (puny_Encode.j1 k x0 (x4 ++ [45]) (x4.length : Int)) else (none)) else (puny_Encode.j1 k x0 x4 (x4.length : Int)))
def puny_Encode.j1 : Nat → List Int → List Int → Int → Option (List Int × Int)
  | 0, _, _, _ => none
  | k + 1, x0, x4, x7 => puny_Encode.l1 k x0 x4 x7 128 72 0 x7
def puny_Encode.l1 : Nat → List Int → List Int → Int → Int → Int → Int → Int → Option (List Int × Int)
  | 0, _, _, _, _, _, _, _ => none
  | k + 1, x0, x4, x7, x8, x9, x10, x11 => if x11 < (x0.length : Int) then ((puny_least.f k x0 x8).bind fun t112 => (puny_Encode.l2 k x0 x4 x7 t112 x9 (wrap64 (x10 + (wrap64 ((wrap64 (t112 - x8)) * (wrap64 (x11 + 1)))))) x11 x0 (x0.length : Int) 0)) else (some (x4, 0))
def puny_Encode.l2 : Nat → List Int → List Int → Int → Int → Int → Int → Int → List Int → Int → Int → Option (List Int × Int)
  | 0, _, _, _, _, _, _, _, _, _, _ => none
  | k + 1, x0, x4, x7, x8, x9, x10, x11, x60, x61, x62 => if x62 < x61 then (if 0 ≤ x62 then (if x62 < (x60.length : Int) then (if (rd x60 x62) < x8 then (puny_Encode.l2 k x0 x4 x7 x8 x9 (wrap64 (x10 + 1)) x11 x60 x61 (wrap64 (x62 + 1))) else (if (rd x60 x62) = x8 then ((puny_number.f k x10 x9).bind fun t114 => (if x4.length + t114.length < 140737488355328 then ((puny_adapt.f k x10 (wrap64 (x11 + 1)) (x11 == x7)).bind fun t120 => (puny_Encode.l2 k x0 (x4 ++ t114) x7 x8 t120 0 (wrap64 (x11 + 1)) x60 x61 (wrap64 (x62 + 1)))) else (none))) else (puny_Encode.l2 k x0 x4 x7 x8 x9 x10 x11 x60 x61 (wrap64 (x62 + 1))))) else (none)) else (none)) else (puny_Encode.l1 k x0 x4 x7 (wrap64 (x8 + 1)) x9 (wrap64 (x10 + 1)) x11)
end
def puny_Encode.f (k : Nat) (l0 : List Int) : Option (List Int × Int) := (slices_ContainsFunc_int_int_at_puny_Encode_1.f k l0).bind fun t104 => (if t104 = true then (some (([] : List Int), 10)) else (if (l0.length : Int) > 1000 then (some (([] : List Int), 36)) else (puny_Encode.l0 k l0 ([] : List Int) l0 (l0.length : Int) 0)))
theorem puny_Encode.mono_l : ∀ k, (∀ y0 y1 y2 y3 y4, LeO (puny_Encode.l0 k y0 y1 y2 y3 y4) (puny_Encode.l0 (k + 1) y0 y1 y2 y3 y4)) ∧ (∀ y0 y1 y2, LeO (puny_Encode.j1 k y0 y1 y2) (puny_Encode.j1 (k + 1) y0 y1 y2)) ∧ (∀ y0 y1 y2 y3 y4 y5 y6, LeO (puny_Encode.l1 k y0 y1 y2 y3 y4 y5 y6) (puny_Encode.l1 (k + 1) y0 y1 y2 y3 y4 y5 y6)) ∧ (∀ y0 y1 y2 y3 y4 y5 y6 y7 y8 y9, LeO (puny_Encode.l2 k y0 y1 y2 y3 y4 y5 y6 y7 y8 y9) (puny_Encode.l2 (k + 1) y0 y1 y2 y3 y4 y5 y6 y7 y8 y9))
  | 0 => ⟨fun _ _ _ _ _ r h => by simp [puny_Encode.l0] at h, fun _ _ _ r h => by simp [puny_Encode.j1] at h, fun _ _ _ _ _ _ _ r h => by simp [puny_Encode.l1] at h, fun _ _ _ _ _ _ _ _ _ _ r h => by simp [puny_Encode.l2] at h⟩
  | k + 1 => by
    obtain ⟨ih0, ih1, ih2, ih3⟩ := puny_Encode.mono_l k
    refine ⟨?_, ?_, ?_, ?_⟩
    · intro y0 y1 y2 y3 y4
      unfold puny_Encode.l0
      repeat' first
      | (with_reducible exact ih0 _ _ _ _ _)
      | (with_reducible exact ih1 _ _ _)
      | (with_reducible exact ih2 _ _ _ _ _ _ _)
      | (with_reducible exact ih3 _ _ _ _ _ _ _ _ _ _)
      | (with_reducible exact puny_adapt.mono _ _ _ _)
      | (with_reducible exact puny_least.mono _ _ _)
      | (with_reducible exact puny_number.mono _ _ _)
      | (with_reducible exact slices_ContainsFunc_int_int_at_puny_Encode_1.mono _ _)
      | (with_reducible exact LeO.refl _)
      | (with_reducible exact LeO.none _)
      | (with_reducible refine LeO.ite ?_ ?_)
      | (with_reducible refine LeO.bind ?_ (fun _ => ?_))
      | exact ih0 _ _ _ _ _
      | exact ih1 _ _ _
      | exact ih2 _ _ _ _ _ _ _
      | exact ih3 _ _ _ _ _ _ _ _ _ _
      | exact puny_adapt.mono _ _ _ _
      | exact puny_least.mono _ _ _
      | exact puny_number.mono _ _ _
      | exact slices_ContainsFunc_int_int_at_puny_Encode_1.mono _ _
      | exact LeO.none _
      | refine LeO.ite ?_ ?_
      | refine LeO.bind ?_ (fun _ => ?_)
    · intro y0 y1 y2
      unfold puny_Encode.j1
      repeat' first
      | (with_reducible exact ih0 _ _ _ _ _)
      | (with_reducible exact ih1 _ _ _)
      | (with_reducible exact ih2 _ _ _ _ _ _ _)
      | (with_reducible exact ih3 _ _ _ _ _ _ _ _ _ _)
      | (with_reducible exact puny_adapt.mono _ _ _ _)
      | (with_reducible exact puny_least.mono _ _ _)
      | (with_reducible exact puny_number.mono _ _ _)
      | (with_reducible exact slices_ContainsFunc_int_int_at_puny_Encode_1.mono _ _)
      | (with_reducible exact LeO.refl _)
      | (with_reducible exact LeO.none _)
      | (with_reducible refine LeO.ite ?_ ?_)
      | (with_reducible refine LeO.bind ?_ (fun _ => ?_))
      | exact ih0 _ _ _ _ _
      | exact ih1 _ _ _
      | exact ih2 _ _ _ _ _ _ _
      | exact ih3 _ _ _ _ _ _ _ _ _ _
      | exact puny_adapt.mono _ _ _ _
      | exact puny_least.mono _ _ _
      | exact puny_number.mono _ _ _
      | exact slices_ContainsFunc_int_int_at_puny_Encode_1.mono _ _
      | exact LeO.none _
      | refine LeO.ite ?_ ?_
      | refine LeO.bind ?_ (fun _ => ?_)
    · intro y0 y1 y2 y3 y4 y5 y6
      unfold puny_Encode.l1
      repeat' first
      | (with_reducible exact ih0 _ _ _ _ _)
      | (with_reducible exact ih1 _ _ _)
      | (with_reducible exact ih2 _ _ _ _ _ _ _)
      | (with_reducible exact ih3 _ _ _ _ _ _ _ _ _ _)
      | (with_reducible exact puny_adapt.mono _ _ _ _)
      | (with_reducible exact puny_least.mono _ _ _)
      | (with_reducible exact puny_number.mono _ _ _)
      | (with_reducible exact slices_ContainsFunc_int_int_at_puny_Encode_1.mono _ _)
      | (with_reducible exact LeO.refl _)
      | (with_reducible exact LeO.none _)
      | (with_reducible refine LeO.ite ?_ ?_)
      | (with_reducible refine LeO.bind ?_ (fun _ => ?_))
      | exact ih0 _ _ _ _ _
      | exact ih1 _ _ _
      | exact ih2 _ _ _ _ _ _ _
      | exact ih3 _ _ _ _ _ _ _ _ _ _
      | exact puny_adapt.mono _ _ _ _
      | exact puny_least.mono _ _ _
      | exact puny_number.mono _ _ _
      | exact slices_ContainsFunc_int_int_at_puny_Encode_1.mono _ _
      | exact LeO.none _
      | refine LeO.ite ?_ ?_
      | refine LeO.bind ?_ (fun _ => ?_)
    · intro y0 y1 y2 y3 y4 y5 y6 y7 y8 y9
      unfold puny_Encode.l2
      repeat' first
      | (with_reducible exact ih0 _ _ _ _ _)
      | (with_reducible exact ih1 _ _ _)
      | (with_reducible exact ih2 _ _ _ _ _ _ _)
      | (with_reducible exact ih3 _ _ _ _ _ _ _ _ _ _)
      | (with_reducible exact puny_adapt.mono _ _ _ _)
      | (with_reducible exact puny_least.mono _ _ _)
      | (with_reducible exact puny_number.mono _ _ _)
      | (with_reducible exact slices_ContainsFunc_int_int_at_puny_Encode_1.mono _ _)
      | (with_reducible exact LeO.refl _)
      | (with_reducible exact LeO.none _)
      | (with_reducible refine LeO.ite ?_ ?_)
      | (with_reducible refine LeO.bind ?_ (fun _ => ?_))
      | exact ih0 _ _ _ _ _
      | exact ih1 _ _ _
      | exact ih2 _ _ _ _ _ _ _
      | exact ih3 _ _ _ _ _ _ _ _ _ _
      | exact puny_adapt.mono _ _ _ _
      | exact puny_least.mono _ _ _
      | exact puny_number.mono _ _ _
      | exact slices_ContainsFunc_int_int_at_puny_Encode_1.mono _ _
      | exact LeO.none _
      | refine LeO.ite ?_ ?_
      | refine LeO.bind ?_ (fun _ => ?_)
theorem puny_Encode.mono : ∀ a0 k, LeO (puny_Encode.f k a0) (puny_Encode.f (k + 1) a0) := by
  intro a0 k
  obtain ⟨ih0, ih1, ih2, ih3⟩ := puny_Encode.mono_l k
  unfold puny_Encode.f
  repeat' first
      | (with_reducible exact ih0 _ _ _ _ _)
      | (with_reducible exact ih1 _ _ _)
      | (with_reducible exact ih2 _ _ _ _ _ _ _)
      | (with_reducible exact ih3 _ _ _ _ _ _ _ _ _ _)
      | (with_reducible exact puny_adapt.mono _ _ _ _)
      | (with_reducible exact puny_least.mono _ _ _)
      | (with_reducible exact puny_number.mono _ _ _)
      | (with_reducible exact slices_ContainsFunc_int_int_at_puny_Encode_1.mono _ _)
      | (with_reducible exact LeO.refl _)
      | (with_reducible exact LeO.none _)
      | (with_reducible refine LeO.ite ?_ ?_)
      | (with_reducible refine LeO.bind ?_ (fun _ => ?_))
      | exact ih0 _ _ _ _ _
      | exact ih1 _ _ _
      | exact ih2 _ _ _ _ _ _ _
      | exact ih3 _ _ _ _ _ _ _ _ _ _
      | exact puny_adapt.mono _ _ _ _
      | exact puny_least.mono _ _ _
      | exact puny_number.mono _ _ _
      | exact slices_ContainsFunc_int_int_at_puny_Encode_1.mono _ _
      | exact LeO.none _
      | refine LeO.ite ?_ ?_
      | refine LeO.bind ?_ (fun _ => ?_)
set_option maxHeartbeats 8000000 in
set_option maxRecDepth 100000 in
theorem puny_Encode.calls (k : Nat) (A0 : Option Addr) (c0 : Nat) (l0 : List Int) (r1 : List Int) (r2 : Int) (w : World) (hr0 : Kd.C (Kd.int .i64) w A0 l0.length l0) (hc0 : l0.length ≤ c0) (h : puny_Encode.f k l0 = some (r1, r2)) :
    Calls Try.prog 26 #[.slice A0 l0.length c0] w fun e w' => ∃ v0_ : Value, e = .returned (.tuple #[v0_, .int .i64 r2]) ∧ Kd.R (Kd.int .u8) 5 w' w.heap.size (fun _ => True) v0_ r1 ∧ Below w.heap.size w w' := by
  have HR0 := Aside0.mk hr0
  have HC0 := Aside0.mk hc0
  clear hr0 hc0
  have HB := Aside0.mk (Below.refl w.heap.size w)
  have H : ((slices_ContainsFunc_int_int_at_puny_Encode_1.f k l0).bind fun t104 => (if t104 = true then (some (([] : List Int), 10)) else (if (l0.length : Int) > 1000 then (some (([] : List Int), 36)) else (puny_Encode.l0 k l0 ([] : List Int) l0 (l0.length : Int) 0)))) = some (r1, r2) := h
  clear h
  replace H := Option.bind_eq_some_iff.mp H
  obtain ⟨t104, A20, H⟩ := H
  replace H : (if t104 = true then (some (([] : List Int), 10)) else (if (l0.length : Int) > 1000 then (some (([] : List Int), 36)) else (puny_Encode.l0 k l0 ([] : List Int) l0 (l0.length : Int) 0))) = some (r1, r2) := H
  have A2 := Aside0.mk A20
  clear A20
  by_cases c3 : t104 = true
  · subst c3
    have H1 : (some (([] : List Int), 10)) = some (r1, r2) := by rw [if_pos rfl] at H; exact H
    clear H
    have H := H1
    clear H1
    simp only [Option.some.injEq, Prod.mk.injEq] at H
    obtain ⟨rfl, rfl⟩ := H
    go_enter Try.func26, Try.ntmps26
    go_wp2_with (first | (go_at_call 49; (with_reducible refine (slices_ContainsFunc_int_int_at_puny_Encode_1.calls k _ _ l0 true _ ?side1 ?side2 A2.out).mono ?_); (case side1 => repeat (first | exact HR0.out | (with_reducible refine Kd.C_alloc ?_ _) | (with_reducible refine Kd.C_drewN ?_ _) | (with_reducible refine Kd.C_drew ?_))); (case side2 => exact HC0.out); rintro e w' ⟨rfl, ⟨nd, rfl⟩⟩))
    go_ret2
    exact ⟨_, by first | rfl | (simp [errW_none, errW_some] <;> rfl) | (simp [*, errW_none, errW_some] <;> rfl), by first | exact Kd.R_nil _ _ _ _ _ | exact Kd.N_nil _ _ _ _ _ | exact Kd.V_nil _ _ _ _ _ | exact Kd.Q_nil _ _ _ _ _ | exact Kd.S_nil _ _ _ _ _, by repeat (first | (with_reducible first | exact HB.out | apply below_alloc | apply pw_below_drewN | apply below_drew1) | exact HB.out)⟩
  · replace c3 := Bool.eq_false_iff.mpr c3
    subst c3
    have H1 : (if (l0.length : Int) > 1000 then (some (([] : List Int), 36)) else (puny_Encode.l0 k l0 ([] : List Int) l0 (l0.length : Int) 0)) = some (r1, r2) := by rw [if_neg (show ¬ (false = true) by decide)] at H; exact H
    clear H
    have H := H1
    clear H1
    by_cases c4 : (l0.length : Int) > 1000
    · rw [if_pos c4] at H
      have c4b0 : decide (1000 < (l0.length : Int)) = true := decide_eq_true c4
      have c4b1 : decide (1000 < l0.length) = true := decide_eq_true (by omega)
      clear c4
      simp only [Option.some.injEq, Prod.mk.injEq] at H
      obtain ⟨rfl, rfl⟩ := H
      go_enter Try.func26, Try.ntmps26
      go_wp2_with (first | (go_at_call 49; (with_reducible refine (slices_ContainsFunc_int_int_at_puny_Encode_1.calls k _ _ l0 false _ ?side1 ?side2 A2.out).mono ?_); (case side1 => repeat (first | exact HR0.out | (with_reducible refine Kd.C_alloc ?_ _) | (with_reducible refine Kd.C_drewN ?_ _) | (with_reducible refine Kd.C_drew ?_))); (case side2 => exact HC0.out); rintro e w' ⟨rfl, ⟨nd, rfl⟩⟩))
      go_ret2
      exact ⟨_, by first | rfl | (simp [errW_none, errW_some] <;> rfl) | (simp [*, errW_none, errW_some] <;> rfl), by first | exact Kd.R_nil _ _ _ _ _ | exact Kd.N_nil _ _ _ _ _ | exact Kd.V_nil _ _ _ _ _ | exact Kd.Q_nil _ _ _ _ _ | exact Kd.S_nil _ _ _ _ _, by repeat (first | (with_reducible first | exact HB.out | apply below_alloc | apply pw_below_drewN | apply below_drew1) | exact HB.out)⟩
    · rw [if_neg c4] at H
      have c4b0 : decide (1000 < (l0.length : Int)) = false := decide_eq_false c4
      have c4b1 : decide (1000 < l0.length) = false := decide_eq_false (by omega)
      clear c4
      have H' := Aside0.mk H
      clear H
      go_enter Try.func26, Try.ntmps26
      go_wp2_with (first | (go_at_call 49; (with_reducible refine (slices_ContainsFunc_int_int_at_puny_Encode_1.calls k _ _ l0 false _ ?side1 ?side2 A2.out).mono ?_); (case side1 => repeat (first | exact HR0.out | (with_reducible refine Kd.C_alloc ?_ _) | (with_reducible refine Kd.C_drewN ?_ _) | (with_reducible refine Kd.C_drew ?_))); (case side2 => exact HC0.out); rintro e w' ⟨rfl, ⟨nd, rfl⟩⟩))
      go_loopg [4, 24] k (fun kq v4 v24 w' => ∃ (x4_1 : List Int) (x24_1 : Int), v24 = .int .i64 x24_1 ∧ Aside0 (puny_Encode.l0 kq l0 x4_1 l0 (l0.length : Int) x24_1 = some (r1, r2)) ∧ Aside0 (kq ≤ k) ∧ Aside0 (Kd.R (Kd.int .u8) 5 w' w.heap.size (fun _ => True) v4 x4_1) ∧ Aside0 (Below w.heap.size w w'))
      case atStart => exact ⟨(([] : List Int)), (0), (by first | rfl | (simp; done) | (simp [*]; done)), H', ⟨Nat.le_refl _⟩, ⟨by first | exact Kd.R_nil _ _ _ _ _ | exact Kd.N_nil _ _ _ _ _ | exact Kd.V_nil _ _ _ _ _ | exact Kd.Q_nil _ _ _ _ _ | exact Kd.S_nil _ _ _ _ _⟩, ⟨by repeat (first | (with_reducible first | exact HB.out | apply below_alloc | apply pw_below_drewN | apply below_drew1) | exact HB.out)⟩⟩
      case round =>
        clear H'
        try clear c2
        try clear p2
        try clear c3
        try clear c4
        try clear c4b0
        try clear c4b1
        obtain ⟨x4_1, x24_1, rfl, HA, HK1, HO_4, HB⟩ := hrel
        cases gk with
        | zero => exact absurd HA.out (by simp [puny_Encode.l0])
        | succ k1 =>
          have H := HA.out
          clear HA
          simp only [puny_Encode.l0] at H
          by_cases c5 : x24_1 < (l0.length : Int)
          · rw [if_pos c5] at H
            have c5b0 : decide (x24_1 < (l0.length : Int)) = true := decide_eq_true c5
            clear c5
            by_cases c6 : 0 ≤ x24_1
            · rw [if_pos c6] at H
              have c6b0 : decide (0 ≤ x24_1) = true := decide_eq_true c6
              clear c6
              by_cases c7 : x24_1 < (l0.length : Int)
              · rw [if_pos c7] at H
                have c7b0 : decide (x24_1 < (l0.length : Int)) = true := decide_eq_true c7
                clear c7
                by_cases c8 : (rd l0 x24_1) < 128
                · rw [if_pos c8] at H
                  have c8b0 : decide ((rd l0 x24_1) < 128) = true := decide_eq_true c8
                  clear c8
                  by_cases c9 : x4_1.length < 140737488355328
                  · rw [if_pos c9] at H
                    have LMc9 := Aside0.mk c9
                    clear c9
                    obtain ⟨y106, hy106⟩ : ∃ y_ : List Int, y_ = (x4_1 ++ [(rd l0 x24_1) % 256]) := ⟨_, rfl⟩
                    replace H : (puny_Encode.l0 k1 l0 y106 l0 (l0.length : Int) (wrap64 (x24_1 + 1))) = some (r1, r2) := by first | (rw [hy106]; with_reducible exact H) | (have H2_ := (Option.bind_some _ _).symm.trans H; rw [hy106]; with_reducible exact H2_) | (have H2_ := (Option.bind_some _ _).symm.trans H; with_reducible exact H2_) | with_reducible exact H | (rw [hy106]; exact H) | exact H
                    have Ny106 := Aside0.mk hy106
                    clear hy106
                    have H' := Aside0.mk H
                    clear H
                    have p105 : 0 ≤ (x24_1 : Int) := of_decide_eq_true (by first | (with_reducible assumption) | assumption)
                    have q105 : x24_1 < (l0.length : Int) := of_decide_eq_true (by first | (with_reducible assumption) | assumption)
                    obtain ⟨ad105, e105, hx105_0⟩ := Kd.at_int HR0.out x24_1 p105 q105
                    cases e105
                    replace hx105_0 := (HB.out.cell (World.block_lt_of_cell? w _ hx105_0)).trans hx105_0
                    replace p105 := eq_true p105
                    replace q105 := eq_true q105
                    go_wp2_with (first | ((with_reducible refine gate_builtin (b := .append) (xs := #[.tmp 30, .tmp 33]) rfl ?_); at_builtin; refine Kd.R_append (Kd.int .u8) (w0 := w) w.heap.size rfl (.tmp 30) (.tmp 33) 22 5 (.int .u8 0) 1 rfl Try.underlying22 info5 rfl (by decide) (by omega) u4 x4_1 ((rd l0 x24_1) % 256) [.int .u8 ((rd l0 x24_1) % 256)] (fun _ => True) (fun _ => False) rfl rfl ?aP (fun _ hk => hk.elim) ?aF ?aO ?aB ?aS ?aL ?_; (case aP => exact rfl); (case aB => exact (by repeat (first | (with_reducible first | exact HB.out | apply below_alloc | apply pw_below_drewN | apply below_drew1) | exact HB.out))); (case aF => exact (fun _ _ => trivial)); (case aO => exact (by (with_reducible repeat (first | apply Kd.R_alloc | apply Kd.R_drewN | apply Kd.R_drew)); exact HO_4.out)); (case aS => exact (below_size (by repeat (first | (with_reducible first | exact HB.out | apply below_alloc | apply pw_below_drewN | apply below_drew1) | exact HB.out)))); (case aL => have := LMc9.out; omega); intro v107 w10 ho hb hg hat; rw [← Ny106.out] at ho; have n0_ := Aside0.mk (hb); have n1_ := Aside0.mk (ho); clear HB; clear HO_4; have HB := n0_; have HO108 := n1_; clear n0_ n1_; clear ho hb hg hat))
                    go_roundg k1
                    case measure => have := HK1.out; omega
                    case rel => exact ⟨(y106), (wrap64 (x24_1 + 1)), (by first | rfl | (simp; done) | (simp [*]; done)), H', ⟨by have := HK1.out; omega⟩, ⟨by (with_reducible repeat (first | apply Kd.R_alloc | apply Kd.R_drewN | apply Kd.R_drew)); exact HO108.out⟩, ⟨by repeat (first | (with_reducible first | exact HB.out | apply below_alloc | apply pw_below_drewN | apply below_drew1) | exact HB.out)⟩⟩
                  · rw [if_neg c9] at H
                    exact absurd H (by simp)
                · rw [if_neg c8] at H
                  have c8b0 : decide ((rd l0 x24_1) < 128) = false := decide_eq_false c8
                  clear c8
                  have H' := Aside0.mk H
                  clear H
                  have p105 : 0 ≤ (x24_1 : Int) := of_decide_eq_true (by first | (with_reducible assumption) | assumption)
                  have q105 : x24_1 < (l0.length : Int) := of_decide_eq_true (by first | (with_reducible assumption) | assumption)
                  obtain ⟨ad105, e105, hx105_0⟩ := Kd.at_int HR0.out x24_1 p105 q105
                  cases e105
                  replace hx105_0 := (HB.out.cell (World.block_lt_of_cell? w _ hx105_0)).trans hx105_0
                  replace p105 := eq_true p105
                  replace q105 := eq_true q105
                  go_wp2
                  go_roundg k1
                  case measure => have := HK1.out; omega
                  case rel => exact ⟨(x4_1), (wrap64 (x24_1 + 1)), (by first | rfl | (simp; done) | (simp [*]; done)), H', ⟨by have := HK1.out; omega⟩, ⟨by (with_reducible repeat (first | apply Kd.R_alloc | apply Kd.R_drewN | apply Kd.R_drew)); exact HO_4.out⟩, ⟨by repeat (first | (with_reducible first | exact HB.out | apply below_alloc | apply pw_below_drewN | apply below_drew1) | exact HB.out)⟩⟩
              · rw [if_neg c7] at H
                exact absurd H (by simp)
            · rw [if_neg c6] at H
              exact absurd H (by simp)
          · rw [if_neg c5] at H
            have c5b0 : decide (x24_1 < (l0.length : Int)) = false := decide_eq_false c5
            clear c5
            have HC11 := Aside0.mk H
            clear H
            obtain ⟨Ao12, co12, eo12⟩ := Kd.R_slice HO_4.out
            subst eo12
            go_upto_if 39 with (fail)
            go_cut [4] (fun v4 wc => ∃ (kq : Nat) (x4_10 : List Int), Aside0 (puny_Encode.j1 kq l0 x4_10 (x4_1.length : Int) = some (r1, r2)) ∧ Aside0 (kq ≤ k1) ∧ Aside0 (Kd.R (Kd.int .u8) 5 wc w.heap.size (fun _ => True) v4 x4_10) ∧ Aside0 (Below w.heap.size w wc))
            case first =>
              have H := HC11.out
              clear HC11
              by_cases c13 : (x4_1.length : Int) > 0
              · rw [if_pos c13] at H
                have c13b0 : decide (0 < (x4_1.length : Int)) = true := decide_eq_true c13
                have c13b1 : decide (0 < x4_1.length) = true := decide_eq_true (by omega)
                clear c13
                (first | rw [c13b0] | (simp only [i64_w, i32_w]; rw [c13b0]) | rw [c13b1] | (simp only [i64_w, i32_w]; rw [c13b1]) | skip)
                by_cases c14 : x4_1.length < 140737488355328
                · rw [if_pos c14] at H
                  have LMc14 := Aside0.mk c14
                  clear c14
                  obtain ⟨y109, hy109⟩ : ∃ y_ : List Int, y_ = (x4_1 ++ [45]) := ⟨_, rfl⟩
                  replace H : (puny_Encode.j1 k1 l0 y109 (x4_1.length : Int)) = some (r1, r2) := by first | (rw [hy109]; with_reducible exact H) | (have H2_ := (Option.bind_some _ _).symm.trans H; rw [hy109]; with_reducible exact H2_) | (have H2_ := (Option.bind_some _ _).symm.trans H; with_reducible exact H2_) | with_reducible exact H | (rw [hy109]; exact H) | exact H
                  have Ny109 := Aside0.mk hy109
                  clear hy109
                  have H' := Aside0.mk H
                  clear H
                  go_wp2_with (first | ((with_reducible refine gate_builtin (b := .append) (xs := #[.tmp 40, .tmp 41]) rfl ?_); at_builtin; refine Kd.R_append (Kd.int .u8) (w0 := w) w.heap.size rfl (.tmp 40) (.tmp 41) 22 5 (.int .u8 0) 1 rfl Try.underlying22 info5 rfl (by decide) (by omega) (.slice Ao12 x4_1.length co12) x4_1 45 [.int .u8 45] (fun _ => True) (fun _ => False) rfl rfl ?aP (fun _ hk => hk.elim) ?aF ?aO ?aB ?aS ?aL ?_; (case aP => exact rfl); (case aB => exact (by repeat (first | (with_reducible first | exact HB.out | apply below_alloc | apply pw_below_drewN | apply below_drew1) | exact HB.out))); (case aF => exact (fun _ _ => trivial)); (case aO => exact (by (with_reducible repeat (first | apply Kd.R_alloc | apply Kd.R_drewN | apply Kd.R_drew)); exact HO_4.out)); (case aS => exact (below_size (by repeat (first | (with_reducible first | exact HB.out | apply below_alloc | apply pw_below_drewN | apply below_drew1) | exact HB.out)))); (case aL => have := LMc14.out; omega); intro v110 w15 ho hb hg hat; rw [← Ny109.out] at ho; have n0_ := Aside0.mk (hb); have n1_ := Aside0.mk (ho); clear HB; clear HO_4; have HB := n0_; have HO111 := n1_; clear n0_ n1_; clear ho hb hg hat))
                  go_meet
                  case rel => exact ⟨_, (y109), H', ⟨by have := HK1.out; first | omega | exact Nat.le_refl _⟩, ⟨by (with_reducible repeat (first | apply Kd.R_alloc | apply Kd.R_drewN | apply Kd.R_drew)); exact HO111.out⟩, ⟨by repeat (first | (with_reducible first | exact HB.out | apply below_alloc | apply pw_below_drewN | apply below_drew1) | exact HB.out)⟩⟩
                · rw [if_neg c14] at H
                  exact absurd H (by simp)
              · rw [if_neg c13] at H
                have c13b0 : decide (0 < (x4_1.length : Int)) = false := decide_eq_false c13
                have c13b1 : decide (0 < x4_1.length) = false := decide_eq_false (by omega)
                clear c13
                (first | rw [c13b0] | (simp only [i64_w, i32_w]; rw [c13b0]) | rw [c13b1] | (simp only [i64_w, i32_w]; rw [c13b1]) | skip)
                have H' := Aside0.mk H
                clear H
                go_wp2
                go_meet
                case rel => exact ⟨_, (x4_1), H', ⟨by have := HK1.out; first | omega | exact Nat.le_refl _⟩, ⟨by (with_reducible repeat (first | apply Kd.R_alloc | apply Kd.R_drewN | apply Kd.R_drew)); exact HO_4.out⟩, ⟨by repeat (first | (with_reducible first | exact HB.out | apply below_alloc | apply pw_below_drewN | apply below_drew1) | exact HB.out)⟩⟩
            case rest =>
              clear HC11
              try clear c1
              try clear p1
              try clear q1
              try clear hx1
              try clear c2
              try clear p2
              try clear c3
              try clear c4
              try clear c4b0
              try clear c4b1
              try clear c5
              try clear c5b0
              try clear c6
              try clear c6b0
              try clear p6
              try clear c7
              try clear c7b0
              try clear c8
              try clear c8b0
              try clear c9
              try clear p10
              try clear q10
              try clear hx10
              try clear c13
              try clear c13b0
              try clear c13b1
              try clear c14
              try clear hx105_0
              try clear p105
              try clear p2
              try clear q105
              obtain ⟨kq, x4_10, HA, HJ10, HO_4, HB⟩ := hcut
              cases kq with
              | zero => exact absurd HA.out (by simp [puny_Encode.j1])
              | succ kj10 =>
                have H := HA.out
                clear HA
                simp only [puny_Encode.j1] at H
                have H' := Aside0.mk H
                clear H
                go_wp2
                go_loopg [4, 8, 9, 10, 11] kj10 (fun kq v4 v8 v9 v10 v11 w' => ∃ (x4_3 : List Int) (x8_3 : Int) (x9_3 : Int) (x10_3 : Int) (x11_3 : Int), v8 = .int .i64 x8_3 ∧ v9 = .int .i64 x9_3 ∧ v10 = .int .i64 x10_3 ∧ v11 = .int .i64 x11_3 ∧ Aside0 (puny_Encode.l1 kq l0 x4_3 (x4_1.length : Int) x8_3 x9_3 x10_3 x11_3 = some (r1, r2)) ∧ Aside0 (kq ≤ kj10) ∧ Aside0 (Kd.R (Kd.int .u8) 5 w' w.heap.size (fun _ => True) v4 x4_3) ∧ Aside0 (Below w.heap.size w w'))
                case atStart => exact ⟨(x4_10), (128), (72), (0), ((x4_1.length : Int)), (by first | rfl | (simp; done) | (simp [*]; done)), (by first | rfl | (simp; done) | (simp [*]; done)), (by first | rfl | (simp; done) | (simp [*]; done)), (by first | rfl | (simp; done) | (simp [*]; done)), H', ⟨Nat.le_refl _⟩, ⟨by (with_reducible repeat (first | apply Kd.R_alloc | apply Kd.R_drewN | apply Kd.R_drew)); exact HO_4.out⟩, ⟨by repeat (first | (with_reducible first | exact HB.out | apply below_alloc | apply pw_below_drewN | apply below_drew1) | exact HB.out)⟩⟩
                case round =>
                  clear H'
                  try clear c1
                  try clear p1
                  try clear q1
                  try clear hx1
                  try clear c2
                  try clear p2
                  try clear c3
                  try clear c4
                  try clear c4b0
                  try clear c4b1
                  try clear c5
                  try clear c5b0
                  try clear c6
                  try clear c6b0
                  try clear p6
                  try clear c7
                  try clear c7b0
                  try clear c8
                  try clear c8b0
                  try clear c9
                  try clear p10
                  try clear q10
                  try clear hx10
                  try clear c13
                  try clear c13b0
                  try clear c13b1
                  try clear c14
                  try clear hx105_0
                  try clear p1
                  try clear p10
                  try clear p105
                  try clear p2
                  try clear p6
                  try clear q1
                  try clear q10
                  try clear q105
                  obtain ⟨x4_3, x8_3, x9_3, x10_3, x11_3, rfl, rfl, rfl, rfl, HA, HK3, HO_4, HB⟩ := hrel
                  cases gk with
                  | zero => exact absurd HA.out (by simp [puny_Encode.l1])
                  | succ k3 =>
                    have H := HA.out
                    clear HA
                    simp only [puny_Encode.l1] at H
                    by_cases c16 : x11_3 < (l0.length : Int)
                    · rw [if_pos c16] at H
                      have c16b0 : decide (x11_3 < (l0.length : Int)) = true := decide_eq_true c16
                      clear c16
                      replace H := Option.bind_eq_some_iff.mp H
                      obtain ⟨t112, A170, H⟩ := H
                      replace H : (puny_Encode.l2 k3 l0 x4_3 (x4_1.length : Int) t112 x9_3 (wrap64 (x10_3 + (wrap64 ((wrap64 (t112 - x8_3)) * (wrap64 (x11_3 + 1)))))) x11_3 l0 (l0.length : Int) 0) = some (r1, r2) := H
                      have A17 := Aside0.mk A170
                      clear A170
                      have H' := Aside0.mk H
                      clear H
                      go_wp2_with (first | ((with_reducible refine gate_callee (f := 51) rfl ?_); refine goesL_ (some 50) rfl rfl Try.func51 (by kernel_rfl) rfl #[.slice A0 l0.length c0, .int .i64 x8_3] rfl (by (try simp only [List.map_toArray, List.map_cons, List.map_nil]); first | done | rfl | (simp only [List.length_drop, List.length_take]; rfl)) ?_; (with_reducible refine (puny_least.calls k3 _ _ l0 x8_3 t112 _ ?side1 ?side2 A17.out).mono ?_); (case side1 => repeat (first | exact (Kd.C_below HR0.out HB.out) | (with_reducible refine Kd.C_alloc ?_ _) | (with_reducible refine Kd.C_drewN ?_ _) | (with_reducible refine Kd.C_drew ?_))); (case side2 => exact HC0.out); rintro e w18 ⟨rfl, hb⟩; refine ⟨_, rfl, ?_⟩; have n0_ := Aside0.mk (Kd.R_below (by (with_reducible repeat (first | apply Kd.R_alloc | apply Kd.R_drewN | apply Kd.R_drew)); exact HO_4.out) hb); have n1_ := Aside0.mk (below_step (by repeat (first | (with_reducible first | exact HB.out | apply below_alloc | apply pw_below_drewN | apply below_drew1) | exact HB.out)) hb); clear HO_4; clear HB; have HO_4 := n0_; have HB := n1_; clear n0_ n1_; (try clear hb); (try clear hb2); (try clear hk); (try clear hi)))
                      go_loopg [4, 9, 10, 11, 62] k3 (fun kq v4 v9 v10 v11 v62 w' => ∃ (x4_4 : List Int) (x9_4 : Int) (x10_4 : Int) (x11_4 : Int) (x62_4 : Int), v9 = .int .i64 x9_4 ∧ v10 = .int .i64 x10_4 ∧ v11 = .int .i64 x11_4 ∧ v62 = .int .i64 x62_4 ∧ Aside0 (puny_Encode.l2 kq l0 x4_4 (x4_1.length : Int) t112 x9_4 x10_4 x11_4 l0 (l0.length : Int) x62_4 = some (r1, r2)) ∧ Aside0 (kq ≤ k3) ∧ Aside0 (Kd.R (Kd.int .u8) 5 w' w.heap.size (fun _ => True) v4 x4_4) ∧ Aside0 (Below w.heap.size w w'))
                      case atStart => exact ⟨(x4_3), (x9_3), (wrap64 (x10_3 + (wrap64 ((wrap64 (t112 - x8_3)) * (wrap64 (x11_3 + 1)))))), (x11_3), (0), (by first | rfl | (simp; done) | (simp [*]; done)), (by first | rfl | (simp; done) | (simp [*]; done)), (by first | rfl | (simp; done) | (simp [*]; done)), (by first | rfl | (simp; done) | (simp [*]; done)), H', ⟨Nat.le_refl _⟩, ⟨by (with_reducible repeat (first | apply Kd.R_alloc | apply Kd.R_drewN | apply Kd.R_drew)); exact HO_4.out⟩, ⟨by repeat (first | (with_reducible first | exact HB.out | apply below_alloc | apply pw_below_drewN | apply below_drew1) | exact HB.out)⟩⟩
                      case round =>
                        clear H'
                        try clear c1
                        try clear p1
                        try clear q1
                        try clear hx1
                        try clear c2
                        try clear p2
                        try clear c3
                        try clear c4
                        try clear c4b0
                        try clear c4b1
                        try clear c5
                        try clear c5b0
                        try clear c6
                        try clear c6b0
                        try clear p6
                        try clear c7
                        try clear c7b0
                        try clear c8
                        try clear c8b0
                        try clear c9
                        try clear p10
                        try clear q10
                        try clear hx10
                        try clear c13
                        try clear c13b0
                        try clear c13b1
                        try clear c14
                        try clear c16
                        try clear c16b0
                        try clear hx105_0
                        try clear p1
                        try clear p10
                        try clear p105
                        try clear p2
                        try clear p6
                        try clear q1
                        try clear q10
                        try clear q105
                        obtain ⟨x4_4, x9_4, x10_4, x11_4, x62_4, rfl, rfl, rfl, rfl, HA, HK4, HO_4, HB⟩ := hrel
                        cases gk with
                        | zero => exact absurd HA.out (by simp [puny_Encode.l2])
                        | succ k4 =>
                          have H := HA.out
                          clear HA
                          simp only [puny_Encode.l2] at H
                          by_cases c19 : x62_4 < (l0.length : Int)
                          · rw [if_pos c19] at H
                            have c19b0 : decide (x62_4 < (l0.length : Int)) = true := decide_eq_true c19
                            clear c19
                            by_cases c20 : 0 ≤ x62_4
                            · rw [if_pos c20] at H
                              have c20b0 : decide (0 ≤ x62_4) = true := decide_eq_true c20
                              clear c20
                              by_cases c21 : x62_4 < (l0.length : Int)
                              · rw [if_pos c21] at H
                                have c21b0 : decide (x62_4 < (l0.length : Int)) = true := decide_eq_true c21
                                clear c21
                                by_cases c22 : (rd l0 x62_4) < t112
                                · rw [if_pos c22] at H
                                  have c22b0 : decide ((rd l0 x62_4) < t112) = true := decide_eq_true c22
                                  clear c22
                                  have H' := Aside0.mk H
                                  clear H
                                  have p113 : 0 ≤ (x62_4 : Int) := of_decide_eq_true (by first | (with_reducible assumption) | assumption)
                                  have q113 : x62_4 < (l0.length : Int) := of_decide_eq_true (by first | (with_reducible assumption) | assumption)
                                  obtain ⟨ad113, e113, hx113_0⟩ := Kd.at_int HR0.out x62_4 p113 q113
                                  cases e113
                                  replace hx113_0 := (HB.out.cell (World.block_lt_of_cell? w _ hx113_0)).trans hx113_0
                                  replace p113 := eq_true p113
                                  replace q113 := eq_true q113
                                  go_wp2
                                  go_roundg k4
                                  case measure => have := HK1.out; have := HJ10.out; have := HK3.out; have := HK4.out; omega
                                  case rel => exact ⟨(x4_4), (x9_4), (wrap64 (x10_4 + 1)), (x11_4), (wrap64 (x62_4 + 1)), (by first | rfl | (simp; done) | (simp [*]; done)), (by first | rfl | (simp; done) | (simp [*]; done)), (by first | rfl | (simp; done) | (simp [*]; done)), (by first | rfl | (simp; done) | (simp [*]; done)), H', ⟨by have := HK1.out; have := HJ10.out; have := HK3.out; have := HK4.out; omega⟩, ⟨by (with_reducible repeat (first | apply Kd.R_alloc | apply Kd.R_drewN | apply Kd.R_drew)); exact HO_4.out⟩, ⟨by repeat (first | (with_reducible first | exact HB.out | apply below_alloc | apply pw_below_drewN | apply below_drew1) | exact HB.out)⟩⟩
                                · rw [if_neg c22] at H
                                  have c22b0 : decide ((rd l0 x62_4) < t112) = false := decide_eq_false c22
                                  clear c22
                                  by_cases c23 : (rd l0 x62_4) = t112
                                  · rw [if_pos c23] at H
                                    have c23b0 : ((rd l0 x62_4) == t112) = true := beq_iff_eq.mpr c23
                                    have c23b1 : ((rd l0 x62_4) != t112) = false := bne_eq_false_iff_eq.mpr c23
                                    clear c23
                                    replace H := Option.bind_eq_some_iff.mp H
                                    obtain ⟨t114, A240, H⟩ := H
                                    replace H : (if x4_4.length + t114.length < 140737488355328 then ((puny_adapt.f k4 x10_4 (wrap64 (x11_4 + 1)) (x11_4 == (x4_1.length : Int))).bind fun t120 => (puny_Encode.l2 k4 l0 (x4_4 ++ t114) (x4_1.length : Int) t112 t120 0 (wrap64 (x11_4 + 1)) l0 (l0.length : Int) (wrap64 (x62_4 + 1)))) else (none)) = some (r1, r2) := H
                                    have A24 := Aside0.mk A240
                                    clear A240
                                    by_cases c25 : x4_4.length + t114.length < 140737488355328
                                    · rw [if_pos c25] at H
                                      have LMc25 := Aside0.mk c25
                                      clear c25
                                      obtain ⟨y117, hy117⟩ : ∃ y_ : List Int, y_ = (x4_4 ++ t114) := ⟨_, rfl⟩
                                      replace H : ((puny_adapt.f k4 x10_4 (wrap64 (x11_4 + 1)) (x11_4 == (x4_1.length : Int))).bind fun t120 => (puny_Encode.l2 k4 l0 y117 (x4_1.length : Int) t112 t120 0 (wrap64 (x11_4 + 1)) l0 (l0.length : Int) (wrap64 (x62_4 + 1)))) = some (r1, r2) := by first | (rw [hy117]; with_reducible exact H) | (have H2_ := (Option.bind_some _ _).symm.trans H; rw [hy117]; with_reducible exact H2_) | (have H2_ := (Option.bind_some _ _).symm.trans H; with_reducible exact H2_) | with_reducible exact H | (rw [hy117]; exact H) | exact H
                                      have Ny117 := Aside0.mk hy117
                                      clear hy117
                                      replace H := Option.bind_eq_some_iff.mp H
                                      obtain ⟨t120, A260, H⟩ := H
                                      replace H : (puny_Encode.l2 k4 l0 y117 (x4_1.length : Int) t112 t120 0 (wrap64 (x11_4 + 1)) l0 (l0.length : Int) (wrap64 (x62_4 + 1))) = some (r1, r2) := H
                                      have A26 := Aside0.mk A260
                                      clear A260
                                      have H' := Aside0.mk H
                                      clear H
                                      have p113 : 0 ≤ (x62_4 : Int) := of_decide_eq_true (by first | (with_reducible assumption) | assumption)
                                      have q113 : x62_4 < (l0.length : Int) := of_decide_eq_true (by first | (with_reducible assumption) | assumption)
                                      obtain ⟨ad113, e113, hx113_0⟩ := Kd.at_int HR0.out x62_4 p113 q113
                                      cases e113
                                      replace hx113_0 := (HB.out.cell (World.block_lt_of_cell? w _ hx113_0)).trans hx113_0
                                      replace p113 := eq_true p113
                                      replace q113 := eq_true q113
                                      go_wp2_with (first | ((with_reducible refine gate_callee (f := 52) rfl ?_); refine goesL_ (some 79) rfl rfl Try.func52 (by kernel_rfl) rfl #[.int .i64 x10_4, .int .i64 x9_4] rfl (by (try simp only [List.map_toArray, List.map_cons, List.map_nil]); first | done | rfl | (simp only [List.length_drop, List.length_take]; rfl)) ?_; (with_reducible refine (puny_number.calls k4 x10_4 x9_4 t114 _ A24.out).mono ?_); rintro e w27 ⟨v115, rfl, ho0, hb⟩; refine ⟨_, rfl, ?_⟩; have n0_ := Aside0.mk (Kd.R_elder' (by (with_reducible repeat (first | apply Kd.R_alloc | apply Kd.R_drewN | apply Kd.R_drew)); exact HO_4.out) (Kd.R_base ho0) hb); have n1_ := Aside0.mk (Kd.R_lower (Kd.R_new' ho0 (Kd.R_lt (by (with_reducible repeat (first | apply Kd.R_alloc | apply Kd.R_drewN | apply Kd.R_drew)); exact HO_4.out))) (below_size (by repeat (first | (with_reducible first | exact HB.out | apply below_alloc | apply pw_below_drewN | apply below_drew1) | exact HB.out)))); have n2_ := Aside0.mk (below_step (by repeat (first | (with_reducible first | exact HB.out | apply below_alloc | apply pw_below_drewN | apply below_drew1) | exact HB.out)) hb); clear HO_4; clear HB; have HO_4 := n0_; have HO116 := n1_; have HB := n2_; clear n0_ n1_ n2_; (try clear hb); (try clear hb2); (try clear hk); (try clear hi); (try clear ho0); obtain ⟨Ao29, co29, eo29⟩ := Kd.R_slice HO116.out; subst eo29) | ((with_reducible refine gate_builtin (b := .append) (xs := #[.tmp 76, .tmp 79]) rfl ?_); at_builtin; refine Kd.R_append_rows (Kd.int .u8) (w0 := w) w.heap.size rfl (.tmp 76) (.tmp 79) 22 5 (.int .u8 0) 1 rfl Try.underlying22 info5 rfl (by decide) (by omega) u4 x4_4 t114 _ _ _ (fun k_ => some k_ ≠ (.slice Ao29 t114.length co29 : Value).ownBlock) (fun _ => False) rfl rfl ?aO ?aR (fun _ _ h => h) (fun _ h => h.elim) ?aF ?aB ?aS ?aL ?_; (case aR => repeat (first | exact (Kd.R_reads' HO116.out).2.2 | (with_reducible refine Kd.C_alloc ?_ _) | (with_reducible refine Kd.C_drewN ?_ _) | (with_reducible refine Kd.C_drew ?_))); (case aB => exact (by repeat (first | (with_reducible first | exact HB.out | apply below_alloc | apply pw_below_drewN | apply below_drew1) | exact HB.out))); (case aF => exact (fun k_ hk => Kd.fresh' (Kd.R_lt (by (with_reducible repeat (first | apply Kd.R_alloc | apply Kd.R_drewN | apply Kd.R_drew)); exact HO116.out)) k_ hk)); (case aO => exact (by (with_reducible repeat (first | apply Kd.R_alloc | apply Kd.R_drewN | apply Kd.R_drew)); exact Kd.R_mono HO_4.out (fun _ hk => hk.2))); (case aS => exact (below_size (by repeat (first | (with_reducible first | exact HB.out | apply below_alloc | apply pw_below_drewN | apply below_drew1) | exact HB.out)))); (case aL => have := LMc25.out; omega); intro v118 w28 ho hb hg hat; rw [← Ny117.out] at ho; have n0_ := Aside0.mk (Kd.R_after (ok := (fun _ => True)) (by (with_reducible repeat (first | apply Kd.R_alloc | apply Kd.R_drewN | apply Kd.R_drew)); exact HO116.out) hg hat); have n1_ := Aside0.mk (hb); have n2_ := Aside0.mk (ho); clear HO116; clear HB; clear HO_4; have HO116 := n0_; have HB := n1_; have HO119 := n2_; clear n0_ n1_ n2_; clear ho hb hg hat) | ((with_reducible refine gate_callee (f := 53) rfl ?_); refine goesL_ (some 87) rfl rfl Try.func53 (by kernel_rfl) rfl #[.int .i64 x10_4, .int .i64 (wrap64 (x11_4 + 1)), .bool (x11_4 == (x4_1.length : Int))] rfl (by (try simp only [List.map_toArray, List.map_cons, List.map_nil]); first | done | rfl | (simp only [List.length_drop, List.length_take]; rfl)) ?_; (with_reducible refine (puny_adapt.calls k4 x10_4 (wrap64 (x11_4 + 1)) (x11_4 == (x4_1.length : Int)) t120 _ A26.out).mono ?_); rintro e w' ⟨rfl, ⟨nd, rfl⟩⟩; refine ⟨_, rfl, ?_⟩))
                                      go_roundg k4
                                      case measure => have := HK1.out; have := HJ10.out; have := HK3.out; have := HK4.out; omega
                                      case rel => exact ⟨(y117), (t120), (0), (wrap64 (x11_4 + 1)), (wrap64 (x62_4 + 1)), (by first | rfl | (simp; done) | (simp [*]; done)), (by first | rfl | (simp; done) | (simp [*]; done)), (by first | rfl | (simp; done) | (simp [*]; done)), (by first | rfl | (simp; done) | (simp [*]; done)), H', ⟨by have := HK1.out; have := HJ10.out; have := HK3.out; have := HK4.out; omega⟩, ⟨by (with_reducible repeat (first | apply Kd.R_alloc | apply Kd.R_drewN | apply Kd.R_drew)); exact Kd.R_mono HO119.out (fun _ hk => trivial)⟩, ⟨by repeat (first | (with_reducible first | exact HB.out | apply below_alloc | apply pw_below_drewN | apply below_drew1) | exact HB.out)⟩⟩
                                    · rw [if_neg c25] at H
                                      exact absurd H (by simp)
                                  · rw [if_neg c23] at H
                                    have c23b0 : ((rd l0 x62_4) == t112) = false := beq_eq_false_iff_ne.mpr c23
                                    have c23b1 : ((rd l0 x62_4) != t112) = true := bne_iff_ne.mpr c23
                                    have H' := Aside0.mk H
                                    clear H
                                    have p113 : 0 ≤ (x62_4 : Int) := of_decide_eq_true (by first | (with_reducible assumption) | assumption)
                                    have q113 : x62_4 < (l0.length : Int) := of_decide_eq_true (by first | (with_reducible assumption) | assumption)
                                    obtain ⟨ad113, e113, hx113_0⟩ := Kd.at_int HR0.out x62_4 p113 q113
                                    cases e113
                                    replace hx113_0 := (HB.out.cell (World.block_lt_of_cell? w _ hx113_0)).trans hx113_0
                                    replace p113 := eq_true p113
                                    replace q113 := eq_true q113
                                    go_wp2
                                    go_roundg k4
                                    case measure => have := HK1.out; have := HJ10.out; have := HK3.out; have := HK4.out; omega
                                    case rel => exact ⟨(x4_4), (x9_4), (x10_4), (x11_4), (wrap64 (x62_4 + 1)), (by first | rfl | (simp; done) | (simp [*]; done)), (by first | rfl | (simp; done) | (simp [*]; done)), (by first | rfl | (simp; done) | (simp [*]; done)), (by first | rfl | (simp; done) | (simp [*]; done)), H', ⟨by have := HK1.out; have := HJ10.out; have := HK3.out; have := HK4.out; omega⟩, ⟨by (with_reducible repeat (first | apply Kd.R_alloc | apply Kd.R_drewN | apply Kd.R_drew)); exact HO_4.out⟩, ⟨by repeat (first | (with_reducible first | exact HB.out | apply below_alloc | apply pw_below_drewN | apply below_drew1) | exact HB.out)⟩⟩
                              · rw [if_neg c21] at H
                                exact absurd H (by simp)
                            · rw [if_neg c20] at H
                              exact absurd H (by simp)
                          · rw [if_neg c19] at H
                            have c19b0 : decide (x62_4 < (l0.length : Int)) = false := decide_eq_false c19
                            clear c19
                            have H' := Aside0.mk H
                            clear H
                            go_wp2
                            go_roundg k4
                            case measure => have := HK1.out; have := HJ10.out; have := HK3.out; have := HK4.out; omega
                            case rel => exact ⟨(x4_4), (wrap64 (t112 + 1)), (x9_4), (wrap64 (x10_4 + 1)), (x11_4), (by first | rfl | (simp; done) | (simp [*]; done)), (by first | rfl | (simp; done) | (simp [*]; done)), (by first | rfl | (simp; done) | (simp [*]; done)), (by first | rfl | (simp; done) | (simp [*]; done)), H', ⟨by have := HK1.out; have := HJ10.out; have := HK3.out; have := HK4.out; omega⟩, ⟨by (with_reducible repeat (first | apply Kd.R_alloc | apply Kd.R_drewN | apply Kd.R_drew)); exact HO_4.out⟩, ⟨by repeat (first | (with_reducible first | exact HB.out | apply below_alloc | apply pw_below_drewN | apply below_drew1) | exact HB.out)⟩⟩
                    · rw [if_neg c16] at H
                      have c16b0 : decide (x11_3 < (l0.length : Int)) = false := decide_eq_false c16
                      clear c16
                      simp only [Option.some.injEq, Prod.mk.injEq] at H
                      obtain ⟨rfl, rfl⟩ := H
                      go_wp2
                      go_ret2
                      exact ⟨_, by first | rfl | (simp [errW_none, errW_some] <;> rfl) | (simp [*, errW_none, errW_some] <;> rfl), by (with_reducible repeat (first | apply Kd.R_alloc | apply Kd.R_drewN | apply Kd.R_drew)); exact HO_4.out, by repeat (first | (with_reducible first | exact HB.out | apply below_alloc | apply pw_below_drewN | apply below_drew1) | exact HB.out)⟩

end Go.Proofs.Ytooiajkbpkfplaa.Q

-- from Qf25
-- Made by hp.py, a program of this session, with the kit's printer. Not trusted: Lean checks it.
namespace Go.Proofs.Ytooiajkbpkfplaa.Q
open Go.RowKit Go.Proofs.YtooiajkbpkfplaaW.PrintWords Go.Proofs.YtooiajkbpkfplaaW.PrintLast Go.Proofs.YtooiajkbpkfplaaW.PrintMore
attribute [local go_sem] max2_int min2_int max_two min_two max_three min_three max_four min_four   -- for this text's walks alone
set_option linter.unusedVariables false
set_option linter.unusedSimpArgs false

/-! ### paronymlaw12_awake: function 25 -/
def paronymlaw12_awake.f (k : Nat)  : Option (Bool) := (puny_Encode.f k (([98, 252, 99, 104, 101, 114] : List Int))).bind fun bt104 => (if bt104.2 = 0 then (some ((strOfNums bt104.1).toList == ([98, 99, 104, 101, 114, 45, 107, 118, 97] : List UInt8))) else (some false))
theorem paronymlaw12_awake.mono : ∀ k, LeO (paronymlaw12_awake.f k ) (paronymlaw12_awake.f (k + 1) ) := by
  intro  k
  unfold paronymlaw12_awake.f
  repeat' first
      | (with_reducible exact puny_Encode.mono _ _)
      | (with_reducible exact LeO.refl _)
      | (with_reducible exact LeO.none _)
      | (with_reducible refine LeO.ite ?_ ?_)
      | (with_reducible refine LeO.bind ?_ (fun _ => ?_))
      | exact puny_Encode.mono _ _
      | exact LeO.none _
      | refine LeO.ite ?_ ?_
      | refine LeO.bind ?_ (fun _ => ?_)
set_option maxHeartbeats 8000000 in
set_option maxRecDepth 100000 in
theorem paronymlaw12_awake.calls (k : Nat)  (r : Bool) (w : World) (h : paronymlaw12_awake.f k  = some r) :
    Calls Try.prog 25 #[] w fun e w' => e = .returned (.bool r) ∧ Below w.heap.size w w' := by
  have HB := Aside0.mk (Below.refl w.heap.size w)
  have H : ((puny_Encode.f k (([98, 252, 99, 104, 101, 114] : List Int))).bind fun bt104 => (if bt104.2 = 0 then (some ((strOfNums bt104.1).toList == ([98, 99, 104, 101, 114, 45, 107, 118, 97] : List UInt8))) else (some false))) = some r := h
  clear h
  obtain ⟨y101, hy101⟩ : ∃ y_ : List Int, y_ = (([98, 252, 99, 104, 101, 114] : List Int)) := ⟨_, rfl⟩
  replace H : ((puny_Encode.f k y101).bind fun bt104 => (if bt104.2 = 0 then (some ((strOfNums bt104.1).toList == ([98, 99, 104, 101, 114, 45, 107, 118, 97] : List UInt8))) else (some false))) = some r := by first | (rw [hy101]; with_reducible exact H) | (have H2_ := (Option.bind_some _ _).symm.trans H; rw [hy101]; with_reducible exact H2_) | (have H2_ := (Option.bind_some _ _).symm.trans H; with_reducible exact H2_) | with_reducible exact H | (rw [hy101]; exact H) | exact H
  have Ny101 := Aside0.mk hy101
  clear hy101
  replace H := Option.bind_eq_some_iff.mp H
  obtain ⟨⟨t104, t105⟩, A10, H⟩ := H
  replace H : (if t105 = 0 then (some ((strOfNums t104).toList == ([98, 99, 104, 101, 114, 45, 107, 118, 97] : List UInt8))) else (some false)) = some r := H
  have A1 := Aside0.mk A10
  clear A10
  by_cases c2 : t105 = 0
  · rw [if_pos c2] at H
    have c2b0 : (t105 == 0) = true := beq_iff_eq.mpr c2
    have c2b1 : (t105 != 0) = false := bne_eq_false_iff_eq.mpr c2
    clear c2
    obtain rfl := Option.some.inj H
    go_enter Try.func25, Try.ntmps25
    go_wp2_with (first | ((with_reducible refine gate_dst (N := 4) rfl ?_); refine Kd.R_lit (Kd.int .i64) _ 3 ?hg (N := 4) ?hd (xs := ([98, 252, 99, 104, 101, 114] : List Int)) (inner := [.int .i64 98, .int .i64 252, .int .i64 99, .int .i64 104, .int .i64 101, .int .i64 114]) (ok := fun _ => True) (okp := fun _ => True) ?hr ?hp (fun _ hk => hk) trivial (Below.refl _ _) (Nat.le_refl _) (by simp) ?_; (case hd => rfl); (case hg => rfl); (case hr => first | (go_simp; done) | (go_simp; rfl)); (case hp => exact (Reps.one (show Kd.M (Kd.int .i64) _ _ _ 98 [.int .i64 98] from rfl) (Reps.one (show Kd.M (Kd.int .i64) _ _ _ 252 [.int .i64 252] from rfl) (Reps.one (show Kd.M (Kd.int .i64) _ _ _ 99 [.int .i64 99] from rfl) (Reps.one (show Kd.M (Kd.int .i64) _ _ _ 104 [.int .i64 104] from rfl) (Reps.one (show Kd.M (Kd.int .i64) _ _ _ 101 [.int .i64 101] from rfl) (Reps.one (show Kd.M (Kd.int .i64) _ _ _ 114 [.int .i64 114] from rfl) (Reps.none _ _)))))))); intro v102 w3 ho4 hb hg_ hnew_; clear hg_ hnew_; (first | rw [← Ny101.out] at ho4 | (simp only [Int.reduceToNat] at ho4; rw [← Ny101.out] at ho4)); have n0_ := Aside0.mk (Kd.R_lower ho4 (below_size (by repeat (first | (with_reducible first | exact HB.out | apply below_alloc | apply pw_below_drewN | apply below_drew1) | exact HB.out)))); have n1_ := Aside0.mk (below_step (by repeat (first | (with_reducible first | exact HB.out | apply below_alloc | apply pw_below_drewN | apply below_drew1) | exact HB.out)) hb); clear HB; have HO103 := n0_; have HB := n1_; clear n0_ n1_; clear hb ho4; obtain ⟨Ao5, co5, eo5⟩ := Kd.R_slice HO103.out; subst eo5) | ((with_reducible refine gate_callee (f := 26) rfl ?_); refine goesL_ (some 5) rfl rfl Try.func26 (by kernel_rfl) rfl #[.slice Ao5 y101.length co5] rfl (by (try simp only [List.map_toArray, List.map_cons, List.map_nil]); first | done | rfl | (simp only [List.length_drop, List.length_take]; rfl)) ?_; (with_reducible refine (puny_Encode.calls k _ _ y101 t104 t105 _ ?side1 ?side2 A1.out).mono ?_); (case side1 => repeat (first | exact (Kd.R_reads' HO103.out).2.2 | (with_reducible refine Kd.C_alloc ?_ _) | (with_reducible refine Kd.C_drewN ?_ _) | (with_reducible refine Kd.C_drew ?_))); (case side2 => exact (Kd.R_reads' HO103.out).2.1); rintro e w6 ⟨v106, rfl, ho0, hb⟩; refine ⟨_, rfl, ?_⟩; have n0_ := Aside0.mk (Kd.R_below (by (with_reducible repeat (first | apply Kd.R_alloc | apply Kd.R_drewN | apply Kd.R_drew)); exact HO103.out) hb); have n1_ := Aside0.mk (Kd.R_lower ho0 (below_size (by repeat (first | (with_reducible first | exact HB.out | apply below_alloc | apply pw_below_drewN | apply below_drew1) | exact HB.out)))); have n2_ := Aside0.mk (below_step (by repeat (first | (with_reducible first | exact HB.out | apply below_alloc | apply pw_below_drewN | apply below_drew1) | exact HB.out)) hb); clear HO103; clear HB; have HO103 := n0_; have HO107 := n1_; have HB := n2_; clear n0_ n1_ n2_; (try clear hb); (try clear hb2); (try clear hk); (try clear hi); (try clear ho0); have hcv7 := own_string (P := Try.prog) Try.underlying22 Try.underlying5 Try.underlying9 (Kd.own_of_R HO107.out)))
    go_ret
    exact ⟨by first | rfl | (simp [errW_none, errW_some] <;> rfl) | (simp [*, errW_none, errW_some] <;> rfl), by repeat (first | (with_reducible first | exact HB.out | apply below_alloc | apply pw_below_drewN | apply below_drew1) | exact HB.out)⟩
  · rw [if_neg c2] at H
    have c2b0 : (t105 == 0) = false := beq_eq_false_iff_ne.mpr c2
    have c2b1 : (t105 != 0) = true := bne_iff_ne.mpr c2
    obtain rfl := Option.some.inj H
    go_enter Try.func25, Try.ntmps25
    go_wp2_with (first | ((with_reducible refine gate_dst (N := 4) rfl ?_); refine Kd.R_lit (Kd.int .i64) _ 3 ?hg (N := 4) ?hd (xs := ([98, 252, 99, 104, 101, 114] : List Int)) (inner := [.int .i64 98, .int .i64 252, .int .i64 99, .int .i64 104, .int .i64 101, .int .i64 114]) (ok := fun _ => True) (okp := fun _ => True) ?hr ?hp (fun _ hk => hk) trivial (Below.refl _ _) (Nat.le_refl _) (by simp) ?_; (case hd => rfl); (case hg => rfl); (case hr => first | (go_simp; done) | (go_simp; rfl)); (case hp => exact (Reps.one (show Kd.M (Kd.int .i64) _ _ _ 98 [.int .i64 98] from rfl) (Reps.one (show Kd.M (Kd.int .i64) _ _ _ 252 [.int .i64 252] from rfl) (Reps.one (show Kd.M (Kd.int .i64) _ _ _ 99 [.int .i64 99] from rfl) (Reps.one (show Kd.M (Kd.int .i64) _ _ _ 104 [.int .i64 104] from rfl) (Reps.one (show Kd.M (Kd.int .i64) _ _ _ 101 [.int .i64 101] from rfl) (Reps.one (show Kd.M (Kd.int .i64) _ _ _ 114 [.int .i64 114] from rfl) (Reps.none _ _)))))))); intro v102 w8 ho9 hb hg_ hnew_; clear hg_ hnew_; (first | rw [← Ny101.out] at ho9 | (simp only [Int.reduceToNat] at ho9; rw [← Ny101.out] at ho9)); have n0_ := Aside0.mk (Kd.R_lower ho9 (below_size (by repeat (first | (with_reducible first | exact HB.out | apply below_alloc | apply pw_below_drewN | apply below_drew1) | exact HB.out)))); have n1_ := Aside0.mk (below_step (by repeat (first | (with_reducible first | exact HB.out | apply below_alloc | apply pw_below_drewN | apply below_drew1) | exact HB.out)) hb); clear HB; have HO103 := n0_; have HB := n1_; clear n0_ n1_; clear hb ho9; obtain ⟨Ao10, co10, eo10⟩ := Kd.R_slice HO103.out; subst eo10) | ((with_reducible refine gate_callee (f := 26) rfl ?_); refine goesL_ (some 5) rfl rfl Try.func26 (by kernel_rfl) rfl #[.slice Ao10 y101.length co10] rfl (by (try simp only [List.map_toArray, List.map_cons, List.map_nil]); first | done | rfl | (simp only [List.length_drop, List.length_take]; rfl)) ?_; (with_reducible refine (puny_Encode.calls k _ _ y101 t104 t105 _ ?side1 ?side2 A1.out).mono ?_); (case side1 => repeat (first | exact (Kd.R_reads' HO103.out).2.2 | (with_reducible refine Kd.C_alloc ?_ _) | (with_reducible refine Kd.C_drewN ?_ _) | (with_reducible refine Kd.C_drew ?_))); (case side2 => exact (Kd.R_reads' HO103.out).2.1); rintro e w11 ⟨v106, rfl, ho0, hb⟩; refine ⟨_, rfl, ?_⟩; have n0_ := Aside0.mk (Kd.R_below (by (with_reducible repeat (first | apply Kd.R_alloc | apply Kd.R_drewN | apply Kd.R_drew)); exact HO103.out) hb); have n1_ := Aside0.mk (Kd.R_lower ho0 (below_size (by repeat (first | (with_reducible first | exact HB.out | apply below_alloc | apply pw_below_drewN | apply below_drew1) | exact HB.out)))); have n2_ := Aside0.mk (below_step (by repeat (first | (with_reducible first | exact HB.out | apply below_alloc | apply pw_below_drewN | apply below_drew1) | exact HB.out)) hb); clear HO103; clear HB; have HO103 := n0_; have HO107 := n1_; have HB := n2_; clear n0_ n1_ n2_; (try clear hb); (try clear hb2); (try clear hk); (try clear hi); (try clear ho0)))
    go_ret
    exact ⟨by first | rfl | (simp [errW_none, errW_some] <;> rfl) | (simp [*, errW_none, errW_some] <;> rfl), by repeat (first | (with_reducible first | exact HB.out | apply below_alloc | apply pw_below_drewN | apply below_drew1) | exact HB.out)⟩

end Go.Proofs.Ytooiajkbpkfplaa.Q

-- from Qf6
-- Made by hp.py, a program of this session, with the kit's printer. Not trusted: Lean checks it.
namespace Go.Proofs.Ytooiajkbpkfplaa.Q
open Go.RowKit Go.Proofs.YtooiajkbpkfplaaW.PrintWords Go.Proofs.YtooiajkbpkfplaaW.PrintLast Go.Proofs.YtooiajkbpkfplaaW.PrintMore
attribute [local go_sem] max2_int min2_int max_two min_two max_three min_three max_four min_four   -- for this text's walks alone
set_option linter.unusedVariables false
set_option linter.unusedSimpArgs false

/-! ### paronymlaw12_PunyPlain: function 6 -/
mutual
def paronymlaw12_PunyPlain.j0 : Nat → List Int → Bool → Option (Bool)
  | 0, _, _ => none
  | k + 1, x0, x14 => if x14 = true then ((paronymlaw12_awake.f k).bind fun t102 => (some t102)) else (paronymlaw12_PunyPlain.l0 k x0 ([] : List Int) 0)
def paronymlaw12_PunyPlain.l0 : Nat → List Int → List Int → Int → Option (Bool)
  | 0, _, _, _ => none
  | k + 1, x0, x3, x4 => if x4 < (x0.length : Int) then (if 0 ≤ x4 then (if x3.length < 17592186044416 then (paronymlaw12_PunyPlain.l0 k x0 (x3 ++ [Int.tmod (wrap64 (rd x0 x4)) 128]) (wrap64 (x4 + 1))) else (none)) else (none)) else ((puny_Encode.f k x3).bind fun bt107 => (if bt107.2 = 0 then (paronymlaw12_PunyPlain.j2 k x3 bt107.1 bt107.2 ((x3.length : Int) == 0)) else (paronymlaw12_PunyPlain.j2 k x3 bt107.1 bt107.2 true)))
def paronymlaw12_PunyPlain.j2 : Nat → List Int → List Int → Int → Bool → Option (Bool)
  | 0, _, _, _, _ => none
  | k + 1, x3, x5, x6, x42 => if x42 = true then (if x6 = 0 then (some ((x5.length : Int) == 0)) else (some false)) else (if (x5.length : Int) = (wrap64 ((x3.length : Int) + 1)) then (paronymlaw12_PunyPlain.l1 k x3 x5 0) else (some false))
def paronymlaw12_PunyPlain.l1 : Nat → List Int → List Int → Int → Option (Bool)
  | 0, _, _, _ => none
  | k + 1, x3, x5, x7 => if x7 < (x3.length : Int) then (if 0 ≤ x7 then (if x7 < (x5.length : Int) then (if (wrap64 (rd x5 x7)) = (rd x3 x7) then (paronymlaw12_PunyPlain.l1 k x3 x5 (wrap64 (x7 + 1))) else (some false)) else (none)) else (none)) else (if 0 ≤ (x3.length : Int) then (if (x3.length : Int) < (x5.length : Int) then (some ((rd x5 (x3.length : Int)) == 45)) else (none)) else (none))
end
def paronymlaw12_PunyPlain.f (k : Nat) (l0 : List Int) : Option (Bool) := (paronymlaw12_awake.f k).bind fun t101 => (if t101 = true then (paronymlaw12_PunyPlain.j0 k l0 (decide ((l0.length : Int) > 300))) else (paronymlaw12_PunyPlain.j0 k l0 true))
theorem paronymlaw12_PunyPlain.mono_l : ∀ k, (∀ y0 y1, LeO (paronymlaw12_PunyPlain.j0 k y0 y1) (paronymlaw12_PunyPlain.j0 (k + 1) y0 y1)) ∧ (∀ y0 y1 y2, LeO (paronymlaw12_PunyPlain.l0 k y0 y1 y2) (paronymlaw12_PunyPlain.l0 (k + 1) y0 y1 y2)) ∧ (∀ y0 y1 y2 y3, LeO (paronymlaw12_PunyPlain.j2 k y0 y1 y2 y3) (paronymlaw12_PunyPlain.j2 (k + 1) y0 y1 y2 y3)) ∧ (∀ y0 y1 y2, LeO (paronymlaw12_PunyPlain.l1 k y0 y1 y2) (paronymlaw12_PunyPlain.l1 (k + 1) y0 y1 y2))
  | 0 => ⟨fun _ _ r h => by simp [paronymlaw12_PunyPlain.j0] at h, fun _ _ _ r h => by simp [paronymlaw12_PunyPlain.l0] at h, fun _ _ _ _ r h => by simp [paronymlaw12_PunyPlain.j2] at h, fun _ _ _ r h => by simp [paronymlaw12_PunyPlain.l1] at h⟩
  | k + 1 => by
    obtain ⟨ih0, ih1, ih2, ih3⟩ := paronymlaw12_PunyPlain.mono_l k
    refine ⟨?_, ?_, ?_, ?_⟩
    · intro y0 y1
      unfold paronymlaw12_PunyPlain.j0
      repeat' first
      | (with_reducible exact ih0 _ _)
      | (with_reducible exact ih1 _ _ _)
      | (with_reducible exact ih2 _ _ _ _)
      | (with_reducible exact ih3 _ _ _)
      | (with_reducible exact paronymlaw12_awake.mono _)
      | (with_reducible exact puny_Encode.mono _ _)
      | (with_reducible exact LeO.refl _)
      | (with_reducible exact LeO.none _)
      | (with_reducible refine LeO.ite ?_ ?_)
      | (with_reducible refine LeO.bind ?_ (fun _ => ?_))
      | exact ih0 _ _
      | exact ih1 _ _ _
      | exact ih2 _ _ _ _
      | exact ih3 _ _ _
      | exact paronymlaw12_awake.mono _
      | exact puny_Encode.mono _ _
      | exact LeO.none _
      | refine LeO.ite ?_ ?_
      | refine LeO.bind ?_ (fun _ => ?_)
    · intro y0 y1 y2
      unfold paronymlaw12_PunyPlain.l0
      repeat' first
      | (with_reducible exact ih0 _ _)
      | (with_reducible exact ih1 _ _ _)
      | (with_reducible exact ih2 _ _ _ _)
      | (with_reducible exact ih3 _ _ _)
      | (with_reducible exact paronymlaw12_awake.mono _)
      | (with_reducible exact puny_Encode.mono _ _)
      | (with_reducible exact LeO.refl _)
      | (with_reducible exact LeO.none _)
      | (with_reducible refine LeO.ite ?_ ?_)
      | (with_reducible refine LeO.bind ?_ (fun _ => ?_))
      | exact ih0 _ _
      | exact ih1 _ _ _
      | exact ih2 _ _ _ _
      | exact ih3 _ _ _
      | exact paronymlaw12_awake.mono _
      | exact puny_Encode.mono _ _
      | exact LeO.none _
      | refine LeO.ite ?_ ?_
      | refine LeO.bind ?_ (fun _ => ?_)
    · intro y0 y1 y2 y3
      unfold paronymlaw12_PunyPlain.j2
      repeat' first
      | (with_reducible exact ih0 _ _)
      | (with_reducible exact ih1 _ _ _)
      | (with_reducible exact ih2 _ _ _ _)
      | (with_reducible exact ih3 _ _ _)
      | (with_reducible exact paronymlaw12_awake.mono _)
      | (with_reducible exact puny_Encode.mono _ _)
      | (with_reducible exact LeO.refl _)
      | (with_reducible exact LeO.none _)
      | (with_reducible refine LeO.ite ?_ ?_)
      | (with_reducible refine LeO.bind ?_ (fun _ => ?_))
      | exact ih0 _ _
      | exact ih1 _ _ _
      | exact ih2 _ _ _ _
      | exact ih3 _ _ _
      | exact paronymlaw12_awake.mono _
      | exact puny_Encode.mono _ _
      | exact LeO.none _
      | refine LeO.ite ?_ ?_
      | refine LeO.bind ?_ (fun _ => ?_)
    · intro y0 y1 y2
      unfold paronymlaw12_PunyPlain.l1
      repeat' first
      | (with_reducible exact ih0 _ _)
      | (with_reducible exact ih1 _ _ _)
      | (with_reducible exact ih2 _ _ _ _)
      | (with_reducible exact ih3 _ _ _)
      | (with_reducible exact paronymlaw12_awake.mono _)
      | (with_reducible exact puny_Encode.mono _ _)
      | (with_reducible exact LeO.refl _)
      | (with_reducible exact LeO.none _)
      | (with_reducible refine LeO.ite ?_ ?_)
      | (with_reducible refine LeO.bind ?_ (fun _ => ?_))
      | exact ih0 _ _
      | exact ih1 _ _ _
      | exact ih2 _ _ _ _
      | exact ih3 _ _ _
      | exact paronymlaw12_awake.mono _
      | exact puny_Encode.mono _ _
      | exact LeO.none _
      | refine LeO.ite ?_ ?_
      | refine LeO.bind ?_ (fun _ => ?_)
theorem paronymlaw12_PunyPlain.mono : ∀ a0 k, LeO (paronymlaw12_PunyPlain.f k a0) (paronymlaw12_PunyPlain.f (k + 1) a0) := by
  intro a0 k
  obtain ⟨ih0, ih1, ih2, ih3⟩ := paronymlaw12_PunyPlain.mono_l k
  unfold paronymlaw12_PunyPlain.f
  repeat' first
      | (with_reducible exact ih0 _ _)
      | (with_reducible exact ih1 _ _ _)
      | (with_reducible exact ih2 _ _ _ _)
      | (with_reducible exact ih3 _ _ _)
      | (with_reducible exact paronymlaw12_awake.mono _)
      | (with_reducible exact puny_Encode.mono _ _)
      | (with_reducible exact LeO.refl _)
      | (with_reducible exact LeO.none _)
      | (with_reducible refine LeO.ite ?_ ?_)
      | (with_reducible refine LeO.bind ?_ (fun _ => ?_))
      | exact ih0 _ _
      | exact ih1 _ _ _
      | exact ih2 _ _ _ _
      | exact ih3 _ _ _
      | exact paronymlaw12_awake.mono _
      | exact puny_Encode.mono _ _
      | exact LeO.none _
      | refine LeO.ite ?_ ?_
      | refine LeO.bind ?_ (fun _ => ?_)
set_option maxHeartbeats 8000000 in
set_option maxRecDepth 100000 in
theorem paronymlaw12_PunyPlain.calls (k : Nat) (A0 : Option Addr) (c0 : Nat) (l0 : List Int) (r : Bool) (w : World) (hr0 : Kd.C (Kd.int .u8) w A0 l0.length l0) (hc0 : l0.length ≤ c0) (h : paronymlaw12_PunyPlain.f k l0 = some r) :
    Calls Try.prog 6 #[.slice A0 l0.length c0] w fun e w' => e = .returned (.bool r) ∧ Below w.heap.size w w' := by
  have HR0 := Aside0.mk hr0
  have HC0 := Aside0.mk hc0
  clear hr0 hc0
  have HB := Aside0.mk (Below.refl w.heap.size w)
  have H : ((paronymlaw12_awake.f k).bind fun t101 => (if t101 = true then (paronymlaw12_PunyPlain.j0 k l0 (decide ((l0.length : Int) > 300))) else (paronymlaw12_PunyPlain.j0 k l0 true))) = some r := h
  clear h
  have HC2 := Aside0.mk H
  clear H
  go_enter Try.func6, Try.ntmps6
  go_upto_region 1 with (fail)
  repeat (go_quiet (fail); go_upto_region 1 with (fail))
  go_cut [14] (fun v14 wc => ∃ (kq : Nat) (x14_1 : Bool), v14 = .bool x14_1 ∧ Aside0 (paronymlaw12_PunyPlain.j0 kq l0 x14_1 = some r) ∧ Aside0 (kq ≤ k) ∧ Aside0 (Below w.heap.size w wc))
  case first =>
    have H := HC2.out
    clear HC2
    replace H := Option.bind_eq_some_iff.mp H
    obtain ⟨t101, A30, H⟩ := H
    replace H : (if t101 = true then (paronymlaw12_PunyPlain.j0 k l0 (decide ((l0.length : Int) > 300))) else (paronymlaw12_PunyPlain.j0 k l0 true)) = some r := H
    have A3 := Aside0.mk A30
    clear A30
    by_cases c4 : t101 = true
    · subst c4
      have H1 : (paronymlaw12_PunyPlain.j0 k l0 (decide ((l0.length : Int) > 300))) = some r := by rw [if_pos rfl] at H; exact H
      clear H
      have H := H1
      clear H1
      have H' := Aside0.mk H
      clear H
      go_wp2_with (first | (go_at_call 25; (with_reducible refine (paronymlaw12_awake.calls k  true _ A3.out).mono ?_); rintro e w5 ⟨rfl, hb⟩; have n0_ := Aside0.mk (below_step (by repeat (first | (with_reducible first | exact HB.out | apply below_alloc | apply pw_below_drewN | apply below_drew1) | exact HB.out)) hb); clear HB; have HB := n0_; clear n0_; (try clear hb); (try clear hb2); (try clear hk); (try clear hi)))
      repeat (go_quiet (first | (go_at_call 25; (with_reducible refine (paronymlaw12_awake.calls k  true _ A3.out).mono ?_); rintro e w5 ⟨rfl, hb⟩; have n0_ := Aside0.mk (below_step (by repeat (first | (with_reducible first | exact HB.out | apply below_alloc | apply pw_below_drewN | apply below_drew1) | exact HB.out)) hb); clear HB; have HB := n0_; clear n0_; (try clear hb); (try clear hb2); (try clear hk); (try clear hi))); try go_wp2_with (first | (go_at_call 25; (with_reducible refine (paronymlaw12_awake.calls k  true _ A3.out).mono ?_); rintro e w5 ⟨rfl, hb⟩; have n0_ := Aside0.mk (below_step (by repeat (first | (with_reducible first | exact HB.out | apply below_alloc | apply pw_below_drewN | apply below_drew1) | exact HB.out)) hb); clear HB; have HB := n0_; clear n0_; (try clear hb); (try clear hb2); (try clear hk); (try clear hi))))
      go_meet
      case rel => exact ⟨_, (decide ((l0.length : Int) > 300)), (by first | rfl | (simp; done) | (simp [*]; done)), H', ⟨by first | omega | exact Nat.le_refl _⟩, ⟨by repeat (first | (with_reducible first | exact HB.out | apply below_alloc | apply pw_below_drewN | apply below_drew1) | exact HB.out)⟩⟩
    · replace c4 := Bool.eq_false_iff.mpr c4
      subst c4
      have H1 : (paronymlaw12_PunyPlain.j0 k l0 true) = some r := by rw [if_neg (show ¬ (false = true) by decide)] at H; exact H
      clear H
      have H := H1
      clear H1
      have H' := Aside0.mk H
      clear H
      go_wp2_with (first | (go_at_call 25; (with_reducible refine (paronymlaw12_awake.calls k  false _ A3.out).mono ?_); rintro e w6 ⟨rfl, hb⟩; have n0_ := Aside0.mk (below_step (by repeat (first | (with_reducible first | exact HB.out | apply below_alloc | apply pw_below_drewN | apply below_drew1) | exact HB.out)) hb); clear HB; have HB := n0_; clear n0_; (try clear hb); (try clear hb2); (try clear hk); (try clear hi)))
      repeat (go_quiet (first | (go_at_call 25; (with_reducible refine (paronymlaw12_awake.calls k  false _ A3.out).mono ?_); rintro e w6 ⟨rfl, hb⟩; have n0_ := Aside0.mk (below_step (by repeat (first | (with_reducible first | exact HB.out | apply below_alloc | apply pw_below_drewN | apply below_drew1) | exact HB.out)) hb); clear HB; have HB := n0_; clear n0_; (try clear hb); (try clear hb2); (try clear hk); (try clear hi))); try go_wp2_with (first | (go_at_call 25; (with_reducible refine (paronymlaw12_awake.calls k  false _ A3.out).mono ?_); rintro e w6 ⟨rfl, hb⟩; have n0_ := Aside0.mk (below_step (by repeat (first | (with_reducible first | exact HB.out | apply below_alloc | apply pw_below_drewN | apply below_drew1) | exact HB.out)) hb); clear HB; have HB := n0_; clear n0_; (try clear hb); (try clear hb2); (try clear hk); (try clear hi))))
      go_meet
      case rel => exact ⟨_, (true), (by first | rfl | (simp; done) | (simp [*]; done)), H', ⟨by first | omega | exact Nat.le_refl _⟩, ⟨by repeat (first | (with_reducible first | exact HB.out | apply below_alloc | apply pw_below_drewN | apply below_drew1) | exact HB.out)⟩⟩
  case rest =>
    clear HC2
    try clear p2
    try clear c4
    try clear c6
    obtain ⟨kq, x14_1, rfl, HA, HJ1, HB⟩ := hcut
    cases kq with
    | zero => exact absurd HA.out (by simp [paronymlaw12_PunyPlain.j0])
    | succ kj1 =>
      have H := HA.out
      clear HA
      simp only [paronymlaw12_PunyPlain.j0] at H
      by_cases c7 : x14_1 = true
      · subst c7
        have H1 : ((paronymlaw12_awake.f kj1).bind fun t102 => (some t102)) = some r := by rw [if_pos rfl] at H; exact H
        clear H
        have H := H1
        clear H1
        replace H := Option.bind_eq_some_iff.mp H
        obtain ⟨t102, A80, H⟩ := H
        replace H : (some t102) = some r := H
        have A8 := Aside0.mk A80
        clear A80
        obtain rfl := Option.some.inj H
        go_wp2_with (first | (go_at_call 25; (with_reducible refine (paronymlaw12_awake.calls kj1  t102 _ A8.out).mono ?_); rintro e w9 ⟨rfl, hb⟩; have n0_ := Aside0.mk (below_step (by repeat (first | (with_reducible first | exact HB.out | apply below_alloc | apply pw_below_drewN | apply below_drew1) | exact HB.out)) hb); clear HB; have HB := n0_; clear n0_; (try clear hb); (try clear hb2); (try clear hk); (try clear hi)))
        repeat (go_quiet (first | (go_at_call 25; (with_reducible refine (paronymlaw12_awake.calls kj1  t102 _ A8.out).mono ?_); rintro e w9 ⟨rfl, hb⟩; have n0_ := Aside0.mk (below_step (by repeat (first | (with_reducible first | exact HB.out | apply below_alloc | apply pw_below_drewN | apply below_drew1) | exact HB.out)) hb); clear HB; have HB := n0_; clear n0_; (try clear hb); (try clear hb2); (try clear hk); (try clear hi))); try go_wp2_with (first | (go_at_call 25; (with_reducible refine (paronymlaw12_awake.calls kj1  t102 _ A8.out).mono ?_); rintro e w9 ⟨rfl, hb⟩; have n0_ := Aside0.mk (below_step (by repeat (first | (with_reducible first | exact HB.out | apply below_alloc | apply pw_below_drewN | apply below_drew1) | exact HB.out)) hb); clear HB; have HB := n0_; clear n0_; (try clear hb); (try clear hb2); (try clear hk); (try clear hi))))
        go_ret
        exact ⟨by first | rfl | (simp [errW_none, errW_some] <;> rfl) | (simp [*, errW_none, errW_some] <;> rfl), by repeat (first | (with_reducible first | exact HB.out | apply below_alloc | apply pw_below_drewN | apply below_drew1) | exact HB.out)⟩
      · replace c7 := Bool.eq_false_iff.mpr c7
        subst c7
        have H1 : (paronymlaw12_PunyPlain.l0 kj1 l0 ([] : List Int) 0) = some r := by rw [if_neg (show ¬ (false = true) by decide)] at H; exact H
        clear H
        have H := H1
        clear H1
        have H' := Aside0.mk H
        clear H
        go_wp2
        repeat (go_quiet (fail); try go_wp2)
        go_loopg [3, 4] kj1 (fun kq v3 v4 w' => ∃ (x3_2 : List Int) (x4_2 : Int), v4 = .int .i64 x4_2 ∧ Aside0 (paronymlaw12_PunyPlain.l0 kq l0 x3_2 x4_2 = some r) ∧ Aside0 (kq ≤ kj1) ∧ Aside0 (Kd.R (Kd.int .i64) 3 w' w.heap.size (fun _ => True) v3 x3_2) ∧ Aside0 (Below w.heap.size w w'))
        case atStart => exact ⟨(([] : List Int)), (0), (by first | rfl | (simp; done) | (simp [*]; done)), H', ⟨Nat.le_refl _⟩, ⟨by first | exact Kd.R_nil _ _ _ _ _ | exact Kd.N_nil _ _ _ _ _ | exact Kd.V_nil _ _ _ _ _ | exact Kd.Q_nil _ _ _ _ _ | exact Kd.S_nil _ _ _ _ _⟩, ⟨by repeat (first | (with_reducible first | exact HB.out | apply below_alloc | apply pw_below_drewN | apply below_drew1) | exact HB.out)⟩⟩
        case round =>
          clear H'
          try clear p2
          try clear c4
          try clear c6
          try clear c7
          try clear p2
          obtain ⟨x3_2, x4_2, rfl, HA, HK2, HO_3, HB⟩ := hrel
          cases gk with
          | zero => exact absurd HA.out (by simp [paronymlaw12_PunyPlain.l0])
          | succ k2 =>
            have H := HA.out
            clear HA
            simp only [paronymlaw12_PunyPlain.l0] at H
            by_cases c10 : x4_2 < (l0.length : Int)
            · rw [if_pos c10] at H
              have c10b0 : decide (x4_2 < (l0.length : Int)) = true := decide_eq_true c10
              clear c10
              by_cases c11 : 0 ≤ x4_2
              · rw [if_pos c11] at H
                have c11b0 : decide (0 ≤ x4_2) = true := decide_eq_true c11
                clear c11
                by_cases c12 : x3_2.length < 17592186044416
                · rw [if_pos c12] at H
                  have LMc12 := Aside0.mk c12
                  clear c12
                  obtain ⟨y104, hy104⟩ : ∃ y_ : List Int, y_ = (x3_2 ++ [Int.tmod (wrap64 (rd l0 x4_2)) 128]) := ⟨_, rfl⟩
                  replace H : (paronymlaw12_PunyPlain.l0 k2 l0 y104 (wrap64 (x4_2 + 1))) = some r := by first | (rw [hy104]; with_reducible exact H) | (have H2_ := (Option.bind_some _ _).symm.trans H; rw [hy104]; with_reducible exact H2_) | (have H2_ := (Option.bind_some _ _).symm.trans H; with_reducible exact H2_) | with_reducible exact H | (rw [hy104]; exact H) | exact H
                  have Ny104 := Aside0.mk hy104
                  clear hy104
                  have H' := Aside0.mk H
                  clear H
                  have p103 : 0 ≤ (x4_2 : Int) := of_decide_eq_true (by first | (with_reducible assumption) | assumption)
                  have q103 : x4_2 < (l0.length : Int) := of_decide_eq_true (by first | (with_reducible assumption) | assumption)
                  obtain ⟨ad103, e103, hx103_0⟩ := Kd.at_int HR0.out x4_2 p103 q103
                  cases e103
                  replace hx103_0 := (HB.out.cell (World.block_lt_of_cell? w _ hx103_0)).trans hx103_0
                  replace p103 := eq_true p103
                  replace q103 := eq_true q103
                  go_wp2_with (first | ((with_reducible refine gate_builtin (b := .append) (xs := #[.tmp 22, .tmp 29]) rfl ?_); (try (refine gate_guard (by rfl) ?_; dsimp only)); at_builtin; refine Kd.R_append (Kd.int .i64) (w0 := w) w.heap.size rfl (.tmp 22) (.tmp 29) 31 3 (.int .i64 0) 8 rfl Try.underlying31 info3 rfl (by decide) (by omega) u3 x3_2 (Int.tmod (wrap64 (rd l0 x4_2)) 128) [.int .i64 (Int.tmod (wrap64 (rd l0 x4_2)) 128)] (fun _ => True) (fun _ => False) rfl rfl ?aP (fun _ hk => hk.elim) ?aF ?aO ?aB ?aS ?aL ?_; (case aP => exact rfl); (case aB => exact (by repeat (first | (with_reducible first | exact HB.out | apply below_alloc | apply pw_below_drewN | apply below_drew1) | exact HB.out))); (case aF => exact (fun _ _ => trivial)); (case aO => exact (by (with_reducible repeat (first | apply Kd.R_alloc | apply Kd.R_drewN | apply Kd.R_drew)); exact HO_3.out)); (case aS => exact (below_size (by repeat (first | (with_reducible first | exact HB.out | apply below_alloc | apply pw_below_drewN | apply below_drew1) | exact HB.out)))); (case aL => have := LMc12.out; omega); intro v105 w13 ho hb hg hat; rw [← Ny104.out] at ho; have n0_ := Aside0.mk (hb); have n1_ := Aside0.mk (ho); clear HB; clear HO_3; have HB := n0_; have HO106 := n1_; clear n0_ n1_; clear ho hb hg hat))
                  repeat (go_quiet (first | ((with_reducible refine gate_builtin (b := .append) (xs := #[.tmp 22, .tmp 29]) rfl ?_); (try (refine gate_guard (by rfl) ?_; dsimp only)); at_builtin; refine Kd.R_append (Kd.int .i64) (w0 := w) w.heap.size rfl (.tmp 22) (.tmp 29) 31 3 (.int .i64 0) 8 rfl Try.underlying31 info3 rfl (by decide) (by omega) u3 x3_2 (Int.tmod (wrap64 (rd l0 x4_2)) 128) [.int .i64 (Int.tmod (wrap64 (rd l0 x4_2)) 128)] (fun _ => True) (fun _ => False) rfl rfl ?aP (fun _ hk => hk.elim) ?aF ?aO ?aB ?aS ?aL ?_; (case aP => exact rfl); (case aB => exact (by repeat (first | (with_reducible first | exact HB.out | apply below_alloc | apply pw_below_drewN | apply below_drew1) | exact HB.out))); (case aF => exact (fun _ _ => trivial)); (case aO => exact (by (with_reducible repeat (first | apply Kd.R_alloc | apply Kd.R_drewN | apply Kd.R_drew)); exact HO_3.out)); (case aS => exact (below_size (by repeat (first | (with_reducible first | exact HB.out | apply below_alloc | apply pw_below_drewN | apply below_drew1) | exact HB.out)))); (case aL => have := LMc12.out; omega); intro v105 w13 ho hb hg hat; rw [← Ny104.out] at ho; have n0_ := Aside0.mk (hb); have n1_ := Aside0.mk (ho); clear HB; clear HO_3; have HB := n0_; have HO106 := n1_; clear n0_ n1_; clear ho hb hg hat)); try go_wp2_with (first | ((with_reducible refine gate_builtin (b := .append) (xs := #[.tmp 22, .tmp 29]) rfl ?_); (try (refine gate_guard (by rfl) ?_; dsimp only)); at_builtin; refine Kd.R_append (Kd.int .i64) (w0 := w) w.heap.size rfl (.tmp 22) (.tmp 29) 31 3 (.int .i64 0) 8 rfl Try.underlying31 info3 rfl (by decide) (by omega) u3 x3_2 (Int.tmod (wrap64 (rd l0 x4_2)) 128) [.int .i64 (Int.tmod (wrap64 (rd l0 x4_2)) 128)] (fun _ => True) (fun _ => False) rfl rfl ?aP (fun _ hk => hk.elim) ?aF ?aO ?aB ?aS ?aL ?_; (case aP => exact rfl); (case aB => exact (by repeat (first | (with_reducible first | exact HB.out | apply below_alloc | apply pw_below_drewN | apply below_drew1) | exact HB.out))); (case aF => exact (fun _ _ => trivial)); (case aO => exact (by (with_reducible repeat (first | apply Kd.R_alloc | apply Kd.R_drewN | apply Kd.R_drew)); exact HO_3.out)); (case aS => exact (below_size (by repeat (first | (with_reducible first | exact HB.out | apply below_alloc | apply pw_below_drewN | apply below_drew1) | exact HB.out)))); (case aL => have := LMc12.out; omega); intro v105 w13 ho hb hg hat; rw [← Ny104.out] at ho; have n0_ := Aside0.mk (hb); have n1_ := Aside0.mk (ho); clear HB; clear HO_3; have HB := n0_; have HO106 := n1_; clear n0_ n1_; clear ho hb hg hat)))
                  go_roundg k2
                  case measure => have := HJ1.out; have := HK2.out; omega
                  case rel => exact ⟨(y104), (wrap64 (x4_2 + 1)), (by first | rfl | (simp; done) | (simp [*]; done)), H', ⟨by have := HJ1.out; have := HK2.out; omega⟩, ⟨by (with_reducible repeat (first | apply Kd.R_alloc | apply Kd.R_drewN | apply Kd.R_drew)); exact HO106.out⟩, ⟨by repeat (first | (with_reducible first | exact HB.out | apply below_alloc | apply pw_below_drewN | apply below_drew1) | exact HB.out)⟩⟩
                · rw [if_neg c12] at H
                  exact absurd H (by simp)
              · rw [if_neg c11] at H
                exact absurd H (by simp)
            · rw [if_neg c10] at H
              have c10b0 : decide (x4_2 < (l0.length : Int)) = false := decide_eq_false c10
              clear c10
              replace H := Option.bind_eq_some_iff.mp H
              obtain ⟨⟨t107, t108⟩, A140, H⟩ := H
              replace H : (if t108 = 0 then (paronymlaw12_PunyPlain.j2 k2 x3_2 t107 t108 ((x3_2.length : Int) == 0)) else (paronymlaw12_PunyPlain.j2 k2 x3_2 t107 t108 true)) = some r := H
              have A14 := Aside0.mk A140
              clear A140
              have HC15 := Aside0.mk H
              clear H
              obtain ⟨Ao16, co16, eo16⟩ := Kd.R_slice HO_3.out
              subst eo16
              go_upto_region 9 with (first | (go_at_call 26; (with_reducible refine (puny_Encode.calls k2 _ _ x3_2 t107 t108 _ ?side1 ?side2 A14.out).mono ?_); (case side1 => repeat (first | exact (Kd.R_reads' HO_3.out).2.2 | (with_reducible refine Kd.C_alloc ?_ _) | (with_reducible refine Kd.C_drewN ?_ _) | (with_reducible refine Kd.C_drew ?_))); (case side2 => exact (Kd.R_reads' HO_3.out).2.1); rintro e w17 ⟨v109, rfl, ho0, hb⟩; have n0_ := Aside0.mk (Kd.R_below (by (with_reducible repeat (first | apply Kd.R_alloc | apply Kd.R_drewN | apply Kd.R_drew)); exact HO_3.out) hb); have n1_ := Aside0.mk (Kd.R_lower ho0 (below_size (by repeat (first | (with_reducible first | exact HB.out | apply below_alloc | apply pw_below_drewN | apply below_drew1) | exact HB.out)))); have n2_ := Aside0.mk (below_step (by repeat (first | (with_reducible first | exact HB.out | apply below_alloc | apply pw_below_drewN | apply below_drew1) | exact HB.out)) hb); clear HO_3; clear HB; have HO_3 := n0_; have HO110 := n1_; have HB := n2_; clear n0_ n1_ n2_; (try clear hb); (try clear hb2); (try clear hk); (try clear hi); (try clear ho0)))
              repeat (go_quiet (first | (go_at_call 26; (with_reducible refine (puny_Encode.calls k2 _ _ x3_2 t107 t108 _ ?side1 ?side2 A14.out).mono ?_); (case side1 => repeat (first | exact (Kd.R_reads' HO_3.out).2.2 | (with_reducible refine Kd.C_alloc ?_ _) | (with_reducible refine Kd.C_drewN ?_ _) | (with_reducible refine Kd.C_drew ?_))); (case side2 => exact (Kd.R_reads' HO_3.out).2.1); rintro e w17 ⟨v109, rfl, ho0, hb⟩; have n0_ := Aside0.mk (Kd.R_below (by (with_reducible repeat (first | apply Kd.R_alloc | apply Kd.R_drewN | apply Kd.R_drew)); exact HO_3.out) hb); have n1_ := Aside0.mk (Kd.R_lower ho0 (below_size (by repeat (first | (with_reducible first | exact HB.out | apply below_alloc | apply pw_below_drewN | apply below_drew1) | exact HB.out)))); have n2_ := Aside0.mk (below_step (by repeat (first | (with_reducible first | exact HB.out | apply below_alloc | apply pw_below_drewN | apply below_drew1) | exact HB.out)) hb); clear HO_3; clear HB; have HO_3 := n0_; have HO110 := n1_; have HB := n2_; clear n0_ n1_ n2_; (try clear hb); (try clear hb2); (try clear hk); (try clear hi); (try clear ho0))); go_upto_region 9 with (first | (go_at_call 26; (with_reducible refine (puny_Encode.calls k2 _ _ x3_2 t107 t108 _ ?side1 ?side2 A14.out).mono ?_); (case side1 => repeat (first | exact (Kd.R_reads' HO_3.out).2.2 | (with_reducible refine Kd.C_alloc ?_ _) | (with_reducible refine Kd.C_drewN ?_ _) | (with_reducible refine Kd.C_drew ?_))); (case side2 => exact (Kd.R_reads' HO_3.out).2.1); rintro e w17 ⟨v109, rfl, ho0, hb⟩; have n0_ := Aside0.mk (Kd.R_below (by (with_reducible repeat (first | apply Kd.R_alloc | apply Kd.R_drewN | apply Kd.R_drew)); exact HO_3.out) hb); have n1_ := Aside0.mk (Kd.R_lower ho0 (below_size (by repeat (first | (with_reducible first | exact HB.out | apply below_alloc | apply pw_below_drewN | apply below_drew1) | exact HB.out)))); have n2_ := Aside0.mk (below_step (by repeat (first | (with_reducible first | exact HB.out | apply below_alloc | apply pw_below_drewN | apply below_drew1) | exact HB.out)) hb); clear HO_3; clear HB; have HO_3 := n0_; have HO110 := n1_; have HB := n2_; clear n0_ n1_ n2_; (try clear hb); (try clear hb2); (try clear hk); (try clear hi); (try clear ho0))))
              (try simp only [Act.put, List.setIfInBounds_toArray, List.set_cons_zero, List.set_cons_succ])
              go_cut [42] (fun v42 wc => ∃ (kq : Nat) (x42_14 : Bool), v42 = .bool x42_14 ∧ Aside0 (paronymlaw12_PunyPlain.j2 kq x3_2 t107 t108 x42_14 = some r) ∧ Aside0 (kq ≤ k2) ∧ Aside0 (Kd.R (Kd.int .i64) 3 wc w.heap.size (fun _ => True) (.slice Ao16 x3_2.length co16) x3_2) ∧ Aside0 (Kd.R (Kd.int .u8) 5 wc w.heap.size (fun _ => True) v109 t107) ∧ Aside0 (Below w.heap.size w wc))
              case first =>
                have H := HC15.out
                clear HC15
                by_cases c18 : t108 = 0
                · rw [if_pos c18] at H
                  have c18b0 : (t108 == 0) = true := beq_iff_eq.mpr c18
                  have c18b1 : (t108 != 0) = false := bne_eq_false_iff_eq.mpr c18
                  clear c18
                  (first | rw [c18b0] | (simp only [i64_w, i32_w]; rw [c18b0]) | rw [c18b1] | (simp only [i64_w, i32_w]; rw [c18b1]) | skip)
                  have H' := Aside0.mk H
                  clear H
                  go_wp2
                  repeat (go_quiet (fail); try go_wp2)
                  go_meet
                  case rel => exact ⟨_, (((x3_2.length : Int) == 0)), (by first | rfl | (simp; done) | (simp [*]; done)), H', ⟨by have := HJ1.out; have := HK2.out; first | omega | exact Nat.le_refl _⟩, ⟨by (with_reducible repeat (first | apply Kd.R_alloc | apply Kd.R_drewN | apply Kd.R_drew)); exact HO_3.out⟩, ⟨by (with_reducible repeat (first | apply Kd.R_alloc | apply Kd.R_drewN | apply Kd.R_drew)); exact HO110.out⟩, ⟨by repeat (first | (with_reducible first | exact HB.out | apply below_alloc | apply pw_below_drewN | apply below_drew1) | exact HB.out)⟩⟩
                · rw [if_neg c18] at H
                  have c18b0 : (t108 == 0) = false := beq_eq_false_iff_ne.mpr c18
                  have c18b1 : (t108 != 0) = true := bne_iff_ne.mpr c18
                  (first | rw [c18b0] | (simp only [i64_w, i32_w]; rw [c18b0]) | rw [c18b1] | (simp only [i64_w, i32_w]; rw [c18b1]) | skip)
                  have H' := Aside0.mk H
                  clear H
                  go_wp2
                  repeat (go_quiet (fail); try go_wp2)
                  go_meet
                  case rel => exact ⟨_, (true), (by first | rfl | (simp; done) | (simp [*]; done)), H', ⟨by have := HJ1.out; have := HK2.out; first | omega | exact Nat.le_refl _⟩, ⟨by (with_reducible repeat (first | apply Kd.R_alloc | apply Kd.R_drewN | apply Kd.R_drew)); exact HO_3.out⟩, ⟨by (with_reducible repeat (first | apply Kd.R_alloc | apply Kd.R_drewN | apply Kd.R_drew)); exact HO110.out⟩, ⟨by repeat (first | (with_reducible first | exact HB.out | apply below_alloc | apply pw_below_drewN | apply below_drew1) | exact HB.out)⟩⟩
              case rest =>
                clear HC15
                try clear c1
                try clear p1
                try clear q1
                try clear hx1
                try clear p2
                try clear c4
                try clear c6
                try clear p6
                try clear c7
                try clear c10
                try clear c10b0
                try clear p10
                try clear q10
                try clear hx10
                try clear c11
                try clear c11b0
                try clear c12
                try clear c18
                try clear c18b0
                try clear c18b1
                try clear hx103_0
                try clear p103
                try clear p2
                try clear q103
                obtain ⟨kq, x42_14, rfl, HA, HJ14, HO_3, HO_5, HB⟩ := hcut
                cases kq with
                | zero => exact absurd HA.out (by simp [paronymlaw12_PunyPlain.j2])
                | succ kj14 =>
                  have H := HA.out
                  clear HA
                  simp only [paronymlaw12_PunyPlain.j2] at H
                  by_cases c19 : x42_14 = true
                  · subst c19
                    have H1 : (if t108 = 0 then (some ((t107.length : Int) == 0)) else (some false)) = some r := by rw [if_pos rfl] at H; exact H
                    clear H
                    have H := H1
                    clear H1
                    by_cases c20 : t108 = 0
                    · rw [if_pos c20] at H
                      have c20b0 : (t108 == 0) = true := beq_iff_eq.mpr c20
                      have c20b1 : (t108 != 0) = false := bne_eq_false_iff_eq.mpr c20
                      clear c20
                      obtain rfl := Option.some.inj H
                      obtain ⟨Ao21, co21, eo21⟩ := Kd.R_slice HO_5.out
                      subst eo21
                      go_wp2
                      repeat (go_quiet (fail); try go_wp2)
                      go_ret
                      exact ⟨by first | rfl | (simp [errW_none, errW_some] <;> rfl) | (simp [*, errW_none, errW_some] <;> rfl), by repeat (first | (with_reducible first | exact HB.out | apply below_alloc | apply pw_below_drewN | apply below_drew1) | exact HB.out)⟩
                    · rw [if_neg c20] at H
                      have c20b0 : (t108 == 0) = false := beq_eq_false_iff_ne.mpr c20
                      have c20b1 : (t108 != 0) = true := bne_iff_ne.mpr c20
                      obtain rfl := Option.some.inj H
                      go_wp2
                      repeat (go_quiet (fail); try go_wp2)
                      go_ret
                      exact ⟨by first | rfl | (simp [errW_none, errW_some] <;> rfl) | (simp [*, errW_none, errW_some] <;> rfl), by repeat (first | (with_reducible first | exact HB.out | apply below_alloc | apply pw_below_drewN | apply below_drew1) | exact HB.out)⟩
                  · replace c19 := Bool.eq_false_iff.mpr c19
                    subst c19
                    have H1 : (if (t107.length : Int) = (wrap64 ((x3_2.length : Int) + 1)) then (paronymlaw12_PunyPlain.l1 kj14 x3_2 t107 0) else (some false)) = some r := by rw [if_neg (show ¬ (false = true) by decide)] at H; exact H
                    clear H
                    have H := H1
                    clear H1
                    by_cases c22 : (t107.length : Int) = (wrap64 ((x3_2.length : Int) + 1))
                    · rw [if_pos c22] at H
                      have c22b0 : ((t107.length : Int) == (wrap64 ((x3_2.length : Int) + 1))) = true := beq_iff_eq.mpr c22
                      have c22b1 : ((t107.length : Int) != (wrap64 ((x3_2.length : Int) + 1))) = false := bne_eq_false_iff_eq.mpr c22
                      clear c22
                      have H' := Aside0.mk H
                      clear H
                      obtain ⟨Ao23, co23, eo23⟩ := Kd.R_slice HO_5.out
                      subst eo23
                      go_wp2
                      repeat (go_quiet (fail); try go_wp2)
                      go_loopg [7] kj14 (fun kq v7 w' => ∃ (x7_4 : Int), v7 = .int .i64 x7_4 ∧ Aside0 (paronymlaw12_PunyPlain.l1 kq x3_2 t107 x7_4 = some r) ∧ Aside0 (kq ≤ kj14) ∧ Aside0 (Kd.R (Kd.int .i64) 3 w' w.heap.size (fun _ => True) (.slice Ao16 x3_2.length co16) x3_2) ∧ Aside0 (Kd.R (Kd.int .u8) 5 w' w.heap.size (fun _ => True) (.slice Ao23 t107.length co23) t107) ∧ Aside0 (Below w.heap.size w w'))
                      case atStart => exact ⟨(0), (by first | rfl | (simp; done) | (simp [*]; done)), H', ⟨Nat.le_refl _⟩, ⟨by (with_reducible repeat (first | apply Kd.R_alloc | apply Kd.R_drewN | apply Kd.R_drew)); exact HO_3.out⟩, ⟨by (with_reducible repeat (first | apply Kd.R_alloc | apply Kd.R_drewN | apply Kd.R_drew)); exact HO_5.out⟩, ⟨by repeat (first | (with_reducible first | exact HB.out | apply below_alloc | apply pw_below_drewN | apply below_drew1) | exact HB.out)⟩⟩
                      case round =>
                        clear H'
                        try clear c1
                        try clear p1
                        try clear q1
                        try clear hx1
                        try clear c2
                        try clear p2
                        try clear c4
                        try clear c6
                        try clear p6
                        try clear c7
                        try clear c10
                        try clear c10b0
                        try clear p10
                        try clear q10
                        try clear hx10
                        try clear c11
                        try clear c11b0
                        try clear c12
                        try clear c18
                        try clear c18b0
                        try clear c18b1
                        try clear c19
                        try clear c20
                        try clear c20b0
                        try clear c20b1
                        try clear c22
                        try clear c22b0
                        try clear c22b1
                        try clear hx103_0
                        try clear p1
                        try clear p10
                        try clear p103
                        try clear p2
                        try clear p6
                        try clear q1
                        try clear q10
                        try clear q103
                        obtain ⟨x7_4, rfl, HA, HK4, HO_3, HO_5, HB⟩ := hrel
                        cases gk with
                        | zero => exact absurd HA.out (by simp [paronymlaw12_PunyPlain.l1])
                        | succ k4 =>
                          have H := HA.out
                          clear HA
                          simp only [paronymlaw12_PunyPlain.l1] at H
                          by_cases c24 : x7_4 < (x3_2.length : Int)
                          · rw [if_pos c24] at H
                            have c24b0 : decide (x7_4 < (x3_2.length : Int)) = true := decide_eq_true c24
                            clear c24
                            by_cases c25 : 0 ≤ x7_4
                            · rw [if_pos c25] at H
                              have c25b0 : decide (0 ≤ x7_4) = true := decide_eq_true c25
                              clear c25
                              by_cases c26 : x7_4 < (t107.length : Int)
                              · rw [if_pos c26] at H
                                have c26b0 : decide (x7_4 < (t107.length : Int)) = true := decide_eq_true c26
                                clear c26
                                by_cases c27 : (wrap64 (rd t107 x7_4)) = (rd x3_2 x7_4)
                                · rw [if_pos c27] at H
                                  have c27b0 : ((wrap64 (rd t107 x7_4)) == (rd x3_2 x7_4)) = true := beq_iff_eq.mpr c27
                                  have c27b1 : ((wrap64 (rd t107 x7_4)) != (rd x3_2 x7_4)) = false := bne_eq_false_iff_eq.mpr c27
                                  clear c27
                                  have H' := Aside0.mk H
                                  clear H
                                  have p111 : 0 ≤ (x7_4 : Int) := of_decide_eq_true (by first | (with_reducible assumption) | assumption)
                                  have q111 : x7_4 < (t107.length : Int) := of_decide_eq_true (by first | (with_reducible assumption) | assumption)
                                  obtain ⟨ad111, e111, hx111_0⟩ := Kd.at_int (Kd.R_reads' HO_5.out).2.2 x7_4 p111 q111
                                  cases e111
                                  replace p111 := eq_true p111
                                  replace q111 := eq_true q111
                                  have p112 : 0 ≤ (x7_4 : Int) := of_decide_eq_true (by first | (with_reducible assumption) | assumption)
                                  have q112 : x7_4 < (x3_2.length : Int) := of_decide_eq_true (by first | (with_reducible assumption) | assumption)
                                  obtain ⟨ad112, e112, hx112_0⟩ := Kd.at_int (Kd.R_reads' HO_3.out).2.2 x7_4 p112 q112
                                  cases e112
                                  replace p112 := eq_true p112
                                  replace q112 := eq_true q112
                                  go_wp2
                                  repeat (go_quiet (fail); try go_wp2)
                                  go_roundg k4
                                  case measure => have := HJ1.out; have := HK2.out; have := HJ14.out; have := HK4.out; omega
                                  case rel => exact ⟨(wrap64 (x7_4 + 1)), (by first | rfl | (simp; done) | (simp [*]; done)), H', ⟨by have := HJ1.out; have := HK2.out; have := HJ14.out; have := HK4.out; omega⟩, ⟨by (with_reducible repeat (first | apply Kd.R_alloc | apply Kd.R_drewN | apply Kd.R_drew)); exact HO_3.out⟩, ⟨by (with_reducible repeat (first | apply Kd.R_alloc | apply Kd.R_drewN | apply Kd.R_drew)); exact HO_5.out⟩, ⟨by repeat (first | (with_reducible first | exact HB.out | apply below_alloc | apply pw_below_drewN | apply below_drew1) | exact HB.out)⟩⟩
                                · rw [if_neg c27] at H
                                  have c27b0 : ((wrap64 (rd t107 x7_4)) == (rd x3_2 x7_4)) = false := beq_eq_false_iff_ne.mpr c27
                                  have c27b1 : ((wrap64 (rd t107 x7_4)) != (rd x3_2 x7_4)) = true := bne_iff_ne.mpr c27
                                  obtain rfl := Option.some.inj H
                                  have p111 : 0 ≤ (x7_4 : Int) := of_decide_eq_true (by first | (with_reducible assumption) | assumption)
                                  have q111 : x7_4 < (t107.length : Int) := of_decide_eq_true (by first | (with_reducible assumption) | assumption)
                                  obtain ⟨ad111, e111, hx111_0⟩ := Kd.at_int (Kd.R_reads' HO_5.out).2.2 x7_4 p111 q111
                                  cases e111
                                  replace p111 := eq_true p111
                                  replace q111 := eq_true q111
                                  have p112 : 0 ≤ (x7_4 : Int) := of_decide_eq_true (by first | (with_reducible assumption) | assumption)
                                  have q112 : x7_4 < (x3_2.length : Int) := of_decide_eq_true (by first | (with_reducible assumption) | assumption)
                                  obtain ⟨ad112, e112, hx112_0⟩ := Kd.at_int (Kd.R_reads' HO_3.out).2.2 x7_4 p112 q112
                                  cases e112
                                  replace p112 := eq_true p112
                                  replace q112 := eq_true q112
                                  go_wp2
                                  repeat (go_quiet (fail); try go_wp2)
                                  go_ret
                                  exact ⟨by first | rfl | (simp [errW_none, errW_some] <;> rfl) | (simp [*, errW_none, errW_some] <;> rfl), by repeat (first | (with_reducible first | exact HB.out | apply below_alloc | apply pw_below_drewN | apply below_drew1) | exact HB.out)⟩
                              · rw [if_neg c26] at H
                                exact absurd H (by simp)
                            · rw [if_neg c25] at H
                              exact absurd H (by simp)
                          · rw [if_neg c24] at H
                            have c24b0 : decide (x7_4 < (x3_2.length : Int)) = false := decide_eq_false c24
                            clear c24
                            by_cases c28 : 0 ≤ (x3_2.length : Int)
                            · rw [if_pos c28] at H
                              have c28b0 : decide (0 ≤ (x3_2.length : Int)) = true := decide_eq_true c28
                              have c28b1 : decide (0 ≤ x3_2.length) = true := decide_eq_true (by omega)
                              clear c28
                              by_cases c29 : (x3_2.length : Int) < (t107.length : Int)
                              · rw [if_pos c29] at H
                                have c29b0 : decide ((x3_2.length : Int) < (t107.length : Int)) = true := decide_eq_true c29
                                have c29b1 : decide (x3_2.length < t107.length) = true := decide_eq_true (Int.ofNat_lt.mp c29)
                                clear c29
                                obtain rfl := Option.some.inj H
                                have p113 : 0 ≤ ((x3_2.length : Int) : Int) := of_decide_eq_true (by first | (with_reducible assumption) | assumption)
                                have q113 : (x3_2.length : Int) < (t107.length : Int) := of_decide_eq_true (by first | (with_reducible assumption) | assumption)
                                obtain ⟨ad113, e113, hx113_0⟩ := Kd.at_int (Kd.R_reads' HO_5.out).2.2 (x3_2.length : Int) p113 q113
                                cases e113
                                (try simp only [Go.IntWalk.toNatUp] at hx113_0)
                                replace p113 := eq_true p113
                                replace q113 := eq_true q113
                                go_wp2
                                repeat (go_quiet (fail); try go_wp2)
                                go_ret
                                exact ⟨by first | rfl | (simp [errW_none, errW_some] <;> rfl) | (simp [*, errW_none, errW_some] <;> rfl), by repeat (first | (with_reducible first | exact HB.out | apply below_alloc | apply pw_below_drewN | apply below_drew1) | exact HB.out)⟩
                              · rw [if_neg c29] at H
                                exact absurd H (by simp)
                            · rw [if_neg c28] at H
                              exact absurd H (by simp)
                    · rw [if_neg c22] at H
                      have c22b0 : ((t107.length : Int) == (wrap64 ((x3_2.length : Int) + 1))) = false := beq_eq_false_iff_ne.mpr c22
                      have c22b1 : ((t107.length : Int) != (wrap64 ((x3_2.length : Int) + 1))) = true := bne_iff_ne.mpr c22
                      obtain rfl := Option.some.inj H
                      obtain ⟨Ao30, co30, eo30⟩ := Kd.R_slice HO_5.out
                      subst eo30
                      go_wp2
                      repeat (go_quiet (fail); try go_wp2)
                      go_ret
                      exact ⟨by first | rfl | (simp [errW_none, errW_some] <;> rfl) | (simp [*, errW_none, errW_some] <;> rfl), by repeat (first | (with_reducible first | exact HB.out | apply below_alloc | apply pw_below_drewN | apply below_drew1) | exact HB.out)⟩

/-- THE ONE PURE STATEMENT of paronymlaw12_PunyPlain: yours. -/
def paronymlaw12_PunyPlain.Pure : Prop := ∀ (l0 : List Int), l0.length ≤ maxLen → l0.length * 1 ≤ 140737488351232 → (∀ x ∈ l0, (Lit.int .u8 x).wf = true) → ∃ k, paronymlaw12_PunyPlain.f k l0 = some true
theorem paronymlaw12_PunyPlain.walk (P : paronymlaw12_PunyPlain.Pure) (a0 : Option Addr) (len0 cap0 : Nat) (z0 : List Int) (w : World) (w0 : (a0 = none ∧ len0 = 0 ∧ cap0 = 0 ∧ z0 = []) ∨ ∃ x, a0 = some x ∧ len0 ≤ cap0 ∧ cap0 ≤ maxLen ∧ z0.length = cap0 ∧ (∀ i, i < z0.length → w.cell? (x.add i) = some (.int .u8 (z0.getD i 0))) ∧ ∀ n ∈ z0, (Lit.int .u8 n).wf = true) (y0 : len0 * 1 ≤ 140737488351232) :
    Calls Try.prog 6 #[.slice a0 len0 cap0] w fun e w' => e = .returned (.bool true) ∧ Below w.heap.size w w' := by
  obtain ⟨l0, rfl, hr0, hm0, hw0, hc0⟩ := ReadsInt.ofRowC w0
  obtain ⟨k, h⟩ := P l0 hm0 y0 hw0
  refine (paronymlaw12_PunyPlain.calls k _ _ l0 true w (Kd.C_of_reads (d := (0 : Int)) (h1 := fun _ => rfl) hr0) hc0 h).mono ?_
  rintro e w' ⟨rfl, hd⟩
  exact ⟨rfl, hd⟩

end Go.Proofs.Ytooiajkbpkfplaa.Q

-- from K
/- Small lemmas on lists, octets and rounds, for the plain laws of this seat. No condition. -/
namespace Go.Proofs.Ytooiajkbpkfplaa.K
set_option linter.unusedVariables false
set_option linter.unusedSimpArgs false
open Go.RowKit Go.Proofs.YtooiajkbpkfplaaW.PrintWords

theorem w64 {n : Int} (h0 : -9223372036854775808 ≤ n) (h1 : n ≤ 9223372036854775807) : wrap64 n = n := by unfold wrap64; omega
theorem rd_nat (l : List Int) (i : Nat) (h : i < l.length) : rd l (i : Int) = l[i] := by
  unfold rd; simp [List.getD_eq_getElem?_getD, List.getElem?_eq_getElem h]
theorem rd_mem {l : List Int} {i : Int} (h0 : 0 ≤ i) (h1 : i < (l.length : Int)) : rd l i ∈ l := by
  obtain ⟨n, rfl⟩ := Int.eq_ofNat_of_zero_le h0
  rw [rd_nat l n (by omega)]
  exact List.getElem_mem _
theorem rd_append_left {l m : List Int} {i : Int} (h0 : 0 ≤ i) (h1 : i < (l.length : Int)) : rd (l ++ m) i = rd l i := by
  unfold rd
  simp only [List.getD_eq_getElem?_getD]
  rw [List.getElem?_append_left (by omega)]
theorem rd_append_right {l m : List Int} {i : Int} (h0 : (l.length : Int) ≤ i) : rd (l ++ m) i = rd m (i - l.length) := by
  unfold rd
  simp only [List.getD_eq_getElem?_getD]
  rw [List.getElem?_append_right (by omega)]
  congr 2
  omega
theorem rd_map {f : Int → Int} {l : List Int} {i : Int} (h0 : 0 ≤ i) (h1 : i < (l.length : Int)) : rd (l.map f) i = f (rd l i) := by
  obtain ⟨n, rfl⟩ := Int.eq_ofNat_of_zero_le h0
  rw [rd_nat _ n (by simpa using h1), rd_nat l n (by omega)]
  simp
theorem rd_cons_zero (x : Int) (l : List Int) : rd (x :: l) 0 = x := rfl
theorem rd_drop {l : List Int} {n : Nat} {i : Int} (h0 : 0 ≤ i) : rd (l.drop n) i = rd l (n + i) := by
  unfold rd
  simp only [List.getD_eq_getElem?_getD, List.getElem?_drop]
  congr 2
  omega
theorem rd_take {l : List Int} {n : Nat} {i : Int} (h0 : 0 ≤ i) (h1 : i < (n : Int)) : rd (l.take n) i = rd l i := by
  unfold rd
  simp only [List.getD_eq_getElem?_getD]
  rw [List.getElem?_take_of_lt (by omega)]
theorem take_snoc (l : List Int) (i : Nat) (h : i < l.length) : l.take (i + 1) = l.take i ++ [rd l (i : Int)] := by
  rw [rd_nat l i h, List.take_succ_eq_append_getElem h]
theorem drop_cons (l : List Int) (i : Nat) (h : i < l.length) : l.drop i = rd l (i : Int) :: l.drop (i + 1) := by
  rw [rd_nat l i h, List.drop_eq_getElem_cons h]

/-! octets -/
def Oct (l : List Int) : Prop := ∀ x ∈ l, 0 ≤ x ∧ x ≤ 255
theorem oct_of_wf {l : List Int} (h : ∀ x ∈ l, (Lit.int .u8 x).wf = true) : Oct l := fun x hx => by
  have := h x hx
  simp only [Lit.wf, Bool.and_eq_true, decide_eq_true_eq] at this
  have e1 : IntKind.u8.min = 0 := rfl
  have e2 : IntKind.u8.max = 255 := rfl
  omega
theorem i64_of_wf {x : Int} (h : (Lit.int .i64 x).wf = true) : -9223372036854775808 ≤ x ∧ x ≤ 9223372036854775807 := by
  simp only [Lit.wf, Bool.and_eq_true, decide_eq_true_eq] at h
  have e1 : IntKind.i64.min = -9223372036854775808 := rfl
  have e2 : IntKind.i64.max = 9223372036854775807 := rfl
  omega
theorem u8_of_wf {x : Int} (h : (Lit.int .u8 x).wf = true) : 0 ≤ x ∧ x ≤ 255 := by
  simp only [Lit.wf, Bool.and_eq_true, decide_eq_true_eq] at h
  have e1 : IntKind.u8.min = 0 := rfl
  have e2 : IntKind.u8.max = 255 := rfl
  omega
theorem Oct.map {l : List Int} {f : Int → Int} (h : ∀ x, 0 ≤ x → x ≤ 255 → 0 ≤ f x ∧ f x ≤ 255) (hl : Oct l) : Oct (l.map f) := fun y hy => by
  obtain ⟨x, hx, rfl⟩ := List.mem_map.1 hy
  exact h x (hl x hx).1 (hl x hx).2
theorem Oct.append {l m : List Int} (h : Oct l) (k : Oct m) : Oct (l ++ m) := fun x hx => by
  rcases List.mem_append.1 hx with hx | hx
  · exact h x hx
  · exact k x hx
theorem Oct.take {l : List Int} (h : Oct l) (n : Nat) : Oct (l.take n) := fun x hx => h x (List.mem_of_mem_take hx)
theorem Oct.drop {l : List Int} (h : Oct l) (n : Nat) : Oct (l.drop n) := fun x hx => h x (List.mem_of_mem_drop hx)
theorem Oct.rd {l : List Int} (h : Oct l) {i : Int} (h0 : 0 ≤ i) (h1 : i < (l.length : Int)) : 0 ≤ rd l i ∧ rd l i ≤ 255 := h _ (rd_mem h0 h1)
theorem u8_back {x : Int} (h : 0 ≤ x ∧ x ≤ 255) : ((UInt8.ofNat x.toNat).toNat : Int) = x := by
  simp only [UInt8.toNat_ofNat']
  omega
theorem bt_str {l : List Int} (h : Oct l) {i : Int} (h0 : 0 ≤ i) (h1 : i < (l.length : Int)) : bt (strOfNums l) i = rd l i := by
  obtain ⟨n, rfl⟩ := Int.eq_ofNat_of_zero_le h0
  have hn : n < l.length := by omega
  have hs : n < (strOfNums l).size := by rw [strOfNums_size]; exact hn
  have hb := h.rd h0 h1
  rw [rd_nat l n hn] at hb ⊢
  unfold bt
  simp only [Int.toNat_natCast, hs, dif_pos]
  have : (strOfNums l)[n] = UInt8.ofNat (l[n]).toNat := by
    show (strOfNums l).data[n] = _
    simp [strOfNums]
  rw [this]
  exact u8_back hb
theorem size_str (l : List Int) : (strOfNums l).size = l.length := strOfNums_size l
theorem str_inj {l m : List Int} (hl : Oct l) (hm : Oct m) (h : strOfNums l = strOfNums m) : l = m := by
  have hlen : l.length = m.length := by rw [← size_str l, ← size_str m, h]
  apply List.ext_getElem hlen
  intro i h1 h2
  have a := bt_str hl (i := (i : Int)) (by omega) (by omega)
  have b := bt_str hm (i := (i : Int)) (by omega) (by omega)
  rw [rd_nat l i h1] at a
  rw [rd_nat m i h2] at b
  rw [← a, ← b, h]
theorem ba_toList (s : ByteArray) : s.toList = s.data.toList := ByteArray.toList_eq s
theorem toList_inj {s t : ByteArray} (h : s.toList = t.toList) : s = t := by
  rw [ba_toList, ba_toList] at h
  cases s; cases t
  simp at h
  exact congrArg _ h
theorem toList_eq_iff {s t : ByteArray} : s.toList = t.toList ↔ s = t := ⟨toList_inj, fun h => by rw [h]⟩
theorem str_append (l m : List Int) : strOfNums l ++ strOfNums m = strOfNums (l ++ m) := by
  apply toList_inj
  rw [ba_toList, ba_toList]
  simp [strOfNums]
theorem bytesOf_str {l : List Int} (h : Oct l) : Go.Proofs.YtooiajkbpkfplaaW.PrintWords.bytesOf (strOfNums l) = l := by
  unfold Go.Proofs.YtooiajkbpkfplaaW.PrintWords.bytesOf
  rw [strOfNums_data, List.map_map]
  conv => rhs; rw [← List.map_id l]
  apply List.map_congr_left
  intro x hx
  exact u8_back (h x hx)
theorem oct_bytesOf (s : ByteArray) : Oct (Go.Proofs.YtooiajkbpkfplaaW.PrintWords.bytesOf s) := fun x hx => by
  unfold Go.Proofs.YtooiajkbpkfplaaW.PrintWords.bytesOf at hx
  obtain ⟨b, _, rfl⟩ := List.mem_map.1 hx
  have := b.toNat_lt
  omega
theorem str_bytesOf (s : ByteArray) : strOfNums (Go.Proofs.YtooiajkbpkfplaaW.PrintWords.bytesOf s) = s := by
  unfold Go.Proofs.YtooiajkbpkfplaaW.PrintWords.bytesOf strOfNums
  cases s with
  | mk a =>
    congr 1
    apply Array.ext'
    simp [Function.comp_def]
theorem extract_str {l : List Int} {a b : Nat} : (strOfNums l).extract a b = strOfNums ((l.take b).drop a) := by
  apply toList_inj
  rw [ba_toList, ba_toList]
  rw [ByteArray.data_extract]
  simp [strOfNums, List.map_drop, List.map_take, List.drop_take]

/-! rounds -/
theorem Ev.pos {α : Type} {c : Prop} [Decidable c] {f g : Nat → Option α} {r : α} (h : c) (k : Ev f r) : Ev (fun n => if c then f n else g n) r := Ev.congr (fun _ => if_pos h) k
theorem Ev.neg {α : Type} {c : Prop} [Decidable c] {f g : Nat → Option α} {r : α} (h : ¬ c) (k : Ev g r) : Ev (fun n => if c then f n else g n) r := Ev.congr (fun _ => if_neg h) k
theorem Ev.bindS {α β : Type} {o : Option α} {f : Nat → α → Option β} {a : α} {r : β} (h : o = some a) (k : Ev (fun n => f n a) r) : Ev (fun n => o.bind (f n)) r := by
  subst h; exact k
theorem Ev.ret {α : Type} {a r : α} (h : a = r) : Ev (fun _ => some a) r := by subst h; exact Ev.now _
theorem Ev.val {α : Type} {o : Option α} {r : α} (h : o = some r) : Ev (fun _ => o) r := ⟨0, fun _ _ => h⟩

/-- 'slices.IndexFunc', as it is printed at a function value: the place of the first element that the predicate takes, or -1. -/
def firstAt (q : Int → Bool) : List Int → Int → Int
  | [], _ => -1
  | x :: l, i => if q x = true then i else firstAt q l (i + 1)
theorem index_loop {p : Int → Option Bool} {q : Int → Bool} {l : Nat → List Int → Int → Int → Option Int}
    (hl : ∀ k x n i, l (k + 1) x n i = if i < n then (if 0 ≤ i then (if i < (x.length : Int) then ((p (rd x i)).bind fun t => (if t = true then (some i) else (l k x n (wrap64 (i + 1))))) else none) else none) else some (-1))
    (x : List Int) (hx : x.length ≤ 9223372036854775806) (hp : ∀ y ∈ x, p y = some (q y)) : ∀ (d i : Nat), x.length - i = d → i ≤ x.length → Ev (fun k => l k x (x.length : Int) (i : Int)) (firstAt q (x.drop i) i) := by
  intro d
  induction d with
  | zero =>
    intro i h1 h2
    have : i = x.length := by omega
    subst this
    refine Ev.step (fun k => hl k _ _ _) (Ev.neg (by omega) ?_)
    simp only [List.drop_length, firstAt]
    exact Ev.now _
  | succ d ih =>
    intro i h1 h2
    have hi : i < x.length := by omega
    refine Ev.step (fun k => hl k _ _ _) (Ev.pos (by omega) (Ev.pos (by omega) (Ev.pos (by omega) (Ev.bindS (hp _ (rd_mem (by omega) (by omega))) ?_))))
    rw [drop_cons x i hi]
    simp only [firstAt]
    by_cases hq : q (rd x i) = true
    · rw [if_pos hq]
      exact Ev.pos hq (Ev.now _)
    · rw [if_neg hq]
      refine Ev.neg hq ?_
      have := ih (i + 1) (by omega) (by omega)
      rw [w64 (by omega) (by omega)]
      exact this
theorem firstAt_any (q : Int → Bool) : ∀ (l : List Int) (i : Int), 0 ≤ i → decide (firstAt q l i ≥ 0) = l.any q
  | [], _, _ => by simp [firstAt]
  | x :: l, i, h => by
    by_cases hq : q x = true
    · simp [firstAt, hq, h]
    · have ih := firstAt_any q l (i + 1) (by omega)
      simp only [Bool.not_eq_true] at hq
      simp [firstAt, hq]
      simpa using ih
/-- 'slices.ContainsFunc' at a function value. -/
theorem contains_ev {p : Int → Option Bool} {q : Int → Bool} {l : Nat → List Int → Int → Int → Option Int}
    (hl : ∀ k x n i, l (k + 1) x n i = if i < n then (if 0 ≤ i then (if i < (x.length : Int) then ((p (rd x i)).bind fun t => (if t = true then (some i) else (l k x n (wrap64 (i + 1))))) else none) else none) else some (-1))
    (x : List Int) (hx : x.length ≤ 9223372036854775806) (hp : ∀ y ∈ x, p y = some (q y)) : Ev (fun k => (l k x (x.length : Int) 0).bind fun t => some (decide (t ≥ 0))) (x.any q) := by
  have h := index_loop hl x hx hp x.length 0 (by omega) (by omega)
  refine Ev.bind h (Ev.ret ?_)
  rw [firstAt_any q _ _ (by simp)]
  simp

end Go.Proofs.Ytooiajkbpkfplaa.K

-- from Ppuny0
/- PunyPlain's part: the document's example of layer 12, scalars. -/
namespace Go.Proofs.Ytooiajkbpkfplaa.K
set_option linter.unusedVariables false
set_option linter.unusedSimpArgs false
open Go.RowKit Go.Proofs.YtooiajkbpkfplaaW.PrintWords Go.Proofs.Ytooiajkbpkfplaa.Q

theorem awake12 : paronymlaw12_awake.f 60 = some true := by decide +kernel
theorem awake12_ev : Ev (fun k => paronymlaw12_awake.f k) true := Ev.of (fun k => paronymlaw12_awake.mono k) awake12
def scalar (c : Int) : Bool := decide (0 ≤ c) && (decide (c ≤ 1114111) && (decide (c < 55296) || decide (c > 57343)))
theorem utf_Scalar_is (c : Int) : utf_Scalar.f c = some (scalar c) := by
  unfold utf_Scalar.f scalar
  by_cases a : c ≥ 0
  · have a' : 0 ≤ c := a
    rw [if_pos a]
    by_cases b : c ≤ 1114111
    · rw [if_pos b]
      by_cases d : c < 55296
      · rw [if_pos d]; simp [a', b, d]
      · rw [if_neg d]; simp [a', b, d]
    · rw [if_neg b]; simp [b]
  · have a' : ¬ 0 ≤ c := a
    rw [if_neg a]; simp [a']
theorem unscalar_is (c : Int) : puny_Encode_1.f c = some (!scalar c) := by unfold puny_Encode_1.f; rw [utf_Scalar_is]; rfl
theorem any_unscalar_ev (l : List Int) (hl : l.length ≤ 1099511627776) : Ev (fun k => slices_ContainsFunc_int_int_at_puny_Encode_1.f k l) (l.any fun c => !scalar c) := by
  unfold slices_ContainsFunc_int_int_at_puny_Encode_1.f slices_IndexFunc_int_int_at_puny_Encode_1.f
  exact contains_ev (p := puny_Encode_1.f) (q := fun c => !scalar c) (fun k x n i => rfl) l (by omega) (fun y _ => unscalar_is y)

end Go.Proofs.Ytooiajkbpkfplaa.K

-- from PurePunyPlain
/- PunyPlain: an ASCII text's form is it and a hyphen, or nothing of none. For every input. -/
namespace Go.Proofs.Ytooiajkbpkfplaa.Pure
set_option linter.unusedVariables false
set_option linter.unusedSimpArgs false
open Go.RowKit Go.Proofs.Ytooiajkbpkfplaa.Q Go.Proofs.YtooiajkbpkfplaaW.PrintWords Go.Proofs.YtooiajkbpkfplaaW.PrintLast Go.Proofs.Ytooiajkbpkfplaa.K

def Asc (l : List Int) : Prop := ∀ x ∈ l, 0 ≤ x ∧ x ≤ 127
theorem encode_ascii (s : List Int) (h : Asc s) (hl : s.length ≤ 1000) : Ev (fun k => puny_Encode.f k s) (if s.length = 0 then [] else s ++ [45], 0) := by
  have hs : (s.any fun c => !scalar c) = false := by
    rw [List.any_eq_false]
    intro x hx
    have := h x hx
    have h1 : (0 : Int) ≤ x := this.1
    have h2 : x ≤ 1114111 := by omega
    have h3 : x < 55296 := by omega
    simp [scalar, h1, h2, h3]
  have key : ∀ (d i : Nat), s.length - i = d → i ≤ s.length → Ev (fun k => puny_Encode.l0 k s (s.take i) s (s.length : Int) i) (if s.length = 0 then [] else s ++ [45], 0) := by
    intro d
    induction d with
    | zero =>
      intro i h1 h2
      have : i = s.length := by omega
      subst this
      refine Ev.step (fun k => rfl) (Ev.neg (by omega) ?_)
      rw [List.take_length]
      by_cases z : s.length = 0
      · rw [if_pos z]
        exact Ev.neg (by omega) (Ev.step (fun k => rfl) (Ev.step (fun k => rfl) (Ev.neg (by omega) (Ev.ret (by rw [List.eq_nil_of_length_eq_zero z])))))
      · rw [if_neg z]
        exact Ev.pos (by omega) (Ev.pos (by omega) (Ev.step (fun k => rfl) (Ev.step (fun k => rfl) (Ev.neg (by omega) (Ev.now _)))))
    | succ d ih =>
      intro i h1 h2
      have hi : i < s.length := by omega
      have hb := h _ (rd_mem (l := s) (i := (i : Int)) (by omega) (by omega))
      refine Ev.step (fun k => rfl) (Ev.pos (by omega) (Ev.pos (by omega) (Ev.pos (by omega) (Ev.pos (by omega) (Ev.pos (by simp; omega) ?_)))))
      have e : rd s (i : Int) % 256 = rd s i := by omega
      rw [e, ← take_snoc s i hi, w64 (by omega) (by omega)]
      exact ih (i + 1) (by omega) (by omega)
  unfold puny_Encode.f
  refine Ev.bind (any_unscalar_ev s (by omega)) ?_
  rw [hs]
  refine Ev.neg (by decide) (Ev.neg (by omega) ?_)
  have := key s.length 0 (by omega) (by omega)
  simpa using this

theorem PunyPlain : paronymlaw12_PunyPlain.Pure := by
  intro b _ hb hbw
  have ho := oct_of_wf hbw
  apply Ev.rounds
  have asc : Asc (b.map (fun x => x % 128)) := by
    intro y hy
    obtain ⟨x, _, rfl⟩ := List.mem_map.1 hy
    omega
  unfold paronymlaw12_PunyPlain.f
  refine Ev.bind awake12_ev (Ev.pos rfl ?_)
  by_cases c : (b.length : Int) > 300
  · simp only [c, decide_true]
    exact Ev.step (fun k => rfl) (Ev.bind awake12_ev (Ev.now _))
  · simp only [c, decide_false]
    refine Ev.step (fun k => rfl) ?_
    have key : ∀ (d i : Nat), b.length - i = d → i ≤ b.length → Ev (fun k => paronymlaw12_PunyPlain.l0 k b ((b.take i).map fun x => x % 128) i) true := by
      intro d
      induction d with
      | zero =>
        intro i h1 h2
        have : i = b.length := by omega
        subst this
        rw [List.take_length]
        have hlen : (b.map fun x => x % 128).length = b.length := List.length_map _
        refine Ev.step (fun k => rfl) (Ev.neg (by omega) (Ev.bind (encode_ascii _ asc (by omega)) (Ev.pos rfl ?_)))
        rw [hlen]
        generalize (b.map fun x => x % 128) = s at asc hlen
        by_cases z : b.length = 0
        · have e : ((b.length : Int) == 0) = true := by simp [z]
          rw [if_pos z]
          exact Ev.step (fun k => rfl) (Ev.pos e (Ev.pos rfl (Ev.ret rfl)))
        · have e : ¬ ((b.length : Int) == 0) = true := by rw [beq_iff_eq]; omega
          rw [if_neg z]
          have e2 : wrap64 ((s.length : Int) + 1) = (s.length : Int) + 1 := w64 (by omega) (by omega)
          refine Ev.step (fun k => rfl) (Ev.neg e (Ev.pos (by rw [e2]; simp) ?_))
          have loop : ∀ (d i : Nat), s.length - i = d → i ≤ s.length → Ev (fun k => paronymlaw12_PunyPlain.l1 k s (s ++ [45]) i) true := by
            intro d
            induction d with
            | zero =>
              intro i h1 h2
              have : i = s.length := by omega
              subst this
              refine Ev.step (fun k => rfl) (Ev.neg (by omega) (Ev.pos (by omega) (Ev.pos (by simp; omega) (Ev.ret ?_))))
              rw [rd_append_right (by omega)]
              simp [rd]
            | succ d ih =>
              intro i h1 h2
              have hb := asc _ (rd_mem (l := s) (i := (i : Int)) (by omega) (by omega))
              refine Ev.step (fun k => rfl) (Ev.pos (by omega) (Ev.pos (by omega) (Ev.pos (by simp; omega) (Ev.pos ?_ ?_))))
              · rw [rd_append_left (by omega) (by omega), w64 (by omega) (by omega)]
              · rw [w64 (by omega) (by omega)]
                exact ih (i + 1) (by omega) (by omega)
          exact loop s.length 0 (by omega) (by omega)
      | succ d ih =>
        intro i h1 h2
        have hi : i < b.length := by omega
        have hb := ho _ (rd_mem (l := b) (i := (i : Int)) (by omega) (by omega))
        refine Ev.step (fun k => rfl) (Ev.pos (by omega) (Ev.pos (by omega) (Ev.pos (by simp; omega) ?_)))
        have e : Int.tmod (wrap64 (rd b (i : Int))) 128 = rd b i % 128 := by
          rw [w64 (by omega) (by omega)]
          exact Int.tmod_eq_emod_of_nonneg hb.1
        have := ih (i + 1) (by omega) (by omega)
        rw [take_snoc b i hi, List.map_append] at this
        rw [e, w64 (by omega) (by omega)]
        exact this
    have := key b.length 0 (by omega) (by omega)
    rw [List.take_zero] at this
    exact this

end Go.Proofs.Ytooiajkbpkfplaa.Pure

-- from LawPunyPlain
-- Made by hp.py, a program of this session, with the kit's printer. Not trusted: Lean checks it.
namespace Go.Proofs.Ytooiajkbpkfplaa.punyPlain
open Go.ChangeShapes Go.WideShapes Go.ChangeAt Go.RowKit
open Go.ChangeMaps (open_string shut_string)
set_option linter.unusedVariables false
theorem own : ownKnob Try.prog.godebug = none := by kernel_rfl
theorem laidOut : laidOutB Try.prog = true := by kernel_rfl
def IsRow (k : IntKind) (w : World) (a : Option Addr) (len cap : Nat) (zs : List Int) : Prop :=
  (a = none ∧ len = 0 ∧ cap = 0 ∧ zs = []) ∨
  ∃ x, a = some x ∧ len ≤ cap ∧ cap ≤ maxLen ∧ zs.length = cap ∧ (∀ i, i < zs.length → w.cell? (x.add i) = some (.int k (zs.getD i 0))) ∧ ∀ n ∈ zs, (Lit.int k n).wf = true
set_option maxRecDepth 100000 in
theorem lifted (os : Os) (started : os.Started) (H : Type) (enc : TypeId × Value → H) :
    ReturnsInHanded {} Try.checked os 6 .any (Rows.punyPlainSpec.pre6 enc Try.prog Try.f6 Rows.punyPlainRow.domain false) (Rows.punyPlainSpec.post enc Try.prog Try.f6 false true false false) := by
  refine returnsInHanded_of_change_sized (C := Try.checked) own started (by kernel_rfl) Try.func6
    (ChangeSpec.witness6 (enc := enc) (C := Try.checked) false ⟨#[], #[.slice none 0 0], []⟩ 8 (by kernel_rfl) (by kernel_rfl) (by kernel_rfl) (by kernel_rfl)) ?_
  intro W base args ds gs before hval0 hW hcnd hsz0 _
  have hsz : (DataW.weightsEach Try.prog (Try.f6.params.toList ++ Rows.punyPlainSpec.plain.varTypes Try.prog) (ds ++ gs)).all (· ≤ reachBytes) = true := hsz0
  have hval : ∀ (j : Nat) t v, Try.f6.params[j]? = some t → args[j]? = some v → Value.okWide Try.prog W .any base t v := hval0
  have hW' := hW
  obtain ⟨p, q, hA0, hV, rfl, hfz, hnd⟩ := hW
  have hA : DataW.TrodAll enc Try.prog W 0 (fun _ => true) true Try.f6.params.toList args.toList ds p := hA0
  rw [Try.params6] at hA hval hsz
  obtain ⟨v0, vs0, d0, ds0, p0, q0, hargs, rfl, rfl, h0, r0⟩ := trodAll_cons hA
  obtain ⟨rfl, rfl, rfl⟩ := trodAll_nil r0
  obtain rfl : args = #[v0] := by cases args; simp_all
  obtain ⟨rfl, rfl⟩ := trodVars_none hV
  obtain ⟨a0, len0, cap0, rfl⟩ := okWide_slice Try.underlying22 (hval 0 22 v0 rfl rfl)
  have k0 := h0
  have lt0 : ∀ x ∈ p0, x.block < W.heap.size := by obtain ⟨m, hm⟩ := k0; exact DataW.trod_lt m _ _ _ hm
  obtain ⟨z0, w0⟩ : ∃ zs, IsRow .u8 W a0 len0 cap0 zs := by
    obtain ⟨fuel, hf⟩ := h0
    rcases open_ints Try.underlying22 Try.underlying5 (by kernel_rfl) hf with ⟨hcs, _⟩ | ⟨x, l, c, zs, hcs, _, hl, hm, hz, _, hcell, hwz⟩
    · simp [Value.cells] at hcs
      obtain ⟨rfl, rfl, rfl⟩ := hcs
      exact ⟨[], .inl ⟨rfl, rfl, rfl, rfl⟩⟩
    · simp [Value.cells] at hcs
      obtain ⟨rfl, rfl, rfl⟩ := hcs
      exact ⟨zs, .inr ⟨_, rfl, hl, hm, by simpa using hz, hcell, hwz⟩⟩
  have y0 : len0 * 1 ≤ 140737488351232 := Go.Proofs.YtooiajkbpkfplaaW.PrintWords.sized_ints hsz (j := 0) (t := 22) rfl rfl Try.underlying22 Try.underlying5 (by kernel_rfl) (by kernel_rfl) h0
  clear hA0 hval0 hsz0 hsz
  refine (Q.paronymlaw12_PunyPlain.walk Pure.PunyPlain a0 len0 cap0 z0 W w0 y0).mono fun e W' ⟨he, bel⟩ => ?_
  subst he
  exact ⟨_, rfl, _, _, _, [], _, [], hW', trodAll_mk1 (shut_bool Try.underlying4 _), (trodAll_cons_mk (Below.trod laidOut (by kernel_rfl) (of_decide_eq_true (by kernel_rfl)) k0 bel lt0) trodAll_mk0), rfl, bel.frame _, fun h => by cases h⟩
theorem over : Rows.punyPlainRow.holds Try.pinned (OpenSpec.ofChange Rows.punyPlainSpec) :=
  OpenClaim.holds_of_wide 6 Try.f6 rfl rfl rfl rfl rfl rfl rfl ⟨rfl, rfl, rfl, rfl, rfl⟩ rfl rfl rfl rfl rfl (by kernel_rfl) Try.func6 (by kernel_rfl)
    (of_decide_eq_true (by kernel_rfl)) (by unfold Func.isWrapper; first | (rw [if_pos (by decide +kernel)]; kernel_rfl) | (rw [if_neg (by decide +kernel)]; exact ⟨rfl, rfl⟩))
    (fun os started H enc _ => lifted os started H enc)
theorem proved : Rows.PunyPlainSaid := over
#print axioms proved
end Go.Proofs.Ytooiajkbpkfplaa.punyPlain
namespace Go.Proofs.Ytooiajkbpkfplaa
/-- The row, under a short name, for the claim. -/
theorem punyPlain_holds : Rows.PunyPlainSaid := punyPlain.proved
end Go.Proofs.Ytooiajkbpkfplaa
