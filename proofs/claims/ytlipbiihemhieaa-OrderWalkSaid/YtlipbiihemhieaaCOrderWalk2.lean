/- Part 2 of 2 of the proof of OrderWalk: OrderWalk: step by step For every input; no condition. -/
import Derived.Test.YtlipbiihemhieaaCOrderWalk1
import Derived.Lib.Bytes
import Derived.Test.YtlipbiihemhieaaRows
import Derived.WalkKit
import Derived.ProofKit
import Derived.OpenShut
import Derived.ShutString
import Derived.ChangeOld
import Derived.Below
import Derived.SizedLaws
import Derived.Test.YtlipbiihemhieaaWSized

-- from Qf6
-- Made by hp.py, a program of this session, with the kit's printer. Not trusted: Lean checks it.
namespace Go.Proofs.Ytlipbiihemhieaa.Q
open Go.RowKit Go.Proofs.YtlipbiihemhieaaW.PrintWords Go.Proofs.YtlipbiihemhieaaW.PrintLast Go.Proofs.YtlipbiihemhieaaW.PrintMore
attribute [local go_sem] max2_int min2_int max_two min_two max_three min_three max_four min_four   -- for this text's walks alone
set_option linter.unusedVariables false
set_option linter.unusedSimpArgs false

/-! ### paronymlaw19_OrderWalk: function 6 -/
mutual
def paronymlaw19_OrderWalk.j0 : Nat → List Int → Int → Bool → Option (Bool)
  | 0, _, _, _ => none
  | k + 1, x0, x1, x20 => if x20 = true then ((paronymlaw19_awake.f k).bind fun t102 => (some t102)) else ((order_First.f k x0 (wrap64 (Int.tmod x1 5))).bind fun bt103 => (paronymlaw19_OrderWalk.l0 k x0 (wrap64 (Int.tmod x1 5)) bt103.1 bt103.2 0 0))
def paronymlaw19_OrderWalk.l0 : Nat → List Int → Int → List Int → Bool → Int → Int → Option (Bool)
  | 0, _, _, _, _, _, _ => none
  | k + 1, x0, x5, x6, x7, x8, x9 => if x9 < 400 then (paronymlaw19_OrderWalk.j2 k x0 x5 x6 x7 x8 x9 x7) else (paronymlaw19_OrderWalk.j2 k x0 x5 x6 x7 x8 x9 false)
def paronymlaw19_OrderWalk.j2 : Nat → List Int → Int → List Int → Bool → Int → Int → Bool → Option (Bool)
  | 0, _, _, _, _, _, _, _ => none
  | k + 1, x0, x5, x6, x7, x8, x9, x35 => if x35 = true then ((order_Next.f k x0 x6 x5).bind fun bt107 => (if bt107.2 = true then ((paronymref01_Compare.f k x6 bt107.1).bind fun t111 => (if t111 ≥ 0 then (some false) else (paronymlaw19_OrderWalk.l0 k x0 x5 bt107.1 bt107.2 (wrap64 (x8 + 1)) (wrap64 (x9 + 1))))) else (paronymlaw19_OrderWalk.l0 k x0 x5 bt107.1 bt107.2 (wrap64 (x8 + 1)) (wrap64 (x9 + 1))))) else (if x7 = true then (paronymlaw19_OrderWalk.j3 k x0 x5 x8 true) else ((order_Count.f k x0 x5 1000).bind fun t112 => (paronymlaw19_OrderWalk.j3 k x0 x5 x8 (x8 != t112))))
def paronymlaw19_OrderWalk.j3 : Nat → List Int → Int → Int → Bool → Option (Bool)
  | 0, _, _, _, _ => none
  | k + 1, x0, x5, x8, x63 => if x63 = true then (some false) else ((order_First.f k x0 x5).bind fun bt113 => (paronymlaw19_OrderWalk.l1 k x0 x5 bt113.1 bt113.2 x8 0 0))
def paronymlaw19_OrderWalk.l1 : Nat → List Int → Int → List Int → Bool → Int → Int → Int → Option (Bool)
  | 0, _, _, _, _, _, _, _ => none
  | k + 1, x0, x5, x6, x7, x8, x12, x13 => if x13 < 9 then (paronymlaw19_OrderWalk.j5 k x0 x5 x6 x8 x12 x13 x7) else (paronymlaw19_OrderWalk.j5 k x0 x5 x6 x8 x12 x13 false)
def paronymlaw19_OrderWalk.j5 : Nat → List Int → Int → List Int → Int → Int → Int → Bool → Option (Bool)
  | 0, _, _, _, _, _, _, _ => none
  | k + 1, x0, x5, x6, x8, x12, x13, x74 => if x74 = true then (if x13 ≥ (x0.length : Int) then (some false) else (if (x6.length : Int) = 1 then (if 0 < (x6.length : Int) then (if 0 ≤ x13 then (if x13 < (x0.length : Int) then (if (rd x6 0) = (rd x0 x13) then ((order_Skip.f k x0 x6 x5).bind fun bt119 => (paronymlaw19_OrderWalk.l1 k x0 x5 bt119.1 bt119.2 x8 (wrap64 (x12 + 1)) (wrap64 (x13 + 1)))) else (some false)) else (none)) else (none)) else (none)) else (some false))) else (if x8 = 0 then (if x12 = 0 then (some true) else (some (x12 == (x0.length : Int)))) else (some (x12 == (x0.length : Int))))
end
def paronymlaw19_OrderWalk.f (k : Nat) (l0 : List Int) (a1 : Int) : Option (Bool) := (paronymlaw19_awake.f k).bind fun t101 => (if t101 = true then (paronymlaw19_OrderWalk.j0 k l0 a1 (decide ((l0.length : Int) > 4))) else (paronymlaw19_OrderWalk.j0 k l0 a1 true))
theorem paronymlaw19_OrderWalk.mono_l : ∀ k, (∀ y0 y1 y2, LeO (paronymlaw19_OrderWalk.j0 k y0 y1 y2) (paronymlaw19_OrderWalk.j0 (k + 1) y0 y1 y2)) ∧ (∀ y0 y1 y2 y3 y4 y5, LeO (paronymlaw19_OrderWalk.l0 k y0 y1 y2 y3 y4 y5) (paronymlaw19_OrderWalk.l0 (k + 1) y0 y1 y2 y3 y4 y5)) ∧ (∀ y0 y1 y2 y3 y4 y5 y6, LeO (paronymlaw19_OrderWalk.j2 k y0 y1 y2 y3 y4 y5 y6) (paronymlaw19_OrderWalk.j2 (k + 1) y0 y1 y2 y3 y4 y5 y6)) ∧ (∀ y0 y1 y2 y3, LeO (paronymlaw19_OrderWalk.j3 k y0 y1 y2 y3) (paronymlaw19_OrderWalk.j3 (k + 1) y0 y1 y2 y3)) ∧ (∀ y0 y1 y2 y3 y4 y5 y6, LeO (paronymlaw19_OrderWalk.l1 k y0 y1 y2 y3 y4 y5 y6) (paronymlaw19_OrderWalk.l1 (k + 1) y0 y1 y2 y3 y4 y5 y6)) ∧ (∀ y0 y1 y2 y3 y4 y5 y6, LeO (paronymlaw19_OrderWalk.j5 k y0 y1 y2 y3 y4 y5 y6) (paronymlaw19_OrderWalk.j5 (k + 1) y0 y1 y2 y3 y4 y5 y6))
  | 0 => ⟨fun _ _ _ r h => by simp [paronymlaw19_OrderWalk.j0] at h, fun _ _ _ _ _ _ r h => by simp [paronymlaw19_OrderWalk.l0] at h, fun _ _ _ _ _ _ _ r h => by simp [paronymlaw19_OrderWalk.j2] at h, fun _ _ _ _ r h => by simp [paronymlaw19_OrderWalk.j3] at h, fun _ _ _ _ _ _ _ r h => by simp [paronymlaw19_OrderWalk.l1] at h, fun _ _ _ _ _ _ _ r h => by simp [paronymlaw19_OrderWalk.j5] at h⟩
  | k + 1 => by
    obtain ⟨ih0, ih1, ih2, ih3, ih4, ih5⟩ := paronymlaw19_OrderWalk.mono_l k
    refine ⟨?_, ?_, ?_, ?_, ?_, ?_⟩
    · intro y0 y1 y2
      unfold paronymlaw19_OrderWalk.j0
      repeat' first
      | (with_reducible exact ih0 _ _ _)
      | (with_reducible exact ih1 _ _ _ _ _ _)
      | (with_reducible exact ih2 _ _ _ _ _ _ _)
      | (with_reducible exact ih3 _ _ _ _)
      | (with_reducible exact ih4 _ _ _ _ _ _ _)
      | (with_reducible exact ih5 _ _ _ _ _ _ _)
      | (with_reducible exact order_Count.mono _ _ _ _)
      | (with_reducible exact order_First.mono _ _ _)
      | (with_reducible exact order_Next.mono _ _ _ _)
      | (with_reducible exact order_Skip.mono _ _ _ _)
      | (with_reducible exact paronymlaw19_awake.mono _)
      | (with_reducible exact paronymref01_Compare.mono _ _ _)
      | (with_reducible exact LeO.refl _)
      | (with_reducible exact LeO.none _)
      | (with_reducible refine LeO.ite ?_ ?_)
      | (with_reducible refine LeO.bind ?_ (fun _ => ?_))
      | exact ih0 _ _ _
      | exact ih1 _ _ _ _ _ _
      | exact ih2 _ _ _ _ _ _ _
      | exact ih3 _ _ _ _
      | exact ih4 _ _ _ _ _ _ _
      | exact ih5 _ _ _ _ _ _ _
      | exact order_Count.mono _ _ _ _
      | exact order_First.mono _ _ _
      | exact order_Next.mono _ _ _ _
      | exact order_Skip.mono _ _ _ _
      | exact paronymlaw19_awake.mono _
      | exact paronymref01_Compare.mono _ _ _
      | exact LeO.none _
      | refine LeO.ite ?_ ?_
      | refine LeO.bind ?_ (fun _ => ?_)
    · intro y0 y1 y2 y3 y4 y5
      unfold paronymlaw19_OrderWalk.l0
      repeat' first
      | (with_reducible exact ih0 _ _ _)
      | (with_reducible exact ih1 _ _ _ _ _ _)
      | (with_reducible exact ih2 _ _ _ _ _ _ _)
      | (with_reducible exact ih3 _ _ _ _)
      | (with_reducible exact ih4 _ _ _ _ _ _ _)
      | (with_reducible exact ih5 _ _ _ _ _ _ _)
      | (with_reducible exact order_Count.mono _ _ _ _)
      | (with_reducible exact order_First.mono _ _ _)
      | (with_reducible exact order_Next.mono _ _ _ _)
      | (with_reducible exact order_Skip.mono _ _ _ _)
      | (with_reducible exact paronymlaw19_awake.mono _)
      | (with_reducible exact paronymref01_Compare.mono _ _ _)
      | (with_reducible exact LeO.refl _)
      | (with_reducible exact LeO.none _)
      | (with_reducible refine LeO.ite ?_ ?_)
      | (with_reducible refine LeO.bind ?_ (fun _ => ?_))
      | exact ih0 _ _ _
      | exact ih1 _ _ _ _ _ _
      | exact ih2 _ _ _ _ _ _ _
      | exact ih3 _ _ _ _
      | exact ih4 _ _ _ _ _ _ _
      | exact ih5 _ _ _ _ _ _ _
      | exact order_Count.mono _ _ _ _
      | exact order_First.mono _ _ _
      | exact order_Next.mono _ _ _ _
      | exact order_Skip.mono _ _ _ _
      | exact paronymlaw19_awake.mono _
      | exact paronymref01_Compare.mono _ _ _
      | exact LeO.none _
      | refine LeO.ite ?_ ?_
      | refine LeO.bind ?_ (fun _ => ?_)
    · intro y0 y1 y2 y3 y4 y5 y6
      unfold paronymlaw19_OrderWalk.j2
      repeat' first
      | (with_reducible exact ih0 _ _ _)
      | (with_reducible exact ih1 _ _ _ _ _ _)
      | (with_reducible exact ih2 _ _ _ _ _ _ _)
      | (with_reducible exact ih3 _ _ _ _)
      | (with_reducible exact ih4 _ _ _ _ _ _ _)
      | (with_reducible exact ih5 _ _ _ _ _ _ _)
      | (with_reducible exact order_Count.mono _ _ _ _)
      | (with_reducible exact order_First.mono _ _ _)
      | (with_reducible exact order_Next.mono _ _ _ _)
      | (with_reducible exact order_Skip.mono _ _ _ _)
      | (with_reducible exact paronymlaw19_awake.mono _)
      | (with_reducible exact paronymref01_Compare.mono _ _ _)
      | (with_reducible exact LeO.refl _)
      | (with_reducible exact LeO.none _)
      | (with_reducible refine LeO.ite ?_ ?_)
      | (with_reducible refine LeO.bind ?_ (fun _ => ?_))
      | exact ih0 _ _ _
      | exact ih1 _ _ _ _ _ _
      | exact ih2 _ _ _ _ _ _ _
      | exact ih3 _ _ _ _
      | exact ih4 _ _ _ _ _ _ _
      | exact ih5 _ _ _ _ _ _ _
      | exact order_Count.mono _ _ _ _
      | exact order_First.mono _ _ _
      | exact order_Next.mono _ _ _ _
      | exact order_Skip.mono _ _ _ _
      | exact paronymlaw19_awake.mono _
      | exact paronymref01_Compare.mono _ _ _
      | exact LeO.none _
      | refine LeO.ite ?_ ?_
      | refine LeO.bind ?_ (fun _ => ?_)
    · intro y0 y1 y2 y3
      unfold paronymlaw19_OrderWalk.j3
      repeat' first
      | (with_reducible exact ih0 _ _ _)
      | (with_reducible exact ih1 _ _ _ _ _ _)
      | (with_reducible exact ih2 _ _ _ _ _ _ _)
      | (with_reducible exact ih3 _ _ _ _)
      | (with_reducible exact ih4 _ _ _ _ _ _ _)
      | (with_reducible exact ih5 _ _ _ _ _ _ _)
      | (with_reducible exact order_Count.mono _ _ _ _)
      | (with_reducible exact order_First.mono _ _ _)
      | (with_reducible exact order_Next.mono _ _ _ _)
      | (with_reducible exact order_Skip.mono _ _ _ _)
      | (with_reducible exact paronymlaw19_awake.mono _)
      | (with_reducible exact paronymref01_Compare.mono _ _ _)
      | (with_reducible exact LeO.refl _)
      | (with_reducible exact LeO.none _)
      | (with_reducible refine LeO.ite ?_ ?_)
      | (with_reducible refine LeO.bind ?_ (fun _ => ?_))
      | exact ih0 _ _ _
      | exact ih1 _ _ _ _ _ _
      | exact ih2 _ _ _ _ _ _ _
      | exact ih3 _ _ _ _
      | exact ih4 _ _ _ _ _ _ _
      | exact ih5 _ _ _ _ _ _ _
      | exact order_Count.mono _ _ _ _
      | exact order_First.mono _ _ _
      | exact order_Next.mono _ _ _ _
      | exact order_Skip.mono _ _ _ _
      | exact paronymlaw19_awake.mono _
      | exact paronymref01_Compare.mono _ _ _
      | exact LeO.none _
      | refine LeO.ite ?_ ?_
      | refine LeO.bind ?_ (fun _ => ?_)
    · intro y0 y1 y2 y3 y4 y5 y6
      unfold paronymlaw19_OrderWalk.l1
      repeat' first
      | (with_reducible exact ih0 _ _ _)
      | (with_reducible exact ih1 _ _ _ _ _ _)
      | (with_reducible exact ih2 _ _ _ _ _ _ _)
      | (with_reducible exact ih3 _ _ _ _)
      | (with_reducible exact ih4 _ _ _ _ _ _ _)
      | (with_reducible exact ih5 _ _ _ _ _ _ _)
      | (with_reducible exact order_Count.mono _ _ _ _)
      | (with_reducible exact order_First.mono _ _ _)
      | (with_reducible exact order_Next.mono _ _ _ _)
      | (with_reducible exact order_Skip.mono _ _ _ _)
      | (with_reducible exact paronymlaw19_awake.mono _)
      | (with_reducible exact paronymref01_Compare.mono _ _ _)
      | (with_reducible exact LeO.refl _)
      | (with_reducible exact LeO.none _)
      | (with_reducible refine LeO.ite ?_ ?_)
      | (with_reducible refine LeO.bind ?_ (fun _ => ?_))
      | exact ih0 _ _ _
      | exact ih1 _ _ _ _ _ _
      | exact ih2 _ _ _ _ _ _ _
      | exact ih3 _ _ _ _
      | exact ih4 _ _ _ _ _ _ _
      | exact ih5 _ _ _ _ _ _ _
      | exact order_Count.mono _ _ _ _
      | exact order_First.mono _ _ _
      | exact order_Next.mono _ _ _ _
      | exact order_Skip.mono _ _ _ _
      | exact paronymlaw19_awake.mono _
      | exact paronymref01_Compare.mono _ _ _
      | exact LeO.none _
      | refine LeO.ite ?_ ?_
      | refine LeO.bind ?_ (fun _ => ?_)
    · intro y0 y1 y2 y3 y4 y5 y6
      unfold paronymlaw19_OrderWalk.j5
      repeat' first
      | (with_reducible exact ih0 _ _ _)
      | (with_reducible exact ih1 _ _ _ _ _ _)
      | (with_reducible exact ih2 _ _ _ _ _ _ _)
      | (with_reducible exact ih3 _ _ _ _)
      | (with_reducible exact ih4 _ _ _ _ _ _ _)
      | (with_reducible exact ih5 _ _ _ _ _ _ _)
      | (with_reducible exact order_Count.mono _ _ _ _)
      | (with_reducible exact order_First.mono _ _ _)
      | (with_reducible exact order_Next.mono _ _ _ _)
      | (with_reducible exact order_Skip.mono _ _ _ _)
      | (with_reducible exact paronymlaw19_awake.mono _)
      | (with_reducible exact paronymref01_Compare.mono _ _ _)
      | (with_reducible exact LeO.refl _)
      | (with_reducible exact LeO.none _)
      | (with_reducible refine LeO.ite ?_ ?_)
      | (with_reducible refine LeO.bind ?_ (fun _ => ?_))
      | exact ih0 _ _ _
      | exact ih1 _ _ _ _ _ _
      | exact ih2 _ _ _ _ _ _ _
      | exact ih3 _ _ _ _
      | exact ih4 _ _ _ _ _ _ _
      | exact ih5 _ _ _ _ _ _ _
      | exact order_Count.mono _ _ _ _
      | exact order_First.mono _ _ _
      | exact order_Next.mono _ _ _ _
      | exact order_Skip.mono _ _ _ _
      | exact paronymlaw19_awake.mono _
      | exact paronymref01_Compare.mono _ _ _
      | exact LeO.none _
      | refine LeO.ite ?_ ?_
      | refine LeO.bind ?_ (fun _ => ?_)
theorem paronymlaw19_OrderWalk.mono : ∀ a0 a1 k, LeO (paronymlaw19_OrderWalk.f k a0 a1) (paronymlaw19_OrderWalk.f (k + 1) a0 a1) := by
  intro a0 a1 k
  obtain ⟨ih0, ih1, ih2, ih3, ih4, ih5⟩ := paronymlaw19_OrderWalk.mono_l k
  unfold paronymlaw19_OrderWalk.f
  repeat' first
      | (with_reducible exact ih0 _ _ _)
      | (with_reducible exact ih1 _ _ _ _ _ _)
      | (with_reducible exact ih2 _ _ _ _ _ _ _)
      | (with_reducible exact ih3 _ _ _ _)
      | (with_reducible exact ih4 _ _ _ _ _ _ _)
      | (with_reducible exact ih5 _ _ _ _ _ _ _)
      | (with_reducible exact order_Count.mono _ _ _ _)
      | (with_reducible exact order_First.mono _ _ _)
      | (with_reducible exact order_Next.mono _ _ _ _)
      | (with_reducible exact order_Skip.mono _ _ _ _)
      | (with_reducible exact paronymlaw19_awake.mono _)
      | (with_reducible exact paronymref01_Compare.mono _ _ _)
      | (with_reducible exact LeO.refl _)
      | (with_reducible exact LeO.none _)
      | (with_reducible refine LeO.ite ?_ ?_)
      | (with_reducible refine LeO.bind ?_ (fun _ => ?_))
      | exact ih0 _ _ _
      | exact ih1 _ _ _ _ _ _
      | exact ih2 _ _ _ _ _ _ _
      | exact ih3 _ _ _ _
      | exact ih4 _ _ _ _ _ _ _
      | exact ih5 _ _ _ _ _ _ _
      | exact order_Count.mono _ _ _ _
      | exact order_First.mono _ _ _
      | exact order_Next.mono _ _ _ _
      | exact order_Skip.mono _ _ _ _
      | exact paronymlaw19_awake.mono _
      | exact paronymref01_Compare.mono _ _ _
      | exact LeO.none _
      | refine LeO.ite ?_ ?_
      | refine LeO.bind ?_ (fun _ => ?_)
set_option maxHeartbeats 8000000 in
set_option maxRecDepth 100000 in
theorem paronymlaw19_OrderWalk.calls (k : Nat) (A0 : Option Addr) (c0 : Nat) (l0 : List Int) (a1 : Int) (r : Bool) (w : World) (hr0 : Kd.C (Kd.int .i64) w A0 l0.length l0) (hc0 : l0.length ≤ c0) (h : paronymlaw19_OrderWalk.f k l0 a1 = some r) :
    Calls Try.prog 6 #[.slice A0 l0.length c0, .int .u8 a1] w fun e w' => e = .returned (.bool r) ∧ Below w.heap.size w w' := by
  have HR0 := Aside0.mk hr0
  have HC0 := Aside0.mk hc0
  clear hr0 hc0
  have HB := Aside0.mk (Below.refl w.heap.size w)
  have H : ((paronymlaw19_awake.f k).bind fun t101 => (if t101 = true then (paronymlaw19_OrderWalk.j0 k l0 a1 (decide ((l0.length : Int) > 4))) else (paronymlaw19_OrderWalk.j0 k l0 a1 true))) = some r := h
  clear h
  have HC3 := Aside0.mk H
  clear H
  go_enter Try.func6, Try.ntmps6
  go_upto_region 1 with (fail)
  repeat (go_quiet (fail); go_upto_region 1 with (fail))
  go_cut [20] (fun v20 wc => ∃ (kq : Nat) (x20_2 : Bool), v20 = .bool x20_2 ∧ Aside0 (paronymlaw19_OrderWalk.j0 kq l0 a1 x20_2 = some r) ∧ Aside0 (kq ≤ k) ∧ Aside0 (Below w.heap.size w wc))
  case first =>
    have H := HC3.out
    clear HC3
    replace H := Option.bind_eq_some_iff.mp H
    obtain ⟨t101, A40, H⟩ := H
    replace H : (if t101 = true then (paronymlaw19_OrderWalk.j0 k l0 a1 (decide ((l0.length : Int) > 4))) else (paronymlaw19_OrderWalk.j0 k l0 a1 true)) = some r := H
    have A4 := Aside0.mk A40
    clear A40
    by_cases c5 : t101 = true
    · subst c5
      have H1 : (paronymlaw19_OrderWalk.j0 k l0 a1 (decide ((l0.length : Int) > 4))) = some r := by rw [if_pos rfl] at H; exact H
      clear H
      have H := H1
      clear H1
      have H' := Aside0.mk H
      clear H
      go_wp2_with (first | (go_at_call 14; (with_reducible refine (paronymlaw19_awake.calls k  true _ A4.out).mono ?_); rintro e w6 ⟨rfl, hb⟩; have n0_ := Aside0.mk (below_step (by repeat (first | (with_reducible first | exact HB.out | apply below_alloc | apply pw_below_drewN | apply below_drew1) | exact HB.out)) hb); clear HB; have HB := n0_; clear n0_; (try clear hb); (try clear hb2); (try clear hk); (try clear hi)))
      repeat (go_quiet (first | (go_at_call 14; (with_reducible refine (paronymlaw19_awake.calls k  true _ A4.out).mono ?_); rintro e w6 ⟨rfl, hb⟩; have n0_ := Aside0.mk (below_step (by repeat (first | (with_reducible first | exact HB.out | apply below_alloc | apply pw_below_drewN | apply below_drew1) | exact HB.out)) hb); clear HB; have HB := n0_; clear n0_; (try clear hb); (try clear hb2); (try clear hk); (try clear hi))); try go_wp2_with (first | (go_at_call 14; (with_reducible refine (paronymlaw19_awake.calls k  true _ A4.out).mono ?_); rintro e w6 ⟨rfl, hb⟩; have n0_ := Aside0.mk (below_step (by repeat (first | (with_reducible first | exact HB.out | apply below_alloc | apply pw_below_drewN | apply below_drew1) | exact HB.out)) hb); clear HB; have HB := n0_; clear n0_; (try clear hb); (try clear hb2); (try clear hk); (try clear hi))))
      go_meet
      case rel => exact ⟨_, (decide ((l0.length : Int) > 4)), (by first | rfl | (simp; done) | (simp [*]; done)), H', ⟨by first | omega | exact Nat.le_refl _⟩, ⟨by repeat (first | (with_reducible first | exact HB.out | apply below_alloc | apply pw_below_drewN | apply below_drew1) | exact HB.out)⟩⟩
    · replace c5 := Bool.eq_false_iff.mpr c5
      subst c5
      have H1 : (paronymlaw19_OrderWalk.j0 k l0 a1 true) = some r := by rw [if_neg (show ¬ (false = true) by decide)] at H; exact H
      clear H
      have H := H1
      clear H1
      have H' := Aside0.mk H
      clear H
      go_wp2_with (first | (go_at_call 14; (with_reducible refine (paronymlaw19_awake.calls k  false _ A4.out).mono ?_); rintro e w7 ⟨rfl, hb⟩; have n0_ := Aside0.mk (below_step (by repeat (first | (with_reducible first | exact HB.out | apply below_alloc | apply pw_below_drewN | apply below_drew1) | exact HB.out)) hb); clear HB; have HB := n0_; clear n0_; (try clear hb); (try clear hb2); (try clear hk); (try clear hi)))
      repeat (go_quiet (first | (go_at_call 14; (with_reducible refine (paronymlaw19_awake.calls k  false _ A4.out).mono ?_); rintro e w7 ⟨rfl, hb⟩; have n0_ := Aside0.mk (below_step (by repeat (first | (with_reducible first | exact HB.out | apply below_alloc | apply pw_below_drewN | apply below_drew1) | exact HB.out)) hb); clear HB; have HB := n0_; clear n0_; (try clear hb); (try clear hb2); (try clear hk); (try clear hi))); try go_wp2_with (first | (go_at_call 14; (with_reducible refine (paronymlaw19_awake.calls k  false _ A4.out).mono ?_); rintro e w7 ⟨rfl, hb⟩; have n0_ := Aside0.mk (below_step (by repeat (first | (with_reducible first | exact HB.out | apply below_alloc | apply pw_below_drewN | apply below_drew1) | exact HB.out)) hb); clear HB; have HB := n0_; clear n0_; (try clear hb); (try clear hb2); (try clear hk); (try clear hi))))
      go_meet
      case rel => exact ⟨_, (true), (by first | rfl | (simp; done) | (simp [*]; done)), H', ⟨by first | omega | exact Nat.le_refl _⟩, ⟨by repeat (first | (with_reducible first | exact HB.out | apply below_alloc | apply pw_below_drewN | apply below_drew1) | exact HB.out)⟩⟩
  case rest =>
    clear HC3
    try clear p2
    try clear c5
    try clear c6
    obtain ⟨kq, x20_2, rfl, HA, HJ2, HB⟩ := hcut
    cases kq with
    | zero => exact absurd HA.out (by simp [paronymlaw19_OrderWalk.j0])
    | succ kj2 =>
      have H := HA.out
      clear HA
      simp only [paronymlaw19_OrderWalk.j0] at H
      by_cases c8 : x20_2 = true
      · subst c8
        have H1 : ((paronymlaw19_awake.f kj2).bind fun t102 => (some t102)) = some r := by rw [if_pos rfl] at H; exact H
        clear H
        have H := H1
        clear H1
        replace H := Option.bind_eq_some_iff.mp H
        obtain ⟨t102, A90, H⟩ := H
        replace H : (some t102) = some r := H
        have A9 := Aside0.mk A90
        clear A90
        obtain rfl := Option.some.inj H
        go_wp2_with (first | (go_at_call 14; (with_reducible refine (paronymlaw19_awake.calls kj2  t102 _ A9.out).mono ?_); rintro e w10 ⟨rfl, hb⟩; have n0_ := Aside0.mk (below_step (by repeat (first | (with_reducible first | exact HB.out | apply below_alloc | apply pw_below_drewN | apply below_drew1) | exact HB.out)) hb); clear HB; have HB := n0_; clear n0_; (try clear hb); (try clear hb2); (try clear hk); (try clear hi)))
        repeat (go_quiet (first | (go_at_call 14; (with_reducible refine (paronymlaw19_awake.calls kj2  t102 _ A9.out).mono ?_); rintro e w10 ⟨rfl, hb⟩; have n0_ := Aside0.mk (below_step (by repeat (first | (with_reducible first | exact HB.out | apply below_alloc | apply pw_below_drewN | apply below_drew1) | exact HB.out)) hb); clear HB; have HB := n0_; clear n0_; (try clear hb); (try clear hb2); (try clear hk); (try clear hi))); try go_wp2_with (first | (go_at_call 14; (with_reducible refine (paronymlaw19_awake.calls kj2  t102 _ A9.out).mono ?_); rintro e w10 ⟨rfl, hb⟩; have n0_ := Aside0.mk (below_step (by repeat (first | (with_reducible first | exact HB.out | apply below_alloc | apply pw_below_drewN | apply below_drew1) | exact HB.out)) hb); clear HB; have HB := n0_; clear n0_; (try clear hb); (try clear hb2); (try clear hk); (try clear hi))))
        go_ret
        exact ⟨by first | rfl | (simp [errW_none, errW_some] <;> rfl) | (simp [*, errW_none, errW_some] <;> rfl), by repeat (first | (with_reducible first | exact HB.out | apply below_alloc | apply pw_below_drewN | apply below_drew1) | exact HB.out)⟩
      · replace c8 := Bool.eq_false_iff.mpr c8
        subst c8
        have H1 : ((order_First.f kj2 l0 (wrap64 (Int.tmod a1 5))).bind fun bt103 => (paronymlaw19_OrderWalk.l0 kj2 l0 (wrap64 (Int.tmod a1 5)) bt103.1 bt103.2 0 0)) = some r := by rw [if_neg (show ¬ (false = true) by decide)] at H; exact H
        clear H
        have H := H1
        clear H1
        replace H := Option.bind_eq_some_iff.mp H
        obtain ⟨⟨t103, t104⟩, A110, H⟩ := H
        replace H : (paronymlaw19_OrderWalk.l0 kj2 l0 (wrap64 (Int.tmod a1 5)) t103 t104 0 0) = some r := H
        have A11 := Aside0.mk A110
        clear A110
        have H' := Aside0.mk H
        clear H
        go_wp2_with (first | (go_at_call 23; (with_reducible refine (order_First.calls kj2 _ _ l0 (wrap64 (Int.tmod a1 5)) t103 t104 _ ?side1 ?side2 A11.out).mono ?_); (case side1 => repeat (first | exact (Kd.C_below HR0.out HB.out) | (with_reducible refine Kd.C_alloc ?_ _) | (with_reducible refine Kd.C_drewN ?_ _) | (with_reducible refine Kd.C_drew ?_))); (case side2 => exact HC0.out); rintro e w12 ⟨v105, rfl, ho0, hb⟩; have n0_ := Aside0.mk (Kd.R_lower ho0 (below_size (by repeat (first | (with_reducible first | exact HB.out | apply below_alloc | apply pw_below_drewN | apply below_drew1) | exact HB.out)))); have n1_ := Aside0.mk (below_step (by repeat (first | (with_reducible first | exact HB.out | apply below_alloc | apply pw_below_drewN | apply below_drew1) | exact HB.out)) hb); clear HB; have HO106 := n0_; have HB := n1_; clear n0_ n1_; (try clear hb); (try clear hb2); (try clear hk); (try clear hi); (try clear ho0)))
        repeat (go_quiet (first | (go_at_call 23; (with_reducible refine (order_First.calls kj2 _ _ l0 (wrap64 (Int.tmod a1 5)) t103 t104 _ ?side1 ?side2 A11.out).mono ?_); (case side1 => repeat (first | exact (Kd.C_below HR0.out HB.out) | (with_reducible refine Kd.C_alloc ?_ _) | (with_reducible refine Kd.C_drewN ?_ _) | (with_reducible refine Kd.C_drew ?_))); (case side2 => exact HC0.out); rintro e w12 ⟨v105, rfl, ho0, hb⟩; have n0_ := Aside0.mk (Kd.R_lower ho0 (below_size (by repeat (first | (with_reducible first | exact HB.out | apply below_alloc | apply pw_below_drewN | apply below_drew1) | exact HB.out)))); have n1_ := Aside0.mk (below_step (by repeat (first | (with_reducible first | exact HB.out | apply below_alloc | apply pw_below_drewN | apply below_drew1) | exact HB.out)) hb); clear HB; have HO106 := n0_; have HB := n1_; clear n0_ n1_; (try clear hb); (try clear hb2); (try clear hk); (try clear hi); (try clear ho0))); try go_wp2_with (first | (go_at_call 23; (with_reducible refine (order_First.calls kj2 _ _ l0 (wrap64 (Int.tmod a1 5)) t103 t104 _ ?side1 ?side2 A11.out).mono ?_); (case side1 => repeat (first | exact (Kd.C_below HR0.out HB.out) | (with_reducible refine Kd.C_alloc ?_ _) | (with_reducible refine Kd.C_drewN ?_ _) | (with_reducible refine Kd.C_drew ?_))); (case side2 => exact HC0.out); rintro e w12 ⟨v105, rfl, ho0, hb⟩; have n0_ := Aside0.mk (Kd.R_lower ho0 (below_size (by repeat (first | (with_reducible first | exact HB.out | apply below_alloc | apply pw_below_drewN | apply below_drew1) | exact HB.out)))); have n1_ := Aside0.mk (below_step (by repeat (first | (with_reducible first | exact HB.out | apply below_alloc | apply pw_below_drewN | apply below_drew1) | exact HB.out)) hb); clear HB; have HO106 := n0_; have HB := n1_; clear n0_ n1_; (try clear hb); (try clear hb2); (try clear hk); (try clear hi); (try clear ho0))))
        go_loopg [6, 7, 8, 9] kj2 (fun kq v6 v7 v8 v9 w' => ∃ (x6_2 : List Int) (x7_2 : Bool) (x8_2 : Int) (x9_2 : Int), v7 = .bool x7_2 ∧ v8 = .int .i64 x8_2 ∧ v9 = .int .i64 x9_2 ∧ Aside0 (paronymlaw19_OrderWalk.l0 kq l0 (wrap64 (Int.tmod a1 5)) x6_2 x7_2 x8_2 x9_2 = some r) ∧ Aside0 (kq ≤ kj2) ∧ Aside0 (Kd.R (Kd.int .i64) 3 w' w.heap.size (fun _ => True) v6 x6_2) ∧ Aside0 (Below w.heap.size w w'))
        case atStart => exact ⟨(t103), (t104), (0), (0), (by first | rfl | (simp; done) | (simp [*]; done)), (by first | rfl | (simp; done) | (simp [*]; done)), (by first | rfl | (simp; done) | (simp [*]; done)), H', ⟨Nat.le_refl _⟩, ⟨by (with_reducible repeat (first | apply Kd.R_alloc | apply Kd.R_drewN | apply Kd.R_drew)); exact HO106.out⟩, ⟨by repeat (first | (with_reducible first | exact HB.out | apply below_alloc | apply pw_below_drewN | apply below_drew1) | exact HB.out)⟩⟩
        case round =>
          clear H'
          try clear p2
          try clear c5
          try clear c6
          try clear p6
          try clear c8
          try clear p2
          obtain ⟨x6_2, x7_2, x8_2, x9_2, rfl, rfl, rfl, HA, HK2, HO_6, HB⟩ := hrel
          cases gk with
          | zero => exact absurd HA.out (by simp [paronymlaw19_OrderWalk.l0])
          | succ k2 =>
            have H := HA.out
            clear HA
            simp only [paronymlaw19_OrderWalk.l0] at H
            have HC13 := Aside0.mk H
            clear H
            go_upto_region 7 with (fail)
            repeat (go_quiet (fail); go_upto_region 7 with (fail))
            go_cut [35] (fun v35 wc => ∃ (kq : Nat) (x35_12 : Bool), v35 = .bool x35_12 ∧ Aside0 (paronymlaw19_OrderWalk.j2 kq l0 (wrap64 (Int.tmod a1 5)) x6_2 x7_2 x8_2 x9_2 x35_12 = some r) ∧ Aside0 (kq ≤ k2) ∧ Aside0 (Kd.R (Kd.int .i64) 3 wc w.heap.size (fun _ => True) u6 x6_2) ∧ Aside0 (Below w.heap.size w wc))
            case first =>
              have H := HC13.out
              clear HC13
              by_cases c14 : x9_2 < 400
              · rw [if_pos c14] at H
                have c14b0 : decide (x9_2 < 400) = true := decide_eq_true c14
                clear c14
                (first | rw [c14b0] | (simp only [i64_w, i32_w]; rw [c14b0]) | rw [c14b1] | (simp only [i64_w, i32_w]; rw [c14b1]) | skip)
                have H' := Aside0.mk H
                clear H
                go_wp2
                repeat (go_quiet (fail); try go_wp2)
                go_meet
                case rel => exact ⟨_, (x7_2), (by first | rfl | (simp; done) | (simp [*]; done)), H', ⟨by have := HJ2.out; have := HK2.out; first | omega | exact Nat.le_refl _⟩, ⟨by (with_reducible repeat (first | apply Kd.R_alloc | apply Kd.R_drewN | apply Kd.R_drew)); exact HO_6.out⟩, ⟨by repeat (first | (with_reducible first | exact HB.out | apply below_alloc | apply pw_below_drewN | apply below_drew1) | exact HB.out)⟩⟩
              · rw [if_neg c14] at H
                have c14b0 : decide (x9_2 < 400) = false := decide_eq_false c14
                clear c14
                (first | rw [c14b0] | (simp only [i64_w, i32_w]; rw [c14b0]) | rw [c14b1] | (simp only [i64_w, i32_w]; rw [c14b1]) | skip)
                have H' := Aside0.mk H
                clear H
                go_wp2
                repeat (go_quiet (fail); try go_wp2)
                go_meet
                case rel => exact ⟨_, (false), (by first | rfl | (simp; done) | (simp [*]; done)), H', ⟨by have := HJ2.out; have := HK2.out; first | omega | exact Nat.le_refl _⟩, ⟨by (with_reducible repeat (first | apply Kd.R_alloc | apply Kd.R_drewN | apply Kd.R_drew)); exact HO_6.out⟩, ⟨by repeat (first | (with_reducible first | exact HB.out | apply below_alloc | apply pw_below_drewN | apply below_drew1) | exact HB.out)⟩⟩
            case rest =>
              clear HC13
              try clear c1
              try clear p2
              try clear c5
              try clear c6
              try clear p6
              try clear c8
              try clear c14
              try clear c14b0
              try clear c14b1
              try clear p2
              try clear p6
              obtain ⟨kq, x35_12, rfl, HA, HJ12, HO_6, HB⟩ := hcut
              cases kq with
              | zero => exact absurd HA.out (by simp [paronymlaw19_OrderWalk.j2])
              | succ kj12 =>
                have H := HA.out
                clear HA
                simp only [paronymlaw19_OrderWalk.j2] at H
                by_cases c15 : x35_12 = true
                · subst c15
                  have H1 : ((order_Next.f kj12 l0 x6_2 (wrap64 (Int.tmod a1 5))).bind fun bt107 => (if bt107.2 = true then ((paronymref01_Compare.f kj12 x6_2 bt107.1).bind fun t111 => (if t111 ≥ 0 then (some false) else (paronymlaw19_OrderWalk.l0 kj12 l0 (wrap64 (Int.tmod a1 5)) bt107.1 bt107.2 (wrap64 (x8_2 + 1)) (wrap64 (x9_2 + 1))))) else (paronymlaw19_OrderWalk.l0 kj12 l0 (wrap64 (Int.tmod a1 5)) bt107.1 bt107.2 (wrap64 (x8_2 + 1)) (wrap64 (x9_2 + 1))))) = some r := by rw [if_pos rfl] at H; exact H
                  clear H
                  have H := H1
                  clear H1
                  replace H := Option.bind_eq_some_iff.mp H
                  obtain ⟨⟨t107, t108⟩, A160, H⟩ := H
                  replace H : (if t108 = true then ((paronymref01_Compare.f kj12 x6_2 t107).bind fun t111 => (if t111 ≥ 0 then (some false) else (paronymlaw19_OrderWalk.l0 kj12 l0 (wrap64 (Int.tmod a1 5)) t107 t108 (wrap64 (x8_2 + 1)) (wrap64 (x9_2 + 1))))) else (paronymlaw19_OrderWalk.l0 kj12 l0 (wrap64 (Int.tmod a1 5)) t107 t108 (wrap64 (x8_2 + 1)) (wrap64 (x9_2 + 1)))) = some r := H
                  have A16 := Aside0.mk A160
                  clear A160
                  by_cases c17 : t108 = true
                  · subst c17
                    have H1 : ((paronymref01_Compare.f kj12 x6_2 t107).bind fun t111 => (if t111 ≥ 0 then (some false) else (paronymlaw19_OrderWalk.l0 kj12 l0 (wrap64 (Int.tmod a1 5)) t107 true (wrap64 (x8_2 + 1)) (wrap64 (x9_2 + 1))))) = some r := by rw [if_pos rfl] at H; exact H
                    clear H
                    have H := H1
                    clear H1
                    replace H := Option.bind_eq_some_iff.mp H
                    obtain ⟨t111, A180, H⟩ := H
                    replace H : (if t111 ≥ 0 then (some false) else (paronymlaw19_OrderWalk.l0 kj12 l0 (wrap64 (Int.tmod a1 5)) t107 true (wrap64 (x8_2 + 1)) (wrap64 (x9_2 + 1)))) = some r := H
                    have A18 := Aside0.mk A180
                    clear A180
                    by_cases c19 : t111 ≥ 0
                    · rw [if_pos c19] at H
                      have c19b0 : decide (0 ≤ t111) = true := decide_eq_true c19
                      clear c19
                      obtain rfl := Option.some.inj H
                      obtain ⟨Ao20, co20, eo20⟩ := Kd.R_slice HO_6.out
                      subst eo20
                      go_wp2_with (first | (go_at_call 17; (with_reducible refine (order_Next.calls kj12 _ _ l0 _ _ x6_2 (wrap64 (Int.tmod a1 5)) t107 true _ ?side1 ?side2 ?side3 ?side4 A16.out).mono ?_); (case side1 => repeat (first | exact (Kd.C_below HR0.out HB.out) | (with_reducible refine Kd.C_alloc ?_ _) | (with_reducible refine Kd.C_drewN ?_ _) | (with_reducible refine Kd.C_drew ?_))); (case side2 => exact HC0.out); (case side3 => repeat (first | exact (Kd.R_reads' HO_6.out).2.2 | (with_reducible refine Kd.C_alloc ?_ _) | (with_reducible refine Kd.C_drewN ?_ _) | (with_reducible refine Kd.C_drew ?_))); (case side4 => exact (Kd.R_reads' HO_6.out).2.1); rintro e w21 ⟨v109, rfl, ho0, hb⟩; have n0_ := Aside0.mk (Kd.R_elder' (by (with_reducible repeat (first | apply Kd.R_alloc | apply Kd.R_drewN | apply Kd.R_drew)); exact HO_6.out) (Kd.R_base ho0) hb); have n1_ := Aside0.mk (Kd.R_lower (Kd.R_new' ho0 (Kd.R_lt (by (with_reducible repeat (first | apply Kd.R_alloc | apply Kd.R_drewN | apply Kd.R_drew)); exact HO_6.out))) (below_size (by repeat (first | (with_reducible first | exact HB.out | apply below_alloc | apply pw_below_drewN | apply below_drew1) | exact HB.out)))); have n2_ := Aside0.mk (below_step (by repeat (first | (with_reducible first | exact HB.out | apply below_alloc | apply pw_below_drewN | apply below_drew1) | exact HB.out)) hb); clear HO_6; clear HB; have HO_6 := n0_; have HO110 := n1_; have HB := n2_; clear n0_ n1_ n2_; (try clear hb); (try clear hb2); (try clear hk); (try clear hi); (try clear ho0); obtain ⟨Ao22, co22, eo22⟩ := Kd.R_slice HO110.out; subst eo22) | (go_at_call 22; (with_reducible refine (paronymref01_Compare.calls kj12 _ _ x6_2 _ _ t107 t111 _ ?side1 ?side2 ?side3 ?side4 A18.out).mono ?_); (case side1 => repeat (first | exact (Kd.R_reads' HO_6.out).2.2 | (with_reducible refine Kd.C_alloc ?_ _) | (with_reducible refine Kd.C_drewN ?_ _) | (with_reducible refine Kd.C_drew ?_))); (case side2 => exact (Kd.R_reads' HO_6.out).2.1); (case side3 => repeat (first | exact (Kd.R_reads' HO110.out).2.2 | (with_reducible refine Kd.C_alloc ?_ _) | (with_reducible refine Kd.C_drewN ?_ _) | (with_reducible refine Kd.C_drew ?_))); (case side4 => exact (Kd.R_reads' HO110.out).2.1); rintro e w' ⟨rfl, ⟨nd, rfl⟩⟩; (try first | exact ⟨rfl, _, World.drewN_drewN _ _ _⟩ | exact ⟨rfl, _, Eq.trans (World.drewN_drewN _ _ _) (congrArg (World.drewN _) (Nat.add_assoc _ _ _))⟩)))
                      repeat (go_quiet (first | (go_at_call 17; (with_reducible refine (order_Next.calls kj12 _ _ l0 _ _ x6_2 (wrap64 (Int.tmod a1 5)) t107 true _ ?side1 ?side2 ?side3 ?side4 A16.out).mono ?_); (case side1 => repeat (first | exact (Kd.C_below HR0.out HB.out) | (with_reducible refine Kd.C_alloc ?_ _) | (with_reducible refine Kd.C_drewN ?_ _) | (with_reducible refine Kd.C_drew ?_))); (case side2 => exact HC0.out); (case side3 => repeat (first | exact (Kd.R_reads' HO_6.out).2.2 | (with_reducible refine Kd.C_alloc ?_ _) | (with_reducible refine Kd.C_drewN ?_ _) | (with_reducible refine Kd.C_drew ?_))); (case side4 => exact (Kd.R_reads' HO_6.out).2.1); rintro e w21 ⟨v109, rfl, ho0, hb⟩; have n0_ := Aside0.mk (Kd.R_elder' (by (with_reducible repeat (first | apply Kd.R_alloc | apply Kd.R_drewN | apply Kd.R_drew)); exact HO_6.out) (Kd.R_base ho0) hb); have n1_ := Aside0.mk (Kd.R_lower (Kd.R_new' ho0 (Kd.R_lt (by (with_reducible repeat (first | apply Kd.R_alloc | apply Kd.R_drewN | apply Kd.R_drew)); exact HO_6.out))) (below_size (by repeat (first | (with_reducible first | exact HB.out | apply below_alloc | apply pw_below_drewN | apply below_drew1) | exact HB.out)))); have n2_ := Aside0.mk (below_step (by repeat (first | (with_reducible first | exact HB.out | apply below_alloc | apply pw_below_drewN | apply below_drew1) | exact HB.out)) hb); clear HO_6; clear HB; have HO_6 := n0_; have HO110 := n1_; have HB := n2_; clear n0_ n1_ n2_; (try clear hb); (try clear hb2); (try clear hk); (try clear hi); (try clear ho0); obtain ⟨Ao22, co22, eo22⟩ := Kd.R_slice HO110.out; subst eo22) | (go_at_call 22; (with_reducible refine (paronymref01_Compare.calls kj12 _ _ x6_2 _ _ t107 t111 _ ?side1 ?side2 ?side3 ?side4 A18.out).mono ?_); (case side1 => repeat (first | exact (Kd.R_reads' HO_6.out).2.2 | (with_reducible refine Kd.C_alloc ?_ _) | (with_reducible refine Kd.C_drewN ?_ _) | (with_reducible refine Kd.C_drew ?_))); (case side2 => exact (Kd.R_reads' HO_6.out).2.1); (case side3 => repeat (first | exact (Kd.R_reads' HO110.out).2.2 | (with_reducible refine Kd.C_alloc ?_ _) | (with_reducible refine Kd.C_drewN ?_ _) | (with_reducible refine Kd.C_drew ?_))); (case side4 => exact (Kd.R_reads' HO110.out).2.1); rintro e w' ⟨rfl, ⟨nd, rfl⟩⟩; (try first | exact ⟨rfl, _, World.drewN_drewN _ _ _⟩ | exact ⟨rfl, _, Eq.trans (World.drewN_drewN _ _ _) (congrArg (World.drewN _) (Nat.add_assoc _ _ _))⟩))); try go_wp2_with (first | (go_at_call 17; (with_reducible refine (order_Next.calls kj12 _ _ l0 _ _ x6_2 (wrap64 (Int.tmod a1 5)) t107 true _ ?side1 ?side2 ?side3 ?side4 A16.out).mono ?_); (case side1 => repeat (first | exact (Kd.C_below HR0.out HB.out) | (with_reducible refine Kd.C_alloc ?_ _) | (with_reducible refine Kd.C_drewN ?_ _) | (with_reducible refine Kd.C_drew ?_))); (case side2 => exact HC0.out); (case side3 => repeat (first | exact (Kd.R_reads' HO_6.out).2.2 | (with_reducible refine Kd.C_alloc ?_ _) | (with_reducible refine Kd.C_drewN ?_ _) | (with_reducible refine Kd.C_drew ?_))); (case side4 => exact (Kd.R_reads' HO_6.out).2.1); rintro e w21 ⟨v109, rfl, ho0, hb⟩; have n0_ := Aside0.mk (Kd.R_elder' (by (with_reducible repeat (first | apply Kd.R_alloc | apply Kd.R_drewN | apply Kd.R_drew)); exact HO_6.out) (Kd.R_base ho0) hb); have n1_ := Aside0.mk (Kd.R_lower (Kd.R_new' ho0 (Kd.R_lt (by (with_reducible repeat (first | apply Kd.R_alloc | apply Kd.R_drewN | apply Kd.R_drew)); exact HO_6.out))) (below_size (by repeat (first | (with_reducible first | exact HB.out | apply below_alloc | apply pw_below_drewN | apply below_drew1) | exact HB.out)))); have n2_ := Aside0.mk (below_step (by repeat (first | (with_reducible first | exact HB.out | apply below_alloc | apply pw_below_drewN | apply below_drew1) | exact HB.out)) hb); clear HO_6; clear HB; have HO_6 := n0_; have HO110 := n1_; have HB := n2_; clear n0_ n1_ n2_; (try clear hb); (try clear hb2); (try clear hk); (try clear hi); (try clear ho0); obtain ⟨Ao22, co22, eo22⟩ := Kd.R_slice HO110.out; subst eo22) | (go_at_call 22; (with_reducible refine (paronymref01_Compare.calls kj12 _ _ x6_2 _ _ t107 t111 _ ?side1 ?side2 ?side3 ?side4 A18.out).mono ?_); (case side1 => repeat (first | exact (Kd.R_reads' HO_6.out).2.2 | (with_reducible refine Kd.C_alloc ?_ _) | (with_reducible refine Kd.C_drewN ?_ _) | (with_reducible refine Kd.C_drew ?_))); (case side2 => exact (Kd.R_reads' HO_6.out).2.1); (case side3 => repeat (first | exact (Kd.R_reads' HO110.out).2.2 | (with_reducible refine Kd.C_alloc ?_ _) | (with_reducible refine Kd.C_drewN ?_ _) | (with_reducible refine Kd.C_drew ?_))); (case side4 => exact (Kd.R_reads' HO110.out).2.1); rintro e w' ⟨rfl, ⟨nd, rfl⟩⟩; (try first | exact ⟨rfl, _, World.drewN_drewN _ _ _⟩ | exact ⟨rfl, _, Eq.trans (World.drewN_drewN _ _ _) (congrArg (World.drewN _) (Nat.add_assoc _ _ _))⟩))))
                      go_ret
                      exact ⟨by first | rfl | (simp [errW_none, errW_some] <;> rfl) | (simp [*, errW_none, errW_some] <;> rfl), by repeat (first | (with_reducible first | exact HB.out | apply below_alloc | apply pw_below_drewN | apply below_drew1) | exact HB.out)⟩
                    · rw [if_neg c19] at H
                      have c19b0 : decide (0 ≤ t111) = false := decide_eq_false c19
                      clear c19
                      have H' := Aside0.mk H
                      clear H
                      obtain ⟨Ao23, co23, eo23⟩ := Kd.R_slice HO_6.out
                      subst eo23
                      go_wp2_with (first | (go_at_call 17; (with_reducible refine (order_Next.calls kj12 _ _ l0 _ _ x6_2 (wrap64 (Int.tmod a1 5)) t107 true _ ?side1 ?side2 ?side3 ?side4 A16.out).mono ?_); (case side1 => repeat (first | exact (Kd.C_below HR0.out HB.out) | (with_reducible refine Kd.C_alloc ?_ _) | (with_reducible refine Kd.C_drewN ?_ _) | (with_reducible refine Kd.C_drew ?_))); (case side2 => exact HC0.out); (case side3 => repeat (first | exact (Kd.R_reads' HO_6.out).2.2 | (with_reducible refine Kd.C_alloc ?_ _) | (with_reducible refine Kd.C_drewN ?_ _) | (with_reducible refine Kd.C_drew ?_))); (case side4 => exact (Kd.R_reads' HO_6.out).2.1); rintro e w24 ⟨v109, rfl, ho0, hb⟩; have n0_ := Aside0.mk (Kd.R_elder' (by (with_reducible repeat (first | apply Kd.R_alloc | apply Kd.R_drewN | apply Kd.R_drew)); exact HO_6.out) (Kd.R_base ho0) hb); have n1_ := Aside0.mk (Kd.R_lower (Kd.R_new' ho0 (Kd.R_lt (by (with_reducible repeat (first | apply Kd.R_alloc | apply Kd.R_drewN | apply Kd.R_drew)); exact HO_6.out))) (below_size (by repeat (first | (with_reducible first | exact HB.out | apply below_alloc | apply pw_below_drewN | apply below_drew1) | exact HB.out)))); have n2_ := Aside0.mk (below_step (by repeat (first | (with_reducible first | exact HB.out | apply below_alloc | apply pw_below_drewN | apply below_drew1) | exact HB.out)) hb); clear HO_6; clear HB; have HO_6 := n0_; have HO110 := n1_; have HB := n2_; clear n0_ n1_ n2_; (try clear hb); (try clear hb2); (try clear hk); (try clear hi); (try clear ho0); obtain ⟨Ao25, co25, eo25⟩ := Kd.R_slice HO110.out; subst eo25) | (go_at_call 22; (with_reducible refine (paronymref01_Compare.calls kj12 _ _ x6_2 _ _ t107 t111 _ ?side1 ?side2 ?side3 ?side4 A18.out).mono ?_); (case side1 => repeat (first | exact (Kd.R_reads' HO_6.out).2.2 | (with_reducible refine Kd.C_alloc ?_ _) | (with_reducible refine Kd.C_drewN ?_ _) | (with_reducible refine Kd.C_drew ?_))); (case side2 => exact (Kd.R_reads' HO_6.out).2.1); (case side3 => repeat (first | exact (Kd.R_reads' HO110.out).2.2 | (with_reducible refine Kd.C_alloc ?_ _) | (with_reducible refine Kd.C_drewN ?_ _) | (with_reducible refine Kd.C_drew ?_))); (case side4 => exact (Kd.R_reads' HO110.out).2.1); rintro e w' ⟨rfl, ⟨nd, rfl⟩⟩; (try first | exact ⟨rfl, _, World.drewN_drewN _ _ _⟩ | exact ⟨rfl, _, Eq.trans (World.drewN_drewN _ _ _) (congrArg (World.drewN _) (Nat.add_assoc _ _ _))⟩)))
                      repeat (go_quiet (first | (go_at_call 17; (with_reducible refine (order_Next.calls kj12 _ _ l0 _ _ x6_2 (wrap64 (Int.tmod a1 5)) t107 true _ ?side1 ?side2 ?side3 ?side4 A16.out).mono ?_); (case side1 => repeat (first | exact (Kd.C_below HR0.out HB.out) | (with_reducible refine Kd.C_alloc ?_ _) | (with_reducible refine Kd.C_drewN ?_ _) | (with_reducible refine Kd.C_drew ?_))); (case side2 => exact HC0.out); (case side3 => repeat (first | exact (Kd.R_reads' HO_6.out).2.2 | (with_reducible refine Kd.C_alloc ?_ _) | (with_reducible refine Kd.C_drewN ?_ _) | (with_reducible refine Kd.C_drew ?_))); (case side4 => exact (Kd.R_reads' HO_6.out).2.1); rintro e w24 ⟨v109, rfl, ho0, hb⟩; have n0_ := Aside0.mk (Kd.R_elder' (by (with_reducible repeat (first | apply Kd.R_alloc | apply Kd.R_drewN | apply Kd.R_drew)); exact HO_6.out) (Kd.R_base ho0) hb); have n1_ := Aside0.mk (Kd.R_lower (Kd.R_new' ho0 (Kd.R_lt (by (with_reducible repeat (first | apply Kd.R_alloc | apply Kd.R_drewN | apply Kd.R_drew)); exact HO_6.out))) (below_size (by repeat (first | (with_reducible first | exact HB.out | apply below_alloc | apply pw_below_drewN | apply below_drew1) | exact HB.out)))); have n2_ := Aside0.mk (below_step (by repeat (first | (with_reducible first | exact HB.out | apply below_alloc | apply pw_below_drewN | apply below_drew1) | exact HB.out)) hb); clear HO_6; clear HB; have HO_6 := n0_; have HO110 := n1_; have HB := n2_; clear n0_ n1_ n2_; (try clear hb); (try clear hb2); (try clear hk); (try clear hi); (try clear ho0); obtain ⟨Ao25, co25, eo25⟩ := Kd.R_slice HO110.out; subst eo25) | (go_at_call 22; (with_reducible refine (paronymref01_Compare.calls kj12 _ _ x6_2 _ _ t107 t111 _ ?side1 ?side2 ?side3 ?side4 A18.out).mono ?_); (case side1 => repeat (first | exact (Kd.R_reads' HO_6.out).2.2 | (with_reducible refine Kd.C_alloc ?_ _) | (with_reducible refine Kd.C_drewN ?_ _) | (with_reducible refine Kd.C_drew ?_))); (case side2 => exact (Kd.R_reads' HO_6.out).2.1); (case side3 => repeat (first | exact (Kd.R_reads' HO110.out).2.2 | (with_reducible refine Kd.C_alloc ?_ _) | (with_reducible refine Kd.C_drewN ?_ _) | (with_reducible refine Kd.C_drew ?_))); (case side4 => exact (Kd.R_reads' HO110.out).2.1); rintro e w' ⟨rfl, ⟨nd, rfl⟩⟩; (try first | exact ⟨rfl, _, World.drewN_drewN _ _ _⟩ | exact ⟨rfl, _, Eq.trans (World.drewN_drewN _ _ _) (congrArg (World.drewN _) (Nat.add_assoc _ _ _))⟩))); try go_wp2_with (first | (go_at_call 17; (with_reducible refine (order_Next.calls kj12 _ _ l0 _ _ x6_2 (wrap64 (Int.tmod a1 5)) t107 true _ ?side1 ?side2 ?side3 ?side4 A16.out).mono ?_); (case side1 => repeat (first | exact (Kd.C_below HR0.out HB.out) | (with_reducible refine Kd.C_alloc ?_ _) | (with_reducible refine Kd.C_drewN ?_ _) | (with_reducible refine Kd.C_drew ?_))); (case side2 => exact HC0.out); (case side3 => repeat (first | exact (Kd.R_reads' HO_6.out).2.2 | (with_reducible refine Kd.C_alloc ?_ _) | (with_reducible refine Kd.C_drewN ?_ _) | (with_reducible refine Kd.C_drew ?_))); (case side4 => exact (Kd.R_reads' HO_6.out).2.1); rintro e w24 ⟨v109, rfl, ho0, hb⟩; have n0_ := Aside0.mk (Kd.R_elder' (by (with_reducible repeat (first | apply Kd.R_alloc | apply Kd.R_drewN | apply Kd.R_drew)); exact HO_6.out) (Kd.R_base ho0) hb); have n1_ := Aside0.mk (Kd.R_lower (Kd.R_new' ho0 (Kd.R_lt (by (with_reducible repeat (first | apply Kd.R_alloc | apply Kd.R_drewN | apply Kd.R_drew)); exact HO_6.out))) (below_size (by repeat (first | (with_reducible first | exact HB.out | apply below_alloc | apply pw_below_drewN | apply below_drew1) | exact HB.out)))); have n2_ := Aside0.mk (below_step (by repeat (first | (with_reducible first | exact HB.out | apply below_alloc | apply pw_below_drewN | apply below_drew1) | exact HB.out)) hb); clear HO_6; clear HB; have HO_6 := n0_; have HO110 := n1_; have HB := n2_; clear n0_ n1_ n2_; (try clear hb); (try clear hb2); (try clear hk); (try clear hi); (try clear ho0); obtain ⟨Ao25, co25, eo25⟩ := Kd.R_slice HO110.out; subst eo25) | (go_at_call 22; (with_reducible refine (paronymref01_Compare.calls kj12 _ _ x6_2 _ _ t107 t111 _ ?side1 ?side2 ?side3 ?side4 A18.out).mono ?_); (case side1 => repeat (first | exact (Kd.R_reads' HO_6.out).2.2 | (with_reducible refine Kd.C_alloc ?_ _) | (with_reducible refine Kd.C_drewN ?_ _) | (with_reducible refine Kd.C_drew ?_))); (case side2 => exact (Kd.R_reads' HO_6.out).2.1); (case side3 => repeat (first | exact (Kd.R_reads' HO110.out).2.2 | (with_reducible refine Kd.C_alloc ?_ _) | (with_reducible refine Kd.C_drewN ?_ _) | (with_reducible refine Kd.C_drew ?_))); (case side4 => exact (Kd.R_reads' HO110.out).2.1); rintro e w' ⟨rfl, ⟨nd, rfl⟩⟩; (try first | exact ⟨rfl, _, World.drewN_drewN _ _ _⟩ | exact ⟨rfl, _, Eq.trans (World.drewN_drewN _ _ _) (congrArg (World.drewN _) (Nat.add_assoc _ _ _))⟩))))
                      go_roundg kj12
                      case measure => have := HJ2.out; have := HK2.out; have := HJ12.out; omega
                      case rel => exact ⟨(t107), (true), (wrap64 (x8_2 + 1)), (wrap64 (x9_2 + 1)), (by first | rfl | (simp; done) | (simp [*]; done)), (by first | rfl | (simp; done) | (simp [*]; done)), (by first | rfl | (simp; done) | (simp [*]; done)), H', ⟨by have := HJ2.out; have := HK2.out; have := HJ12.out; omega⟩, ⟨by (with_reducible repeat (first | apply Kd.R_alloc | apply Kd.R_drewN | apply Kd.R_drew)); exact Kd.R_mono HO110.out (fun _ hk => trivial)⟩, ⟨by repeat (first | (with_reducible first | exact HB.out | apply below_alloc | apply pw_below_drewN | apply below_drew1) | exact HB.out)⟩⟩
                  · replace c17 := Bool.eq_false_iff.mpr c17
                    subst c17
                    have H1 : (paronymlaw19_OrderWalk.l0 kj12 l0 (wrap64 (Int.tmod a1 5)) t107 false (wrap64 (x8_2 + 1)) (wrap64 (x9_2 + 1))) = some r := by rw [if_neg (show ¬ (false = true) by decide)] at H; exact H
                    clear H
                    have H := H1
                    clear H1
                    have H' := Aside0.mk H
                    clear H
                    obtain ⟨Ao26, co26, eo26⟩ := Kd.R_slice HO_6.out
                    subst eo26
                    go_wp2_with (first | (go_at_call 17; (with_reducible refine (order_Next.calls kj12 _ _ l0 _ _ x6_2 (wrap64 (Int.tmod a1 5)) t107 false _ ?side1 ?side2 ?side3 ?side4 A16.out).mono ?_); (case side1 => repeat (first | exact (Kd.C_below HR0.out HB.out) | (with_reducible refine Kd.C_alloc ?_ _) | (with_reducible refine Kd.C_drewN ?_ _) | (with_reducible refine Kd.C_drew ?_))); (case side2 => exact HC0.out); (case side3 => repeat (first | exact (Kd.R_reads' HO_6.out).2.2 | (with_reducible refine Kd.C_alloc ?_ _) | (with_reducible refine Kd.C_drewN ?_ _) | (with_reducible refine Kd.C_drew ?_))); (case side4 => exact (Kd.R_reads' HO_6.out).2.1); rintro e w27 ⟨v109, rfl, ho0, hb⟩; have n0_ := Aside0.mk (Kd.R_elder' (by (with_reducible repeat (first | apply Kd.R_alloc | apply Kd.R_drewN | apply Kd.R_drew)); exact HO_6.out) (Kd.R_base ho0) hb); have n1_ := Aside0.mk (Kd.R_lower (Kd.R_new' ho0 (Kd.R_lt (by (with_reducible repeat (first | apply Kd.R_alloc | apply Kd.R_drewN | apply Kd.R_drew)); exact HO_6.out))) (below_size (by repeat (first | (with_reducible first | exact HB.out | apply below_alloc | apply pw_below_drewN | apply below_drew1) | exact HB.out)))); have n2_ := Aside0.mk (below_step (by repeat (first | (with_reducible first | exact HB.out | apply below_alloc | apply pw_below_drewN | apply below_drew1) | exact HB.out)) hb); clear HO_6; clear HB; have HO_6 := n0_; have HO110 := n1_; have HB := n2_; clear n0_ n1_ n2_; (try clear hb); (try clear hb2); (try clear hk); (try clear hi); (try clear ho0)))
                    repeat (go_quiet (first | (go_at_call 17; (with_reducible refine (order_Next.calls kj12 _ _ l0 _ _ x6_2 (wrap64 (Int.tmod a1 5)) t107 false _ ?side1 ?side2 ?side3 ?side4 A16.out).mono ?_); (case side1 => repeat (first | exact (Kd.C_below HR0.out HB.out) | (with_reducible refine Kd.C_alloc ?_ _) | (with_reducible refine Kd.C_drewN ?_ _) | (with_reducible refine Kd.C_drew ?_))); (case side2 => exact HC0.out); (case side3 => repeat (first | exact (Kd.R_reads' HO_6.out).2.2 | (with_reducible refine Kd.C_alloc ?_ _) | (with_reducible refine Kd.C_drewN ?_ _) | (with_reducible refine Kd.C_drew ?_))); (case side4 => exact (Kd.R_reads' HO_6.out).2.1); rintro e w27 ⟨v109, rfl, ho0, hb⟩; have n0_ := Aside0.mk (Kd.R_elder' (by (with_reducible repeat (first | apply Kd.R_alloc | apply Kd.R_drewN | apply Kd.R_drew)); exact HO_6.out) (Kd.R_base ho0) hb); have n1_ := Aside0.mk (Kd.R_lower (Kd.R_new' ho0 (Kd.R_lt (by (with_reducible repeat (first | apply Kd.R_alloc | apply Kd.R_drewN | apply Kd.R_drew)); exact HO_6.out))) (below_size (by repeat (first | (with_reducible first | exact HB.out | apply below_alloc | apply pw_below_drewN | apply below_drew1) | exact HB.out)))); have n2_ := Aside0.mk (below_step (by repeat (first | (with_reducible first | exact HB.out | apply below_alloc | apply pw_below_drewN | apply below_drew1) | exact HB.out)) hb); clear HO_6; clear HB; have HO_6 := n0_; have HO110 := n1_; have HB := n2_; clear n0_ n1_ n2_; (try clear hb); (try clear hb2); (try clear hk); (try clear hi); (try clear ho0))); try go_wp2_with (first | (go_at_call 17; (with_reducible refine (order_Next.calls kj12 _ _ l0 _ _ x6_2 (wrap64 (Int.tmod a1 5)) t107 false _ ?side1 ?side2 ?side3 ?side4 A16.out).mono ?_); (case side1 => repeat (first | exact (Kd.C_below HR0.out HB.out) | (with_reducible refine Kd.C_alloc ?_ _) | (with_reducible refine Kd.C_drewN ?_ _) | (with_reducible refine Kd.C_drew ?_))); (case side2 => exact HC0.out); (case side3 => repeat (first | exact (Kd.R_reads' HO_6.out).2.2 | (with_reducible refine Kd.C_alloc ?_ _) | (with_reducible refine Kd.C_drewN ?_ _) | (with_reducible refine Kd.C_drew ?_))); (case side4 => exact (Kd.R_reads' HO_6.out).2.1); rintro e w27 ⟨v109, rfl, ho0, hb⟩; have n0_ := Aside0.mk (Kd.R_elder' (by (with_reducible repeat (first | apply Kd.R_alloc | apply Kd.R_drewN | apply Kd.R_drew)); exact HO_6.out) (Kd.R_base ho0) hb); have n1_ := Aside0.mk (Kd.R_lower (Kd.R_new' ho0 (Kd.R_lt (by (with_reducible repeat (first | apply Kd.R_alloc | apply Kd.R_drewN | apply Kd.R_drew)); exact HO_6.out))) (below_size (by repeat (first | (with_reducible first | exact HB.out | apply below_alloc | apply pw_below_drewN | apply below_drew1) | exact HB.out)))); have n2_ := Aside0.mk (below_step (by repeat (first | (with_reducible first | exact HB.out | apply below_alloc | apply pw_below_drewN | apply below_drew1) | exact HB.out)) hb); clear HO_6; clear HB; have HO_6 := n0_; have HO110 := n1_; have HB := n2_; clear n0_ n1_ n2_; (try clear hb); (try clear hb2); (try clear hk); (try clear hi); (try clear ho0))))
                    go_roundg kj12
                    case measure => have := HJ2.out; have := HK2.out; have := HJ12.out; omega
                    case rel => exact ⟨(t107), (false), (wrap64 (x8_2 + 1)), (wrap64 (x9_2 + 1)), (by first | rfl | (simp; done) | (simp [*]; done)), (by first | rfl | (simp; done) | (simp [*]; done)), (by first | rfl | (simp; done) | (simp [*]; done)), H', ⟨by have := HJ2.out; have := HK2.out; have := HJ12.out; omega⟩, ⟨by (with_reducible repeat (first | apply Kd.R_alloc | apply Kd.R_drewN | apply Kd.R_drew)); exact Kd.R_mono HO110.out (fun _ hk => trivial)⟩, ⟨by repeat (first | (with_reducible first | exact HB.out | apply below_alloc | apply pw_below_drewN | apply below_drew1) | exact HB.out)⟩⟩
                · replace c15 := Bool.eq_false_iff.mpr c15
                  subst c15
                  have H1 : (if x7_2 = true then (paronymlaw19_OrderWalk.j3 kj12 l0 (wrap64 (Int.tmod a1 5)) x8_2 true) else ((order_Count.f kj12 l0 (wrap64 (Int.tmod a1 5)) 1000).bind fun t112 => (paronymlaw19_OrderWalk.j3 kj12 l0 (wrap64 (Int.tmod a1 5)) x8_2 (x8_2 != t112)))) = some r := by rw [if_neg (show ¬ (false = true) by decide)] at H; exact H
                  clear H
                  have H := H1
                  clear H1
                  have HC28 := Aside0.mk H
                  clear H
                  go_upto_region 14 with (fail)
                  repeat (go_quiet (fail); go_upto_region 14 with (fail))
                  go_cut [63] (fun v63 wc => ∃ (kq : Nat) (x63_27 : Bool), v63 = .bool x63_27 ∧ Aside0 (paronymlaw19_OrderWalk.j3 kq l0 (wrap64 (Int.tmod a1 5)) x8_2 x63_27 = some r) ∧ Aside0 (kq ≤ kj12) ∧ Aside0 (Below w.heap.size w wc))
                  case first =>
                    have H := HC28.out
                    clear HC28
                    by_cases c29 : x7_2 = true
                    · subst c29
                      have H1 : (paronymlaw19_OrderWalk.j3 kj12 l0 (wrap64 (Int.tmod a1 5)) x8_2 true) = some r := by rw [if_pos rfl] at H; exact H
                      clear H
                      have H := H1
                      clear H1
                      have H' := Aside0.mk H
                      clear H
                      go_wp2
                      repeat (go_quiet (fail); try go_wp2)
                      go_meet
                      case rel => exact ⟨_, (true), (by first | rfl | (simp; done) | (simp [*]; done)), H', ⟨by have := HJ2.out; have := HK2.out; have := HJ12.out; first | omega | exact Nat.le_refl _⟩, ⟨by repeat (first | (with_reducible first | exact HB.out | apply below_alloc | apply pw_below_drewN | apply below_drew1) | exact HB.out)⟩⟩
                    · replace c29 := Bool.eq_false_iff.mpr c29
                      subst c29
                      have H1 : ((order_Count.f kj12 l0 (wrap64 (Int.tmod a1 5)) 1000).bind fun t112 => (paronymlaw19_OrderWalk.j3 kj12 l0 (wrap64 (Int.tmod a1 5)) x8_2 (x8_2 != t112))) = some r := by rw [if_neg (show ¬ (false = true) by decide)] at H; exact H
                      clear H
                      have H := H1
                      clear H1
                      replace H := Option.bind_eq_some_iff.mp H
                      obtain ⟨t112, A300, H⟩ := H
                      replace H : (paronymlaw19_OrderWalk.j3 kj12 l0 (wrap64 (Int.tmod a1 5)) x8_2 (x8_2 != t112)) = some r := H
                      have A30 := Aside0.mk A300
                      clear A300
                      have H' := Aside0.mk H
                      clear H
                      go_wp2_with (first | (go_at_call 25; (with_reducible refine (order_Count.calls kj12 _ _ l0 (wrap64 (Int.tmod a1 5)) 1000 t112 _ ?side1 ?side2 A30.out).mono ?_); (case side1 => repeat (first | exact (Kd.C_below HR0.out HB.out) | (with_reducible refine Kd.C_alloc ?_ _) | (with_reducible refine Kd.C_drewN ?_ _) | (with_reducible refine Kd.C_drew ?_))); (case side2 => exact HC0.out); rintro e w31 ⟨rfl, hb⟩; have n0_ := Aside0.mk (Kd.R_below (by (with_reducible repeat (first | apply Kd.R_alloc | apply Kd.R_drewN | apply Kd.R_drew)); exact HO_6.out) hb); have n1_ := Aside0.mk (below_step (by repeat (first | (with_reducible first | exact HB.out | apply below_alloc | apply pw_below_drewN | apply below_drew1) | exact HB.out)) hb); clear HO_6; clear HB; have HO_6 := n0_; have HB := n1_; clear n0_ n1_; (try clear hb); (try clear hb2); (try clear hk); (try clear hi)))
                      repeat (go_quiet (first | (go_at_call 25; (with_reducible refine (order_Count.calls kj12 _ _ l0 (wrap64 (Int.tmod a1 5)) 1000 t112 _ ?side1 ?side2 A30.out).mono ?_); (case side1 => repeat (first | exact (Kd.C_below HR0.out HB.out) | (with_reducible refine Kd.C_alloc ?_ _) | (with_reducible refine Kd.C_drewN ?_ _) | (with_reducible refine Kd.C_drew ?_))); (case side2 => exact HC0.out); rintro e w31 ⟨rfl, hb⟩; have n0_ := Aside0.mk (Kd.R_below (by (with_reducible repeat (first | apply Kd.R_alloc | apply Kd.R_drewN | apply Kd.R_drew)); exact HO_6.out) hb); have n1_ := Aside0.mk (below_step (by repeat (first | (with_reducible first | exact HB.out | apply below_alloc | apply pw_below_drewN | apply below_drew1) | exact HB.out)) hb); clear HO_6; clear HB; have HO_6 := n0_; have HB := n1_; clear n0_ n1_; (try clear hb); (try clear hb2); (try clear hk); (try clear hi))); try go_wp2_with (first | (go_at_call 25; (with_reducible refine (order_Count.calls kj12 _ _ l0 (wrap64 (Int.tmod a1 5)) 1000 t112 _ ?side1 ?side2 A30.out).mono ?_); (case side1 => repeat (first | exact (Kd.C_below HR0.out HB.out) | (with_reducible refine Kd.C_alloc ?_ _) | (with_reducible refine Kd.C_drewN ?_ _) | (with_reducible refine Kd.C_drew ?_))); (case side2 => exact HC0.out); rintro e w31 ⟨rfl, hb⟩; have n0_ := Aside0.mk (Kd.R_below (by (with_reducible repeat (first | apply Kd.R_alloc | apply Kd.R_drewN | apply Kd.R_drew)); exact HO_6.out) hb); have n1_ := Aside0.mk (below_step (by repeat (first | (with_reducible first | exact HB.out | apply below_alloc | apply pw_below_drewN | apply below_drew1) | exact HB.out)) hb); clear HO_6; clear HB; have HO_6 := n0_; have HB := n1_; clear n0_ n1_; (try clear hb); (try clear hb2); (try clear hk); (try clear hi))))
                      go_meet
                      case rel => exact ⟨_, ((x8_2 != t112)), (by first | rfl | (simp; done) | (simp [*]; done)), H', ⟨by have := HJ2.out; have := HK2.out; have := HJ12.out; first | omega | exact Nat.le_refl _⟩, ⟨by repeat (first | (with_reducible first | exact HB.out | apply below_alloc | apply pw_below_drewN | apply below_drew1) | exact HB.out)⟩⟩
                  case rest =>
                    clear HC28
                    try clear c1
                    try clear c2
                    try clear p2
                    try clear c5
                    try clear c6
                    try clear p6
                    try clear c8
                    try clear c14
                    try clear c14b0
                    try clear c14b1
                    try clear c15
                    try clear c17
                    try clear c19
                    try clear c19b0
                    try clear c29
                    try clear p2
                    try clear p6
                    obtain ⟨kq, x63_27, rfl, HA, HJ27, HB⟩ := hcut
                    cases kq with
                    | zero => exact absurd HA.out (by simp [paronymlaw19_OrderWalk.j3])
                    | succ kj27 =>
                      have H := HA.out
                      clear HA
                      simp only [paronymlaw19_OrderWalk.j3] at H
                      by_cases c32 : x63_27 = true
                      · subst c32
                        have H1 : (some false) = some r := by rw [if_pos rfl] at H; exact H
                        clear H
                        have H := H1
                        clear H1
                        obtain rfl := Option.some.inj H
                        go_wp2
                        repeat (go_quiet (fail); try go_wp2)
                        go_ret
                        exact ⟨by first | rfl | (simp [errW_none, errW_some] <;> rfl) | (simp [*, errW_none, errW_some] <;> rfl), by repeat (first | (with_reducible first | exact HB.out | apply below_alloc | apply pw_below_drewN | apply below_drew1) | exact HB.out)⟩
                      · replace c32 := Bool.eq_false_iff.mpr c32
                        subst c32
                        have H1 : ((order_First.f kj27 l0 (wrap64 (Int.tmod a1 5))).bind fun bt113 => (paronymlaw19_OrderWalk.l1 kj27 l0 (wrap64 (Int.tmod a1 5)) bt113.1 bt113.2 x8_2 0 0)) = some r := by rw [if_neg (show ¬ (false = true) by decide)] at H; exact H
                        clear H
                        have H := H1
                        clear H1
                        replace H := Option.bind_eq_some_iff.mp H
                        obtain ⟨⟨t113, t114⟩, A330, H⟩ := H
                        replace H : (paronymlaw19_OrderWalk.l1 kj27 l0 (wrap64 (Int.tmod a1 5)) t113 t114 x8_2 0 0) = some r := H
                        have A33 := Aside0.mk A330
                        clear A330
                        have H' := Aside0.mk H
                        clear H
                        go_wp2_with (first | (go_at_call 23; (with_reducible refine (order_First.calls kj27 _ _ l0 (wrap64 (Int.tmod a1 5)) t113 t114 _ ?side1 ?side2 A33.out).mono ?_); (case side1 => repeat (first | exact (Kd.C_below HR0.out HB.out) | (with_reducible refine Kd.C_alloc ?_ _) | (with_reducible refine Kd.C_drewN ?_ _) | (with_reducible refine Kd.C_drew ?_))); (case side2 => exact HC0.out); rintro e w34 ⟨v115, rfl, ho0, hb⟩; have n0_ := Aside0.mk (Kd.R_lower ho0 (below_size (by repeat (first | (with_reducible first | exact HB.out | apply below_alloc | apply pw_below_drewN | apply below_drew1) | exact HB.out)))); have n1_ := Aside0.mk (below_step (by repeat (first | (with_reducible first | exact HB.out | apply below_alloc | apply pw_below_drewN | apply below_drew1) | exact HB.out)) hb); clear HB; have HO116 := n0_; have HB := n1_; clear n0_ n1_; (try clear hb); (try clear hb2); (try clear hk); (try clear hi); (try clear ho0)))
                        repeat (go_quiet (first | (go_at_call 23; (with_reducible refine (order_First.calls kj27 _ _ l0 (wrap64 (Int.tmod a1 5)) t113 t114 _ ?side1 ?side2 A33.out).mono ?_); (case side1 => repeat (first | exact (Kd.C_below HR0.out HB.out) | (with_reducible refine Kd.C_alloc ?_ _) | (with_reducible refine Kd.C_drewN ?_ _) | (with_reducible refine Kd.C_drew ?_))); (case side2 => exact HC0.out); rintro e w34 ⟨v115, rfl, ho0, hb⟩; have n0_ := Aside0.mk (Kd.R_lower ho0 (below_size (by repeat (first | (with_reducible first | exact HB.out | apply below_alloc | apply pw_below_drewN | apply below_drew1) | exact HB.out)))); have n1_ := Aside0.mk (below_step (by repeat (first | (with_reducible first | exact HB.out | apply below_alloc | apply pw_below_drewN | apply below_drew1) | exact HB.out)) hb); clear HB; have HO116 := n0_; have HB := n1_; clear n0_ n1_; (try clear hb); (try clear hb2); (try clear hk); (try clear hi); (try clear ho0))); try go_wp2_with (first | (go_at_call 23; (with_reducible refine (order_First.calls kj27 _ _ l0 (wrap64 (Int.tmod a1 5)) t113 t114 _ ?side1 ?side2 A33.out).mono ?_); (case side1 => repeat (first | exact (Kd.C_below HR0.out HB.out) | (with_reducible refine Kd.C_alloc ?_ _) | (with_reducible refine Kd.C_drewN ?_ _) | (with_reducible refine Kd.C_drew ?_))); (case side2 => exact HC0.out); rintro e w34 ⟨v115, rfl, ho0, hb⟩; have n0_ := Aside0.mk (Kd.R_lower ho0 (below_size (by repeat (first | (with_reducible first | exact HB.out | apply below_alloc | apply pw_below_drewN | apply below_drew1) | exact HB.out)))); have n1_ := Aside0.mk (below_step (by repeat (first | (with_reducible first | exact HB.out | apply below_alloc | apply pw_below_drewN | apply below_drew1) | exact HB.out)) hb); clear HB; have HO116 := n0_; have HB := n1_; clear n0_ n1_; (try clear hb); (try clear hb2); (try clear hk); (try clear hi); (try clear ho0))))
                        go_loopg [6, 7, 12, 13] kj27 (fun kq v6 v7 v12 v13 w' => ∃ (x6_5 : List Int) (x7_5 : Bool) (x12_5 : Int) (x13_5 : Int), v7 = .bool x7_5 ∧ v12 = .int .i64 x12_5 ∧ v13 = .int .i64 x13_5 ∧ Aside0 (paronymlaw19_OrderWalk.l1 kq l0 (wrap64 (Int.tmod a1 5)) x6_5 x7_5 x8_2 x12_5 x13_5 = some r) ∧ Aside0 (kq ≤ kj27) ∧ Aside0 (Kd.R (Kd.int .i64) 3 w' w.heap.size (fun _ => True) v6 x6_5) ∧ Aside0 (Below w.heap.size w w'))
                        case atStart => exact ⟨(t113), (t114), (0), (0), (by first | rfl | (simp; done) | (simp [*]; done)), (by first | rfl | (simp; done) | (simp [*]; done)), (by first | rfl | (simp; done) | (simp [*]; done)), H', ⟨Nat.le_refl _⟩, ⟨by (with_reducible repeat (first | apply Kd.R_alloc | apply Kd.R_drewN | apply Kd.R_drew)); exact HO116.out⟩, ⟨by repeat (first | (with_reducible first | exact HB.out | apply below_alloc | apply pw_below_drewN | apply below_drew1) | exact HB.out)⟩⟩
                        case round =>
                          clear H'
                          try clear c1
                          try clear c2
                          try clear p2
                          try clear c3
                          try clear c5
                          try clear c6
                          try clear p6
                          try clear c8
                          try clear c14
                          try clear c14b0
                          try clear c14b1
                          try clear c15
                          try clear c17
                          try clear c19
                          try clear c19b0
                          try clear c29
                          try clear c32
                          try clear p2
                          try clear p6
                          obtain ⟨x6_5, x7_5, x12_5, x13_5, rfl, rfl, rfl, HA, HK5, HO_6, HB⟩ := hrel
                          cases gk with
                          | zero => exact absurd HA.out (by simp [paronymlaw19_OrderWalk.l1])
                          | succ k5 =>
                            have H := HA.out
                            clear HA
                            simp only [paronymlaw19_OrderWalk.l1] at H
                            have HC35 := Aside0.mk H
                            clear H
                            go_upto_region 19 with (fail)
                            repeat (go_quiet (fail); go_upto_region 19 with (fail))
                            go_cut [74] (fun v74 wc => ∃ (kq : Nat) (x74_34 : Bool), v74 = .bool x74_34 ∧ Aside0 (paronymlaw19_OrderWalk.j5 kq l0 (wrap64 (Int.tmod a1 5)) x6_5 x8_2 x12_5 x13_5 x74_34 = some r) ∧ Aside0 (kq ≤ k5) ∧ Aside0 (Kd.R (Kd.int .i64) 3 wc w.heap.size (fun _ => True) u6 x6_5) ∧ Aside0 (Below w.heap.size w wc))
                            case first =>
                              have H := HC35.out
                              clear HC35
                              by_cases c36 : x13_5 < 9
                              · rw [if_pos c36] at H
                                have c36b0 : decide (x13_5 < 9) = true := decide_eq_true c36
                                clear c36
                                (first | rw [c36b0] | (simp only [i64_w, i32_w]; rw [c36b0]) | rw [c36b1] | (simp only [i64_w, i32_w]; rw [c36b1]) | skip)
                                have H' := Aside0.mk H
                                clear H
                                go_wp2
                                repeat (go_quiet (fail); try go_wp2)
                                go_meet
                                case rel => exact ⟨_, (x7_5), (by first | rfl | (simp; done) | (simp [*]; done)), H', ⟨by have := HJ2.out; have := HK2.out; have := HJ12.out; have := HJ27.out; have := HK5.out; first | omega | exact Nat.le_refl _⟩, ⟨by (with_reducible repeat (first | apply Kd.R_alloc | apply Kd.R_drewN | apply Kd.R_drew)); exact HO_6.out⟩, ⟨by repeat (first | (with_reducible first | exact HB.out | apply below_alloc | apply pw_below_drewN | apply below_drew1) | exact HB.out)⟩⟩
                              · rw [if_neg c36] at H
                                have c36b0 : decide (x13_5 < 9) = false := decide_eq_false c36
                                clear c36
                                (first | rw [c36b0] | (simp only [i64_w, i32_w]; rw [c36b0]) | rw [c36b1] | (simp only [i64_w, i32_w]; rw [c36b1]) | skip)
                                have H' := Aside0.mk H
                                clear H
                                go_wp2
                                repeat (go_quiet (fail); try go_wp2)
                                go_meet
                                case rel => exact ⟨_, (false), (by first | rfl | (simp; done) | (simp [*]; done)), H', ⟨by have := HJ2.out; have := HK2.out; have := HJ12.out; have := HJ27.out; have := HK5.out; first | omega | exact Nat.le_refl _⟩, ⟨by (with_reducible repeat (first | apply Kd.R_alloc | apply Kd.R_drewN | apply Kd.R_drew)); exact HO_6.out⟩, ⟨by repeat (first | (with_reducible first | exact HB.out | apply below_alloc | apply pw_below_drewN | apply below_drew1) | exact HB.out)⟩⟩
                            case rest =>
                              clear HC35
                              try clear c1
                              try clear c2
                              try clear p2
                              try clear c3
                              try clear c5
                              try clear c6
                              try clear p6
                              try clear c8
                              try clear c14
                              try clear c14b0
                              try clear c14b1
                              try clear c15
                              try clear c17
                              try clear c19
                              try clear c19b0
                              try clear c29
                              try clear c32
                              try clear c36
                              try clear c36b0
                              try clear c36b1
                              try clear p2
                              try clear p6
                              obtain ⟨kq, x74_34, rfl, HA, HJ34, HO_6, HB⟩ := hcut
                              cases kq with
                              | zero => exact absurd HA.out (by simp [paronymlaw19_OrderWalk.j5])
                              | succ kj34 =>
                                have H := HA.out
                                clear HA
                                simp only [paronymlaw19_OrderWalk.j5] at H
                                by_cases c37 : x74_34 = true
                                · subst c37
                                  have H1 : (if x13_5 ≥ (l0.length : Int) then (some false) else (if (x6_5.length : Int) = 1 then (if 0 < (x6_5.length : Int) then (if 0 ≤ x13_5 then (if x13_5 < (l0.length : Int) then (if (rd x6_5 0) = (rd l0 x13_5) then ((order_Skip.f kj34 l0 x6_5 (wrap64 (Int.tmod a1 5))).bind fun bt119 => (paronymlaw19_OrderWalk.l1 kj34 l0 (wrap64 (Int.tmod a1 5)) bt119.1 bt119.2 x8_2 (wrap64 (x12_5 + 1)) (wrap64 (x13_5 + 1)))) else (some false)) else (none)) else (none)) else (none)) else (some false))) = some r := by rw [if_pos rfl] at H; exact H
                                  clear H
                                  have H := H1
                                  clear H1
                                  by_cases c38 : x13_5 ≥ (l0.length : Int)
                                  · rw [if_pos c38] at H
                                    have c38b0 : decide ((l0.length : Int) ≤ x13_5) = true := decide_eq_true c38
                                    clear c38
                                    obtain rfl := Option.some.inj H
                                    go_wp2
                                    repeat (go_quiet (fail); try go_wp2)
                                    go_ret
                                    exact ⟨by first | rfl | (simp [errW_none, errW_some] <;> rfl) | (simp [*, errW_none, errW_some] <;> rfl), by repeat (first | (with_reducible first | exact HB.out | apply below_alloc | apply pw_below_drewN | apply below_drew1) | exact HB.out)⟩
                                  · rw [if_neg c38] at H
                                    have c38b0 : decide ((l0.length : Int) ≤ x13_5) = false := decide_eq_false c38
                                    clear c38
                                    by_cases c39 : (x6_5.length : Int) = 1
                                    · rw [if_pos c39] at H
                                      have c39b0 : ((x6_5.length : Int) == 1) = true := beq_iff_eq.mpr c39
                                      have c39b1 : ((x6_5.length : Int) != 1) = false := bne_eq_false_iff_eq.mpr c39
                                      clear c39
                                      by_cases c40 : 0 < (x6_5.length : Int)
                                      · rw [if_pos c40] at H
                                        have c40b0 : decide (0 < (x6_5.length : Int)) = true := decide_eq_true c40
                                        have c40b1 : decide (0 < x6_5.length) = true := decide_eq_true (by omega)
                                        clear c40
                                        by_cases c41 : 0 ≤ x13_5
                                        · rw [if_pos c41] at H
                                          have c41b0 : decide (0 ≤ x13_5) = true := decide_eq_true c41
                                          clear c41
                                          by_cases c42 : x13_5 < (l0.length : Int)
                                          · rw [if_pos c42] at H
                                            have c42b0 : decide (x13_5 < (l0.length : Int)) = true := decide_eq_true c42
                                            clear c42
                                            by_cases c43 : (rd x6_5 0) = (rd l0 x13_5)
                                            · rw [if_pos c43] at H
                                              have c43b0 : ((rd x6_5 0) == (rd l0 x13_5)) = true := beq_iff_eq.mpr c43
                                              have c43b1 : ((rd x6_5 0) != (rd l0 x13_5)) = false := bne_eq_false_iff_eq.mpr c43
                                              clear c43
                                              replace H := Option.bind_eq_some_iff.mp H
                                              obtain ⟨⟨t119, t120⟩, A440, H⟩ := H
                                              replace H : (paronymlaw19_OrderWalk.l1 kj34 l0 (wrap64 (Int.tmod a1 5)) t119 t120 x8_2 (wrap64 (x12_5 + 1)) (wrap64 (x13_5 + 1))) = some r := H
                                              have A44 := Aside0.mk A440
                                              clear A440
                                              have H' := Aside0.mk H
                                              clear H
                                              obtain ⟨Ao45, co45, eo45⟩ := Kd.R_slice HO_6.out
                                              subst eo45
                                              have p117 : 0 ≤ (0 : Int) := (by omega)
                                              have q117 : 0 < (x6_5.length : Int) := of_decide_eq_true (by first | (with_reducible assumption) | assumption)
                                              obtain ⟨ad117, e117, hx117_0⟩ := Kd.at_int (Kd.R_reads' HO_6.out).2.2 0 p117 q117
                                              cases e117
                                              have qi117 : (0 < x6_5.length) = True := eq_true (by omega)
                                              (try rw [show ((0 : Int)).toNat = 0 from rfl] at hx117_0)
                                              (try rw [Addr.add_zero'] at hx117_0)
                                              replace p117 := eq_true p117
                                              replace q117 := eq_true q117
                                              have p118 : 0 ≤ (x13_5 : Int) := of_decide_eq_true (by first | (with_reducible assumption) | assumption)
                                              have q118 : x13_5 < (l0.length : Int) := of_decide_eq_true (by first | (with_reducible assumption) | assumption)
                                              obtain ⟨ad118, e118, hx118_0⟩ := Kd.at_int HR0.out x13_5 p118 q118
                                              cases e118
                                              replace hx118_0 := (HB.out.cell (World.block_lt_of_cell? w _ hx118_0)).trans hx118_0
                                              replace p118 := eq_true p118
                                              replace q118 := eq_true q118
                                              go_wp2_with (first | (go_at_call 18; (with_reducible refine (order_Skip.calls kj34 _ _ l0 _ _ x6_5 (wrap64 (Int.tmod a1 5)) t119 t120 _ ?side1 ?side2 ?side3 ?side4 A44.out).mono ?_); (case side1 => repeat (first | exact (Kd.C_below HR0.out HB.out) | (with_reducible refine Kd.C_alloc ?_ _) | (with_reducible refine Kd.C_drewN ?_ _) | (with_reducible refine Kd.C_drew ?_))); (case side2 => exact HC0.out); (case side3 => repeat (first | exact (Kd.R_reads' HO_6.out).2.2 | (with_reducible refine Kd.C_alloc ?_ _) | (with_reducible refine Kd.C_drewN ?_ _) | (with_reducible refine Kd.C_drew ?_))); (case side4 => exact (Kd.R_reads' HO_6.out).2.1); rintro e w46 ⟨v121, rfl, ho0, hb⟩; have n0_ := Aside0.mk (Kd.R_elder' (by (with_reducible repeat (first | apply Kd.R_alloc | apply Kd.R_drewN | apply Kd.R_drew)); exact HO_6.out) (Kd.R_base ho0) hb); have n1_ := Aside0.mk (Kd.R_lower (Kd.R_new' ho0 (Kd.R_lt (by (with_reducible repeat (first | apply Kd.R_alloc | apply Kd.R_drewN | apply Kd.R_drew)); exact HO_6.out))) (below_size (by repeat (first | (with_reducible first | exact HB.out | apply below_alloc | apply pw_below_drewN | apply below_drew1) | exact HB.out)))); have n2_ := Aside0.mk (below_step (by repeat (first | (with_reducible first | exact HB.out | apply below_alloc | apply pw_below_drewN | apply below_drew1) | exact HB.out)) hb); clear HO_6; clear HB; have HO_6 := n0_; have HO122 := n1_; have HB := n2_; clear n0_ n1_ n2_; (try clear hb); (try clear hb2); (try clear hk); (try clear hi); (try clear ho0)))
                                              repeat (go_quiet (first | (go_at_call 18; (with_reducible refine (order_Skip.calls kj34 _ _ l0 _ _ x6_5 (wrap64 (Int.tmod a1 5)) t119 t120 _ ?side1 ?side2 ?side3 ?side4 A44.out).mono ?_); (case side1 => repeat (first | exact (Kd.C_below HR0.out HB.out) | (with_reducible refine Kd.C_alloc ?_ _) | (with_reducible refine Kd.C_drewN ?_ _) | (with_reducible refine Kd.C_drew ?_))); (case side2 => exact HC0.out); (case side3 => repeat (first | exact (Kd.R_reads' HO_6.out).2.2 | (with_reducible refine Kd.C_alloc ?_ _) | (with_reducible refine Kd.C_drewN ?_ _) | (with_reducible refine Kd.C_drew ?_))); (case side4 => exact (Kd.R_reads' HO_6.out).2.1); rintro e w46 ⟨v121, rfl, ho0, hb⟩; have n0_ := Aside0.mk (Kd.R_elder' (by (with_reducible repeat (first | apply Kd.R_alloc | apply Kd.R_drewN | apply Kd.R_drew)); exact HO_6.out) (Kd.R_base ho0) hb); have n1_ := Aside0.mk (Kd.R_lower (Kd.R_new' ho0 (Kd.R_lt (by (with_reducible repeat (first | apply Kd.R_alloc | apply Kd.R_drewN | apply Kd.R_drew)); exact HO_6.out))) (below_size (by repeat (first | (with_reducible first | exact HB.out | apply below_alloc | apply pw_below_drewN | apply below_drew1) | exact HB.out)))); have n2_ := Aside0.mk (below_step (by repeat (first | (with_reducible first | exact HB.out | apply below_alloc | apply pw_below_drewN | apply below_drew1) | exact HB.out)) hb); clear HO_6; clear HB; have HO_6 := n0_; have HO122 := n1_; have HB := n2_; clear n0_ n1_ n2_; (try clear hb); (try clear hb2); (try clear hk); (try clear hi); (try clear ho0))); try go_wp2_with (first | (go_at_call 18; (with_reducible refine (order_Skip.calls kj34 _ _ l0 _ _ x6_5 (wrap64 (Int.tmod a1 5)) t119 t120 _ ?side1 ?side2 ?side3 ?side4 A44.out).mono ?_); (case side1 => repeat (first | exact (Kd.C_below HR0.out HB.out) | (with_reducible refine Kd.C_alloc ?_ _) | (with_reducible refine Kd.C_drewN ?_ _) | (with_reducible refine Kd.C_drew ?_))); (case side2 => exact HC0.out); (case side3 => repeat (first | exact (Kd.R_reads' HO_6.out).2.2 | (with_reducible refine Kd.C_alloc ?_ _) | (with_reducible refine Kd.C_drewN ?_ _) | (with_reducible refine Kd.C_drew ?_))); (case side4 => exact (Kd.R_reads' HO_6.out).2.1); rintro e w46 ⟨v121, rfl, ho0, hb⟩; have n0_ := Aside0.mk (Kd.R_elder' (by (with_reducible repeat (first | apply Kd.R_alloc | apply Kd.R_drewN | apply Kd.R_drew)); exact HO_6.out) (Kd.R_base ho0) hb); have n1_ := Aside0.mk (Kd.R_lower (Kd.R_new' ho0 (Kd.R_lt (by (with_reducible repeat (first | apply Kd.R_alloc | apply Kd.R_drewN | apply Kd.R_drew)); exact HO_6.out))) (below_size (by repeat (first | (with_reducible first | exact HB.out | apply below_alloc | apply pw_below_drewN | apply below_drew1) | exact HB.out)))); have n2_ := Aside0.mk (below_step (by repeat (first | (with_reducible first | exact HB.out | apply below_alloc | apply pw_below_drewN | apply below_drew1) | exact HB.out)) hb); clear HO_6; clear HB; have HO_6 := n0_; have HO122 := n1_; have HB := n2_; clear n0_ n1_ n2_; (try clear hb); (try clear hb2); (try clear hk); (try clear hi); (try clear ho0))))
                                              go_roundg kj34
                                              case measure => have := HJ2.out; have := HK2.out; have := HJ12.out; have := HJ27.out; have := HK5.out; have := HJ34.out; omega
                                              case rel => exact ⟨(t119), (t120), (wrap64 (x12_5 + 1)), (wrap64 (x13_5 + 1)), (by first | rfl | (simp; done) | (simp [*]; done)), (by first | rfl | (simp; done) | (simp [*]; done)), (by first | rfl | (simp; done) | (simp [*]; done)), H', ⟨by have := HJ2.out; have := HK2.out; have := HJ12.out; have := HJ27.out; have := HK5.out; have := HJ34.out; omega⟩, ⟨by (with_reducible repeat (first | apply Kd.R_alloc | apply Kd.R_drewN | apply Kd.R_drew)); exact Kd.R_mono HO122.out (fun _ hk => trivial)⟩, ⟨by repeat (first | (with_reducible first | exact HB.out | apply below_alloc | apply pw_below_drewN | apply below_drew1) | exact HB.out)⟩⟩
                                            · rw [if_neg c43] at H
                                              have c43b0 : ((rd x6_5 0) == (rd l0 x13_5)) = false := beq_eq_false_iff_ne.mpr c43
                                              have c43b1 : ((rd x6_5 0) != (rd l0 x13_5)) = true := bne_iff_ne.mpr c43
                                              obtain rfl := Option.some.inj H
                                              obtain ⟨Ao47, co47, eo47⟩ := Kd.R_slice HO_6.out
                                              subst eo47
                                              have p117 : 0 ≤ (0 : Int) := (by omega)
                                              have q117 : 0 < (x6_5.length : Int) := of_decide_eq_true (by first | (with_reducible assumption) | assumption)
                                              obtain ⟨ad117, e117, hx117_0⟩ := Kd.at_int (Kd.R_reads' HO_6.out).2.2 0 p117 q117
                                              cases e117
                                              have qi117 : (0 < x6_5.length) = True := eq_true (by omega)
                                              (try rw [show ((0 : Int)).toNat = 0 from rfl] at hx117_0)
                                              (try rw [Addr.add_zero'] at hx117_0)
                                              replace p117 := eq_true p117
                                              replace q117 := eq_true q117
                                              have p118 : 0 ≤ (x13_5 : Int) := of_decide_eq_true (by first | (with_reducible assumption) | assumption)
                                              have q118 : x13_5 < (l0.length : Int) := of_decide_eq_true (by first | (with_reducible assumption) | assumption)
                                              obtain ⟨ad118, e118, hx118_0⟩ := Kd.at_int HR0.out x13_5 p118 q118
                                              cases e118
                                              replace hx118_0 := (HB.out.cell (World.block_lt_of_cell? w _ hx118_0)).trans hx118_0
                                              replace p118 := eq_true p118
                                              replace q118 := eq_true q118
                                              go_wp2
                                              repeat (go_quiet (fail); try go_wp2)
                                              go_ret
                                              exact ⟨by first | rfl | (simp [errW_none, errW_some] <;> rfl) | (simp [*, errW_none, errW_some] <;> rfl), by repeat (first | (with_reducible first | exact HB.out | apply below_alloc | apply pw_below_drewN | apply below_drew1) | exact HB.out)⟩
                                          · rw [if_neg c42] at H
                                            exact absurd H (by simp)
                                        · rw [if_neg c41] at H
                                          exact absurd H (by simp)
                                      · rw [if_neg c40] at H
                                        exact absurd H (by simp)
                                    · rw [if_neg c39] at H
                                      have c39b0 : ((x6_5.length : Int) == 1) = false := beq_eq_false_iff_ne.mpr c39
                                      have c39b1 : ((x6_5.length : Int) != 1) = true := bne_iff_ne.mpr c39
                                      obtain rfl := Option.some.inj H
                                      obtain ⟨Ao48, co48, eo48⟩ := Kd.R_slice HO_6.out
                                      subst eo48
                                      go_wp2
                                      repeat (go_quiet (fail); try go_wp2)
                                      go_ret
                                      exact ⟨by first | rfl | (simp [errW_none, errW_some] <;> rfl) | (simp [*, errW_none, errW_some] <;> rfl), by repeat (first | (with_reducible first | exact HB.out | apply below_alloc | apply pw_below_drewN | apply below_drew1) | exact HB.out)⟩
                                · replace c37 := Bool.eq_false_iff.mpr c37
                                  subst c37
                                  have H1 : (if x8_2 = 0 then (if x12_5 = 0 then (some true) else (some (x12_5 == (l0.length : Int)))) else (some (x12_5 == (l0.length : Int)))) = some r := by rw [if_neg (show ¬ (false = true) by decide)] at H; exact H
                                  clear H
                                  have H := H1
                                  clear H1
                                  by_cases c49 : x8_2 = 0
                                  · rw [if_pos c49] at H
                                    have c49b0 : (x8_2 == 0) = true := beq_iff_eq.mpr c49
                                    have c49b1 : (x8_2 != 0) = false := bne_eq_false_iff_eq.mpr c49
                                    clear c49
                                    by_cases c50 : x12_5 = 0
                                    · rw [if_pos c50] at H
                                      have c50b0 : (x12_5 == 0) = true := beq_iff_eq.mpr c50
                                      have c50b1 : (x12_5 != 0) = false := bne_eq_false_iff_eq.mpr c50
                                      clear c50
                                      obtain rfl := Option.some.inj H
                                      go_wp2
                                      repeat (go_quiet (fail); try go_wp2)
                                      go_ret
                                      exact ⟨by first | rfl | (simp [errW_none, errW_some] <;> rfl) | (simp [*, errW_none, errW_some] <;> rfl), by repeat (first | (with_reducible first | exact HB.out | apply below_alloc | apply pw_below_drewN | apply below_drew1) | exact HB.out)⟩
                                    · rw [if_neg c50] at H
                                      have c50b0 : (x12_5 == 0) = false := beq_eq_false_iff_ne.mpr c50
                                      have c50b1 : (x12_5 != 0) = true := bne_iff_ne.mpr c50
                                      obtain rfl := Option.some.inj H
                                      go_wp2
                                      repeat (go_quiet (fail); try go_wp2)
                                      go_ret
                                      exact ⟨by first | rfl | (simp [errW_none, errW_some] <;> rfl) | (simp [*, errW_none, errW_some] <;> rfl), by repeat (first | (with_reducible first | exact HB.out | apply below_alloc | apply pw_below_drewN | apply below_drew1) | exact HB.out)⟩
                                  · rw [if_neg c49] at H
                                    have c49b0 : (x8_2 == 0) = false := beq_eq_false_iff_ne.mpr c49
                                    have c49b1 : (x8_2 != 0) = true := bne_iff_ne.mpr c49
                                    obtain rfl := Option.some.inj H
                                    go_wp2
                                    repeat (go_quiet (fail); try go_wp2)
                                    go_ret
                                    exact ⟨by first | rfl | (simp [errW_none, errW_some] <;> rfl) | (simp [*, errW_none, errW_some] <;> rfl), by repeat (first | (with_reducible first | exact HB.out | apply below_alloc | apply pw_below_drewN | apply below_drew1) | exact HB.out)⟩

/-- THE ONE PURE STATEMENT of paronymlaw19_OrderWalk: yours. -/
def paronymlaw19_OrderWalk.Pure : Prop := ∀ (l0 : List Int) (a1 : Int), l0.length ≤ maxLen → l0.length * 8 ≤ 140737488351232 → (∀ x ∈ l0, (Lit.int .i64 x).wf = true) → (Lit.int .u8 a1).wf = true → ∃ k, paronymlaw19_OrderWalk.f k l0 a1 = some true
theorem paronymlaw19_OrderWalk.walk (P : paronymlaw19_OrderWalk.Pure) (a0 : Option Addr) (len0 cap0 : Nat) (z0 : List Int) (a1 : Int) (w : World) (w0 : (a0 = none ∧ len0 = 0 ∧ cap0 = 0 ∧ z0 = []) ∨ ∃ x, a0 = some x ∧ len0 ≤ cap0 ∧ cap0 ≤ maxLen ∧ z0.length = cap0 ∧ (∀ i, i < z0.length → w.cell? (x.add i) = some (.int .i64 (z0.getD i 0))) ∧ ∀ n ∈ z0, (Lit.int .i64 n).wf = true) (y0 : len0 * 8 ≤ 140737488351232) (w1 : (Lit.int .u8 a1).wf = true) :
    Calls Try.prog 6 #[.slice a0 len0 cap0, .int .u8 a1] w fun e w' => e = .returned (.bool true) ∧ Below w.heap.size w w' := by
  obtain ⟨l0, rfl, hr0, hm0, hw0, hc0⟩ := ReadsInt.ofRowC w0
  obtain ⟨k, h⟩ := P l0 a1 hm0 y0 hw0 w1
  refine (paronymlaw19_OrderWalk.calls k _ _ l0 a1 true w (Kd.C_of_reads (d := (0 : Int)) (h1 := fun _ => rfl) hr0) hc0 h).mono ?_
  rintro e w' ⟨rfl, hd⟩
  exact ⟨rfl, hd⟩

end Go.Proofs.Ytlipbiihemhieaa.Q

-- from K
/- Small lemmas on lists, octets and rounds, for the plain laws of this seat. No condition. -/
namespace Go.Proofs.Ytlipbiihemhieaa.K
set_option linter.unusedVariables false
set_option linter.unusedSimpArgs false
open Go.RowKit Go.Proofs.YtlipbiihemhieaaW.PrintWords

theorem w64 {n : Int} (h0 : -9223372036854775808 ≤ n) (h1 : n ≤ 9223372036854775807) : wrap64 n = n := by unfold wrap64; omega
theorem rd_nat (l : List Int) (i : Nat) (h : i < l.length) : rd l (i : Int) = l[i] := by
  unfold rd; simp [List.getD_eq_getElem?_getD, List.getElem?_eq_getElem h]
theorem rd_mem {l : List Int} {i : Int} (h0 : 0 ≤ i) (h1 : i < (l.length : Int)) : rd l i ∈ l := by
  obtain ⟨n, rfl⟩ := Int.eq_ofNat_of_zero_le h0
  rw [rd_nat l n (by omega)]
  exact List.getElem_mem _
theorem rd_append_left {l m : List Int} {i : Int} (h0 : 0 ≤ i) (h1 : i < (l.length : Int)) : rd (l ++ m) i = rd l i := by
  unfold rd
  simp only [List.getD_eq_getElem?_getD]
  rw [List.getElem?_append_left (by omega)]
theorem rd_append_right {l m : List Int} {i : Int} (h0 : (l.length : Int) ≤ i) : rd (l ++ m) i = rd m (i - l.length) := by
  unfold rd
  simp only [List.getD_eq_getElem?_getD]
  rw [List.getElem?_append_right (by omega)]
  congr 2
  omega
theorem rd_map {f : Int → Int} {l : List Int} {i : Int} (h0 : 0 ≤ i) (h1 : i < (l.length : Int)) : rd (l.map f) i = f (rd l i) := by
  obtain ⟨n, rfl⟩ := Int.eq_ofNat_of_zero_le h0
  rw [rd_nat _ n (by simpa using h1), rd_nat l n (by omega)]
  simp
theorem rd_cons_zero (x : Int) (l : List Int) : rd (x :: l) 0 = x := rfl
theorem rd_drop {l : List Int} {n : Nat} {i : Int} (h0 : 0 ≤ i) : rd (l.drop n) i = rd l (n + i) := by
  unfold rd
  simp only [List.getD_eq_getElem?_getD, List.getElem?_drop]
  congr 2
  omega
theorem rd_take {l : List Int} {n : Nat} {i : Int} (h0 : 0 ≤ i) (h1 : i < (n : Int)) : rd (l.take n) i = rd l i := by
  unfold rd
  simp only [List.getD_eq_getElem?_getD]
  rw [List.getElem?_take_of_lt (by omega)]
theorem take_snoc (l : List Int) (i : Nat) (h : i < l.length) : l.take (i + 1) = l.take i ++ [rd l (i : Int)] := by
  rw [rd_nat l i h, List.take_succ_eq_append_getElem h]
theorem drop_cons (l : List Int) (i : Nat) (h : i < l.length) : l.drop i = rd l (i : Int) :: l.drop (i + 1) := by
  rw [rd_nat l i h, List.drop_eq_getElem_cons h]

/-! octets -/
def Oct (l : List Int) : Prop := ∀ x ∈ l, 0 ≤ x ∧ x ≤ 255
theorem oct_of_wf {l : List Int} (h : ∀ x ∈ l, (Lit.int .u8 x).wf = true) : Oct l := fun x hx => by
  have := h x hx
  simp only [Lit.wf, Bool.and_eq_true, decide_eq_true_eq] at this
  have e1 : IntKind.u8.min = 0 := rfl
  have e2 : IntKind.u8.max = 255 := rfl
  omega
theorem i64_of_wf {x : Int} (h : (Lit.int .i64 x).wf = true) : -9223372036854775808 ≤ x ∧ x ≤ 9223372036854775807 := by
  simp only [Lit.wf, Bool.and_eq_true, decide_eq_true_eq] at h
  have e1 : IntKind.i64.min = -9223372036854775808 := rfl
  have e2 : IntKind.i64.max = 9223372036854775807 := rfl
  omega
theorem u8_of_wf {x : Int} (h : (Lit.int .u8 x).wf = true) : 0 ≤ x ∧ x ≤ 255 := by
  simp only [Lit.wf, Bool.and_eq_true, decide_eq_true_eq] at h
  have e1 : IntKind.u8.min = 0 := rfl
  have e2 : IntKind.u8.max = 255 := rfl
  omega
theorem Oct.map {l : List Int} {f : Int → Int} (h : ∀ x, 0 ≤ x → x ≤ 255 → 0 ≤ f x ∧ f x ≤ 255) (hl : Oct l) : Oct (l.map f) := fun y hy => by
  obtain ⟨x, hx, rfl⟩ := List.mem_map.1 hy
  exact h x (hl x hx).1 (hl x hx).2
theorem Oct.append {l m : List Int} (h : Oct l) (k : Oct m) : Oct (l ++ m) := fun x hx => by
  rcases List.mem_append.1 hx with hx | hx
  · exact h x hx
  · exact k x hx
theorem Oct.take {l : List Int} (h : Oct l) (n : Nat) : Oct (l.take n) := fun x hx => h x (List.mem_of_mem_take hx)
theorem Oct.drop {l : List Int} (h : Oct l) (n : Nat) : Oct (l.drop n) := fun x hx => h x (List.mem_of_mem_drop hx)
theorem Oct.rd {l : List Int} (h : Oct l) {i : Int} (h0 : 0 ≤ i) (h1 : i < (l.length : Int)) : 0 ≤ rd l i ∧ rd l i ≤ 255 := h _ (rd_mem h0 h1)
theorem u8_back {x : Int} (h : 0 ≤ x ∧ x ≤ 255) : ((UInt8.ofNat x.toNat).toNat : Int) = x := by
  simp only [UInt8.toNat_ofNat']
  omega
theorem bt_str {l : List Int} (h : Oct l) {i : Int} (h0 : 0 ≤ i) (h1 : i < (l.length : Int)) : bt (strOfNums l) i = rd l i := by
  obtain ⟨n, rfl⟩ := Int.eq_ofNat_of_zero_le h0
  have hn : n < l.length := by omega
  have hs : n < (strOfNums l).size := by rw [strOfNums_size]; exact hn
  have hb := h.rd h0 h1
  rw [rd_nat l n hn] at hb ⊢
  unfold bt
  simp only [Int.toNat_natCast, hs, dif_pos]
  have : (strOfNums l)[n] = UInt8.ofNat (l[n]).toNat := by
    show (strOfNums l).data[n] = _
    simp [strOfNums]
  rw [this]
  exact u8_back hb
theorem size_str (l : List Int) : (strOfNums l).size = l.length := strOfNums_size l
theorem str_inj {l m : List Int} (hl : Oct l) (hm : Oct m) (h : strOfNums l = strOfNums m) : l = m := by
  have hlen : l.length = m.length := by rw [← size_str l, ← size_str m, h]
  apply List.ext_getElem hlen
  intro i h1 h2
  have a := bt_str hl (i := (i : Int)) (by omega) (by omega)
  have b := bt_str hm (i := (i : Int)) (by omega) (by omega)
  rw [rd_nat l i h1] at a
  rw [rd_nat m i h2] at b
  rw [← a, ← b, h]
theorem ba_toList (s : ByteArray) : s.toList = s.data.toList := ByteArray.toList_eq s
theorem toList_inj {s t : ByteArray} (h : s.toList = t.toList) : s = t := by
  rw [ba_toList, ba_toList] at h
  cases s; cases t
  simp at h
  exact congrArg _ h
theorem toList_eq_iff {s t : ByteArray} : s.toList = t.toList ↔ s = t := ⟨toList_inj, fun h => by rw [h]⟩
theorem str_append (l m : List Int) : strOfNums l ++ strOfNums m = strOfNums (l ++ m) := by
  apply toList_inj
  rw [ba_toList, ba_toList]
  simp [strOfNums]
theorem bytesOf_str {l : List Int} (h : Oct l) : Go.Proofs.YtlipbiihemhieaaW.PrintWords.bytesOf (strOfNums l) = l := by
  unfold Go.Proofs.YtlipbiihemhieaaW.PrintWords.bytesOf
  rw [strOfNums_data, List.map_map]
  conv => rhs; rw [← List.map_id l]
  apply List.map_congr_left
  intro x hx
  exact u8_back (h x hx)
theorem oct_bytesOf (s : ByteArray) : Oct (Go.Proofs.YtlipbiihemhieaaW.PrintWords.bytesOf s) := fun x hx => by
  unfold Go.Proofs.YtlipbiihemhieaaW.PrintWords.bytesOf at hx
  obtain ⟨b, _, rfl⟩ := List.mem_map.1 hx
  have := b.toNat_lt
  omega
theorem str_bytesOf (s : ByteArray) : strOfNums (Go.Proofs.YtlipbiihemhieaaW.PrintWords.bytesOf s) = s := by
  unfold Go.Proofs.YtlipbiihemhieaaW.PrintWords.bytesOf strOfNums
  cases s with
  | mk a =>
    congr 1
    apply Array.ext'
    simp [Function.comp_def]
theorem extract_str {l : List Int} {a b : Nat} : (strOfNums l).extract a b = strOfNums ((l.take b).drop a) := by
  apply toList_inj
  rw [ba_toList, ba_toList]
  rw [ByteArray.data_extract]
  simp [strOfNums, List.map_drop, List.map_take, List.drop_take]

/-! rounds -/
theorem Ev.pos {α : Type} {c : Prop} [Decidable c] {f g : Nat → Option α} {r : α} (h : c) (k : Ev f r) : Ev (fun n => if c then f n else g n) r := Ev.congr (fun _ => if_pos h) k
theorem Ev.neg {α : Type} {c : Prop} [Decidable c] {f g : Nat → Option α} {r : α} (h : ¬ c) (k : Ev g r) : Ev (fun n => if c then f n else g n) r := Ev.congr (fun _ => if_neg h) k
theorem Ev.bindS {α β : Type} {o : Option α} {f : Nat → α → Option β} {a : α} {r : β} (h : o = some a) (k : Ev (fun n => f n a) r) : Ev (fun n => o.bind (f n)) r := by
  subst h; exact k
theorem Ev.ret {α : Type} {a r : α} (h : a = r) : Ev (fun _ => some a) r := by subst h; exact Ev.now _
theorem Ev.val {α : Type} {o : Option α} {r : α} (h : o = some r) : Ev (fun _ => o) r := ⟨0, fun _ _ => h⟩

/-- 'slices.IndexFunc', as it is printed at a function value: the place of the first element that the predicate takes, or -1. -/
def firstAt (q : Int → Bool) : List Int → Int → Int
  | [], _ => -1
  | x :: l, i => if q x = true then i else firstAt q l (i + 1)
theorem index_loop {p : Int → Option Bool} {q : Int → Bool} {l : Nat → List Int → Int → Int → Option Int}
    (hl : ∀ k x n i, l (k + 1) x n i = if i < n then (if 0 ≤ i then (if i < (x.length : Int) then ((p (rd x i)).bind fun t => (if t = true then (some i) else (l k x n (wrap64 (i + 1))))) else none) else none) else some (-1))
    (x : List Int) (hx : x.length ≤ 9223372036854775806) (hp : ∀ y ∈ x, p y = some (q y)) : ∀ (d i : Nat), x.length - i = d → i ≤ x.length → Ev (fun k => l k x (x.length : Int) (i : Int)) (firstAt q (x.drop i) i) := by
  intro d
  induction d with
  | zero =>
    intro i h1 h2
    have : i = x.length := by omega
    subst this
    refine Ev.step (fun k => hl k _ _ _) (Ev.neg (by omega) ?_)
    simp only [List.drop_length, firstAt]
    exact Ev.now _
  | succ d ih =>
    intro i h1 h2
    have hi : i < x.length := by omega
    refine Ev.step (fun k => hl k _ _ _) (Ev.pos (by omega) (Ev.pos (by omega) (Ev.pos (by omega) (Ev.bindS (hp _ (rd_mem (by omega) (by omega))) ?_))))
    rw [drop_cons x i hi]
    simp only [firstAt]
    by_cases hq : q (rd x i) = true
    · rw [if_pos hq]
      exact Ev.pos hq (Ev.now _)
    · rw [if_neg hq]
      refine Ev.neg hq ?_
      have := ih (i + 1) (by omega) (by omega)
      rw [w64 (by omega) (by omega)]
      exact this
theorem firstAt_any (q : Int → Bool) : ∀ (l : List Int) (i : Int), 0 ≤ i → decide (firstAt q l i ≥ 0) = l.any q
  | [], _, _ => by simp [firstAt]
  | x :: l, i, h => by
    by_cases hq : q x = true
    · simp [firstAt, hq, h]
    · have ih := firstAt_any q l (i + 1) (by omega)
      simp only [Bool.not_eq_true] at hq
      simp [firstAt, hq]
      simpa using ih
/-- 'slices.ContainsFunc' at a function value. -/
theorem contains_ev {p : Int → Option Bool} {q : Int → Bool} {l : Nat → List Int → Int → Int → Option Int}
    (hl : ∀ k x n i, l (k + 1) x n i = if i < n then (if 0 ≤ i then (if i < (x.length : Int) then ((p (rd x i)).bind fun t => (if t = true then (some i) else (l k x n (wrap64 (i + 1))))) else none) else none) else some (-1))
    (x : List Int) (hx : x.length ≤ 9223372036854775806) (hp : ∀ y ∈ x, p y = some (q y)) : Ev (fun k => (l k x (x.length : Int) 0).bind fun t => some (decide (t ≥ 0))) (x.any q) := by
  have h := index_loop hl x hx hp x.length 0 (by omega) (by omega)
  refine Ev.bind h (Ev.ret ?_)
  rw [firstAt_any q _ _ (by simp)]
  simp

end Go.Proofs.Ytlipbiihemhieaa.K

-- from Qf15
-- Made by hp.py, a program of this session, with the kit's printer. Not trusted: Lean checks it.
namespace Go.Proofs.Ytlipbiihemhieaa.Q
open Go.RowKit Go.Proofs.YtlipbiihemhieaaW.PrintWords Go.Proofs.YtlipbiihemhieaaW.PrintLast Go.Proofs.YtlipbiihemhieaaW.PrintMore
attribute [local go_sem] max2_int min2_int max_two min_two max_three min_three max_four min_four   -- for this text's walks alone
set_option linter.unusedVariables false
set_option linter.unusedSimpArgs false

/-! ### paronymref19_Alphabet: function 15 -/
mutual
def paronymref19_Alphabet.l0 : Nat → List Int → Int → Option (Bool)
  | 0, _, _ => none
  | k + 1, x0, x3 => if x3 < (x0.length : Int) then (paronymref19_Alphabet.l1 k x0 x3 0) else (some true)
def paronymref19_Alphabet.l1 : Nat → List Int → Int → Int → Option (Bool)
  | 0, _, _, _ => none
  | k + 1, x0, x3, x4 => if x4 < x3 then (if 0 ≤ x4 then (if x4 < (x0.length : Int) then (if 0 ≤ x3 then (if x3 < (x0.length : Int) then (if (rd x0 x4) ≥ (rd x0 x3) then (some false) else (paronymref19_Alphabet.l1 k x0 x3 (wrap64 (x4 + 1)))) else (none)) else (none)) else (none)) else (none)) else (paronymref19_Alphabet.l0 k x0 (wrap64 (x3 + 1)))
end
def paronymref19_Alphabet.f (k : Nat) (l0 : List Int) : Option (Bool) := paronymref19_Alphabet.l0 k l0 0
theorem paronymref19_Alphabet.mono_l : ∀ k, (∀ y0 y1, LeO (paronymref19_Alphabet.l0 k y0 y1) (paronymref19_Alphabet.l0 (k + 1) y0 y1)) ∧ (∀ y0 y1 y2, LeO (paronymref19_Alphabet.l1 k y0 y1 y2) (paronymref19_Alphabet.l1 (k + 1) y0 y1 y2))
  | 0 => ⟨fun _ _ r h => by simp [paronymref19_Alphabet.l0] at h, fun _ _ _ r h => by simp [paronymref19_Alphabet.l1] at h⟩
  | k + 1 => by
    obtain ⟨ih0, ih1⟩ := paronymref19_Alphabet.mono_l k
    refine ⟨?_, ?_⟩
    · intro y0 y1
      unfold paronymref19_Alphabet.l0
      repeat' first
      | (with_reducible exact ih0 _ _)
      | (with_reducible exact ih1 _ _ _)
      | (with_reducible exact LeO.refl _)
      | (with_reducible exact LeO.none _)
      | (with_reducible refine LeO.ite ?_ ?_)
      | (with_reducible refine LeO.bind ?_ (fun _ => ?_))
      | exact ih0 _ _
      | exact ih1 _ _ _
      | exact LeO.none _
      | refine LeO.ite ?_ ?_
      | refine LeO.bind ?_ (fun _ => ?_)
    · intro y0 y1 y2
      unfold paronymref19_Alphabet.l1
      repeat' first
      | (with_reducible exact ih0 _ _)
      | (with_reducible exact ih1 _ _ _)
      | (with_reducible exact LeO.refl _)
      | (with_reducible exact LeO.none _)
      | (with_reducible refine LeO.ite ?_ ?_)
      | (with_reducible refine LeO.bind ?_ (fun _ => ?_))
      | exact ih0 _ _
      | exact ih1 _ _ _
      | exact LeO.none _
      | refine LeO.ite ?_ ?_
      | refine LeO.bind ?_ (fun _ => ?_)
theorem paronymref19_Alphabet.mono : ∀ a0 k, LeO (paronymref19_Alphabet.f k a0) (paronymref19_Alphabet.f (k + 1) a0) := by
  intro a0 k
  obtain ⟨ih0, ih1⟩ := paronymref19_Alphabet.mono_l k
  unfold paronymref19_Alphabet.f
  repeat' first
      | (with_reducible exact ih0 _ _)
      | (with_reducible exact ih1 _ _ _)
      | (with_reducible exact LeO.refl _)
      | (with_reducible exact LeO.none _)
      | (with_reducible refine LeO.ite ?_ ?_)
      | (with_reducible refine LeO.bind ?_ (fun _ => ?_))
      | exact ih0 _ _
      | exact ih1 _ _ _
      | exact LeO.none _
      | refine LeO.ite ?_ ?_
      | refine LeO.bind ?_ (fun _ => ?_)
set_option maxHeartbeats 8000000 in
set_option maxRecDepth 100000 in
theorem paronymref19_Alphabet.calls (k : Nat) (A0 : Option Addr) (c0 : Nat) (l0 : List Int) (r : Bool) (w : World) (hr0 : Kd.C (Kd.int .i64) w A0 l0.length l0) (hc0 : l0.length ≤ c0) (h : paronymref19_Alphabet.f k l0 = some r) :
    Calls Try.prog 15 #[.slice A0 l0.length c0] w fun e w' => e = .returned (.bool r) ∧ Drawn0 w w' := by
  have HR0 := Aside0.mk hr0
  have HC0 := Aside0.mk hc0
  clear hr0 hc0
  have H : (paronymref19_Alphabet.l0 k l0 0) = some r := h
  clear h
  have H' := Aside0.mk H
  clear H
  go_enter Try.func15, Try.ntmps15
  go_wp2
  repeat (go_quiet (fail); try go_wp2)
  go_loopg [3] k (fun kq v3 w' => ∃ (x3_1 : Int), v3 = .int .i64 x3_1 ∧ Aside0 (paronymref19_Alphabet.l0 kq l0 x3_1 = some r) ∧ Aside0 (kq ≤ k) ∧ Drawn0 w w')
  case atStart => exact ⟨(0), (by first | rfl | (simp; done) | (simp [*]; done)), H', ⟨Nat.le_refl _⟩, by repeat (first | exact Drawn0.refl _ | apply Drawn0.step)⟩
  case round =>
    clear H'
    try clear c1
    obtain ⟨x3_1, rfl, HA, HK1, ⟨m1, rfl⟩⟩ := hrel
    cases gk with
    | zero => exact absurd HA.out (by simp [paronymref19_Alphabet.l0])
    | succ k1 =>
      have H := HA.out
      clear HA
      simp only [paronymref19_Alphabet.l0] at H
      by_cases c2 : x3_1 < (l0.length : Int)
      · rw [if_pos c2] at H
        have c2b0 : decide (x3_1 < (l0.length : Int)) = true := decide_eq_true c2
        clear c2
        have H' := Aside0.mk H
        clear H
        go_wp2
        repeat (go_quiet (fail); try go_wp2)
        go_loopg [4] k1 (fun kq v4 w' => ∃ (x4_2 : Int), v4 = .int .i64 x4_2 ∧ Aside0 (paronymref19_Alphabet.l1 kq l0 x3_1 x4_2 = some r) ∧ Aside0 (kq ≤ k1) ∧ Drawn0 w w')
        case atStart => exact ⟨(0), (by first | rfl | (simp; done) | (simp [*]; done)), H', ⟨Nat.le_refl _⟩, by repeat (first | exact Drawn0.refl _ | apply Drawn0.step)⟩
        case round =>
          clear H'
          try clear c1
          try clear c2
          try clear c2b0
          try clear p2
          obtain ⟨x4_2, rfl, HA, HK2, ⟨m2, rfl⟩⟩ := hrel
          cases gk with
          | zero => exact absurd HA.out (by simp [paronymref19_Alphabet.l1])
          | succ k2 =>
            have H := HA.out
            clear HA
            simp only [paronymref19_Alphabet.l1] at H
            by_cases c3 : x4_2 < x3_1
            · rw [if_pos c3] at H
              have c3b0 : decide (x4_2 < x3_1) = true := decide_eq_true c3
              clear c3
              by_cases c4 : 0 ≤ x4_2
              · rw [if_pos c4] at H
                have c4b0 : decide (0 ≤ x4_2) = true := decide_eq_true c4
                clear c4
                by_cases c5 : x4_2 < (l0.length : Int)
                · rw [if_pos c5] at H
                  have c5b0 : decide (x4_2 < (l0.length : Int)) = true := decide_eq_true c5
                  clear c5
                  by_cases c6 : 0 ≤ x3_1
                  · rw [if_pos c6] at H
                    have c6b0 : decide (0 ≤ x3_1) = true := decide_eq_true c6
                    clear c6
                    by_cases c7 : x3_1 < (l0.length : Int)
                    · rw [if_pos c7] at H
                      have c7b0 : decide (x3_1 < (l0.length : Int)) = true := decide_eq_true c7
                      clear c7
                      by_cases c8 : (rd l0 x4_2) ≥ (rd l0 x3_1)
                      · rw [if_pos c8] at H
                        have c8b0 : decide ((rd l0 x3_1) ≤ (rd l0 x4_2)) = true := decide_eq_true c8
                        clear c8
                        obtain rfl := Option.some.inj H
                        have p101 : 0 ≤ (x4_2 : Int) := of_decide_eq_true (by first | (with_reducible assumption) | assumption)
                        have q101 : x4_2 < (l0.length : Int) := of_decide_eq_true (by first | (with_reducible assumption) | assumption)
                        obtain ⟨ad101, e101, hx101_0⟩ := Kd.at_int HR0.out x4_2 p101 q101
                        cases e101
                        replace p101 := eq_true p101
                        replace q101 := eq_true q101
                        have p102 : 0 ≤ (x3_1 : Int) := of_decide_eq_true (by first | (with_reducible assumption) | assumption)
                        have q102 : x3_1 < (l0.length : Int) := of_decide_eq_true (by first | (with_reducible assumption) | assumption)
                        obtain ⟨ad102, e102, hx102_0⟩ := Kd.at_int HR0.out x3_1 p102 q102
                        obtain rfl : ad101 = ad102 := (by injection e102)
                        replace p102 := eq_true p102
                        replace q102 := eq_true q102
                        go_wp2
                        repeat (go_quiet (fail); try go_wp2)
                        go_ret
                        exact ⟨by first | rfl | (simp; done) | (simp [*]; done), by repeat (first | exact Drawn0.refl _ | apply Drawn0.step)⟩
                      · rw [if_neg c8] at H
                        have c8b0 : decide ((rd l0 x3_1) ≤ (rd l0 x4_2)) = false := decide_eq_false c8
                        clear c8
                        have H' := Aside0.mk H
                        clear H
                        have p101 : 0 ≤ (x4_2 : Int) := of_decide_eq_true (by first | (with_reducible assumption) | assumption)
                        have q101 : x4_2 < (l0.length : Int) := of_decide_eq_true (by first | (with_reducible assumption) | assumption)
                        obtain ⟨ad101, e101, hx101_0⟩ := Kd.at_int HR0.out x4_2 p101 q101
                        cases e101
                        replace p101 := eq_true p101
                        replace q101 := eq_true q101
                        have p102 : 0 ≤ (x3_1 : Int) := of_decide_eq_true (by first | (with_reducible assumption) | assumption)
                        have q102 : x3_1 < (l0.length : Int) := of_decide_eq_true (by first | (with_reducible assumption) | assumption)
                        obtain ⟨ad102, e102, hx102_0⟩ := Kd.at_int HR0.out x3_1 p102 q102
                        obtain rfl : ad101 = ad102 := (by injection e102)
                        replace p102 := eq_true p102
                        replace q102 := eq_true q102
                        go_wp2
                        repeat (go_quiet (fail); try go_wp2)
                        go_roundg k2
                        case measure => have := HK1.out; have := HK2.out; omega
                        case rel => exact ⟨(wrap64 (x4_2 + 1)), (by first | rfl | (simp; done) | (simp [*]; done)), H', ⟨by have := HK1.out; have := HK2.out; omega⟩, by repeat (first | exact Drawn0.refl _ | apply Drawn0.step)⟩
                    · rw [if_neg c7] at H
                      exact absurd H (by simp)
                  · rw [if_neg c6] at H
                    exact absurd H (by simp)
                · rw [if_neg c5] at H
                  exact absurd H (by simp)
              · rw [if_neg c4] at H
                exact absurd H (by simp)
            · rw [if_neg c3] at H
              have c3b0 : decide (x4_2 < x3_1) = false := decide_eq_false c3
              clear c3
              have H' := Aside0.mk H
              clear H
              go_wp2
              repeat (go_quiet (fail); try go_wp2)
              go_roundg k2
              case measure => have := HK1.out; have := HK2.out; omega
              case rel => exact ⟨(wrap64 (x3_1 + 1)), (by first | rfl | (simp; done) | (simp [*]; done)), H', ⟨by have := HK1.out; have := HK2.out; omega⟩, by repeat (first | exact Drawn0.refl _ | apply Drawn0.step)⟩
      · rw [if_neg c2] at H
        have c2b0 : decide (x3_1 < (l0.length : Int)) = false := decide_eq_false c2
        clear c2
        obtain rfl := Option.some.inj H
        go_wp2
        repeat (go_quiet (fail); try go_wp2)
        go_ret
        exact ⟨by first | rfl | (simp; done) | (simp [*]; done), by repeat (first | exact Drawn0.refl _ | apply Drawn0.step)⟩

end Go.Proofs.Ytlipbiihemhieaa.Q

-- from Pord
/- Layer 19: numbers that rise: the program's Alphabet and the reference's. -/
namespace Go.Proofs.Ytlipbiihemhieaa.K
set_option linter.unusedVariables false
set_option linter.unusedSimpArgs false
open Go.RowKit Go.Proofs.YtlipbiihemhieaaW.PrintWords Go.Proofs.YtlipbiihemhieaaW.PrintMore Go.Proofs.Ytlipbiihemhieaa.Q

/-- The first i numbers rise. -/
def riseTo (l : List Int) (i : Nat) : Prop := ∀ a b : Nat, a < b → b < i → rd l (a : Int) < rd l (b : Int)
theorem riseTo_one (l : List Int) : riseTo l 1 := fun a b h1 h2 => by omega
theorem riseTo_zero (l : List Int) : riseTo l 0 := fun a b h1 h2 => by omega
theorem riseTo_le {l : List Int} {i j : Nat} (h : riseTo l j) (hij : i ≤ j) : riseTo l i := fun a b h1 h2 => h a b h1 (by omega)
theorem riseTo_snoc {l : List Int} {i : Nat} (h : riseTo l i) (hn : ∀ a : Nat, a < i → rd l (a : Int) < rd l (i : Int)) : riseTo l (i + 1) := fun a b h1 h2 => by
  by_cases e : b = i
  · rw [e]; exact hn a (by omega)
  · exact h a b h1 (by omega)
theorem riseTo_next {l : List Int} {i : Nat} (h : riseTo l (i + 1)) (hn : rd l (i : Int) < rd l ((i + 1 : Nat) : Int)) : riseTo l (i + 1 + 1) := riseTo_snoc h fun a ha => by
  by_cases e : a = i
  · rw [e]; exact hn
  · have := h a i (by omega) (by omega)
    omega
theorem Alphabet_ev {l : List Int} (hl : l.length ≤ 1099511627776) : ∃ b : Bool, (b = true ↔ riseTo l l.length) ∧ Ev (fun k => order_Alphabet.f k l) b := by
  have key : ∀ (d i : Nat), l.length - i = d → riseTo l (i + 1) → ∃ b : Bool, (b = true ↔ riseTo l l.length) ∧ Ev (fun k => order_Alphabet.l0 k l ((i + 1 : Nat) : Int)) b := by
    intro d
    induction d with
    | zero =>
      intro i h1 h2
      exact ⟨true, ⟨fun _ => riseTo_le h2 (by omega), fun _ => rfl⟩, Ev.step (fun k => rfl) (Ev.neg (by omega) (Ev.now _))⟩
    | succ d ih =>
      intro i h1 h2
      by_cases hi : i + 1 < l.length
      · have e1 : wrap64 (((i + 1 : Nat) : Int) - 1) = (i : Int) := by rw [w64 (by omega) (by omega)]; omega
        have e2 : wrap64 (((i + 1 : Nat) : Int) + 1) = ((i + 1 + 1 : Nat) : Int) := w64 (by omega) (by omega)
        by_cases c : rd l ((i + 1 : Nat) : Int) ≤ rd l (i : Int)
        · refine ⟨false, ⟨fun h => (by cases h), fun h => ?_⟩, Ev.step (fun k => rfl) (Ev.pos (by omega) (Ev.pos (by omega) (Ev.pos (by rw [e1]; omega) (Ev.pos (by rw [e1]; omega) (Ev.pos (by rw [e1]; exact c) (Ev.now _))))))⟩
          have := h i (i + 1) (by omega) hi
          omega
        · obtain ⟨b, hb, he⟩ := ih (i + 1) (by omega) (riseTo_next h2 (by omega))
          refine ⟨b, hb, Ev.step (fun k => rfl) (Ev.pos (by omega) (Ev.pos (by omega) (Ev.pos (by rw [e1]; omega) (Ev.pos (by rw [e1]; omega) (Ev.neg (by rw [e1]; exact c) ?_)))))⟩
          rw [e2]
          exact he
      · exact ⟨true, ⟨fun _ => riseTo_le h2 (by omega), fun _ => rfl⟩, Ev.step (fun k => rfl) (Ev.neg (by omega) (Ev.now _))⟩
  exact key l.length 0 (by omega) (riseTo_one l)
theorem refAlphabet_ev {l : List Int} (hl : l.length ≤ 1099511627776) : ∃ b : Bool, (b = true ↔ riseTo l l.length) ∧ Ev (fun k => paronymref19_Alphabet.f k l) b := by
  have key : ∀ (d i : Nat), l.length - i = d → i ≤ l.length → riseTo l i → ∃ b : Bool, (b = true ↔ riseTo l l.length) ∧ Ev (fun k => paronymref19_Alphabet.l0 k l (i : Int)) b := by
    intro d
    induction d with
    | zero =>
      intro i h1 h2 h3
      exact ⟨true, ⟨fun _ => riseTo_le h3 (by omega), fun _ => rfl⟩, Ev.step (fun k => rfl) (Ev.neg (by omega) (Ev.now _))⟩
    | succ d ih =>
      intro i h1 h2 h3
      have hi : i < l.length := by omega
      have inner : ∀ (m j : Nat), i - j = m → j ≤ i → (∀ a : Nat, a < j → rd l (a : Int) < rd l (i : Int)) → ∃ b : Bool, (b = true ↔ riseTo l l.length) ∧ Ev (fun k => paronymref19_Alphabet.l1 k l (i : Int) (j : Int)) b := by
        intro m
        induction m with
        | zero =>
          intro j g1 g2 g3
          have : j = i := by omega
          subst this
          obtain ⟨b, hb, he⟩ := ih (j + 1) (by omega) (by omega) (riseTo_snoc h3 g3)
          refine ⟨b, hb, Ev.step (fun k => rfl) (Ev.neg (by omega) ?_)⟩
          rw [show wrap64 ((j : Int) + 1) = ((j + 1 : Nat) : Int) from w64 (by omega) (by omega)]
          exact he
        | succ m ihm =>
          intro j g1 g2 g3
          have hj : j < i := by omega
          by_cases c : rd l (j : Int) ≥ rd l (i : Int)
          · refine ⟨false, ⟨fun h => (by cases h), fun h => ?_⟩, Ev.step (fun k => rfl) (Ev.pos (by omega) (Ev.pos (by omega) (Ev.pos (by omega) (Ev.pos (by omega) (Ev.pos (by omega) (Ev.pos c (Ev.now _)))))))⟩
            have := h j i hj hi
            omega
          · obtain ⟨b, hb, he⟩ := ihm (j + 1) (by omega) (by omega) (fun a ha => by
              by_cases e : a = j
              · rw [e]; omega
              · exact g3 a (by omega))
            refine ⟨b, hb, Ev.step (fun k => rfl) (Ev.pos (by omega) (Ev.pos (by omega) (Ev.pos (by omega) (Ev.pos (by omega) (Ev.pos (by omega) (Ev.neg c ?_))))))⟩
            rw [show wrap64 ((j : Int) + 1) = ((j + 1 : Nat) : Int) from w64 (by omega) (by omega)]
            exact he
      obtain ⟨b, hb, he⟩ := inner i 0 (by omega) (by omega) (fun a ha => by omega)
      exact ⟨b, hb, Ev.step (fun k => rfl) (Ev.pos (by omega) he)⟩
  exact key l.length 0 (by omega) (by omega) (riseTo_zero l)
/-- Both tell the same. -/
theorem alphabets_ev {l : List Int} (hl : l.length ≤ 1099511627776) : ∃ b : Bool, (b = true ↔ riseTo l l.length) ∧ Ev (fun k => order_Alphabet.f k l) b ∧ Ev (fun k => paronymref19_Alphabet.f k l) b := by
  obtain ⟨b, h1, h2⟩ := Alphabet_ev hl
  obtain ⟨c, h3, h4⟩ := refAlphabet_ev hl
  have : c = b := by
    cases b <;> cases c
    · rfl
    · have := h1.2 (h3.1 rfl); cases this
    · have := h3.2 (h1.1 rfl); cases this
    · rfl
  subst this
  exact ⟨c, h1, h2, h4⟩

end Go.Proofs.Ytlipbiihemhieaa.K

-- from Qf20
-- Made by hp.py, a program of this session, with the kit's printer. Not trusted: Lean checks it.
namespace Go.Proofs.Ytlipbiihemhieaa.Q
open Go.RowKit Go.Proofs.YtlipbiihemhieaaW.PrintWords Go.Proofs.YtlipbiihemhieaaW.PrintLast Go.Proofs.YtlipbiihemhieaaW.PrintMore
attribute [local go_sem] max2_int min2_int max_two min_two max_three min_three max_four min_four   -- for this text's walks alone
set_option linter.unusedVariables false
set_option linter.unusedSimpArgs false

/-! ### paronymref01_Same: function 20 -/
def paronymref01_Same.f (k : Nat) (l0 : List Int) (l1 : List Int) : Option (Bool) := (paronymref01_Compare.f k l0 l1).bind fun t101 => (some (t101 == 0))
theorem paronymref01_Same.mono : ∀ a0 a1 k, LeO (paronymref01_Same.f k a0 a1) (paronymref01_Same.f (k + 1) a0 a1) := by
  intro a0 a1 k
  unfold paronymref01_Same.f
  repeat' first
      | (with_reducible exact paronymref01_Compare.mono _ _ _)
      | (with_reducible exact LeO.refl _)
      | (with_reducible exact LeO.none _)
      | (with_reducible refine LeO.ite ?_ ?_)
      | (with_reducible refine LeO.bind ?_ (fun _ => ?_))
      | exact paronymref01_Compare.mono _ _ _
      | exact LeO.none _
      | refine LeO.ite ?_ ?_
      | refine LeO.bind ?_ (fun _ => ?_)
set_option maxHeartbeats 8000000 in
set_option maxRecDepth 100000 in
theorem paronymref01_Same.calls (k : Nat) (A0 : Option Addr) (c0 : Nat) (l0 : List Int) (A1 : Option Addr) (c1 : Nat) (l1 : List Int) (r : Bool) (w : World) (hr0 : Kd.C (Kd.int .i64) w A0 l0.length l0) (hc0 : l0.length ≤ c0) (hr1 : Kd.C (Kd.int .i64) w A1 l1.length l1) (hc1 : l1.length ≤ c1) (h : paronymref01_Same.f k l0 l1 = some r) :
    Calls Try.prog 20 #[.slice A0 l0.length c0, .slice A1 l1.length c1] w fun e w' => e = .returned (.bool r) ∧ Drawn0 w w' := by
  have HR0 := Aside0.mk hr0
  have HC0 := Aside0.mk hc0
  clear hr0 hc0
  have HR1 := Aside0.mk hr1
  have HC1 := Aside0.mk hc1
  clear hr1 hc1
  have H : ((paronymref01_Compare.f k l0 l1).bind fun t101 => (some (t101 == 0))) = some r := h
  clear h
  replace H := Option.bind_eq_some_iff.mp H
  obtain ⟨t101, A30, H⟩ := H
  replace H : (some (t101 == 0)) = some r := H
  have A3 := Aside0.mk A30
  clear A30
  obtain rfl := Option.some.inj H
  go_enter Try.func20, Try.ntmps20
  go_wp2_with (first | ((with_reducible refine gate_callee (f := 22) rfl ?_); refine goesL_ (some 7) rfl rfl Try.func22 (by kernel_rfl) rfl #[.slice A0 l0.length c0, .slice A1 l1.length c1] rfl (by (try simp only [List.map_toArray, List.map_cons, List.map_nil]); first | done | rfl | (simp only [List.length_drop, List.length_take]; rfl)) ?_; (with_reducible refine (paronymref01_Compare.calls k _ _ l0 _ _ l1 t101 _ ?side1 ?side2 ?side3 ?side4 A3.out).mono ?_); (case side1 => repeat (first | exact HR0.out | (with_reducible refine Kd.C_alloc ?_ _) | (with_reducible refine Kd.C_drewN ?_ _) | (with_reducible refine Kd.C_drew ?_))); (case side2 => exact HC0.out); (case side3 => repeat (first | exact HR1.out | (with_reducible refine Kd.C_alloc ?_ _) | (with_reducible refine Kd.C_drewN ?_ _) | (with_reducible refine Kd.C_drew ?_))); (case side4 => exact HC1.out); rintro e w' ⟨rfl, ⟨nd, rfl⟩⟩; refine ⟨_, rfl, ?_⟩))
  go_ret
  exact ⟨by first | rfl | (simp; done) | (simp [*]; done), by repeat (first | exact Drawn0.refl _ | apply Drawn0.step)⟩

end Go.Proofs.Ytlipbiihemhieaa.Q

-- from Pcmp
/- Texts compared: the reference's Compare and Same on lists. -/
namespace Go.Proofs.Ytlipbiihemhieaa.K
set_option linter.unusedVariables false
set_option linter.unusedSimpArgs false
open Go.RowKit Go.Proofs.YtlipbiihemhieaaW.PrintWords Go.Proofs.YtlipbiihemhieaaW.PrintMore Go.Proofs.Ytlipbiihemhieaa.Q

def cmpL : List Int → List Int → Int
  | [], [] => 0
  | [], _ :: _ => -1
  | _ :: _, [] => 1
  | x :: l, y :: m => if x < y then -1 else if x > y then 1 else cmpL l m
theorem cmpL_zero : ∀ (l m : List Int), cmpL l m = 0 ↔ l = m
  | [], [] => by simp [cmpL]
  | [], _ :: _ => by simp [cmpL]
  | _ :: _, [] => by simp [cmpL]
  | x :: l, y :: m => by
    unfold cmpL
    by_cases a : x < y
    · rw [if_pos a]; simp; omega
    · rw [if_neg a]
      by_cases b : x > y
      · rw [if_pos b]; simp; omega
      · rw [if_neg b, cmpL_zero l m]
        have : x = y := by omega
        simp [this]
theorem refCompare_ev (l m : List Int) (hl : l.length ≤ 1099511627776) (hm : m.length ≤ 1099511627776) : Ev (fun k => paronymref01_Compare.f k l m) (cmpL l m) := by
  have key : ∀ (d i : Nat), l.length - i = d → i ≤ l.length → i ≤ m.length → Ev (fun k => paronymref01_Compare.l0 k l m i) (cmpL (l.drop i) (m.drop i)) := by
    have hend : ∀ i : Nat, i ≤ l.length → i ≤ m.length → (i = l.length ∨ i = m.length) → ∀ b : Bool, b = false → Ev (fun k => paronymref01_Compare.j1 k l m i b) (cmpL (l.drop i) (m.drop i)) := by
      intro i h1 h2 h3 b hb
      refine Ev.step (fun k => rfl) (Ev.neg (by simp [hb]) ?_)
      by_cases a : l.length < m.length
      · have e : i = l.length := by omega
        subst e
        rw [List.drop_length, drop_cons m l.length a]
        exact Ev.pos (by omega) (Ev.ret (by simp [cmpL]))
      · by_cases b : m.length < l.length
        · have e : i = m.length := by omega
          subst e
          rw [List.drop_length, drop_cons l m.length b]
          exact Ev.neg (by omega) (Ev.pos (by omega) (Ev.ret (by simp [cmpL])))
        · have e : i = l.length := by omega
          have e2 : i = m.length := by omega
          rw [List.drop_of_length_le (by omega), List.drop_of_length_le (by omega)]
          exact Ev.neg (by omega) (Ev.neg (by omega) (Ev.ret (by simp [cmpL])))
    intro d
    induction d with
    | zero =>
      intro i h1 h2 h3
      exact Ev.step (fun k => rfl) (Ev.neg (by omega) (hend i h2 h3 (.inl (by omega)) false rfl))
    | succ d ih =>
      intro i h1 h2 h3
      have hi : i < l.length := by omega
      refine Ev.step (fun k => rfl) (Ev.pos (by omega) ?_)
      by_cases a : i < m.length
      · have e : decide ((i : Int) < (m.length : Int)) = true := by simpa using a
        refine Ev.step (fun k => rfl) (Ev.pos e (Ev.pos (by omega) (Ev.pos (by omega) (Ev.pos (by omega) ?_))))
        rw [drop_cons l i hi, drop_cons m i a]
        unfold cmpL
        by_cases b : rd l i < rd m i
        · exact Ev.pos b (Ev.ret (if_pos b).symm)
        · refine Ev.neg b ?_
          rw [show (if rd l i < rd m i then (-1 : Int) else if rd l i > rd m i then 1 else cmpL (l.drop (i + 1)) (m.drop (i + 1))) = (if rd l i > rd m i then 1 else cmpL (l.drop (i + 1)) (m.drop (i + 1))) from if_neg b]
          by_cases c : rd l i > rd m i
          · exact Ev.pos c (Ev.ret (if_pos c).symm)
          · rw [show (if rd l i > rd m i then (1 : Int) else cmpL (l.drop (i + 1)) (m.drop (i + 1))) = cmpL (l.drop (i + 1)) (m.drop (i + 1)) from if_neg c]
            refine Ev.neg c ?_
            rw [w64 (by omega) (by omega)]
            exact ih (i + 1) (by omega) (by omega) (by omega)
      · have e : decide ((i : Int) < (m.length : Int)) = false := by simpa using a
        exact hend i h2 h3 (.inr (by omega)) _ e
  have := key l.length 0 (by omega) (by omega) (by omega)
  unfold paronymref01_Compare.f
  simpa using this
theorem refSame_ev (l m : List Int) (hl : l.length ≤ 1099511627776) (hm : m.length ≤ 1099511627776) : Ev (fun k => paronymref01_Same.f k l m) (decide (l = m)) := by
  unfold paronymref01_Same.f
  refine Ev.bind (refCompare_ev l m hl hm) (Ev.ret ?_)
  rw [Bool.eq_iff_iff]
  simp [cmpL_zero]

end Go.Proofs.Ytlipbiihemhieaa.K

-- from Pord2
/- Layer 19 on lists: over, Skip, Next, First. -/
namespace Go.Proofs.Ytlipbiihemhieaa.K
set_option linter.unusedVariables false
set_option linter.unusedSimpArgs false
open Go.RowKit Go.Proofs.YtlipbiihemhieaaW.PrintWords Go.Proofs.YtlipbiihemhieaaW.PrintMore Go.Proofs.Ytlipbiihemhieaa.Q

/-! one of a list -/
theorem contains_ev2 {l : List Int} (hl : l.length ≤ 1099511627776) (x : Int) : Ev (fun k => slices_Contains_int_int.f k l x) (decide (x ∈ l)) := by
  have key : ∀ (d i : Nat), l.length - i = d → i ≤ l.length → (∀ a : Nat, a < i → rd l (a : Int) ≠ x) → ∃ r : Int, (r ≥ 0 ↔ x ∈ l) ∧ Ev (fun k => slices_Index_int_int.l0 k l x l.length i) r := by
    intro d
    induction d with
    | zero =>
      intro i h1 h2 h3
      refine ⟨-1, ⟨fun h => by omega, fun h => ?_⟩, Ev.step (fun k => rfl) (Ev.neg (by omega) (Ev.now _))⟩
      obtain ⟨a, ha, he⟩ := List.getElem_of_mem h
      exact absurd (by rw [rd_nat l a ha]; exact he) (h3 a (by omega))
    | succ d ih =>
      intro i h1 h2 h3
      have hi : i < l.length := by omega
      by_cases c : x = rd l (i : Int)
      · refine ⟨(i : Int), ⟨fun _ => ?_, fun _ => by omega⟩, Ev.step (fun k => rfl) (Ev.pos (by omega) (Ev.pos (by omega) (Ev.pos (by omega) (Ev.pos c (Ev.now _)))))⟩
        rw [c]; exact rd_mem (by omega) (by omega)
      · obtain ⟨r, hr, he⟩ := ih (i + 1) (by omega) (by omega) (fun a ha => by
          by_cases e : a = i
          · rw [e]; exact fun h => c h.symm
          · exact h3 a (by omega))
        refine ⟨r, hr, Ev.step (fun k => rfl) (Ev.pos (by omega) (Ev.pos (by omega) (Ev.pos (by omega) (Ev.neg c ?_))))⟩
        rw [w64 (by omega) (by omega)]
        exact he
  obtain ⟨r, hr, he⟩ := key l.length 0 (by omega) (by omega) (fun a ha => by omega)
  unfold slices_Contains_int_int.f slices_Index_int_int.f
  exact Ev.bind he (Ev.ret (decide_eq_decide.2 hr))
/-- A text over an alphabet. -/
def Over (l s : List Int) (n : Int) : Prop := riseTo l l.length ∧ 1 ≤ s.length ∧ (s.length : Int) ≤ n ∧ ∀ x ∈ s, x ∈ l
theorem over_ev {l s : List Int} {n : Int} (hl : l.length ≤ 1099511627776) (hs : s.length ≤ 1099511627776) : ∃ b : Bool, (b = true ↔ Over l s n) ∧ Ev (fun k => order_over.f k l s n) b := by
  have hst : ∀ x, Ev (fun k => order_over.strange k l x) (!decide (x ∈ l)) := fun x => by
    unfold order_over.strange
    exact Ev.bind (contains_ev2 hl x) (Ev.ret rfl)
  have key : ∀ (d i : Nat), s.length - i = d → i ≤ s.length → (∀ a : Nat, a < i → rd s (a : Int) ∈ l) → ∃ r : Int, (r ≥ 0 ↔ ¬ ∀ x ∈ s, x ∈ l) ∧ Ev (fun k => order_over.l0 k l s s.length i) r := by
    intro d
    induction d with
    | zero =>
      intro i h1 h2 h3
      refine ⟨-1, ⟨fun h => by omega, fun h => absurd (fun x hx => ?_) h⟩, Ev.step (fun k => rfl) (Ev.neg (by omega) (Ev.now _))⟩
      obtain ⟨a, ha, he⟩ := List.getElem_of_mem hx
      have := h3 a (by omega)
      rw [rd_nat s a ha, he] at this
      exact this
    | succ d ih =>
      intro i h1 h2 h3
      have hi : i < s.length := by omega
      by_cases c : rd s (i : Int) ∈ l
      · obtain ⟨r, hr, he⟩ := ih (i + 1) (by omega) (by omega) (fun a ha => by
          by_cases e : a = i
          · rw [e]; exact c
          · exact h3 a (by omega))
        refine ⟨r, hr, Ev.step (fun k => rfl) (Ev.pos (by omega) (Ev.pos (by omega) (Ev.pos (by omega) (Ev.bind (hst _) (Ev.neg (by simp [c]) ?_)))))⟩
        rw [w64 (by omega) (by omega)]
        exact he
      · refine ⟨(i : Int), ⟨fun _ h => c (h _ (rd_mem (by omega) (by omega))), fun _ => by omega⟩, Ev.step (fun k => rfl) (Ev.pos (by omega) (Ev.pos (by omega) (Ev.pos (by omega) (Ev.bind (hst _) (Ev.pos (by simp [c]) (Ev.now _))))))⟩
  obtain ⟨r, hr, he⟩ := key s.length 0 (by omega) (by omega) (fun a ha => by omega)
  obtain ⟨a, ha, hae⟩ := Alphabet_ev hl
  unfold order_over.f order_over.any
  refine ⟨a && (decide ((s.length : Int) ≥ 1) && (decide ((s.length : Int) ≤ n) && !decide (r ≥ 0))), ?_, Ev.bind (Ev.bind he (Ev.now _)) (Ev.bind hae (Ev.now _))⟩
  simp only [Bool.and_eq_true, Bool.not_eq_true', decide_eq_true_eq, decide_eq_false_iff_not, ha]
  unfold Over
  have hr' : ¬ r ≥ 0 ↔ ∀ x ∈ s, x ∈ l := by
    constructor
    · intro h
      apply Classical.byContradiction
      intro hn
      exact h (hr.2 hn)
    · intro h hn
      exact hr.1 hn h
  rw [hr']
  constructor
  · rintro ⟨h1, h2, h3, h4⟩
    exact ⟨h1, by omega, h3, h4⟩
  · rintro ⟨h1, h2, h3, h4⟩
    exact ⟨h1, by omega, h3, h4⟩

/-! where a number stands -/
theorem less_is (a b : Int) : cmp_Less_int.f a b = some (decide (a < b)) := by
  unfold cmp_Less_int.f cmp_isNaN_int.f
  have : (a != a) = false := by simp
  rw [this]
  rfl
theorem search_ev {l : List Int} (hl : l.length ≤ 1000000) (hr : riseTo l l.length) (i : Nat) (hi : i < l.length) : Ev (fun k => slices_BinarySearch_int_int.f k l (rd l (i : Int))) ((i : Int), true) := by
  have key : ∀ (d lo hi' : Nat), hi' - lo = d → lo ≤ i → i ≤ hi' → hi' ≤ l.length → Ev (fun k => slices_BinarySearch_int_int.l0 k l (rd l (i : Int)) l.length (lo : Int) (hi' : Int)) ((i : Int), true) := by
    intro d
    induction d using Nat.strongRecOn with
    | ind d ih =>
      intro lo hi' h1 h2 h3 h4
      by_cases c : lo < hi'
      · have eh : wrap64 ((IntKind.u64.wrap (wrap64 ((lo : Int) + (hi' : Int)))) / 2) = (((lo + hi') / 2 : Nat) : Int) := by
          rw [w64 (n := (lo : Int) + hi') (by omega) (by omega)]
          have : IntKind.u64.wrap ((lo : Int) + (hi' : Int)) = (lo : Int) + hi' := by
            simp only [IntKind.wrap, IntKind.bits, IntKind.signed]
            simp
            omega
          rw [this, w64 (by omega) (by omega)]
          omega
        have hm : (lo + hi') / 2 < hi' := by omega
        refine Ev.step (fun k => rfl) (Ev.pos (by omega) ?_)
        rw [eh]
        refine Ev.pos (by omega) (Ev.pos (by omega) (Ev.bindS (less_is _ _) ?_))
        by_cases c2 : rd l (((lo + hi') / 2 : Nat) : Int) < rd l (i : Int)
        · refine Ev.pos (decide_eq_true c2) ?_
          rw [w64 (n := (((lo + hi') / 2 : Nat) : Int) + 1) (by omega) (by omega)]
          have : (lo + hi') / 2 < i := by
            apply Classical.byContradiction
            intro hn
            by_cases e : i = (lo + hi') / 2
            · rw [e] at c2; omega
            · have := hr i ((lo + hi') / 2) (by omega) (by omega)
              omega
          exact ih (hi' - ((lo + hi') / 2 + 1)) (by omega) ((lo + hi') / 2 + 1) hi' rfl (by omega) h3 h4
        · refine Ev.neg (by simpa using c2) ?_
          have : i ≤ (lo + hi') / 2 := by
            apply Classical.byContradiction
            intro hn
            exact c2 (hr ((lo + hi') / 2) i (by omega) hi)
          exact ih ((lo + hi') / 2 - lo) (by omega) lo ((lo + hi') / 2) rfl h2 this (by omega)
      · have e1 : lo = i := by omega
        subst e1
        exact Ev.step (fun k => rfl) (Ev.neg (by omega) (Ev.pos (by omega) (Ev.pos (by omega) (Ev.pos (by omega) (Ev.pos rfl (Ev.now _))))))
  exact key l.length 0 l.length (by omega) (by omega) (by omega) (Nat.le_refl _)

/-! the first text that another one does not begin -/
def skipR (l : List Int) : List Int → Option (List Int)
  | [] => none
  | c :: r => if l.idxOf c + 1 < l.length then some ((rd l ((l.idxOf c + 1 : Nat) : Int) :: r).reverse) else skipR l r
def told : Option (List Int) → List Int × Bool
  | none => ([], false)
  | some t => (t, true)
theorem rd_idxOf {l : List Int} {c : Int} (h : c ∈ l) : l.idxOf c < l.length ∧ rd l ((l.idxOf c : Nat) : Int) = c := by
  have h1 := List.idxOf_lt_length_of_mem h
  refine ⟨h1, ?_⟩
  rw [rd_nat l _ h1]
  exact List.getElem_idxOf h1
theorem skip_ev {l : List Int} (hl : l.length ≤ 1000000) (hr : riseTo l l.length) : ∀ (r : List Int), r.length ≤ 1000000 → (∀ x ∈ r, x ∈ l) → Ev (fun k => order_Skip.l0 k l r.reverse) (told (skipR l r))
  | [], _, _ => Ev.step (fun k => rfl) (Ev.neg (by simp) (Ev.now _))
  | c :: r, hlen, hm => by
    rw [List.length_cons] at hlen
    have hc := rd_idxOf (hm c List.mem_cons_self)
    have hlr : ((c :: r).reverse.length : Int) = (r.length : Int) + 1 := by simp
    have e1 : wrap64 (((c :: r).reverse.length : Int) - 1) = (r.length : Int) := by rw [hlr, w64 (by omega) (by omega)]; omega
    have e2 : rd (c :: r).reverse (r.length : Int) = rd l ((l.idxOf c : Nat) : Int) := by
      rw [hc.2, List.reverse_cons, rd_append_right (by simp)]
      simp [rd]
    have hs := search_ev hl hr (l.idxOf c) hc.1
    have e3 : wrap64 (((l.idxOf c : Nat) : Int) + 1) = ((l.idxOf c + 1 : Nat) : Int) := w64 (by omega) (by omega)
    unfold skipR
    refine Ev.step (fun k => rfl) (Ev.pos (by rw [hlr]; omega) ?_)
    rw [e1]
    refine Ev.pos (by omega) (Ev.pos (by rw [hlr]; omega) ?_)
    rw [e2]
    refine Ev.bind hs ?_
    show Ev (fun k => if wrap64 (((l.idxOf c : Nat) : Int) + 1) < (l.length : Int) then (if 0 ≤ wrap64 (((l.idxOf c : Nat) : Int) + 1) then some ((c :: r).reverse.set (r.length : Int).toNat (rd l (wrap64 (((l.idxOf c : Nat) : Int) + 1))), true) else none) else (if (r.length : Int) ≤ ((c :: r).reverse.length : Int) then order_Skip.l0 k l ((c :: r).reverse.take (r.length : Int).toNat) else none)) _
    rw [e3]
    by_cases c1 : l.idxOf c + 1 < l.length
    · rw [if_pos c1]
      refine Ev.pos (by omega) (Ev.pos (by omega) (Ev.ret ?_))
      unfold told
      rw [Int.toNat_natCast, List.reverse_cons, List.reverse_cons]
      have : (r.reverse ++ [c]).set r.length (rd l ((l.idxOf c + 1 : Nat) : Int)) = r.reverse ++ [rd l ((l.idxOf c + 1 : Nat) : Int)] := by
        rw [List.set_append_right _ _ (by simp)]
        simp
      rw [this]
    · rw [if_neg c1]
      refine Ev.neg (by omega) (Ev.pos (by rw [hlr]; omega) ?_)
      have : (c :: r).reverse.take (r.length : Int).toNat = r.reverse := by
        rw [Int.toNat_natCast, List.reverse_cons, List.take_left' (by simp)]
      rw [this]
      exact skip_ev hl hr r (by omega) (fun x hx => hm x (List.mem_cons_of_mem _ hx))
theorem clone_is2 {s : List Int} (h : s.length ≤ 1000000) : slices_Clone_int_int.f s = some s := if_pos (by omega)
/-- Skip. -/
theorem Skip_ev {l s : List Int} {n : Int} (hl : l.length ≤ 1000000) (hs : s.length ≤ 1000000) : (Over l s n → Ev (fun k => order_Skip.f k l s n) (told (skipR l s.reverse))) ∧ (¬ Over l s n → Ev (fun k => order_Skip.f k l s n) ([], false)) := by
  obtain ⟨b, hb, he⟩ := over_ev (l := l) (s := s) (n := n) (by omega) (by omega)
  unfold order_Skip.f
  constructor
  · intro h
    have e : b = true := hb.2 h
    have := skip_ev hl h.1 s.reverse (by simpa using hs) (fun x hx => h.2.2.2 x (List.mem_reverse.1 hx))
    rw [List.reverse_reverse] at this
    exact Ev.bind he (Ev.pos e (Ev.bindS (clone_is2 hs) this))
  · intro h
    exact Ev.bind he (Ev.neg (fun e => h (hb.1 e)) (Ev.now _))
/-- What Next tells of a text over the alphabet. -/
def nextL (l s : List Int) (n : Int) : Option (List Int) := if (s.length : Int) < n then some (s ++ [rd l 0]) else skipR l s.reverse
theorem Next_ev {l s : List Int} {n : Int} (hl : l.length ≤ 1000000) (hs : s.length ≤ 1000000) : (Over l s n → Ev (fun k => order_Next.f k l s n) (told (nextL l s n))) ∧ (¬ Over l s n → Ev (fun k => order_Next.f k l s n) ([], false)) := by
  obtain ⟨b, hb, he⟩ := over_ev (l := l) (s := s) (n := n) (by omega) (by omega)
  unfold order_Next.f nextL
  constructor
  · intro h
    have e : b = true := hb.2 h
    refine Ev.bind he (Ev.pos e ?_)
    by_cases c : (s.length : Int) < n
    · rw [if_pos c]
      have hne : 0 < l.length := by
        have h1 := h.2.1
        cases s with
        | nil => simp at h1
        | cons x t => exact List.length_pos_of_mem (h.2.2.2 x List.mem_cons_self)
      exact Ev.pos c (Ev.bindS (clone_is2 hs) (Ev.pos (by omega) (Ev.bindS rfl (Ev.pos (by simp; omega) (Ev.ret rfl)))))
    · rw [if_neg c]
      exact Ev.neg c (Ev.bind ((Skip_ev hl hs).1 h) (Ev.ret rfl))
  · intro h
    exact Ev.bind he (Ev.neg (fun e => h (hb.1 e)) (Ev.now _))
theorem First_ev {l : List Int} {n : Int} (hl : l.length ≤ 1000000) : (1 ≤ l.length → riseTo l l.length → 1 ≤ n → Ev (fun k => order_First.f k l n) ([rd l 0], true)) ∧ ((l.length = 0 ∨ ¬ riseTo l l.length ∨ n < 1) → Ev (fun k => order_First.f k l n) ([], false)) := by
  obtain ⟨b, hb, he⟩ := Alphabet_ev (l := l) (by omega)
  unfold order_First.f
  constructor
  · intro h1 h2 h3
    exact Ev.neg (by omega) (Ev.bind he (Ev.pos (hb.2 h2) (Ev.neg (by omega) (Ev.pos (by omega) (Ev.ret rfl)))))
  · intro h
    by_cases z : (l.length : Int) = 0
    · exact Ev.pos z (Ev.now _)
    · refine Ev.neg z (Ev.bind he ?_)
      by_cases c : b = true
      · refine Ev.pos c (Ev.pos ?_ (Ev.now _))
        rcases h with h | h | h
        · omega
        · exact absurd (hb.1 c) h
        · exact h
      · exact Ev.neg c (Ev.now _)

end Go.Proofs.Ytlipbiihemhieaa.K

-- from Pord3
/- Layer 19: all texts, as a tree; what stands behind each. -/
namespace Go.Proofs.Ytlipbiihemhieaa.K
set_option linter.unusedVariables false
set_option linter.unusedSimpArgs false
open Go.RowKit Go.Proofs.YtlipbiihemhieaaW.PrintWords Go.Proofs.YtlipbiihemhieaaW.PrintMore Go.Proofs.Ytlipbiihemhieaa.Q

/-- All texts that begin so, longer by at most m. -/
def T (l : List Int) : Nat → List Int → List (List Int)
  | 0, _ => []
  | m + 1, b => l.flatMap fun c => (b ++ [c]) :: T l m (b ++ [c])
def cntT (L : Nat) : Nat → Nat
  | 0 => 0
  | m + 1 => L * (1 + cntT L m)
theorem T_len (l : List Int) : ∀ (m : Nat) (b : List Int), (T l m b).length = cntT l.length m
  | 0, _ => rfl
  | m + 1, b => by
    have h : ∀ u : List Int, (u.flatMap fun c => (b ++ [c]) :: T l m (b ++ [c])).length = u.length * (1 + cntT l.length m) := by
      intro u
      induction u with
      | nil => simp
      | cons c u ih =>
        rw [List.flatMap_cons, List.length_append, ih, List.length_cons, T_len l m, List.length_cons, Nat.add_mul]
        omega
    unfold T cntT
    exact h l
theorem T_mem (l : List Int) : ∀ (m : Nat) (b s : List Int), s ∈ T l m b ↔ ∃ r, s = b ++ r ∧ 1 ≤ r.length ∧ r.length ≤ m ∧ ∀ x ∈ r, x ∈ l
  | 0, b, s => by
    constructor
    · intro h; simp [T] at h
    · rintro ⟨r, _, h1, h2, _⟩; omega
  | m + 1, b, s => by
    unfold T
    rw [List.mem_flatMap]
    constructor
    · rintro ⟨c, hc, h⟩
      rcases List.mem_cons.1 h with h | h
      · exact ⟨[c], h, by simp, by simp, fun x hx => by rw [List.mem_singleton.1 hx]; exact hc⟩
      · obtain ⟨r, h1, h2, h3, h4⟩ := (T_mem l m _ s).1 h
        refine ⟨c :: r, by rw [h1]; simp, by simp, by simp; omega, fun x hx => ?_⟩
        rcases List.mem_cons.1 hx with hx | hx
        · rw [hx]; exact hc
        · exact h4 x hx
    · rintro ⟨r, h1, h2, h3, h4⟩
      match r, h1, h2, h3, h4 with
      | [c], h1, _, _, h4 => exact ⟨c, h4 c (by simp), by rw [h1]; simp⟩
      | c :: d :: r, h1, _, h3, h4 =>
        refine ⟨c, h4 c (by simp), List.mem_cons_of_mem _ ((T_mem l m _ s).2 ⟨d :: r, by rw [h1]; simp, by simp, by simp at h3 ⊢; omega, fun x hx => h4 x (List.mem_cons_of_mem _ hx)⟩)⟩
theorem idxOf_app {c : Int} : ∀ (u v : List Int), c ∉ u → (u ++ c :: v).idxOf c = u.length
  | [], v, _ => by simp
  | x :: u, v, h => by
    have hx : x ≠ c := fun e => h (by rw [e]; exact List.mem_cons_self)
    have ih := idxOf_app u v (fun hh => h (List.mem_cons_of_mem _ hh))
    rw [List.cons_append, List.idxOf_cons, ih, beq_false_of_ne hx]
    rfl
theorem rise_split {l u v : List Int} {c : Int} (h : riseTo l l.length) (e : l = u ++ c :: v) : c ∉ u ∧ c ∉ v ∧ l.idxOf c = u.length ∧ ∀ x ∈ u, x < c := by
  have hc : rd l ((u.length : Nat) : Int) = c := by
    rw [e, rd_append_right (by omega), Int.sub_self]; rfl
  have hlen : l.length = u.length + (v.length + 1) := by rw [e]; simp
  have h1 : ∀ x ∈ u, x < c := fun x hx => by
    obtain ⟨a, ha, he⟩ := List.getElem_of_mem hx
    have := h a u.length ha (by omega)
    rw [hc, e, rd_append_left (by omega) (by omega), rd_nat u a ha, he] at this
    exact this
  have h2 : ∀ x ∈ v, c < x := fun x hx => by
    obtain ⟨a, ha, he⟩ := List.getElem_of_mem hx
    have := h u.length (u.length + 1 + a) (by omega) (by omega)
    rw [hc, e] at this
    rw [rd_append_right (by omega)] at this
    have e2 : ((u.length + 1 + a : Nat) : Int) - (u.length : Int) = ((a + 1 : Nat) : Int) := by omega
    rw [e2, rd_nat (c :: v) (a + 1) (by simp; omega)] at this
    simp at this
    rw [he] at this
    exact this
  have hu : c ∉ u := fun hh => by have := h1 c hh; omega
  refine ⟨hu, fun hh => (by have := h2 c hh; omega), ?_, h1⟩
  rw [e]
  exact idxOf_app u v hu
theorem skipR_append (l : List Int) (c : Int) : ∀ u : List Int, skipR l (u ++ [c]) = match skipR l u with | some t => some (c :: t) | none => skipR l [c]
  | [] => by simp [skipR]
  | x :: u => by
    rw [List.cons_append, skipR, skipR]
    by_cases h : l.idxOf x + 1 < l.length
    · rw [if_pos h, if_pos h]
      simp
    · rw [if_neg h, if_neg h]
      exact skipR_append l c u
/-- Where a text of the tree stands, and what stands behind it. -/
theorem T_split {l : List Int} (hr : riseTo l l.length) : ∀ (m : Nat) (b r : List Int), 1 ≤ r.length → r.length ≤ m → (∀ x ∈ r, x ∈ l) →
    ∃ pre post, T l m b = pre ++ (b ++ r) :: (T l (m - r.length) (b ++ r) ++ post) ∧ b ++ r ∉ pre ∧ b ++ r ∉ post ∧ post.head? = (skipR l r.reverse).map (fun t => b ++ t)
  | 0, b, r, h1, h2, _ => by omega
  | m + 1, b, r, h1, h2, h3 => by
    match r, h1, h2, h3 with
    | c :: r, _, h2, h3 =>
      obtain ⟨u, v, e⟩ := List.append_of_mem (h3 c List.mem_cons_self)
      obtain ⟨hu, hv, hix, hlt⟩ := rise_split hr e
      have hT : T l (m + 1) b = (u.flatMap fun c => (b ++ [c]) :: T l m (b ++ [c])) ++ ((b ++ [c]) :: T l m (b ++ [c]) ++ (v.flatMap fun c => (b ++ [c]) :: T l m (b ++ [c]))) := by
        conv => lhs; unfold T
        have : ∀ f : Int → List (List Int), l.flatMap f = u.flatMap f ++ (f c ++ v.flatMap f) := fun f => by rw [e]; simp
        rw [this]
      have notin : ∀ (w : List Int), c ∉ w → ∀ t : List Int, b ++ c :: t ∉ w.flatMap fun c => (b ++ [c]) :: T l m (b ++ [c]) := fun w hw t hh => by
        obtain ⟨x, hx, hh⟩ := List.mem_flatMap.1 hh
        have hxc : x ≠ c := fun e => hw (e ▸ hx)
        rcases List.mem_cons.1 hh with hh | hh
        · have := List.append_cancel_left hh
          simp at this
          exact hxc this.1.symm
        · obtain ⟨r', h1, _⟩ := (T_mem l m _ _).1 hh
          rw [List.append_assoc] at h1
          have := List.append_cancel_left h1
          simp at this
          exact hxc this.1.symm
      have hsk1 : skipR l [c] = if v = [] then none else some [v.headD 0] := by
        unfold skipR skipR
        rw [hix]
        have hlen : l.length = u.length + (v.length + 1) := by rw [e]; simp
        cases v with
        | nil => rw [if_neg (by simp at hlen; omega), if_pos rfl]
        | cons y v =>
          rw [if_pos (by simp at hlen; omega), if_neg (by simp)]
          have : rd l ((u.length + 1 : Nat) : Int) = y := by
            rw [e, rd_append_right (by omega)]
            have e2 : ((u.length + 1 : Nat) : Int) - (u.length : Int) = 1 := by omega
            rw [e2]
            rfl
          rw [this]
          rfl
      have hvh : (v.flatMap fun c => (b ++ [c]) :: T l m (b ++ [c])).head? = (skipR l [c]).map (fun t => b ++ t) := by
        rw [hsk1]
        cases v with
        | nil => simp
        | cons y v => simp
      match r, h2, h3 with
      | [], _, _ =>
        refine ⟨_, _, hT, ?_, ?_, ?_⟩
        · exact notin u hu []
        · exact notin v hv []
        · exact hvh
      | d :: r, h2, h3 =>
        obtain ⟨pre, post, q1, q2, q3, q4⟩ := T_split hr m (b ++ [c]) (d :: r) (by simp) (by simp at h2 ⊢; omega) (fun x hx => h3 x (List.mem_cons_of_mem _ hx))
        have eb : b ++ [c] ++ d :: r = b ++ c :: d :: r := by simp
        rw [eb] at q1 q2 q3
        have em : m + 1 - (c :: d :: r).length = m - (d :: r).length := by simp
        refine ⟨(u.flatMap fun c => (b ++ [c]) :: T l m (b ++ [c])) ++ (b ++ [c]) :: pre, post ++ (v.flatMap fun c => (b ++ [c]) :: T l m (b ++ [c])), ?_, ?_, ?_, ?_⟩
        · rw [hT, q1, em]
          simp
        · intro hh
          rcases List.mem_append.1 hh with hh | hh
          · exact notin u hu _ hh
          · rcases List.mem_cons.1 hh with hh | hh
            · have := List.append_cancel_left hh
              simp at this
            · exact q2 hh
        · intro hh
          rcases List.mem_append.1 hh with hh | hh
          · exact q3 hh
          · exact notin v hv _ hh
        · rw [List.head?_append, q4, hvh]
          have : (c :: d :: r).reverse = (d :: r).reverse ++ [c] := by simp
          rw [this, skipR_append]
          cases skipR l (d :: r).reverse with
          | none => simp
          | some t => simp

/-! what is skipped to -/
theorem skipR_spec {l : List Int} (hr : riseTo l l.length) : ∀ (r : List Int), (∀ x ∈ r, x ∈ l) → ∀ t, skipR l r = some t → ∃ (p : List Int) (x y : Int) (q : List Int), r.reverse = p ++ x :: q ∧ t = p ++ [y] ∧ x < y ∧ y ∈ l
  | [], _, t, h => by simp [skipR] at h
  | c :: r, hm, t, h => by
    unfold skipR at h
    have hc := rd_idxOf (hm c List.mem_cons_self)
    by_cases c1 : l.idxOf c + 1 < l.length
    · rw [if_pos c1] at h
      have h := Option.some.inj h
      refine ⟨r.reverse, c, rd l ((l.idxOf c + 1 : Nat) : Int), [], by simp, by rw [← h]; simp, ?_, rd_mem (by omega) (by omega)⟩
      have := hr (l.idxOf c) (l.idxOf c + 1) (by omega) c1
      rw [hc.2] at this
      exact this
    · rw [if_neg c1] at h
      obtain ⟨p, x, y, q, h1, h2, h3, h4⟩ := skipR_spec hr r (fun x hx => hm x (List.mem_cons_of_mem _ hx)) t h
      exact ⟨p, x, y, q ++ [c], by rw [List.reverse_cons, h1]; simp, h2, h3, h4⟩
theorem cmpL_prefix : ∀ (s : List Int) (x : Int) (t : List Int), cmpL s (s ++ x :: t) = -1
  | [], _, _ => rfl
  | y :: s, x, t => by
    rw [List.cons_append, cmpL, if_neg (by omega), if_neg (by omega)]
    exact cmpL_prefix s x t
theorem cmpL_at : ∀ (p : List Int) (x y : Int) (q t : List Int), x < y → cmpL (p ++ x :: q) (p ++ y :: t) = -1
  | [], x, y, q, t, h => by rw [List.nil_append, List.nil_append, cmpL, if_pos h]
  | z :: p, x, y, q, t, h => by
    rw [List.cons_append, List.cons_append, cmpL, if_neg (by omega), if_neg (by omega)]
    exact cmpL_at p x y q t h
/-- Next goes up. -/
theorem nextL_up {l s t : List Int} {n : Int} (hr : riseTo l l.length) (hm : ∀ x ∈ s, x ∈ l) (h : nextL l s n = some t) : cmpL s t = -1 := by
  unfold nextL at h
  by_cases c : (s.length : Int) < n
  · rw [if_pos c] at h
    rw [← Option.some.inj h]
    exact cmpL_prefix s _ []
  · rw [if_neg c] at h
    obtain ⟨p, x, y, q, h1, h2, h3, _⟩ := skipR_spec hr s.reverse (fun x hx => hm x (List.mem_reverse.1 hx)) t h
    rw [List.reverse_reverse] at h1
    rw [h1, h2]
    exact cmpL_at p x y q [] h3
theorem T_head (l : List Int) (m : Nat) (b : List Int) (h : 0 < l.length) : (T l (m + 1) b).head? = some (b ++ [rd l 0]) := by
  cases l with
  | nil => simp at h
  | cons c l => simp [T, rd]
/-- What stands behind a text over the alphabet is what Next tells. -/
theorem behind_next {l s : List Int} {n : Nat} (h : Over l s n) {post : List (List Int)} (hp : post.head? = (skipR l s.reverse).map (fun t => ([] : List Int) ++ t)) : (T l (n - s.length) s ++ post).head? = nextL l s n := by
  have hm : (Option.map (fun t => ([] : List Int) ++ t) (skipR l s.reverse)) = skipR l s.reverse := by simp
  rw [hm] at hp
  unfold nextL
  have hne : 0 < l.length := by
    have h1 := h.2.1
    cases s with
    | nil => simp at h1
    | cons x t => exact List.length_pos_of_mem (h.2.2.2 x List.mem_cons_self)
  have h2 := h.2.2.1
  by_cases c : (s.length : Int) < (n : Int)
  · rw [if_pos c]
    obtain ⟨m, hm⟩ : ∃ m, n - s.length = m + 1 := ⟨n - s.length - 1, by omega⟩
    rw [hm, List.head?_append, T_head l m s hne]
    rfl
  · rw [if_neg c]
    have : n - s.length = 0 := by omega
    rw [this]
    simpa [T] using hp
theorem T_over {l s : List Int} {n : Nat} (hr : riseTo l l.length) : s ∈ T l n [] ↔ Over l s n := by
  rw [T_mem]
  unfold Over
  constructor
  · rintro ⟨r, h1, h2, h3, h4⟩
    rw [List.nil_append] at h1
    subst h1
    exact ⟨hr, h2, by omega, h4⟩
  · rintro ⟨_, h2, h3, h4⟩
    exact ⟨s, rfl, h2, by omega, h4⟩
theorem split_uniq {α : Type} {s : α} {R : List α} : ∀ (p pre rest : List α), p ++ s :: rest = pre ++ s :: R → s ∉ pre → s ∉ R → p = pre ∧ rest = R
  | [], [], rest, h, _, _ => ⟨rfl, by simpa using h⟩
  | [], x :: pre, rest, h, h1, _ => by
    simp at h
    exact absurd (by rw [h.1]; exact List.mem_cons_self) h1
  | x :: p, [], rest, h, _, h2 => by
    simp at h
    exact absurd (by rw [← h.2]; simp) h2
  | x :: p, y :: pre, rest, h, h1, h2 => by
    simp only [List.cons_append, List.cons.injEq] at h
    obtain ⟨e1, e2⟩ := h
    obtain ⟨a, b⟩ := split_uniq p pre rest e2 (fun hh => h1 (List.mem_cons_of_mem _ hh)) h2
    exact ⟨by rw [e1, a], b⟩
/-- Wherever a text stands among all: what is behind it. -/
theorem T_at {l s : List Int} {n : Nat} {p rest : List (List Int)} (hr : riseTo l l.length) (h : T l n [] = p ++ s :: rest) : Over l s n ∧ rest.head? = nextL l s n := by
  have ho : Over l s n := (T_over hr).1 (by rw [h]; simp)
  obtain ⟨pre, post, q1, q2, q3, q4⟩ := T_split hr n [] s ho.2.1 (by have := ho.2.2.1; omega) ho.2.2.2
  rw [List.nil_append] at q1 q2 q3
  rw [h] at q1
  have hnot : s ∉ T l (n - s.length) s ++ post := fun hh => by
    rcases List.mem_append.1 hh with hh | hh
    · obtain ⟨r, e, h1, _⟩ := (T_mem l _ _ _).1 hh
      have := congrArg List.length e
      rw [List.length_append] at this
      omega
    · exact q3 hh
  obtain ⟨e1, e2⟩ := split_uniq p pre rest q1 q2 hnot
  exact ⟨ho, by rw [e2]; exact behind_next ho q4⟩

end Go.Proofs.Ytlipbiihemhieaa.K

-- from Qf5
-- Made by hp.py, a program of this session, with the kit's printer. Not trusted: Lean checks it.
namespace Go.Proofs.Ytlipbiihemhieaa.Q
open Go.RowKit Go.Proofs.YtlipbiihemhieaaW.PrintWords Go.Proofs.YtlipbiihemhieaaW.PrintLast Go.Proofs.YtlipbiihemhieaaW.PrintMore
attribute [local go_sem] max2_int min2_int max_two min_two max_three min_three max_four min_four   -- for this text's walks alone
set_option linter.unusedVariables false
set_option linter.unusedSimpArgs false

/-! ### paronymlaw19_OrderCounts: function 5 -/
mutual
def paronymlaw19_OrderCounts.j0 : Nat → List Int → Int → Int → Bool → Option (Bool)
  | 0, _, _, _, _ => none
  | k + 1, x0, x1, x2, x24 => if x24 = true then ((paronymlaw19_awake.f k).bind fun t102 => (some t102)) else (paronymlaw19_OrderCounts.l0 k x0 x1 x2 0 1 0)
def paronymlaw19_OrderCounts.l0 : Nat → List Int → Int → Int → Int → Int → Int → Option (Bool)
  | 0, _, _, _, _, _, _ => none
  | k + 1, x0, x1, x2, x7, x8, x9 => if x9 < x1 then (if x7 < x2 then (if (x0.length : Int) > 0 then ((paronymref19_Alphabet.f k x0).bind fun t103 => (if t103 = true then (paronymlaw19_OrderCounts.l0 k x0 x1 x2 (wrap64 (x7 + (mn (wrap64 (x8 * (x0.length : Int))) 2000000))) (mn (wrap64 (x8 * (x0.length : Int))) 2000000) (wrap64 (x9 + 1))) else ((order_Count.f k x0 x1 x2).bind fun t104 => (some (t104 == (mx 0 (mn x7 x2))))))) else ((order_Count.f k x0 x1 x2).bind fun t105 => (some (t105 == (mx 0 (mn x7 x2)))))) else ((order_Count.f k x0 x1 x2).bind fun t106 => (some (t106 == (mx 0 (mn x7 x2)))))) else ((order_Count.f k x0 x1 x2).bind fun t107 => (some (t107 == (mx 0 (mn x7 x2)))))
end
def paronymlaw19_OrderCounts.f (k : Nat) (l0 : List Int) (a1 : Int) (a2 : Int) : Option (Bool) := (paronymlaw19_awake.f k).bind fun t101 => (if t101 = true then (if (l0.length : Int) > 60 then (paronymlaw19_OrderCounts.j0 k l0 a1 a2 true) else (if a1 > 200 then (paronymlaw19_OrderCounts.j0 k l0 a1 a2 true) else (paronymlaw19_OrderCounts.j0 k l0 a1 a2 (decide (a2 > 1000000))))) else (paronymlaw19_OrderCounts.j0 k l0 a1 a2 true))
theorem paronymlaw19_OrderCounts.mono_l : ∀ k, (∀ y0 y1 y2 y3, LeO (paronymlaw19_OrderCounts.j0 k y0 y1 y2 y3) (paronymlaw19_OrderCounts.j0 (k + 1) y0 y1 y2 y3)) ∧ (∀ y0 y1 y2 y3 y4 y5, LeO (paronymlaw19_OrderCounts.l0 k y0 y1 y2 y3 y4 y5) (paronymlaw19_OrderCounts.l0 (k + 1) y0 y1 y2 y3 y4 y5))
  | 0 => ⟨fun _ _ _ _ r h => by simp [paronymlaw19_OrderCounts.j0] at h, fun _ _ _ _ _ _ r h => by simp [paronymlaw19_OrderCounts.l0] at h⟩
  | k + 1 => by
    obtain ⟨ih0, ih1⟩ := paronymlaw19_OrderCounts.mono_l k
    refine ⟨?_, ?_⟩
    · intro y0 y1 y2 y3
      unfold paronymlaw19_OrderCounts.j0
      repeat' first
      | (with_reducible exact ih0 _ _ _ _)
      | (with_reducible exact ih1 _ _ _ _ _ _)
      | (with_reducible exact order_Count.mono _ _ _ _)
      | (with_reducible exact paronymlaw19_awake.mono _)
      | (with_reducible exact paronymref19_Alphabet.mono _ _)
      | (with_reducible exact LeO.refl _)
      | (with_reducible exact LeO.none _)
      | (with_reducible refine LeO.ite ?_ ?_)
      | (with_reducible refine LeO.bind ?_ (fun _ => ?_))
      | exact ih0 _ _ _ _
      | exact ih1 _ _ _ _ _ _
      | exact order_Count.mono _ _ _ _
      | exact paronymlaw19_awake.mono _
      | exact paronymref19_Alphabet.mono _ _
      | exact LeO.none _
      | refine LeO.ite ?_ ?_
      | refine LeO.bind ?_ (fun _ => ?_)
    · intro y0 y1 y2 y3 y4 y5
      unfold paronymlaw19_OrderCounts.l0
      repeat' first
      | (with_reducible exact ih0 _ _ _ _)
      | (with_reducible exact ih1 _ _ _ _ _ _)
      | (with_reducible exact order_Count.mono _ _ _ _)
      | (with_reducible exact paronymlaw19_awake.mono _)
      | (with_reducible exact paronymref19_Alphabet.mono _ _)
      | (with_reducible exact LeO.refl _)
      | (with_reducible exact LeO.none _)
      | (with_reducible refine LeO.ite ?_ ?_)
      | (with_reducible refine LeO.bind ?_ (fun _ => ?_))
      | exact ih0 _ _ _ _
      | exact ih1 _ _ _ _ _ _
      | exact order_Count.mono _ _ _ _
      | exact paronymlaw19_awake.mono _
      | exact paronymref19_Alphabet.mono _ _
      | exact LeO.none _
      | refine LeO.ite ?_ ?_
      | refine LeO.bind ?_ (fun _ => ?_)
theorem paronymlaw19_OrderCounts.mono : ∀ a0 a1 a2 k, LeO (paronymlaw19_OrderCounts.f k a0 a1 a2) (paronymlaw19_OrderCounts.f (k + 1) a0 a1 a2) := by
  intro a0 a1 a2 k
  obtain ⟨ih0, ih1⟩ := paronymlaw19_OrderCounts.mono_l k
  unfold paronymlaw19_OrderCounts.f
  repeat' first
      | (with_reducible exact ih0 _ _ _ _)
      | (with_reducible exact ih1 _ _ _ _ _ _)
      | (with_reducible exact order_Count.mono _ _ _ _)
      | (with_reducible exact paronymlaw19_awake.mono _)
      | (with_reducible exact paronymref19_Alphabet.mono _ _)
      | (with_reducible exact LeO.refl _)
      | (with_reducible exact LeO.none _)
      | (with_reducible refine LeO.ite ?_ ?_)
      | (with_reducible refine LeO.bind ?_ (fun _ => ?_))
      | exact ih0 _ _ _ _
      | exact ih1 _ _ _ _ _ _
      | exact order_Count.mono _ _ _ _
      | exact paronymlaw19_awake.mono _
      | exact paronymref19_Alphabet.mono _ _
      | exact LeO.none _
      | refine LeO.ite ?_ ?_
      | refine LeO.bind ?_ (fun _ => ?_)
set_option maxHeartbeats 8000000 in
set_option maxRecDepth 100000 in
theorem paronymlaw19_OrderCounts.calls (k : Nat) (A0 : Option Addr) (c0 : Nat) (l0 : List Int) (a1 : Int) (a2 : Int) (r : Bool) (w : World) (hr0 : Kd.C (Kd.int .i64) w A0 l0.length l0) (hc0 : l0.length ≤ c0) (h : paronymlaw19_OrderCounts.f k l0 a1 a2 = some r) :
    Calls Try.prog 5 #[.slice A0 l0.length c0, .int .i64 a1, .int .i64 a2] w fun e w' => e = .returned (.bool r) ∧ Below w.heap.size w w' := by
  have HR0 := Aside0.mk hr0
  have HC0 := Aside0.mk hc0
  clear hr0 hc0
  have HB := Aside0.mk (Below.refl w.heap.size w)
  have H : ((paronymlaw19_awake.f k).bind fun t101 => (if t101 = true then (if (l0.length : Int) > 60 then (paronymlaw19_OrderCounts.j0 k l0 a1 a2 true) else (if a1 > 200 then (paronymlaw19_OrderCounts.j0 k l0 a1 a2 true) else (paronymlaw19_OrderCounts.j0 k l0 a1 a2 (decide (a2 > 1000000))))) else (paronymlaw19_OrderCounts.j0 k l0 a1 a2 true))) = some r := h
  clear h
  have HC4 := Aside0.mk H
  clear H
  go_enter Try.func5, Try.ntmps5
  go_upto_region 1 with (fail)
  go_cut [24] (fun v24 wc => ∃ (kq : Nat) (x24_3 : Bool), v24 = .bool x24_3 ∧ Aside0 (paronymlaw19_OrderCounts.j0 kq l0 a1 a2 x24_3 = some r) ∧ Aside0 (kq ≤ k) ∧ Aside0 (Below w.heap.size w wc))
  case first =>
    have H := HC4.out
    clear HC4
    replace H := Option.bind_eq_some_iff.mp H
    obtain ⟨t101, A50, H⟩ := H
    replace H : (if t101 = true then (if (l0.length : Int) > 60 then (paronymlaw19_OrderCounts.j0 k l0 a1 a2 true) else (if a1 > 200 then (paronymlaw19_OrderCounts.j0 k l0 a1 a2 true) else (paronymlaw19_OrderCounts.j0 k l0 a1 a2 (decide (a2 > 1000000))))) else (paronymlaw19_OrderCounts.j0 k l0 a1 a2 true)) = some r := H
    have A5 := Aside0.mk A50
    clear A50
    by_cases c6 : t101 = true
    · subst c6
      have H1 : (if (l0.length : Int) > 60 then (paronymlaw19_OrderCounts.j0 k l0 a1 a2 true) else (if a1 > 200 then (paronymlaw19_OrderCounts.j0 k l0 a1 a2 true) else (paronymlaw19_OrderCounts.j0 k l0 a1 a2 (decide (a2 > 1000000))))) = some r := by rw [if_pos rfl] at H; exact H
      clear H
      have H := H1
      clear H1
      by_cases c7 : (l0.length : Int) > 60
      · rw [if_pos c7] at H
        have c7b0 : decide (60 < (l0.length : Int)) = true := decide_eq_true c7
        have c7b1 : decide (60 < l0.length) = true := decide_eq_true (by omega)
        clear c7
        (first | rw [c7b0] | (simp only [i64_w, i32_w]; rw [c7b0]) | rw [c7b1] | (simp only [i64_w, i32_w]; rw [c7b1]) | skip)
        have H' := Aside0.mk H
        clear H
        go_wp2_with (first | ((with_reducible refine gate_callee (f := 14) rfl ?_); refine goesL_ (some 10) rfl rfl Try.func14 (by kernel_rfl) rfl #[] rfl (by (try simp only [List.map_toArray, List.map_cons, List.map_nil]); first | done | rfl | (simp only [List.length_drop, List.length_take]; rfl)) ?_; (with_reducible refine (paronymlaw19_awake.calls k  true _ A5.out).mono ?_); rintro e w8 ⟨rfl, hb⟩; refine ⟨_, rfl, ?_⟩; have n0_ := Aside0.mk (below_step (by repeat (first | (with_reducible first | exact HB.out | apply below_alloc | apply pw_below_drewN | apply below_drew1) | exact HB.out)) hb); clear HB; have HB := n0_; clear n0_; (try clear hb); (try clear hb2); (try clear hk); (try clear hi)))
        go_meet
        case rel => exact ⟨_, (true), (by first | rfl | (simp; done) | (simp [*]; done)), H', ⟨by first | omega | exact Nat.le_refl _⟩, ⟨by repeat (first | (with_reducible first | exact HB.out | apply below_alloc | apply pw_below_drewN | apply below_drew1) | exact HB.out)⟩⟩
      · rw [if_neg c7] at H
        have c7b0 : decide (60 < (l0.length : Int)) = false := decide_eq_false c7
        have c7b1 : decide (60 < l0.length) = false := decide_eq_false (by omega)
        clear c7
        (first | rw [c7b0] | (simp only [i64_w, i32_w]; rw [c7b0]) | rw [c7b1] | (simp only [i64_w, i32_w]; rw [c7b1]) | skip)
        by_cases c9 : a1 > 200
        · rw [if_pos c9] at H
          have c9b0 : decide (200 < a1) = true := decide_eq_true c9
          clear c9
          have H' := Aside0.mk H
          clear H
          go_wp2_with (first | ((with_reducible refine gate_callee (f := 14) rfl ?_); refine goesL_ (some 10) rfl rfl Try.func14 (by kernel_rfl) rfl #[] rfl (by (try simp only [List.map_toArray, List.map_cons, List.map_nil]); first | done | rfl | (simp only [List.length_drop, List.length_take]; rfl)) ?_; (with_reducible refine (paronymlaw19_awake.calls k  true _ A5.out).mono ?_); rintro e w10 ⟨rfl, hb⟩; refine ⟨_, rfl, ?_⟩; have n0_ := Aside0.mk (below_step (by repeat (first | (with_reducible first | exact HB.out | apply below_alloc | apply pw_below_drewN | apply below_drew1) | exact HB.out)) hb); clear HB; have HB := n0_; clear n0_; (try clear hb); (try clear hb2); (try clear hk); (try clear hi)))
          go_meet
          case rel => exact ⟨_, (true), (by first | rfl | (simp; done) | (simp [*]; done)), H', ⟨by first | omega | exact Nat.le_refl _⟩, ⟨by repeat (first | (with_reducible first | exact HB.out | apply below_alloc | apply pw_below_drewN | apply below_drew1) | exact HB.out)⟩⟩
        · rw [if_neg c9] at H
          have c9b0 : decide (200 < a1) = false := decide_eq_false c9
          clear c9
          have H' := Aside0.mk H
          clear H
          go_wp2_with (first | ((with_reducible refine gate_callee (f := 14) rfl ?_); refine goesL_ (some 10) rfl rfl Try.func14 (by kernel_rfl) rfl #[] rfl (by (try simp only [List.map_toArray, List.map_cons, List.map_nil]); first | done | rfl | (simp only [List.length_drop, List.length_take]; rfl)) ?_; (with_reducible refine (paronymlaw19_awake.calls k  true _ A5.out).mono ?_); rintro e w11 ⟨rfl, hb⟩; refine ⟨_, rfl, ?_⟩; have n0_ := Aside0.mk (below_step (by repeat (first | (with_reducible first | exact HB.out | apply below_alloc | apply pw_below_drewN | apply below_drew1) | exact HB.out)) hb); clear HB; have HB := n0_; clear n0_; (try clear hb); (try clear hb2); (try clear hk); (try clear hi)))
          go_meet
          case rel => exact ⟨_, (decide (a2 > 1000000)), (by first | rfl | (simp; done) | (simp [*]; done)), H', ⟨by first | omega | exact Nat.le_refl _⟩, ⟨by repeat (first | (with_reducible first | exact HB.out | apply below_alloc | apply pw_below_drewN | apply below_drew1) | exact HB.out)⟩⟩
    · replace c6 := Bool.eq_false_iff.mpr c6
      subst c6
      have H1 : (paronymlaw19_OrderCounts.j0 k l0 a1 a2 true) = some r := by rw [if_neg (show ¬ (false = true) by decide)] at H; exact H
      clear H
      have H := H1
      clear H1
      have H' := Aside0.mk H
      clear H
      go_wp2_with (first | ((with_reducible refine gate_callee (f := 14) rfl ?_); refine goesL_ (some 10) rfl rfl Try.func14 (by kernel_rfl) rfl #[] rfl (by (try simp only [List.map_toArray, List.map_cons, List.map_nil]); first | done | rfl | (simp only [List.length_drop, List.length_take]; rfl)) ?_; (with_reducible refine (paronymlaw19_awake.calls k  false _ A5.out).mono ?_); rintro e w12 ⟨rfl, hb⟩; refine ⟨_, rfl, ?_⟩; have n0_ := Aside0.mk (below_step (by repeat (first | (with_reducible first | exact HB.out | apply below_alloc | apply pw_below_drewN | apply below_drew1) | exact HB.out)) hb); clear HB; have HB := n0_; clear n0_; (try clear hb); (try clear hb2); (try clear hk); (try clear hi)))
      go_meet
      case rel => exact ⟨_, (true), (by first | rfl | (simp; done) | (simp [*]; done)), H', ⟨by first | omega | exact Nat.le_refl _⟩, ⟨by repeat (first | (with_reducible first | exact HB.out | apply below_alloc | apply pw_below_drewN | apply below_drew1) | exact HB.out)⟩⟩
  case rest =>
    clear HC4
    try clear c1
    try clear p2
    try clear c5
    try clear c6
    try clear c7
    try clear c7b0
    try clear c7b1
    try clear c9
    try clear c9b0
    obtain ⟨kq, x24_3, rfl, HA, HJ3, HB⟩ := hcut
    cases kq with
    | zero => exact absurd HA.out (by simp [paronymlaw19_OrderCounts.j0])
    | succ kj3 =>
      have H := HA.out
      clear HA
      simp only [paronymlaw19_OrderCounts.j0] at H
      by_cases c13 : x24_3 = true
      · subst c13
        have H1 : ((paronymlaw19_awake.f kj3).bind fun t102 => (some t102)) = some r := by rw [if_pos rfl] at H; exact H
        clear H
        have H := H1
        clear H1
        replace H := Option.bind_eq_some_iff.mp H
        obtain ⟨t102, A140, H⟩ := H
        replace H : (some t102) = some r := H
        have A14 := Aside0.mk A140
        clear A140
        obtain rfl := Option.some.inj H
        go_wp2_with (first | ((with_reducible refine gate_callee (f := 14) rfl ?_); refine goesL_ (some 25) rfl rfl Try.func14 (by kernel_rfl) rfl #[] rfl (by (try simp only [List.map_toArray, List.map_cons, List.map_nil]); first | done | rfl | (simp only [List.length_drop, List.length_take]; rfl)) ?_; (with_reducible refine (paronymlaw19_awake.calls kj3  t102 _ A14.out).mono ?_); rintro e w15 ⟨rfl, hb⟩; refine ⟨_, rfl, ?_⟩; have n0_ := Aside0.mk (below_step (by repeat (first | (with_reducible first | exact HB.out | apply below_alloc | apply pw_below_drewN | apply below_drew1) | exact HB.out)) hb); clear HB; have HB := n0_; clear n0_; (try clear hb); (try clear hb2); (try clear hk); (try clear hi)))
        go_ret
        exact ⟨by first | rfl | (simp [errW_none, errW_some] <;> rfl) | (simp [*, errW_none, errW_some] <;> rfl), by repeat (first | (with_reducible first | exact HB.out | apply below_alloc | apply pw_below_drewN | apply below_drew1) | exact HB.out)⟩
      · replace c13 := Bool.eq_false_iff.mpr c13
        subst c13
        have H1 : (paronymlaw19_OrderCounts.l0 kj3 l0 a1 a2 0 1 0) = some r := by rw [if_neg (show ¬ (false = true) by decide)] at H; exact H
        clear H
        have H := H1
        clear H1
        have H' := Aside0.mk H
        clear H
        go_wp2
        go_loopg [7, 8, 9] kj3 (fun kq v7 v8 v9 w' => ∃ (x7_2 : Int) (x8_2 : Int) (x9_2 : Int), v7 = .int .i64 x7_2 ∧ v8 = .int .i64 x8_2 ∧ v9 = .int .i64 x9_2 ∧ Aside0 (paronymlaw19_OrderCounts.l0 kq l0 a1 a2 x7_2 x8_2 x9_2 = some r) ∧ Aside0 (kq ≤ kj3) ∧ Aside0 (Below w.heap.size w w'))
        case atStart => exact ⟨(0), (1), (0), (by first | rfl | (simp; done) | (simp [*]; done)), (by first | rfl | (simp; done) | (simp [*]; done)), (by first | rfl | (simp; done) | (simp [*]; done)), H', ⟨Nat.le_refl _⟩, ⟨by repeat (first | (with_reducible first | exact HB.out | apply below_alloc | apply pw_below_drewN | apply below_drew1) | exact HB.out)⟩⟩
        case round =>
          clear H'
          try clear c1
          try clear p2
          try clear c5
          try clear c6
          try clear c7
          try clear c7b0
          try clear c7b1
          try clear c9
          try clear c9b0
          try clear c13
          try clear c14
          try clear p2
          obtain ⟨x7_2, x8_2, x9_2, rfl, rfl, rfl, HA, HK2, HB⟩ := hrel
          cases gk with
          | zero => exact absurd HA.out (by simp [paronymlaw19_OrderCounts.l0])
          | succ k2 =>
            have H := HA.out
            clear HA
            simp only [paronymlaw19_OrderCounts.l0] at H
            by_cases c16 : x9_2 < a1
            · rw [if_pos c16] at H
              have c16b0 : decide (x9_2 < a1) = true := decide_eq_true c16
              clear c16
              by_cases c17 : x7_2 < a2
              · rw [if_pos c17] at H
                have c17b0 : decide (x7_2 < a2) = true := decide_eq_true c17
                clear c17
                by_cases c18 : (l0.length : Int) > 0
                · rw [if_pos c18] at H
                  have c18b0 : decide (0 < (l0.length : Int)) = true := decide_eq_true c18
                  have c18b1 : decide (0 < l0.length) = true := decide_eq_true (by omega)
                  clear c18
                  replace H := Option.bind_eq_some_iff.mp H
                  obtain ⟨t103, A190, H⟩ := H
                  replace H : (if t103 = true then (paronymlaw19_OrderCounts.l0 k2 l0 a1 a2 (wrap64 (x7_2 + (mn (wrap64 (x8_2 * (l0.length : Int))) 2000000))) (mn (wrap64 (x8_2 * (l0.length : Int))) 2000000) (wrap64 (x9_2 + 1))) else ((order_Count.f k2 l0 a1 a2).bind fun t104 => (some (t104 == (mx 0 (mn x7_2 a2)))))) = some r := H
                  have A19 := Aside0.mk A190
                  clear A190
                  by_cases c20 : t103 = true
                  · subst c20
                    have H1 : (paronymlaw19_OrderCounts.l0 k2 l0 a1 a2 (wrap64 (x7_2 + (mn (wrap64 (x8_2 * (l0.length : Int))) 2000000))) (mn (wrap64 (x8_2 * (l0.length : Int))) 2000000) (wrap64 (x9_2 + 1))) = some r := by rw [if_pos rfl] at H; exact H
                    clear H
                    have H := H1
                    clear H1
                    obtain ⟨ji21, hji21⟩ : ∃ j_ : Int, (mn (wrap64 (x8_2 * (l0.length : Int))) 2000000) = j_ := ⟨_, rfl⟩
                    replace H : (paronymlaw19_OrderCounts.l0 k2 l0 a1 a2 (wrap64 (x7_2 + (ji21))) ji21 (wrap64 (x9_2 + 1))) = some r := by first | (rw [hji21] at H; exact H) | (simp only [hji21] at H ⊢; exact H)
                    (try rw [hji21] at A19)
                    have hji21_ : (if 2000000 < (wrap64 (x8_2 * (l0.length : Int))) then 2000000 else (wrap64 (x8_2 * (l0.length : Int)))) = ji21 := hji21
                    have H' := Aside0.mk H
                    clear H
                    go_wp2_with (first | (go_at_call 15; (with_reducible refine (paronymref19_Alphabet.calls k2 _ _ l0 true _ ?side1 ?side2 A19.out).mono ?_); (case side1 => repeat (first | exact (Kd.C_below HR0.out HB.out) | (with_reducible refine Kd.C_alloc ?_ _) | (with_reducible refine Kd.C_drewN ?_ _) | (with_reducible refine Kd.C_drew ?_))); (case side2 => exact HC0.out); rintro e w' ⟨rfl, ⟨nd, rfl⟩⟩))
                    go_roundg k2
                    case measure => have := HJ3.out; have := HK2.out; omega
                    case rel => exact ⟨(wrap64 (x7_2 + (ji21))), (ji21), (wrap64 (x9_2 + 1)), (by first | rfl | (simp; done) | (simp only [← hji21] <;> (first | rfl | simp)) | (simp [*]; done)), (by first | rfl | (simp; done) | (simp only [← hji21] <;> (first | rfl | simp)) | (simp [*]; done)), (by first | rfl | (simp; done) | (simp [*]; done)), H', ⟨by have := HJ3.out; have := HK2.out; omega⟩, ⟨by repeat (first | (with_reducible first | exact HB.out | apply below_alloc | apply pw_below_drewN | apply below_drew1) | exact HB.out)⟩⟩
                  · replace c20 := Bool.eq_false_iff.mpr c20
                    subst c20
                    have H1 : ((order_Count.f k2 l0 a1 a2).bind fun t104 => (some (t104 == (mx 0 (mn x7_2 a2))))) = some r := by rw [if_neg (show ¬ (false = true) by decide)] at H; exact H
                    clear H
                    have H := H1
                    clear H1
                    replace H := Option.bind_eq_some_iff.mp H
                    obtain ⟨t104, A220, H⟩ := H
                    replace H : (some (t104 == (mx 0 (mn x7_2 a2)))) = some r := H
                    have A22 := Aside0.mk A220
                    clear A220
                    obtain ⟨ji23, hji23⟩ : ∃ j_ : Int, (mn x7_2 a2) = j_ := ⟨_, rfl⟩
                    replace H : (some (t104 == (mx 0 (ji23)))) = some r := by first | (rw [hji23] at H; exact H) | (simp only [hji23] at H ⊢; exact H)
                    (try rw [hji23] at A19)
                    (try rw [hji23] at A22)
                    have hji23_ : (if a2 < x7_2 then a2 else x7_2) = ji23 := hji23
                    obtain ⟨ji24, hji24⟩ : ∃ j_ : Int, (mx 0 (ji23)) = j_ := ⟨_, rfl⟩
                    replace H : (some (t104 == (ji24))) = some r := by first | (rw [hji24] at H; exact H) | (simp only [hji24] at H ⊢; exact H)
                    (try rw [hji24] at A19)
                    (try rw [hji24] at A22)
                    have hji24_ : (if 0 < (ji23) then (ji23) else 0) = ji24 := hji24
                    obtain rfl := Option.some.inj H
                    go_wp2_with (first | (go_at_call 15; (with_reducible refine (paronymref19_Alphabet.calls k2 _ _ l0 false _ ?side1 ?side2 A19.out).mono ?_); (case side1 => repeat (first | exact (Kd.C_below HR0.out HB.out) | (with_reducible refine Kd.C_alloc ?_ _) | (with_reducible refine Kd.C_drewN ?_ _) | (with_reducible refine Kd.C_drew ?_))); (case side2 => exact HC0.out); rintro e w' ⟨rfl, ⟨nd, rfl⟩⟩) | ((with_reducible refine gate_callee (f := 25) rfl ?_); refine goesL_ (some 56) rfl rfl Try.func25 (by kernel_rfl) rfl #[.slice A0 l0.length c0, .int .i64 a1, .int .i64 a2] rfl (by (try simp only [List.map_toArray, List.map_cons, List.map_nil]); first | done | rfl | (simp only [List.length_drop, List.length_take]; rfl)) ?_; (with_reducible refine (order_Count.calls k2 _ _ l0 a1 a2 t104 _ ?side1 ?side2 A22.out).mono ?_); (case side1 => repeat (first | exact (Kd.C_below HR0.out (by repeat (first | (with_reducible first | exact HB.out | apply below_alloc | apply pw_below_drewN | apply below_drew1) | exact HB.out))) | (with_reducible refine Kd.C_alloc ?_ _) | (with_reducible refine Kd.C_drewN ?_ _) | (with_reducible refine Kd.C_drew ?_))); (case side2 => exact HC0.out); rintro e w25 ⟨rfl, hb⟩; refine ⟨_, rfl, ?_⟩; have n0_ := Aside0.mk (below_step (by repeat (first | (with_reducible first | exact HB.out | apply below_alloc | apply pw_below_drewN | apply below_drew1) | exact HB.out)) hb); clear HB; have HB := n0_; clear n0_; (try clear hb); (try clear hb2); (try clear hk); (try clear hi)))
                    go_ret
                    exact ⟨by first | rfl | (simp [errW_none, errW_some] <;> rfl) | (simp only [← hji23, ← hji24]; first | rfl | (simp [errW_none, errW_some] <;> rfl)) | (simp [*, errW_none, errW_some] <;> rfl), by repeat (first | (with_reducible first | exact HB.out | apply below_alloc | apply pw_below_drewN | apply below_drew1) | exact HB.out)⟩
                · rw [if_neg c18] at H
                  have c18b0 : decide (0 < (l0.length : Int)) = false := decide_eq_false c18
                  have c18b1 : decide (0 < l0.length) = false := decide_eq_false (by omega)
                  clear c18
                  replace H := Option.bind_eq_some_iff.mp H
                  obtain ⟨t105, A260, H⟩ := H
                  replace H : (some (t105 == (mx 0 (mn x7_2 a2)))) = some r := H
                  have A26 := Aside0.mk A260
                  clear A260
                  obtain ⟨ji27, hji27⟩ : ∃ j_ : Int, (mn x7_2 a2) = j_ := ⟨_, rfl⟩
                  replace H : (some (t105 == (mx 0 (ji27)))) = some r := by first | (rw [hji27] at H; exact H) | (simp only [hji27] at H ⊢; exact H)
                  (try rw [hji27] at A26)
                  have hji27_ : (if a2 < x7_2 then a2 else x7_2) = ji27 := hji27
                  obtain ⟨ji28, hji28⟩ : ∃ j_ : Int, (mx 0 (ji27)) = j_ := ⟨_, rfl⟩
                  replace H : (some (t105 == (ji28))) = some r := by first | (rw [hji28] at H; exact H) | (simp only [hji28] at H ⊢; exact H)
                  (try rw [hji28] at A26)
                  have hji28_ : (if 0 < (ji27) then (ji27) else 0) = ji28 := hji28
                  obtain rfl := Option.some.inj H
                  go_wp2_with (first | ((with_reducible refine gate_callee (f := 25) rfl ?_); refine goesL_ (some 56) rfl rfl Try.func25 (by kernel_rfl) rfl #[.slice A0 l0.length c0, .int .i64 a1, .int .i64 a2] rfl (by (try simp only [List.map_toArray, List.map_cons, List.map_nil]); first | done | rfl | (simp only [List.length_drop, List.length_take]; rfl)) ?_; (with_reducible refine (order_Count.calls k2 _ _ l0 a1 a2 t105 _ ?side1 ?side2 A26.out).mono ?_); (case side1 => repeat (first | exact (Kd.C_below HR0.out HB.out) | (with_reducible refine Kd.C_alloc ?_ _) | (with_reducible refine Kd.C_drewN ?_ _) | (with_reducible refine Kd.C_drew ?_))); (case side2 => exact HC0.out); rintro e w29 ⟨rfl, hb⟩; refine ⟨_, rfl, ?_⟩; have n0_ := Aside0.mk (below_step (by repeat (first | (with_reducible first | exact HB.out | apply below_alloc | apply pw_below_drewN | apply below_drew1) | exact HB.out)) hb); clear HB; have HB := n0_; clear n0_; (try clear hb); (try clear hb2); (try clear hk); (try clear hi)))
                  go_ret
                  exact ⟨by first | rfl | (simp [errW_none, errW_some] <;> rfl) | (simp only [← hji27, ← hji28]; first | rfl | (simp [errW_none, errW_some] <;> rfl)) | (simp [*, errW_none, errW_some] <;> rfl), by repeat (first | (with_reducible first | exact HB.out | apply below_alloc | apply pw_below_drewN | apply below_drew1) | exact HB.out)⟩
              · rw [if_neg c17] at H
                have c17b0 : decide (x7_2 < a2) = false := decide_eq_false c17
                clear c17
                replace H := Option.bind_eq_some_iff.mp H
                obtain ⟨t106, A300, H⟩ := H
                replace H : (some (t106 == (mx 0 (mn x7_2 a2)))) = some r := H
                have A30 := Aside0.mk A300
                clear A300
                obtain ⟨ji31, hji31⟩ : ∃ j_ : Int, (mn x7_2 a2) = j_ := ⟨_, rfl⟩
                replace H : (some (t106 == (mx 0 (ji31)))) = some r := by first | (rw [hji31] at H; exact H) | (simp only [hji31] at H ⊢; exact H)
                (try rw [hji31] at A30)
                have hji31_ : (if a2 < x7_2 then a2 else x7_2) = ji31 := hji31
                obtain ⟨ji32, hji32⟩ : ∃ j_ : Int, (mx 0 (ji31)) = j_ := ⟨_, rfl⟩
                replace H : (some (t106 == (ji32))) = some r := by first | (rw [hji32] at H; exact H) | (simp only [hji32] at H ⊢; exact H)
                (try rw [hji32] at A30)
                have hji32_ : (if 0 < (ji31) then (ji31) else 0) = ji32 := hji32
                obtain rfl := Option.some.inj H
                go_wp2_with (first | ((with_reducible refine gate_callee (f := 25) rfl ?_); refine goesL_ (some 56) rfl rfl Try.func25 (by kernel_rfl) rfl #[.slice A0 l0.length c0, .int .i64 a1, .int .i64 a2] rfl (by (try simp only [List.map_toArray, List.map_cons, List.map_nil]); first | done | rfl | (simp only [List.length_drop, List.length_take]; rfl)) ?_; (with_reducible refine (order_Count.calls k2 _ _ l0 a1 a2 t106 _ ?side1 ?side2 A30.out).mono ?_); (case side1 => repeat (first | exact (Kd.C_below HR0.out HB.out) | (with_reducible refine Kd.C_alloc ?_ _) | (with_reducible refine Kd.C_drewN ?_ _) | (with_reducible refine Kd.C_drew ?_))); (case side2 => exact HC0.out); rintro e w33 ⟨rfl, hb⟩; refine ⟨_, rfl, ?_⟩; have n0_ := Aside0.mk (below_step (by repeat (first | (with_reducible first | exact HB.out | apply below_alloc | apply pw_below_drewN | apply below_drew1) | exact HB.out)) hb); clear HB; have HB := n0_; clear n0_; (try clear hb); (try clear hb2); (try clear hk); (try clear hi)))
                go_ret
                exact ⟨by first | rfl | (simp [errW_none, errW_some] <;> rfl) | (simp only [← hji31, ← hji32]; first | rfl | (simp [errW_none, errW_some] <;> rfl)) | (simp [*, errW_none, errW_some] <;> rfl), by repeat (first | (with_reducible first | exact HB.out | apply below_alloc | apply pw_below_drewN | apply below_drew1) | exact HB.out)⟩
            · rw [if_neg c16] at H
              have c16b0 : decide (x9_2 < a1) = false := decide_eq_false c16
              clear c16
              replace H := Option.bind_eq_some_iff.mp H
              obtain ⟨t107, A340, H⟩ := H
              replace H : (some (t107 == (mx 0 (mn x7_2 a2)))) = some r := H
              have A34 := Aside0.mk A340
              clear A340
              obtain ⟨ji35, hji35⟩ : ∃ j_ : Int, (mn x7_2 a2) = j_ := ⟨_, rfl⟩
              replace H : (some (t107 == (mx 0 (ji35)))) = some r := by first | (rw [hji35] at H; exact H) | (simp only [hji35] at H ⊢; exact H)
              (try rw [hji35] at A34)
              have hji35_ : (if a2 < x7_2 then a2 else x7_2) = ji35 := hji35
              obtain ⟨ji36, hji36⟩ : ∃ j_ : Int, (mx 0 (ji35)) = j_ := ⟨_, rfl⟩
              replace H : (some (t107 == (ji36))) = some r := by first | (rw [hji36] at H; exact H) | (simp only [hji36] at H ⊢; exact H)
              (try rw [hji36] at A34)
              have hji36_ : (if 0 < (ji35) then (ji35) else 0) = ji36 := hji36
              obtain rfl := Option.some.inj H
              go_wp2_with (first | ((with_reducible refine gate_callee (f := 25) rfl ?_); refine goesL_ (some 56) rfl rfl Try.func25 (by kernel_rfl) rfl #[.slice A0 l0.length c0, .int .i64 a1, .int .i64 a2] rfl (by (try simp only [List.map_toArray, List.map_cons, List.map_nil]); first | done | rfl | (simp only [List.length_drop, List.length_take]; rfl)) ?_; (with_reducible refine (order_Count.calls k2 _ _ l0 a1 a2 t107 _ ?side1 ?side2 A34.out).mono ?_); (case side1 => repeat (first | exact (Kd.C_below HR0.out HB.out) | (with_reducible refine Kd.C_alloc ?_ _) | (with_reducible refine Kd.C_drewN ?_ _) | (with_reducible refine Kd.C_drew ?_))); (case side2 => exact HC0.out); rintro e w37 ⟨rfl, hb⟩; refine ⟨_, rfl, ?_⟩; have n0_ := Aside0.mk (below_step (by repeat (first | (with_reducible first | exact HB.out | apply below_alloc | apply pw_below_drewN | apply below_drew1) | exact HB.out)) hb); clear HB; have HB := n0_; clear n0_; (try clear hb); (try clear hb2); (try clear hk); (try clear hi)))
              go_ret
              exact ⟨by first | rfl | (simp [errW_none, errW_some] <;> rfl) | (simp only [← hji35, ← hji36]; first | rfl | (simp [errW_none, errW_some] <;> rfl)) | (simp [*, errW_none, errW_some] <;> rfl), by repeat (first | (with_reducible first | exact HB.out | apply below_alloc | apply pw_below_drewN | apply below_drew1) | exact HB.out)⟩

/-- THE ONE PURE STATEMENT of paronymlaw19_OrderCounts: yours. -/
def paronymlaw19_OrderCounts.Pure : Prop := ∀ (l0 : List Int) (a1 : Int) (a2 : Int), l0.length ≤ maxLen → l0.length * 8 ≤ 140737488351232 → (∀ x ∈ l0, (Lit.int .i64 x).wf = true) → (Lit.int .i64 a1).wf = true → (Lit.int .i64 a2).wf = true → ∃ k, paronymlaw19_OrderCounts.f k l0 a1 a2 = some true
theorem paronymlaw19_OrderCounts.walk (P : paronymlaw19_OrderCounts.Pure) (a0 : Option Addr) (len0 cap0 : Nat) (z0 : List Int) (a1 : Int) (a2 : Int) (w : World) (w0 : (a0 = none ∧ len0 = 0 ∧ cap0 = 0 ∧ z0 = []) ∨ ∃ x, a0 = some x ∧ len0 ≤ cap0 ∧ cap0 ≤ maxLen ∧ z0.length = cap0 ∧ (∀ i, i < z0.length → w.cell? (x.add i) = some (.int .i64 (z0.getD i 0))) ∧ ∀ n ∈ z0, (Lit.int .i64 n).wf = true) (y0 : len0 * 8 ≤ 140737488351232) (w1 : (Lit.int .i64 a1).wf = true) (w2 : (Lit.int .i64 a2).wf = true) :
    Calls Try.prog 5 #[.slice a0 len0 cap0, .int .i64 a1, .int .i64 a2] w fun e w' => e = .returned (.bool true) ∧ Below w.heap.size w w' := by
  obtain ⟨l0, rfl, hr0, hm0, hw0, hc0⟩ := ReadsInt.ofRowC w0
  obtain ⟨k, h⟩ := P l0 a1 a2 hm0 y0 hw0 w1 w2
  refine (paronymlaw19_OrderCounts.calls k _ _ l0 a1 a2 true w (Kd.C_of_reads (d := (0 : Int)) (h1 := fun _ => rfl) hr0) hc0 h).mono ?_
  rintro e w' ⟨rfl, hd⟩
  exact ⟨rfl, hd⟩

end Go.Proofs.Ytlipbiihemhieaa.Q

-- from PureOrderCounts
/- OrderCounts: for every input. -/
namespace Go.Proofs.Ytlipbiihemhieaa.Pure
set_option linter.unusedVariables false
set_option linter.unusedSimpArgs false
open Go.RowKit Go.Proofs.Ytlipbiihemhieaa.Q Go.Proofs.YtlipbiihemhieaaW.PrintWords Go.Proofs.YtlipbiihemhieaaW.PrintLast Go.Proofs.Ytlipbiihemhieaa.K

/-- What Count tells from a round on. -/
def cl (L most : Int) : Nat → Int → Int → Int
  | 0, s, _ => s
  | d + 1, s, o => if s < most then (if o * L > most then most else cl L most d (s + (if most - s < o * L then most - s else o * L)) (o * L)) else s
theorem cl_top (L most : Int) : ∀ (d : Nat) (o : Int), cl L most d most o = most
  | 0, _ => rfl
  | d + 1, o => by rw [cl, if_neg (by omega)]
theorem count_ev {l : List Int} {n most : Int} (h0 : 1 ≤ l.length) (h1 : l.length ≤ 60) (hn : n ≤ 200) (hn0 : -9223372036854775808 ≤ n) (hm : most ≤ 1000000) : ∀ (d : Nat) (i : Int) (s o : Int), (n - i).toNat = d → 0 ≤ i → i ≤ 201 → 0 ≤ s → (s ≤ most ∨ s = 0) → 1 ≤ o → o ≤ 1000000 →
    Ev (fun k => order_Count.l0 k l n most s o i) (cl l.length most d s o) := by
  intro d
  induction d with
  | zero =>
    intro i s o hd hi0 hi1 hs0 hs1 ho0 ho1
    refine Ev.step (fun k => rfl) (Ev.neg (by omega) (Ev.step (fun k => rfl) ?_))
    exact Ev.now _
  | succ d ih =>
    intro i s o hd hi0 hi1 hs0 hs1 ho0 ho1
    have hin : i < n := by omega
    refine Ev.step (fun k => rfl) (Ev.pos hin ?_)
    rw [cl]
    by_cases c : s < most
    · rw [if_pos c, decide_eq_true c]
      have hL : (1 : Int) ≤ (l.length : Int) := by omega
      have hL2 : (l.length : Int) ≤ 60 := by omega
      have hp0 : 1 * 1 ≤ o * (l.length : Int) := Int.mul_le_mul ho0 hL (by omega) (by omega)
      have hp1 : o * (l.length : Int) ≤ 1000000 * 60 := Int.mul_le_mul ho1 hL2 (by omega) (by omega)
      have hq0 : 0 ≤ most / (l.length : Int) := Int.ediv_nonneg (by omega) (by omega)
      have hq1 : most / (l.length : Int) ≤ most := Int.ediv_le_self _ (by omega)
      have ed : wrap64 (Int.tdiv most (l.length : Int)) = most / (l.length : Int) := by rw [Int.tdiv_eq_ediv_of_nonneg (by omega), w64 (by omega) (by omega)]
      have hcmp : o > most / (l.length : Int) ↔ o * (l.length : Int) > most := Int.ediv_lt_iff_lt_mul (by omega)
      refine Ev.step (fun k => rfl) (Ev.neg (by omega) ?_)
      rw [ed]
      generalize o * (l.length : Int) = p at *
      by_cases c2 : p > most
      · rw [if_pos c2]
        exact Ev.pos (hcmp.2 c2) (Ev.now _)
      · rw [if_neg c2]
        refine Ev.neg (fun h => c2 (hcmp.1 h)) ?_
        have e1 : wrap64 (s + mn (wrap64 p) (wrap64 (most - s))) = s + (if most - s < p then most - s else p) := by
          rw [w64 (n := p) (by omega) (by omega), w64 (n := most - s) (by omega) (by omega)]
          unfold mn
          split <;> exact w64 (by omega) (by omega)
        rw [e1, w64 (n := p) (by omega) (by omega), w64 (n := i + 1) (by omega) (by omega)]
        exact ih (i + 1) _ p (by omega) (by omega) (by omega) (by split <;> omega) (by split <;> omega) (by omega) (by omega)
    · rw [if_neg c, decide_eq_false c]
      exact Ev.step (fun k => rfl) (Ev.now _)

theorem OrderCounts : paronymlaw19_OrderCounts.Pure := by
  intro l n most _ hl8 _ hnw hmw
  have hn := i64_of_wf hnw
  have hmo := i64_of_wf hmw
  apply Ev.rounds
  unfold paronymlaw19_OrderCounts.f
  refine Ev.bind (Ev.now true) (Ev.pos rfl ?_)
  have yes : Ev (fun k => paronymlaw19_OrderCounts.j0 k l n most true) true := Ev.step (fun k => rfl) (Ev.bind (Ev.now true) (Ev.now _))
  by_cases c1 : (l.length : Int) > 60
  · exact Ev.pos c1 yes
  refine Ev.neg c1 ?_
  by_cases c2 : n > 200
  · exact Ev.pos c2 yes
  refine Ev.neg c2 ?_
  by_cases c3 : most > 1000000
  · rw [decide_eq_true c3]; exact yes
  rw [decide_eq_false c3]
  refine Ev.step (fun k => rfl) ?_
  obtain ⟨al, _, ha, hra⟩ := alphabets_ev (l := l) (by omega)
  -- the end of the law's loop
  have fin : ∀ (C W : Int), Ev (fun k => order_Count.f k l n most) C → C = mx 0 (mn W most) → Ev (fun k => (order_Count.f k l n most).bind fun t => some (t == mx 0 (mn W most))) true := fun C W hC he => Ev.bind hC (Ev.ret (by rw [he]; simp))
  by_cases z : (l.length : Int) = 0
  · have hC : Ev (fun k => order_Count.f k l n most) 0 := by
      unfold order_Count.f
      exact Ev.pos z (Ev.step (fun k => rfl) (Ev.now _))
    have h0 : (0 : Int) = mx 0 (mn 0 most) := by unfold mx mn; split <;> split <;> omega
    refine Ev.step (fun k => rfl) ?_
    by_cases g1 : (0 : Int) < n
    · refine Ev.pos g1 ?_
      by_cases g2 : (0 : Int) < most
      · exact Ev.pos g2 (Ev.neg (by omega) (fin 0 0 hC h0))
      · exact Ev.neg g2 (fin 0 0 hC h0)
    · exact Ev.neg g1 (fin 0 0 hC h0)
  cases al with
  | false =>
    have hC : Ev (fun k => order_Count.f k l n most) 0 := by
      unfold order_Count.f
      exact Ev.neg z (Ev.bind ha (Ev.step (fun k => rfl) (Ev.now _)))
    have h0 : (0 : Int) = mx 0 (mn 0 most) := by unfold mx mn; split <;> split <;> omega
    refine Ev.step (fun k => rfl) ?_
    by_cases g1 : (0 : Int) < n
    · refine Ev.pos g1 ?_
      by_cases g2 : (0 : Int) < most
      · exact Ev.pos g2 (Ev.pos (by omega) (Ev.bind hra (Ev.neg (by simp) (fin 0 0 hC h0))))
      · exact Ev.neg g2 (fin 0 0 hC h0)
    · exact Ev.neg g1 (fin 0 0 hC h0)
  | true =>
    have hC : Ev (fun k => order_Count.f k l n most) (cl l.length most (n - 0).toNat 0 1) := by
      unfold order_Count.f
      refine Ev.neg z (Ev.bind ha (Ev.step (fun k => rfl) ?_))
      exact count_ev (by omega) (by omega) (by omega) (by omega) (by omega) _ 0 0 1 rfl (by omega) (by omega) (by omega) (by omega) (by omega) (by omega)
    obtain ⟨C, hCe⟩ : ∃ C, cl l.length most (n - 0).toNat 0 1 = C := ⟨_, rfl⟩
    rw [hCe] at hC
    have key : ∀ (d : Nat) (i : Int) (s o : Int), (n - i).toNat = d → 0 ≤ i → i ≤ 201 → 0 ≤ s → (s ≤ most ∨ s = 0) → 1 ≤ o → o ≤ 1000000 → cl l.length most d s o = C →
        Ev (fun k => paronymlaw19_OrderCounts.l0 k l n most s o i) true := by
      -- where the law's number is beyond the most
      have over : ∀ (i W o : Int), 0 ≤ most → most ≤ W → C = most → Ev (fun k => paronymlaw19_OrderCounts.l0 k l n most W o i) true := by
        intro i W o h0 h1 h2
        have he : C = mx 0 (mn W most) := by rw [h2]; unfold mx mn; split <;> split <;> omega
        refine Ev.step (fun k => rfl) ?_
        by_cases g1 : i < n
        · exact Ev.pos g1 (Ev.neg (by omega) (fin C W hC he))
        · exact Ev.neg g1 (fin C W hC he)
      intro d
      induction d with
      | zero =>
        intro i s o hd hi0 hi1 hs0 hs1 ho0 ho1 hcl
        rw [cl] at hcl
        refine Ev.step (fun k => rfl) (Ev.neg (by omega) (fin C s hC ?_))
        rw [← hcl]; unfold mx mn; split <;> split <;> omega
      | succ d ih =>
        intro i s o hd hi0 hi1 hs0 hs1 ho0 ho1 hcl
        have hin : i < n := by omega
        rw [cl] at hcl
        refine Ev.step (fun k => rfl) (Ev.pos hin ?_)
        by_cases c : s < most
        · rw [if_pos c] at hcl
          have hL : (1 : Int) ≤ (l.length : Int) := by omega
          have hL2 : (l.length : Int) ≤ 60 := by omega
          have hp0 : 1 * 1 ≤ o * (l.length : Int) := Int.mul_le_mul ho0 hL (by omega) (by omega)
          have hp1 : o * (l.length : Int) ≤ 1000000 * 60 := Int.mul_le_mul ho1 hL2 (by omega) (by omega)
          refine Ev.pos c (Ev.pos (by omega) (Ev.bind hra (Ev.pos rfl ?_)))
          generalize o * (l.length : Int) = p at *
          have em : mn (wrap64 p) 2000000 = if 2000000 < p then 2000000 else p := by
            rw [w64 (n := p) (by omega) (by omega)]; rfl
          rw [em, w64 (n := i + 1) (by omega) (by omega)]
          by_cases c4 : p > most
          · rw [if_pos c4] at hcl
            refine over _ _ _ (by omega) ?_ hcl.symm
            rw [w64 (by split <;> omega) (by split <;> omega)]
            split <;> omega
          · rw [if_neg c4] at hcl
            rw [if_neg (by omega), w64 (by omega) (by omega)]
            by_cases c5 : most - s < p
            · rw [if_pos c5] at hcl
              have e : s + (most - s) = most := by omega
              rw [e, cl_top] at hcl
              exact over _ _ _ (by omega) (by omega) hcl.symm
            · rw [if_neg c5] at hcl
              exact ih (i + 1) (s + p) p (by omega) (by omega) (by omega) (by omega) (by omega) (by omega) (by omega) hcl
        · rw [if_neg c] at hcl
          refine Ev.neg c (fin C s hC ?_)
          rw [← hcl]; unfold mx mn; split <;> split <;> omega
    exact key _ 0 0 1 rfl (by omega) (by omega) (by omega) (Or.inr rfl) (by omega) (by omega) hCe

end Go.Proofs.Ytlipbiihemhieaa.Pure

-- from PureOrderWalk
/- OrderWalk: for every input. -/
namespace Go.Proofs.Ytlipbiihemhieaa.Pure
set_option linter.unusedVariables false
set_option linter.unusedSimpArgs false
open Go.RowKit Go.Proofs.Ytlipbiihemhieaa.Q Go.Proofs.YtlipbiihemhieaaW.PrintWords Go.Proofs.YtlipbiihemhieaaW.PrintLast Go.Proofs.Ytlipbiihemhieaa.K

theorem cl_cnt : ∀ (L : Fin 5) (n : Fin 5), 1 ≤ L.val → cl (L.val : Int) 1000 ((n.val : Int) - 0).toNat 0 1 = (cntT L.val n.val : Int) := by decide +kernel
theorem cnt_le : ∀ (L : Fin 5) (n : Fin 5), cntT L.val n.val ≤ 340 := by decide +kernel
theorem OrderWalk : paronymlaw19_OrderWalk.Pure := by
  intro l a1 _ hl8 _ haw
  have ha := u8_of_wf haw
  apply Ev.rounds
  unfold paronymlaw19_OrderWalk.f
  refine Ev.bind (Ev.now true) (Ev.pos rfl ?_)
  by_cases c1 : (l.length : Int) > 4
  · rw [decide_eq_true c1]
    exact Ev.step (fun k => rfl) (Ev.bind (Ev.now true) (Ev.now _))
  rw [decide_eq_false c1]
  obtain ⟨n, hn, hn4⟩ : ∃ n : Nat, wrap64 (Int.tmod a1 5) = (n : Int) ∧ n ≤ 4 := by
    rw [Int.tmod_eq_emod_of_nonneg (by omega), w64 (by omega) (by omega)]
    exact ⟨(a1 % 5).toNat, by omega, by omega⟩
  suffices main : Ev (fun k => (order_First.f k l (n : Int)).bind fun bt103 => (paronymlaw19_OrderWalk.l0 k l (n : Int) bt103.1 bt103.2 0 0)) true by
    have main' : Ev (fun k => (order_First.f k l (wrap64 (Int.tmod a1 5))).bind fun bt103 => (paronymlaw19_OrderWalk.l0 k l (wrap64 (Int.tmod a1 5)) bt103.1 bt103.2 0 0)) true := by rw [hn]; exact main
    exact Ev.step (fun k => rfl) main'
  clear hn
  have hl : l.length ≤ 1000000 := by omega
  -- the end, where there is none
  by_cases good : 1 ≤ l.length ∧ riseTo l l.length ∧ 1 ≤ n
  · obtain ⟨g1, g2, g3⟩ := good
    have hF := (First_ev (l := l) (n := (n : Int)) hl).1 g1 g2 (by omega)
    have hcnt := cl_cnt ⟨l.length, by omega⟩ ⟨n, by omega⟩ g1
    have hcle := cnt_le ⟨l.length, by omega⟩ ⟨n, by omega⟩
    simp only at hcnt hcle
    have hX := T_len l n []
    have hC : Ev (fun k => order_Count.f k l n 1000) (cntT l.length n : Int) := by
      rw [← hcnt]
      unfold order_Count.f
      obtain ⟨b, hb, he⟩ := Alphabet_ev (l := l) (by omega)
      have hbt : b = true := hb.2 g2
      subst hbt
      refine Ev.neg (by omega) (Ev.bind he (Ev.step (fun k => rfl) ?_))
      exact count_ev (by omega) (by omega) (by omega) (by omega) (by omega) _ 0 0 1 rfl (by omega) (by omega) (by omega) (by omega) (by omega) (by omega)
    -- the single numbers
    have singles : ∀ (d i : Nat), l.length - i = d → i < l.length → ∀ all : Int, all ≠ 0 → Ev (fun k => paronymlaw19_OrderWalk.l1 k l n [rd l (i : Int)] true all i i) true := by
      have fin : ∀ all : Int, all ≠ 0 → Ev (fun k => paronymlaw19_OrderWalk.l1 k l n [] false all l.length l.length) true := by
        intro all h0
        refine Ev.step (fun k => rfl) ?_
        refine Ev.pos (by omega) (Ev.step (fun k => rfl) (Ev.neg h0 (Ev.ret ?_)))
        simp
      intro d
      induction d with
      | zero => intro i h1 h2; omega
      | succ d ih =>
        intro i h1 h2 all h0
        have ho : Over l [rd l (i : Int)] n := ⟨g2, by simp, by simp; omega, fun x hx => by rw [List.mem_singleton.1 hx]; exact rd_mem (by omega) (by omega)⟩
        have hs := (Skip_ev (l := l) (s := [rd l (i : Int)]) (n := (n : Int)) hl (by simp)).1 ho
        have hix : l.idxOf (rd l (i : Int)) = i := by
          have e : l = l.take i ++ rd l (i : Int) :: l.drop (i + 1) := by rw [← drop_cons l i h2, List.take_append_drop]
          have := (rise_split g2 e).2.2.1
          rw [this, List.length_take]; omega
        have hsk : skipR l [rd l (i : Int)].reverse = if i + 1 < l.length then some [rd l ((i + 1 : Nat) : Int)] else none := by
          simp only [List.reverse_singleton, skipR, hix]
        rw [hsk] at hs
        refine Ev.step (fun k => rfl) (Ev.pos (by omega) (Ev.step (fun k => rfl) (Ev.neg (by omega) (Ev.pos (by simp) (Ev.pos (by simp) (Ev.pos (by omega) (Ev.pos (by omega) (Ev.pos rfl (Ev.bind hs ?_)))))))))
        rw [show wrap64 ((i : Int) + 1) = ((i + 1 : Nat) : Int) from w64 (by omega) (by omega)]
        by_cases c : i + 1 < l.length
        · rw [if_pos c]
          exact ih (i + 1) (by omega) c all h0
        · rw [if_neg c]
          have : i + 1 = l.length := by omega
          rw [this]
          exact fin all h0
    -- step by step
    have walk : ∀ (rest p : List (List Int)) (s : List Int), T l n [] = p ++ s :: rest → ∀ q : Int, q = (p.length : Int) → Ev (fun k => paronymlaw19_OrderWalk.l0 k l n s true q q) true := by
      have fin : ∀ q : Int, q = (cntT l.length n : Int) → Ev (fun k => paronymlaw19_OrderWalk.l0 k l n [] false q q) true := by
        intro q hq
        refine Ev.step (fun k => rfl) (Ev.pos (by omega) (Ev.step (fun k => rfl) (Ev.bind hC ?_)))
        have : (q != (cntT l.length n : Int)) = false := by rw [hq]; simp
        rw [this]
        refine Ev.step (fun k => rfl) (Ev.bind hF ?_)
        have hpos : (cntT l.length n : Int) ≠ 0 := by
          cases n with
          | zero => omega
          | succ m =>
            unfold cntT
            have := Nat.mul_le_mul g1 (show 1 ≤ 1 + cntT l.length m by omega)
            omega
        exact singles l.length 0 (by omega) (by omega) _ (by rw [hq]; exact hpos)
      intro rest
      induction rest with
      | nil =>
        intro p s h q hq
        obtain ⟨ho, hb⟩ := T_at g2 h
        have hlenX := congrArg List.length h
        rw [hX] at hlenX
        simp only [List.length_append, List.length_cons, List.length_nil] at hlenX
        have hN := (Next_ev (l := l) (s := s) (n := (n : Int)) hl (by have := ho.2.2.1; omega)).1 ho
        rw [← hb] at hN
        refine Ev.step (fun k => rfl) (Ev.pos (by omega) (Ev.step (fun k => rfl) (Ev.bind hN ?_)))
        exact fin _ (by rw [w64 (by omega) (by omega)]; omega)
      | cons y rest ih =>
        intro p s h q hq
        obtain ⟨ho, hb⟩ := T_at g2 h
        have hlenX := congrArg List.length h
        rw [hX] at hlenX
        simp only [List.length_append, List.length_cons] at hlenX
        have h2 : T l n [] = (p ++ [s]) ++ y :: rest := by rw [h]; simp
        obtain ⟨hoy, _⟩ := T_at g2 h2
        have hN := (Next_ev (l := l) (s := s) (n := (n : Int)) hl (by have := ho.2.2.1; omega)).1 ho
        rw [← hb] at hN
        have hup := nextL_up (t := y) g2 ho.2.2.2 (by rw [← hb]; rfl)
        have hcm := refCompare_ev s y (by have := ho.2.2.1; omega) (by have := hoy.2.2.1; omega)
        rw [hup] at hcm
        refine Ev.step (fun k => rfl) (Ev.pos (by omega) (Ev.step (fun k => rfl) (Ev.bind hN ?_)))
        refine Ev.pos rfl (Ev.bind hcm (Ev.neg (by omega) ?_))
        exact ih (p ++ [s]) y h2 _ (by rw [w64 (by omega) (by omega), hq]; simp)
    refine Ev.bind hF ?_
    obtain ⟨m, hm⟩ : ∃ m, n = m + 1 := ⟨n - 1, by omega⟩
    have hh := T_head l m [] g1
    rw [← hm, List.nil_append] at hh
    obtain ⟨rest, hrest⟩ : ∃ rest, T l n [] = [rd l 0] :: rest := by
      cases hT : T l n [] with
      | nil => rw [hT] at hh; simp at hh
      | cons x r => rw [hT] at hh; simp at hh; exact ⟨r, by rw [hh]⟩
    exact walk rest [] [rd l 0] hrest 0 rfl
  · have hbad : l.length = 0 ∨ ¬ riseTo l l.length ∨ (n : Int) < 1 := by
      by_cases a : l.length = 0
      · exact .inl a
      · by_cases b : riseTo l l.length
        · exact .inr (.inr (by
            apply Classical.byContradiction
            intro hh
            exact good ⟨by omega, b, by omega⟩))
        · exact .inr (.inl b)
    have hF := (First_ev (l := l) (n := (n : Int)) hl).2 hbad
    have hC : Ev (fun k => order_Count.f k l n 1000) 0 := by
      unfold order_Count.f
      by_cases z : (l.length : Int) = 0
      · exact Ev.pos z (Ev.step (fun k => rfl) (Ev.now _))
      · obtain ⟨b, hb, he⟩ := Alphabet_ev (l := l) (by omega)
        refine Ev.neg z (Ev.bind he ?_)
        cases b with
        | false => exact Ev.step (fun k => rfl) (Ev.now _)
        | true =>
          have hr := hb.1 rfl
          have hn0 : n = 0 := by
            rcases hbad with h | h | h
            · omega
            · exact absurd hr h
            · omega
          have hce := count_ev (l := l) (n := (n : Int)) (most := 1000) (by omega) (by omega) (by omega) (by omega) (by omega) _ 0 0 1 rfl (by omega) (by omega) (by omega) (by omega) (by omega) (by omega)
          have e : cl l.length 1000 ((n : Int) - 0).toNat 0 1 = 0 := by rw [hn0]; rfl
          rw [e] at hce
          exact Ev.step (fun k => rfl) hce
    have stop1 : ∀ q r : Int, q = 0 → r = 0 → Ev (fun k => paronymlaw19_OrderWalk.l1 k l n [] false q r r) true := by
      intro q r hq hr
      exact Ev.step (fun k => rfl) (Ev.pos (by omega) (Ev.step (fun k => rfl) (Ev.pos hq (Ev.pos hr (Ev.now _)))))
    have stop : ∀ q : Int, q = 0 → Ev (fun k => paronymlaw19_OrderWalk.l0 k l n [] false q q) true := by
      intro q hq
      refine Ev.step (fun k => rfl) (Ev.pos (by omega) (Ev.step (fun k => rfl) (Ev.bind hC ?_)))
      have : (q != 0) = false := by rw [hq]; rfl
      rw [this]
      exact Ev.step (fun k => rfl) (Ev.bind hF (stop1 q 0 hq rfl))
    exact Ev.bind hF (stop 0 rfl)

end Go.Proofs.Ytlipbiihemhieaa.Pure

-- from LawOrderWalk
-- Made by hp.py, a program of this session, with the kit's printer. Not trusted: Lean checks it.
namespace Go.Proofs.Ytlipbiihemhieaa.orderWalk
open Go.ChangeShapes Go.WideShapes Go.ChangeAt Go.RowKit
open Go.ChangeMaps (open_string shut_string)
set_option linter.unusedVariables false
theorem own : ownKnob Try.prog.godebug = none := by kernel_rfl
theorem laidOut : laidOutB Try.prog = true := by kernel_rfl
def IsRow (k : IntKind) (w : World) (a : Option Addr) (len cap : Nat) (zs : List Int) : Prop :=
  (a = none ∧ len = 0 ∧ cap = 0 ∧ zs = []) ∨
  ∃ x, a = some x ∧ len ≤ cap ∧ cap ≤ maxLen ∧ zs.length = cap ∧ (∀ i, i < zs.length → w.cell? (x.add i) = some (.int k (zs.getD i 0))) ∧ ∀ n ∈ zs, (Lit.int k n).wf = true
set_option maxRecDepth 100000 in
theorem lifted (os : Os) (started : os.Started) (H : Type) (enc : TypeId × Value → H) :
    ReturnsInHanded {} Try.checked os 6 .any (Rows.orderWalkSpec.pre6 enc Try.prog Try.f6 Rows.orderWalkRow.domain false) (Rows.orderWalkSpec.post enc Try.prog Try.f6 false true false false) := by
  refine returnsInHanded_of_change_sized (C := Try.checked) own started (by kernel_rfl) Try.func6
    (ChangeSpec.witness6 (enc := enc) (C := Try.checked) false ⟨#[], #[.slice none 0 0, .int .u8 0], []⟩ 8 (by kernel_rfl) (by kernel_rfl) (by kernel_rfl) (by kernel_rfl)) ?_
  intro W base args ds gs before hval0 hW hcnd hsz0 _
  have hsz : (DataW.weightsEach Try.prog (Try.f6.params.toList ++ Rows.orderWalkSpec.plain.varTypes Try.prog) (ds ++ gs)).all (· ≤ reachBytes) = true := hsz0
  have hval : ∀ (j : Nat) t v, Try.f6.params[j]? = some t → args[j]? = some v → Value.okWide Try.prog W .any base t v := hval0
  have hW' := hW
  obtain ⟨p, q, hA0, hV, rfl, hfz, hnd⟩ := hW
  have hA : DataW.TrodAll enc Try.prog W 0 (fun _ => true) true Try.f6.params.toList args.toList ds p := hA0
  rw [Try.params6] at hA hval hsz
  obtain ⟨v0, vs0, d0, ds0, p0, q0, hargs, rfl, rfl, h0, r0⟩ := trodAll_cons hA
  obtain ⟨v1, vs1, d1, ds1, p1, q1, rfl, rfl, rfl, h1, r1⟩ := trodAll_cons r0
  obtain ⟨rfl, rfl, rfl⟩ := trodAll_nil r1
  obtain rfl : args = #[v0, v1] := by cases args; simp_all
  obtain ⟨rfl, rfl⟩ := trodVars_none hV
  obtain ⟨a0, len0, cap0, rfl⟩ := okWide_slice Try.underlying22 (hval 0 22 v0 rfl rfl)
  have k0 := h0
  have lt0 : ∀ x ∈ p0, x.block < W.heap.size := by obtain ⟨m, hm⟩ := k0; exact DataW.trod_lt m _ _ _ hm
  obtain ⟨z0, w0⟩ : ∃ zs, IsRow .i64 W a0 len0 cap0 zs := by
    obtain ⟨fuel, hf⟩ := h0
    rcases open_ints Try.underlying22 Try.underlying3 (by kernel_rfl) hf with ⟨hcs, _⟩ | ⟨x, l, c, zs, hcs, _, hl, hm, hz, _, hcell, hwz⟩
    · simp [Value.cells] at hcs
      obtain ⟨rfl, rfl, rfl⟩ := hcs
      exact ⟨[], .inl ⟨rfl, rfl, rfl, rfl⟩⟩
    · simp [Value.cells] at hcs
      obtain ⟨rfl, rfl, rfl⟩ := hcs
      exact ⟨zs, .inr ⟨_, rfl, hl, hm, by simpa using hz, hcell, hwz⟩⟩
  have y0 : len0 * 8 ≤ 140737488351232 := Go.Proofs.YtlipbiihemhieaaW.PrintWords.sized_ints hsz (j := 0) (t := 22) rfl rfl Try.underlying22 Try.underlying3 (by kernel_rfl) (by kernel_rfl) h0
  obtain ⟨a1, rfl, rfl, rfl, w1⟩ := open_int Try.underlying5 (hval 1 5 v1 rfl rfl) h1
  clear hA0 hval0 hsz0 hsz
  refine (Q.paronymlaw19_OrderWalk.walk Pure.OrderWalk a0 len0 cap0 z0 a1 W w0 y0 w1).mono fun e W' ⟨he, bel⟩ => ?_
  subst he
  exact ⟨_, rfl, _, _, _, [], _, [], hW', trodAll_mk1 (shut_bool Try.underlying4 _), (trodAll_cons_mk (Below.trod laidOut (by kernel_rfl) (of_decide_eq_true (by kernel_rfl)) k0 bel lt0) (trodAll_cons_mk (shut_int Try.underlying5 w1) trodAll_mk0)), rfl, bel.frame _, fun h => by cases h⟩
theorem over : Rows.orderWalkRow.holds Try.pinned (OpenSpec.ofChange Rows.orderWalkSpec) :=
  OpenClaim.holds_of_wide 6 Try.f6 rfl rfl rfl rfl rfl rfl rfl ⟨rfl, rfl, rfl, rfl, rfl⟩ rfl rfl rfl rfl rfl (by kernel_rfl) Try.func6 (by kernel_rfl)
    (of_decide_eq_true (by kernel_rfl)) (by unfold Func.isWrapper; first | (rw [if_pos (by decide +kernel)]; kernel_rfl) | (rw [if_neg (by decide +kernel)]; exact ⟨rfl, rfl⟩))
    (fun os started H enc _ => lifted os started H enc)
theorem proved : Rows.OrderWalkSaid := over
#print axioms proved
end Go.Proofs.Ytlipbiihemhieaa.orderWalk
namespace Go.Proofs.Ytlipbiihemhieaa
/-- The row, under a short name, for the claim. -/
theorem orderWalk_holds : Rows.OrderWalkSaid := orderWalk.proved
end Go.Proofs.Ytlipbiihemhieaa
