/- Part 3 of 3 of the proof of SpanPoints: Points tells all code points of a value, rising, however early who asks leaves off. For every input; no condition. -/
import Derived.Test.YtlipbiihemhieaaCSpanPoints1
import Derived.Test.YtlipbiihemhieaaCSpanPoints2
import Derived.WalkKit
import Derived.ProofKit
import Derived.OpenShut
import Derived.ShutString
import Derived.LaidMore
import Derived.ChangeOld
import Derived.DataElems
import Derived.Deep.Strs
import Derived.Sort.LoopGhostIn
import Derived.WalkMore
import Derived.Deep.RegionHeld3
import Derived.IntWalk
import Derived.Test.YtlipbiihemhieaaRows
import Derived.Below
import Derived.SizedLaws
import Derived.Test.YtlipbiihemhieaaWSized

-- from Qf66
-- Made by hp.py, a program of this session, with the kit's printer. Not trusted: Lean checks it.
namespace Go.Proofs.Ytlipbiihemhieaa.Q
open Go.RowKit Go.Proofs.YtlipbiihemhieaaW.PrintWords Go.Proofs.YtlipbiihemhieaaW.PrintLast Go.Proofs.YtlipbiihemhieaaW.PrintMore
attribute [local go_sem] max2_int min2_int max_two min_two max_three min_three max_four min_four   -- for this text's walks alone
set_option linter.unusedVariables false
set_option linter.unusedSimpArgs false

/-! ### paronymref03_Sorted: function 66 -/
mutual
def paronymref03_Sorted.l0 : Nat → List (S53) → List (S53) → Int → Option ((List (S53)))
  | 0, _, _, _ => none
  | k + 1, x0, x3, x4 => if x4 < (x0.length : Int) then (paronymref03_Sorted.l1 k x0 x3 x4 (x3.length : Int)) else (some x3)
def paronymref03_Sorted.l1 : Nat → List (S53) → List (S53) → Int → Int → Option ((List (S53)))
  | 0, _, _, _, _ => none
  | k + 1, x0, x3, x4, x5 => if x5 > 0 then (if 0 ≤ (wrap64 (x5 - 1)) then (if (wrap64 (x5 - 1)) < (x3.length : Int) then (if 0 ≤ x4 then (if x4 < (x0.length : Int) then (if ((rd_T53 x3 (wrap64 (x5 - 1))).f0) > ((rd_T53 x0 x4).f0) then (paronymref03_Sorted.l1 k x0 x3 x4 (wrap64 (x5 - 1))) else (if 0 ≤ x5 then (if x5 ≤ (x3.length : Int) then ((some (x3.take (x5 : Int).toNat : List (S53))).bind fun y103 => (if ([] : List (S53)).length + y103.length < 4398046511104 then ((some (([] : List (S53)) ++ y103 : List (S53))).bind fun y107 => (if y107.length < 4398046511104 then ((some (y107 ++ [(⟨(rd_T53 x0 x4).f0, (rd_T53 x0 x4).f1, (rd_T53 x0 x4).f2⟩ : S53)] : List (S53))).bind fun y111 => ((some (x3.drop (x5 : Int).toNat : List (S53))).bind fun y114 => (if y111.length + y114.length < 4398046511104 then (paronymref03_Sorted.l0 k x0 (y111 ++ y114) (wrap64 (x4 + 1))) else (none)))) else (none))) else (none))) else (none)) else (none))) else (none)) else (none)) else (none)) else (none)) else (if 0 ≤ x5 then (if x5 ≤ (x3.length : Int) then ((some (x3.take (x5 : Int).toNat : List (S53))).bind fun y121 => (if ([] : List (S53)).length + y121.length < 4398046511104 then ((some (([] : List (S53)) ++ y121 : List (S53))).bind fun y125 => (if 0 ≤ x4 then (if x4 < (x0.length : Int) then (if y125.length < 4398046511104 then ((some (y125 ++ [(⟨(rd_T53 x0 x4).f0, (rd_T53 x0 x4).f1, (rd_T53 x0 x4).f2⟩ : S53)] : List (S53))).bind fun y129 => ((some (x3.drop (x5 : Int).toNat : List (S53))).bind fun y132 => (if y129.length + y132.length < 4398046511104 then (paronymref03_Sorted.l0 k x0 (y129 ++ y132) (wrap64 (x4 + 1))) else (none)))) else (none)) else (none)) else (none))) else (none))) else (none)) else (none))
end
def paronymref03_Sorted.f (k : Nat) (l0 : List (S53)) : Option ((List (S53))) := paronymref03_Sorted.l0 k l0 ([] : List (S53)) 0
theorem paronymref03_Sorted.mono_l : ∀ k, (∀ y0 y1 y2, LeO (paronymref03_Sorted.l0 k y0 y1 y2) (paronymref03_Sorted.l0 (k + 1) y0 y1 y2)) ∧ (∀ y0 y1 y2 y3, LeO (paronymref03_Sorted.l1 k y0 y1 y2 y3) (paronymref03_Sorted.l1 (k + 1) y0 y1 y2 y3))
  | 0 => ⟨fun _ _ _ r h => by simp [paronymref03_Sorted.l0] at h, fun _ _ _ _ r h => by simp [paronymref03_Sorted.l1] at h⟩
  | k + 1 => by
    obtain ⟨ih0, ih1⟩ := paronymref03_Sorted.mono_l k
    refine ⟨?_, ?_⟩
    · intro y0 y1 y2
      unfold paronymref03_Sorted.l0
      repeat' first
      | (with_reducible exact ih0 _ _ _)
      | (with_reducible exact ih1 _ _ _ _)
      | (with_reducible exact LeO.refl _)
      | (with_reducible exact LeO.none _)
      | (with_reducible refine LeO.ite ?_ ?_)
      | (with_reducible refine LeO.bind ?_ (fun _ => ?_))
      | exact ih0 _ _ _
      | exact ih1 _ _ _ _
      | exact LeO.none _
      | refine LeO.ite ?_ ?_
      | refine LeO.bind ?_ (fun _ => ?_)
    · intro y0 y1 y2 y3
      unfold paronymref03_Sorted.l1
      repeat' first
      | (with_reducible exact ih0 _ _ _)
      | (with_reducible exact ih1 _ _ _ _)
      | (with_reducible exact LeO.refl _)
      | (with_reducible exact LeO.none _)
      | (with_reducible refine LeO.ite ?_ ?_)
      | (with_reducible refine LeO.bind ?_ (fun _ => ?_))
      | exact ih0 _ _ _
      | exact ih1 _ _ _ _
      | exact LeO.none _
      | refine LeO.ite ?_ ?_
      | refine LeO.bind ?_ (fun _ => ?_)
theorem paronymref03_Sorted.mono : ∀ a0 k, LeO (paronymref03_Sorted.f k a0) (paronymref03_Sorted.f (k + 1) a0) := by
  intro a0 k
  obtain ⟨ih0, ih1⟩ := paronymref03_Sorted.mono_l k
  unfold paronymref03_Sorted.f
  repeat' first
      | (with_reducible exact ih0 _ _ _)
      | (with_reducible exact ih1 _ _ _ _)
      | (with_reducible exact LeO.refl _)
      | (with_reducible exact LeO.none _)
      | (with_reducible refine LeO.ite ?_ ?_)
      | (with_reducible refine LeO.bind ?_ (fun _ => ?_))
      | exact ih0 _ _ _
      | exact ih1 _ _ _ _
      | exact LeO.none _
      | refine LeO.ite ?_ ?_
      | refine LeO.bind ?_ (fun _ => ?_)
set_option maxHeartbeats 8000000 in
set_option maxRecDepth 100000 in
theorem paronymref03_Sorted.calls (k : Nat) (A0 : Option Addr) (c0 : Nat) (l0 : List (S53)) (r : List (S53)) (w : World) (hr0 : Kd.C k53 w A0 l0.length l0) (hc0 : l0.length ≤ c0) (h : paronymref03_Sorted.f k l0 = some r) :
    Calls Try.prog 66 #[.slice A0 l0.length c0] w fun e w' => ∃ v0_ : Value, e = .returned (v0_) ∧ Kd.R k53 53 w' w.heap.size (fun _ => True) v0_ r ∧ Below w.heap.size w w' := by
  have hu53 := Try.underlying53
  have HR0 := Aside0.mk hr0
  have HC0 := Aside0.mk hc0
  clear hr0 hc0
  have HB := Aside0.mk (Below.refl w.heap.size w)
  have H : (paronymref03_Sorted.l0 k l0 ([] : List (S53)) 0) = some r := h
  clear h
  have H' := Aside0.mk H
  clear H
  go_enter Try.func66, Try.ntmps66
  go_wp2
  repeat (go_quiet (fail); try go_wp2)
  go_loopg [3, 4] k (fun kq v3 v4 w' => ∃ (x3_1 : List (S53)) (x4_1 : Int), v4 = .int .i64 x4_1 ∧ Aside0 (paronymref03_Sorted.l0 kq l0 x3_1 x4_1 = some r) ∧ Aside0 (kq ≤ k) ∧ Aside0 (Kd.R k53 53 w' w.heap.size (fun _ => True) v3 x3_1) ∧ Aside0 (Below w.heap.size w w'))
  case atStart => exact ⟨(([] : List (S53))), (0), (by first | rfl | (simp; done) | (simp [*]; done)), H', ⟨Nat.le_refl _⟩, ⟨by first | exact Kd.R_nil _ _ _ _ _ | exact Kd.N_nil _ _ _ _ _ | exact Kd.V_nil _ _ _ _ _ | exact Kd.Q_nil _ _ _ _ _ | exact Kd.S_nil _ _ _ _ _⟩, ⟨by repeat (first | (with_reducible first | exact HB.out | apply below_alloc | apply pw_below_drewN | apply below_drew1) | exact HB.out)⟩⟩
  case round =>
    clear H'
    obtain ⟨x3_1, x4_1, rfl, HA, HK1, HO_3, HB⟩ := hrel
    cases gk with
    | zero => exact absurd HA.out (by simp [paronymref03_Sorted.l0])
    | succ k1 =>
      have H := HA.out
      clear HA
      simp only [paronymref03_Sorted.l0] at H
      by_cases c2 : x4_1 < (l0.length : Int)
      · rw [if_pos c2] at H
        have c2b0 : decide (x4_1 < (l0.length : Int)) = true := decide_eq_true c2
        clear c2
        have H' := Aside0.mk H
        clear H
        obtain ⟨Ao3, co3, eo3⟩ := Kd.R_slice HO_3.out
        subst eo3
        go_wp2
        repeat (go_quiet (fail); try go_wp2)
        go_loopg [5] k1 (fun kq v5 w' => ∃ (x5_2 : Int), v5 = .int .i64 x5_2 ∧ Aside0 (paronymref03_Sorted.l1 kq l0 x3_1 x4_1 x5_2 = some r) ∧ Aside0 (kq ≤ k1) ∧ Aside0 (Kd.R k53 53 w' w.heap.size (fun _ => True) (.slice Ao3 x3_1.length co3) x3_1) ∧ Aside0 (Below w.heap.size w w'))
        case atStart => exact ⟨((x3_1.length : Int)), (by first | rfl | (simp; done) | (simp [*]; done)), H', ⟨Nat.le_refl _⟩, ⟨by (with_reducible repeat (first | apply Kd.R_alloc | apply Kd.R_drewN | apply Kd.R_drew)); exact HO_3.out⟩, ⟨by repeat (first | (with_reducible first | exact HB.out | apply below_alloc | apply pw_below_drewN | apply below_drew1) | exact HB.out)⟩⟩
        case round =>
          clear H'
          try clear c2
          try clear c2b0
          try clear p2
          obtain ⟨x5_2, rfl, HA, HK2, HO_3, HB⟩ := hrel
          cases gk with
          | zero => exact absurd HA.out (by simp [paronymref03_Sorted.l1])
          | succ k2 =>
            have H := HA.out
            clear HA
            simp only [paronymref03_Sorted.l1] at H
            by_cases c4 : x5_2 > 0
            · rw [if_pos c4] at H
              have c4b0 : decide (0 < x5_2) = true := decide_eq_true c4
              clear c4
              obtain ⟨ji5, hji5⟩ : ∃ j_ : Int, (wrap64 (x5_2 - 1)) = j_ := ⟨_, rfl⟩
              replace H : (if 0 ≤ (ji5) then (if (ji5) < (x3_1.length : Int) then (if 0 ≤ x4_1 then (if x4_1 < (l0.length : Int) then (if ((rd_T53 x3_1 (ji5)).f0) > ((rd_T53 l0 x4_1).f0) then (paronymref03_Sorted.l1 k2 l0 x3_1 x4_1 ji5) else (if 0 ≤ x5_2 then (if x5_2 ≤ (x3_1.length : Int) then ((some (x3_1.take (x5_2 : Int).toNat : List (S53))).bind fun y103 => (if ([] : List (S53)).length + y103.length < 4398046511104 then ((some (([] : List (S53)) ++ y103 : List (S53))).bind fun y107 => (if y107.length < 4398046511104 then ((some (y107 ++ [(⟨(rd_T53 l0 x4_1).f0, (rd_T53 l0 x4_1).f1, (rd_T53 l0 x4_1).f2⟩ : S53)] : List (S53))).bind fun y111 => ((some (x3_1.drop (x5_2 : Int).toNat : List (S53))).bind fun y114 => (if y111.length + y114.length < 4398046511104 then (paronymref03_Sorted.l0 k2 l0 (y111 ++ y114) (wrap64 (x4_1 + 1))) else (none)))) else (none))) else (none))) else (none)) else (none))) else (none)) else (none)) else (none)) else (none)) = some r := by first | (rw [hji5] at H; exact H) | (simp only [hji5] at H ⊢; exact H)
              have hji5w : (IntKind.i64.wrap (x5_2 - 1)) = ji5 := (i64_w _).trans hji5
              by_cases c6 : 0 ≤ (ji5)
              · rw [if_pos c6] at H
                have c6b0 : decide (0 ≤ (ji5)) = true := decide_eq_true c6
                clear c6
                by_cases c7 : (ji5) < (x3_1.length : Int)
                · rw [if_pos c7] at H
                  have c7b0 : decide ((ji5) < (x3_1.length : Int)) = true := decide_eq_true c7
                  clear c7
                  by_cases c8 : 0 ≤ x4_1
                  · rw [if_pos c8] at H
                    have c8b0 : decide (0 ≤ x4_1) = true := decide_eq_true c8
                    clear c8
                    by_cases c9 : x4_1 < (l0.length : Int)
                    · rw [if_pos c9] at H
                      have c9b0 : decide (x4_1 < (l0.length : Int)) = true := decide_eq_true c9
                      clear c9
                      by_cases c10 : ((rd_T53 x3_1 (ji5)).f0) > ((rd_T53 l0 x4_1).f0)
                      · rw [if_pos c10] at H
                        have c10b0 : decide (((rd_T53 l0 x4_1).f0) < ((rd_T53 x3_1 (ji5)).f0)) = true := decide_eq_true c10
                        clear c10
                        have H' := Aside0.mk H
                        clear H
                        have p101 : 0 ≤ ((ji5) : Int) := of_decide_eq_true (by first | (with_reducible assumption) | assumption)
                        have q101 : (ji5) < (x3_1.length : Int) := of_decide_eq_true (by first | (with_reducible assumption) | assumption)
                        obtain ⟨ad101, e101, hx101_0, hx101_1, hx101_2⟩ := at_T53 (Kd.R_reads' HO_3.out).2.2 (ji5) p101 q101
                        cases e101
                        replace p101 := eq_true p101
                        replace q101 := eq_true q101
                        have p102 : 0 ≤ (x4_1 : Int) := of_decide_eq_true (by first | (with_reducible assumption) | assumption)
                        have q102 : x4_1 < (l0.length : Int) := of_decide_eq_true (by first | (with_reducible assumption) | assumption)
                        obtain ⟨ad102, e102, hx102_0, hx102_1, hx102_2⟩ := at_T53 HR0.out x4_1 p102 q102
                        cases e102
                        replace hx102_0 := (HB.out.cell (World.block_lt_of_cell? w _ hx102_0)).trans hx102_0
                        replace hx102_1 := (HB.out.cell (World.block_lt_of_cell? w _ hx102_1)).trans hx102_1
                        replace hx102_2 := (HB.out.cell (World.block_lt_of_cell? w _ hx102_2)).trans hx102_2
                        replace p102 := eq_true p102
                        replace q102 := eq_true q102
                        go_wp2
                        repeat (go_quiet (fail); try go_wp2)
                        go_roundg k2
                        case measure => have := HK1.out; have := HK2.out; omega
                        case rel => exact ⟨(ji5), (by first | rfl | (simp; done) | (simp only [← hji5] <;> (first | rfl | simp)) | (simp [*]; done)), H', ⟨by have := HK1.out; have := HK2.out; omega⟩, ⟨by (with_reducible repeat (first | apply Kd.R_alloc | apply Kd.R_drewN | apply Kd.R_drew)); exact HO_3.out⟩, ⟨by repeat (first | (with_reducible first | exact HB.out | apply below_alloc | apply pw_below_drewN | apply below_drew1) | exact HB.out)⟩⟩
                      · rw [if_neg c10] at H
                        have c10b0 : decide (((rd_T53 l0 x4_1).f0) < ((rd_T53 x3_1 (ji5)).f0)) = false := decide_eq_false c10
                        clear c10
                        by_cases c11 : 0 ≤ x5_2
                        · rw [if_pos c11] at H
                          have c11b0 := eq_true c11
                          have c11b1 : decide (0 ≤ x5_2) = true := decide_eq_true c11
                          clear c11
                          by_cases c12 : x5_2 ≤ (x3_1.length : Int)
                          · rw [if_pos c12] at H
                            have c12b0 := eq_true c12
                            have c12b1 : decide (x5_2 ≤ (x3_1.length : Int)) = true := decide_eq_true c12
                            clear c12
                            obtain ⟨y103, hy103⟩ : ∃ y_ : List (S53), y_ = (x3_1.take (x5_2 : Int).toNat) := ⟨_, rfl⟩
                            replace H : (if ([] : List (S53)).length + y103.length < 4398046511104 then ((some (([] : List (S53)) ++ y103 : List (S53))).bind fun y107 => (if y107.length < 4398046511104 then ((some (y107 ++ [(⟨(rd_T53 l0 x4_1).f0, (rd_T53 l0 x4_1).f1, (rd_T53 l0 x4_1).f2⟩ : S53)] : List (S53))).bind fun y111 => ((some (x3_1.drop (x5_2 : Int).toNat : List (S53))).bind fun y114 => (if y111.length + y114.length < 4398046511104 then (paronymref03_Sorted.l0 k2 l0 (y111 ++ y114) (wrap64 (x4_1 + 1))) else (none)))) else (none))) else (none)) = some r := by first | (rw [hy103]; with_reducible exact H) | (have H2_ := (Option.bind_some _ _).symm.trans H; rw [hy103]; with_reducible exact H2_) | (have H2_ := (Option.bind_some _ _).symm.trans H; with_reducible exact H2_) | with_reducible exact H | (rw [hy103]; exact H) | exact H
                            have Ny103 := Aside0.mk hy103
                            clear hy103
                            by_cases c13 : ([] : List (S53)).length + y103.length < 4398046511104
                            · rw [if_pos c13] at H
                              have LMc13 := Aside0.mk c13
                              clear c13
                              obtain ⟨y107, hy107⟩ : ∃ y_ : List (S53), y_ = (([] : List (S53)) ++ y103) := ⟨_, rfl⟩
                              replace H : (if y107.length < 4398046511104 then ((some (y107 ++ [(⟨(rd_T53 l0 x4_1).f0, (rd_T53 l0 x4_1).f1, (rd_T53 l0 x4_1).f2⟩ : S53)] : List (S53))).bind fun y111 => ((some (x3_1.drop (x5_2 : Int).toNat : List (S53))).bind fun y114 => (if y111.length + y114.length < 4398046511104 then (paronymref03_Sorted.l0 k2 l0 (y111 ++ y114) (wrap64 (x4_1 + 1))) else (none)))) else (none)) = some r := by first | (rw [hy107]; with_reducible exact H) | (have H2_ := (Option.bind_some _ _).symm.trans H; rw [hy107]; with_reducible exact H2_) | (have H2_ := (Option.bind_some _ _).symm.trans H; with_reducible exact H2_) | with_reducible exact H | (rw [hy107]; exact H) | exact H
                              have Ny107 := Aside0.mk hy107
                              clear hy107
                              by_cases c14 : y107.length < 4398046511104
                              · rw [if_pos c14] at H
                                have LMc14 := Aside0.mk c14
                                clear c14
                                obtain ⟨y111, hy111⟩ : ∃ y_ : List (S53), y_ = (y107 ++ [(⟨(rd_T53 l0 x4_1).f0, (rd_T53 l0 x4_1).f1, (rd_T53 l0 x4_1).f2⟩ : S53)]) := ⟨_, rfl⟩
                                replace H : ((some (x3_1.drop (x5_2 : Int).toNat : List (S53))).bind fun y114 => (if y111.length + y114.length < 4398046511104 then (paronymref03_Sorted.l0 k2 l0 (y111 ++ y114) (wrap64 (x4_1 + 1))) else (none))) = some r := by first | (rw [hy111]; with_reducible exact H) | (have H2_ := (Option.bind_some _ _).symm.trans H; rw [hy111]; with_reducible exact H2_) | (have H2_ := (Option.bind_some _ _).symm.trans H; with_reducible exact H2_) | with_reducible exact H | (rw [hy111]; exact H) | exact H
                                have Ny111 := Aside0.mk hy111
                                clear hy111
                                have c15b0 := eq_true (of_decide_eq_true (by first | (with_reducible assumption) | assumption) : 0 ≤ x5_2)
                                have c16b0 := eq_true (of_decide_eq_true (by first | (with_reducible assumption) | assumption) : x5_2 ≤ (x3_1.length : Int))
                                obtain ⟨y114, hy114⟩ : ∃ y_ : List (S53), y_ = (x3_1.drop (x5_2 : Int).toNat) := ⟨_, rfl⟩
                                replace H : (if y111.length + y114.length < 4398046511104 then (paronymref03_Sorted.l0 k2 l0 (y111 ++ y114) (wrap64 (x4_1 + 1))) else (none)) = some r := by first | (rw [hy114]; with_reducible exact H) | (have H2_ := (Option.bind_some _ _).symm.trans H; rw [hy114]; with_reducible exact H2_) | (have H2_ := (Option.bind_some _ _).symm.trans H; with_reducible exact H2_) | with_reducible exact H | (rw [hy114]; exact H) | exact H
                                have Ny114 := Aside0.mk hy114
                                clear hy114
                                by_cases c17 : y111.length + y114.length < 4398046511104
                                · rw [if_pos c17] at H
                                  have LMc17 := Aside0.mk c17
                                  clear c17
                                  obtain ⟨y118, hy118⟩ : ∃ y_ : List (S53), y_ = (y111 ++ y114) := ⟨_, rfl⟩
                                  replace H : (paronymref03_Sorted.l0 k2 l0 y118 (wrap64 (x4_1 + 1))) = some r := by first | (rw [hy118]; with_reducible exact H) | (have H2_ := (Option.bind_some _ _).symm.trans H; rw [hy118]; with_reducible exact H2_) | (have H2_ := (Option.bind_some _ _).symm.trans H; with_reducible exact H2_) | with_reducible exact H | (rw [hy118]; exact H) | exact H
                                  have Ny118 := Aside0.mk hy118
                                  clear hy118
                                  have H' := Aside0.mk H
                                  clear H
                                  have p101 : 0 ≤ ((ji5) : Int) := of_decide_eq_true (by first | (with_reducible assumption) | assumption)
                                  have q101 : (ji5) < (x3_1.length : Int) := of_decide_eq_true (by first | (with_reducible assumption) | assumption)
                                  obtain ⟨ad101, e101, hx101_0, hx101_1, hx101_2⟩ := at_T53 (Kd.R_reads' HO_3.out).2.2 (ji5) p101 q101
                                  cases e101
                                  replace p101 := eq_true p101
                                  replace q101 := eq_true q101
                                  have p102 : 0 ≤ (x4_1 : Int) := of_decide_eq_true (by first | (with_reducible assumption) | assumption)
                                  have q102 : x4_1 < (l0.length : Int) := of_decide_eq_true (by first | (with_reducible assumption) | assumption)
                                  obtain ⟨ad102, e102, hx102_0, hx102_1, hx102_2⟩ := at_T53 HR0.out x4_1 p102 q102
                                  cases e102
                                  replace hx102_0 := (HB.out.cell (World.block_lt_of_cell? w _ hx102_0)).trans hx102_0
                                  replace hx102_1 := (HB.out.cell (World.block_lt_of_cell? w _ hx102_1)).trans hx102_1
                                  replace hx102_2 := (HB.out.cell (World.block_lt_of_cell? w _ hx102_2)).trans hx102_2
                                  replace p102 := eq_true p102
                                  replace q102 := eq_true q102
                                  have q18 : (x5_2 : Int) ≤ ((x3_1.length : Int) : Int) := of_decide_eq_true (by first | (with_reducible assumption) | assumption)
                                  obtain ⟨i018, hi018, _, hsz18, _⟩ := info_parts info53
                                  have hroom18 : x3_1.length ≤ co3 := (Kd.R_reads' HO_3.out).2.1
                                  have hC18 : Kd.C k53 _ (some ad101) x3_1.length x3_1 := (Kd.R_reads' HO_3.out).2.2
                                  have hcut18 := cut_to (P := Try.prog) 49 53 .i64 Try.underlying49 hi018 (some ad101) x3_1.length co3 x5_2 (of_decide_eq_true (by first | (with_reducible assumption) | assumption)) q18 hroom18
                                  have hr18 := Kd.C_take (m := (x5_2 : Int).toNat) hC18 (by omega)
                                  have hy18 : y103.length = (x5_2 : Int).toNat := (by rw [Ny103.out, List.length_take]; omega)
                                  rw [← Ny103.out] at hr18
                                  rw [← hy18] at hcut18
                                  have HR106 := Aside0.mk hr18
                                  have HC106 := Aside0.mk (show y103.length ≤ co3 from by omega)
                                  clear hr18 hC18 hroom18 hi018 hsz18
                                  have KY18 := Aside0.mk hy18
                                  clear hy18
                                  have KL18 := Aside0.mk (show (x5_2 : Int).toNat ≤ x3_1.length from by omega)
                                  replace q18 := eq_true q18
                                  go_wp2_with (first | ((with_reducible refine gate_builtin (b := .append) (xs := #[.tmp 33, .tmp 36]) rfl ?_); at_builtin; refine Kd.R_append_rows k53 (w0 := w) w.heap.size rfl (.tmp 33) (.tmp 36) 49 53 (.agg #[(.int .i64 0), (.int .i64 0), (.string ⟨#[]⟩)]) 32 rfl Try.underlying49 info53 rfl (by decide) (by omega) (.slice none 0 0) ([] : List (S53)) y103 _ _ _ (fun k_ => some k_ ≠ (.slice (some ad101) x3_1.length co3 : Value).ownBlock) (fun _ => False) rfl rfl ?aO ?aR (fun _ _ h => h) (fun _ h => h.elim) ?aF ?aB ?aS ?aL ?_; (case aR => repeat (first | exact (by repeat (first | (with_reducible exact HR106.out) | (with_reducible refine Kd.C_alloc ?_ _) | (with_reducible refine Kd.C_drewN ?_ _) | (with_reducible refine Kd.C_drew ?_) | exact HR106.out)) | (with_reducible refine Kd.C_alloc ?_ _) | (with_reducible refine Kd.C_drewN ?_ _) | (with_reducible refine Kd.C_drew ?_))); (case aB => exact (by repeat (first | (with_reducible first | exact HB.out | apply below_alloc | apply pw_below_drewN | apply below_drew1) | exact HB.out))); (case aF => exact (fun k_ hk => Kd.fresh' (Kd.R_lt (by (with_reducible repeat (first | apply Kd.R_alloc | apply Kd.R_drewN | apply Kd.R_drew)); exact HO_3.out)) k_ hk)); (case aO => exact ((Kd.R_nil _ _ _ _ (fun k_ => some k_ ≠ (.slice (some ad101) x3_1.length co3 : Value).ownBlock)))); (case aS => exact (below_size (by repeat (first | (with_reducible first | exact HB.out | apply below_alloc | apply pw_below_drewN | apply below_drew1) | exact HB.out)))); (case aL => have := LMc13.out; omega); intro v108 w19 ho hb hg hat; rw [← Ny107.out] at ho; have n0_ := Aside0.mk (Kd.R_after (Kd.R_apart_nil (by (with_reducible repeat (first | apply Kd.R_alloc | apply Kd.R_drewN | apply Kd.R_drew)); exact HO_3.out)) hg hat); have n1_ := Aside0.mk (hb); have n2_ := Aside0.mk ((show Kd.C k53 w19 (some ad101) y103.length y103 from by rw [Ny103.out]; exact Kd.C_take (m := (x5_2 : Int).toNat) ((Kd.R_reads' (Kd.R_after (Kd.R_apart_nil (by (with_reducible repeat (first | apply Kd.R_alloc | apply Kd.R_drewN | apply Kd.R_drew)); exact HO_3.out)) hg hat)).2.2) KL18.out)); have n3_ := Aside0.mk (ho); clear HO_3; clear HB; clear HR106; have HO_3 := n0_; have HB := n1_; have HR106 := n2_; have HO109 := n3_; clear n0_ n1_ n2_ n3_; clear ho hb hg hat; have p110 : 0 ≤ (x4_1 : Int) := of_decide_eq_true (by first | (with_reducible assumption) | assumption); have q110 : x4_1 < (l0.length : Int) := of_decide_eq_true (by first | (with_reducible assumption) | assumption); obtain ⟨ad110, e110, hx110_0, hx110_1, hx110_2⟩ := at_T53 HR0.out x4_1 p110 q110; obtain rfl : ad102 = ad110 := (by injection e110); replace hx110_0 := (HB.out.cell (World.block_lt_of_cell? w _ hx110_0)).trans hx110_0; replace hx110_1 := (HB.out.cell (World.block_lt_of_cell? w _ hx110_1)).trans hx110_1; replace hx110_2 := (HB.out.cell (World.block_lt_of_cell? w _ hx110_2)).trans hx110_2; replace p110 := eq_true p110; replace q110 := eq_true q110) | ((with_reducible refine gate_builtin (b := .append) (xs := #[.tmp 38, .tmp 43]) rfl ?_); at_builtin; refine Kd.R_append k53 (w0 := w) w.heap.size rfl (.tmp 38) (.tmp 43) 49 53 (.agg #[(.int .i64 0), (.int .i64 0), (.string ⟨#[]⟩)]) 32 rfl Try.underlying49 info53 rfl (by decide) (by omega) v108 y107 (⟨(rd_T53 l0 x4_1).f0, (rd_T53 l0 x4_1).f1, (rd_T53 l0 x4_1).f2⟩ : S53) [.int .i64 ((rd_T53 l0 x4_1).f0), .int .i64 ((rd_T53 l0 x4_1).f1), .string ((rd_T53 l0 x4_1).f2)] (fun k_ => some k_ ≠ (.slice (some ad101) x3_1.length co3 : Value).ownBlock) (fun _ => False) rfl rfl ?aP (fun _ hk => hk.elim) ?aF ?aO ?aB ?aS ?aL ?_; (case aP => exact k53_mkM _ _ _ (⟨(rd_T53 l0 x4_1).f0, (rd_T53 l0 x4_1).f1, (rd_T53 l0 x4_1).f2⟩ : S53)); (case aB => exact (by repeat (first | (with_reducible first | exact HB.out | apply below_alloc | apply pw_below_drewN | apply below_drew1) | exact HB.out))); (case aF => exact (fun k_ hk => Kd.fresh' (Kd.R_lt (by (with_reducible repeat (first | apply Kd.R_alloc | apply Kd.R_drewN | apply Kd.R_drew)); exact HO_3.out)) k_ hk)); (case aO => exact (by (with_reducible repeat (first | apply Kd.R_alloc | apply Kd.R_drewN | apply Kd.R_drew)); exact HO109.out)); (case aS => exact (below_size (by repeat (first | (with_reducible first | exact HB.out | apply below_alloc | apply pw_below_drewN | apply below_drew1) | exact HB.out)))); (case aL => have := LMc14.out; omega); intro v112 w20 ho hb hg hat; rw [← Ny111.out] at ho; have n0_ := Aside0.mk (Kd.R_after (ok := (fun _ => True)) (by (with_reducible repeat (first | apply Kd.R_alloc | apply Kd.R_drewN | apply Kd.R_drew)); exact HO_3.out) hg hat); have n1_ := Aside0.mk (hb); have n2_ := Aside0.mk ((show Kd.C k53 w20 (some ad101) y103.length y103 from by rw [Ny103.out]; exact Kd.C_take (m := (x5_2 : Int).toNat) ((Kd.R_reads' (Kd.R_after (ok := (fun _ => True)) (by (with_reducible repeat (first | apply Kd.R_alloc | apply Kd.R_drewN | apply Kd.R_drew)); exact HO_3.out) hg hat)).2.2) KL18.out)); have n3_ := Aside0.mk (ho); clear HO_3; clear HB; clear HR106; clear HO109; have HO_3 := n0_; have HB := n1_; have HR106 := n2_; have HO113 := n3_; clear n0_ n1_ n2_ n3_; clear ho hb hg hat; have q21 : (x5_2 : Int) ≤ ((x3_1.length : Int) : Int) := of_decide_eq_true (by first | (with_reducible assumption) | assumption); obtain ⟨i021, hi021, _, hsz21, _⟩ := info_parts info53; have hroom21 : x3_1.length ≤ co3 := (Kd.R_reads' HO_3.out).2.1; have hC21 : Kd.C k53 _ (some ad101) x3_1.length x3_1 := (Kd.R_reads' HO_3.out).2.2; have q021 : (0 : Int) ≤ (x5_2 : Int) := of_decide_eq_true (by first | (with_reducible assumption) | assumption); have hcut21 := cut_from (P := Try.prog) 49 53 .i64 Try.underlying49 hi021 3 hsz21 (some ad101) x3_1.length co3 x5_2 q021 q21; have hr21 := Kd.C_drop (m := (x5_2 : Int).toNat) (c := co3) hC21 (by omega) hroom21; obtain ⟨A21, hA21⟩ : ∃ A1, A1 = (if co3 = (x5_2 : Int).toNat then (some ad101) else ((some ad101) : Option Addr).map (·.add ((x5_2 : Int).toNat * 3))) := ⟨_, rfl⟩; obtain ⟨c21, hc21⟩ : ∃ c1, c1 = co3 - (x5_2 : Int).toNat := ⟨_, rfl⟩; have hy21 : y114.length = x3_1.length - (x5_2 : Int).toNat := (by rw [Ny114.out, List.length_drop] <;> omega); rw [show (x3_1).drop (x5_2 : Int).toNat = y114 from Ny114.out.symm] at hr21; replace hr21 : Kd.C k53 _ A21 y114.length y114 := (by rw [hA21]; exact hr21); rw [← hy21, ← hA21, ← hc21] at hcut21; have HR117 := Aside0.mk hr21; have HC117 := Aside0.mk (show y114.length ≤ c21 from by rw [hy21, hc21]; exact Nat.sub_le_sub_right hroom21 _); clear hr21 hC21 hroom21 hi021 hsz21 hc21; have KY21 := Aside0.mk hy21; have KA21 := Aside0.mk hA21; clear hy21 hA21; have KL21 := Aside0.mk (show (x5_2 : Int).toNat ≤ x3_1.length from by omega); replace q21 := eq_true q21) | ((with_reducible refine gate_builtin (b := .append) (xs := #[.tmp 45, .tmp 48]) rfl ?_); at_builtin; refine Kd.R_append_rows k53 (w0 := w) w.heap.size rfl (.tmp 45) (.tmp 48) 49 53 (.agg #[(.int .i64 0), (.int .i64 0), (.string ⟨#[]⟩)]) 32 rfl Try.underlying49 info53 rfl (by decide) (by omega) v112 y111 y114 _ _ _ (fun k_ => some k_ ≠ (.slice (some ad101) x3_1.length co3 : Value).ownBlock) (fun _ => False) rfl rfl ?aO ?aR (fun _ _ h => h) (fun _ h => h.elim) ?aF ?aB ?aS ?aL ?_; (case aR => repeat (first | exact (by repeat (first | (with_reducible exact HR117.out) | (with_reducible refine Kd.C_alloc ?_ _) | (with_reducible refine Kd.C_drewN ?_ _) | (with_reducible refine Kd.C_drew ?_) | exact HR117.out)) | (with_reducible refine Kd.C_alloc ?_ _) | (with_reducible refine Kd.C_drewN ?_ _) | (with_reducible refine Kd.C_drew ?_))); (case aB => exact (by repeat (first | (with_reducible first | exact HB.out | apply below_alloc | apply pw_below_drewN | apply below_drew1) | exact HB.out))); (case aF => exact (fun k_ hk => Kd.fresh' (Kd.R_lt (by (with_reducible repeat (first | apply Kd.R_alloc | apply Kd.R_drewN | apply Kd.R_drew)); exact HO_3.out)) k_ hk)); (case aO => exact (by (with_reducible repeat (first | apply Kd.R_alloc | apply Kd.R_drewN | apply Kd.R_drew)); exact HO113.out)); (case aS => exact (below_size (by repeat (first | (with_reducible first | exact HB.out | apply below_alloc | apply pw_below_drewN | apply below_drew1) | exact HB.out)))); (case aL => have := LMc17.out; omega); intro v119 w22 ho hb hg hat; rw [← Ny118.out] at ho; have n0_ := Aside0.mk (Kd.R_after (ok := (fun _ => True)) (by (with_reducible repeat (first | apply Kd.R_alloc | apply Kd.R_drewN | apply Kd.R_drew)); exact HO_3.out) hg hat); have n1_ := Aside0.mk (hb); have n2_ := Aside0.mk ((show Kd.C k53 w22 (some ad101) y103.length y103 from by rw [Ny103.out]; exact Kd.C_take (m := (x5_2 : Int).toNat) ((Kd.R_reads' (Kd.R_after (ok := (fun _ => True)) (by (with_reducible repeat (first | apply Kd.R_alloc | apply Kd.R_drewN | apply Kd.R_drew)); exact HO_3.out) hg hat)).2.2) KL18.out)); have n3_ := Aside0.mk ((show Kd.C k53 w22 A21 y114.length y114 from by rw [Ny114.out, KA21.out]; exact Kd.C_drop (m := (x5_2 : Int).toNat) (c := co3) ((Kd.R_reads' (Kd.R_after (ok := (fun _ => True)) (by (with_reducible repeat (first | apply Kd.R_alloc | apply Kd.R_drewN | apply Kd.R_drew)); exact HO_3.out) hg hat)).2.2) KL21.out ((Kd.R_reads' (Kd.R_after (ok := (fun _ => True)) (by (with_reducible repeat (first | apply Kd.R_alloc | apply Kd.R_drewN | apply Kd.R_drew)); exact HO_3.out) hg hat)).2.1))); have n4_ := Aside0.mk (ho); clear HO_3; clear HB; clear HR106; clear HR117; clear HO113; have HO_3 := n0_; have HB := n1_; have HR106 := n2_; have HR117 := n3_; have HO120 := n4_; clear n0_ n1_ n2_ n3_ n4_; clear ho hb hg hat))
                                  repeat (go_quiet (first | ((with_reducible refine gate_builtin (b := .append) (xs := #[.tmp 33, .tmp 36]) rfl ?_); at_builtin; refine Kd.R_append_rows k53 (w0 := w) w.heap.size rfl (.tmp 33) (.tmp 36) 49 53 (.agg #[(.int .i64 0), (.int .i64 0), (.string ⟨#[]⟩)]) 32 rfl Try.underlying49 info53 rfl (by decide) (by omega) (.slice none 0 0) ([] : List (S53)) y103 _ _ _ (fun k_ => some k_ ≠ (.slice (some ad101) x3_1.length co3 : Value).ownBlock) (fun _ => False) rfl rfl ?aO ?aR (fun _ _ h => h) (fun _ h => h.elim) ?aF ?aB ?aS ?aL ?_; (case aR => repeat (first | exact (by repeat (first | (with_reducible exact HR106.out) | (with_reducible refine Kd.C_alloc ?_ _) | (with_reducible refine Kd.C_drewN ?_ _) | (with_reducible refine Kd.C_drew ?_) | exact HR106.out)) | (with_reducible refine Kd.C_alloc ?_ _) | (with_reducible refine Kd.C_drewN ?_ _) | (with_reducible refine Kd.C_drew ?_))); (case aB => exact (by repeat (first | (with_reducible first | exact HB.out | apply below_alloc | apply pw_below_drewN | apply below_drew1) | exact HB.out))); (case aF => exact (fun k_ hk => Kd.fresh' (Kd.R_lt (by (with_reducible repeat (first | apply Kd.R_alloc | apply Kd.R_drewN | apply Kd.R_drew)); exact HO_3.out)) k_ hk)); (case aO => exact ((Kd.R_nil _ _ _ _ (fun k_ => some k_ ≠ (.slice (some ad101) x3_1.length co3 : Value).ownBlock)))); (case aS => exact (below_size (by repeat (first | (with_reducible first | exact HB.out | apply below_alloc | apply pw_below_drewN | apply below_drew1) | exact HB.out)))); (case aL => have := LMc13.out; omega); intro v108 w19 ho hb hg hat; rw [← Ny107.out] at ho; have n0_ := Aside0.mk (Kd.R_after (Kd.R_apart_nil (by (with_reducible repeat (first | apply Kd.R_alloc | apply Kd.R_drewN | apply Kd.R_drew)); exact HO_3.out)) hg hat); have n1_ := Aside0.mk (hb); have n2_ := Aside0.mk ((show Kd.C k53 w19 (some ad101) y103.length y103 from by rw [Ny103.out]; exact Kd.C_take (m := (x5_2 : Int).toNat) ((Kd.R_reads' (Kd.R_after (Kd.R_apart_nil (by (with_reducible repeat (first | apply Kd.R_alloc | apply Kd.R_drewN | apply Kd.R_drew)); exact HO_3.out)) hg hat)).2.2) KL18.out)); have n3_ := Aside0.mk (ho); clear HO_3; clear HB; clear HR106; have HO_3 := n0_; have HB := n1_; have HR106 := n2_; have HO109 := n3_; clear n0_ n1_ n2_ n3_; clear ho hb hg hat; have p110 : 0 ≤ (x4_1 : Int) := of_decide_eq_true (by first | (with_reducible assumption) | assumption); have q110 : x4_1 < (l0.length : Int) := of_decide_eq_true (by first | (with_reducible assumption) | assumption); obtain ⟨ad110, e110, hx110_0, hx110_1, hx110_2⟩ := at_T53 HR0.out x4_1 p110 q110; obtain rfl : ad102 = ad110 := (by injection e110); replace hx110_0 := (HB.out.cell (World.block_lt_of_cell? w _ hx110_0)).trans hx110_0; replace hx110_1 := (HB.out.cell (World.block_lt_of_cell? w _ hx110_1)).trans hx110_1; replace hx110_2 := (HB.out.cell (World.block_lt_of_cell? w _ hx110_2)).trans hx110_2; replace p110 := eq_true p110; replace q110 := eq_true q110) | ((with_reducible refine gate_builtin (b := .append) (xs := #[.tmp 38, .tmp 43]) rfl ?_); at_builtin; refine Kd.R_append k53 (w0 := w) w.heap.size rfl (.tmp 38) (.tmp 43) 49 53 (.agg #[(.int .i64 0), (.int .i64 0), (.string ⟨#[]⟩)]) 32 rfl Try.underlying49 info53 rfl (by decide) (by omega) v108 y107 (⟨(rd_T53 l0 x4_1).f0, (rd_T53 l0 x4_1).f1, (rd_T53 l0 x4_1).f2⟩ : S53) [.int .i64 ((rd_T53 l0 x4_1).f0), .int .i64 ((rd_T53 l0 x4_1).f1), .string ((rd_T53 l0 x4_1).f2)] (fun k_ => some k_ ≠ (.slice (some ad101) x3_1.length co3 : Value).ownBlock) (fun _ => False) rfl rfl ?aP (fun _ hk => hk.elim) ?aF ?aO ?aB ?aS ?aL ?_; (case aP => exact k53_mkM _ _ _ (⟨(rd_T53 l0 x4_1).f0, (rd_T53 l0 x4_1).f1, (rd_T53 l0 x4_1).f2⟩ : S53)); (case aB => exact (by repeat (first | (with_reducible first | exact HB.out | apply below_alloc | apply pw_below_drewN | apply below_drew1) | exact HB.out))); (case aF => exact (fun k_ hk => Kd.fresh' (Kd.R_lt (by (with_reducible repeat (first | apply Kd.R_alloc | apply Kd.R_drewN | apply Kd.R_drew)); exact HO_3.out)) k_ hk)); (case aO => exact (by (with_reducible repeat (first | apply Kd.R_alloc | apply Kd.R_drewN | apply Kd.R_drew)); exact HO109.out)); (case aS => exact (below_size (by repeat (first | (with_reducible first | exact HB.out | apply below_alloc | apply pw_below_drewN | apply below_drew1) | exact HB.out)))); (case aL => have := LMc14.out; omega); intro v112 w20 ho hb hg hat; rw [← Ny111.out] at ho; have n0_ := Aside0.mk (Kd.R_after (ok := (fun _ => True)) (by (with_reducible repeat (first | apply Kd.R_alloc | apply Kd.R_drewN | apply Kd.R_drew)); exact HO_3.out) hg hat); have n1_ := Aside0.mk (hb); have n2_ := Aside0.mk ((show Kd.C k53 w20 (some ad101) y103.length y103 from by rw [Ny103.out]; exact Kd.C_take (m := (x5_2 : Int).toNat) ((Kd.R_reads' (Kd.R_after (ok := (fun _ => True)) (by (with_reducible repeat (first | apply Kd.R_alloc | apply Kd.R_drewN | apply Kd.R_drew)); exact HO_3.out) hg hat)).2.2) KL18.out)); have n3_ := Aside0.mk (ho); clear HO_3; clear HB; clear HR106; clear HO109; have HO_3 := n0_; have HB := n1_; have HR106 := n2_; have HO113 := n3_; clear n0_ n1_ n2_ n3_; clear ho hb hg hat; have q21 : (x5_2 : Int) ≤ ((x3_1.length : Int) : Int) := of_decide_eq_true (by first | (with_reducible assumption) | assumption); obtain ⟨i021, hi021, _, hsz21, _⟩ := info_parts info53; have hroom21 : x3_1.length ≤ co3 := (Kd.R_reads' HO_3.out).2.1; have hC21 : Kd.C k53 _ (some ad101) x3_1.length x3_1 := (Kd.R_reads' HO_3.out).2.2; have q021 : (0 : Int) ≤ (x5_2 : Int) := of_decide_eq_true (by first | (with_reducible assumption) | assumption); have hcut21 := cut_from (P := Try.prog) 49 53 .i64 Try.underlying49 hi021 3 hsz21 (some ad101) x3_1.length co3 x5_2 q021 q21; have hr21 := Kd.C_drop (m := (x5_2 : Int).toNat) (c := co3) hC21 (by omega) hroom21; obtain ⟨A21, hA21⟩ : ∃ A1, A1 = (if co3 = (x5_2 : Int).toNat then (some ad101) else ((some ad101) : Option Addr).map (·.add ((x5_2 : Int).toNat * 3))) := ⟨_, rfl⟩; obtain ⟨c21, hc21⟩ : ∃ c1, c1 = co3 - (x5_2 : Int).toNat := ⟨_, rfl⟩; have hy21 : y114.length = x3_1.length - (x5_2 : Int).toNat := (by rw [Ny114.out, List.length_drop] <;> omega); rw [show (x3_1).drop (x5_2 : Int).toNat = y114 from Ny114.out.symm] at hr21; replace hr21 : Kd.C k53 _ A21 y114.length y114 := (by rw [hA21]; exact hr21); rw [← hy21, ← hA21, ← hc21] at hcut21; have HR117 := Aside0.mk hr21; have HC117 := Aside0.mk (show y114.length ≤ c21 from by rw [hy21, hc21]; exact Nat.sub_le_sub_right hroom21 _); clear hr21 hC21 hroom21 hi021 hsz21 hc21; have KY21 := Aside0.mk hy21; have KA21 := Aside0.mk hA21; clear hy21 hA21; have KL21 := Aside0.mk (show (x5_2 : Int).toNat ≤ x3_1.length from by omega); replace q21 := eq_true q21) | ((with_reducible refine gate_builtin (b := .append) (xs := #[.tmp 45, .tmp 48]) rfl ?_); at_builtin; refine Kd.R_append_rows k53 (w0 := w) w.heap.size rfl (.tmp 45) (.tmp 48) 49 53 (.agg #[(.int .i64 0), (.int .i64 0), (.string ⟨#[]⟩)]) 32 rfl Try.underlying49 info53 rfl (by decide) (by omega) v112 y111 y114 _ _ _ (fun k_ => some k_ ≠ (.slice (some ad101) x3_1.length co3 : Value).ownBlock) (fun _ => False) rfl rfl ?aO ?aR (fun _ _ h => h) (fun _ h => h.elim) ?aF ?aB ?aS ?aL ?_; (case aR => repeat (first | exact (by repeat (first | (with_reducible exact HR117.out) | (with_reducible refine Kd.C_alloc ?_ _) | (with_reducible refine Kd.C_drewN ?_ _) | (with_reducible refine Kd.C_drew ?_) | exact HR117.out)) | (with_reducible refine Kd.C_alloc ?_ _) | (with_reducible refine Kd.C_drewN ?_ _) | (with_reducible refine Kd.C_drew ?_))); (case aB => exact (by repeat (first | (with_reducible first | exact HB.out | apply below_alloc | apply pw_below_drewN | apply below_drew1) | exact HB.out))); (case aF => exact (fun k_ hk => Kd.fresh' (Kd.R_lt (by (with_reducible repeat (first | apply Kd.R_alloc | apply Kd.R_drewN | apply Kd.R_drew)); exact HO_3.out)) k_ hk)); (case aO => exact (by (with_reducible repeat (first | apply Kd.R_alloc | apply Kd.R_drewN | apply Kd.R_drew)); exact HO113.out)); (case aS => exact (below_size (by repeat (first | (with_reducible first | exact HB.out | apply below_alloc | apply pw_below_drewN | apply below_drew1) | exact HB.out)))); (case aL => have := LMc17.out; omega); intro v119 w22 ho hb hg hat; rw [← Ny118.out] at ho; have n0_ := Aside0.mk (Kd.R_after (ok := (fun _ => True)) (by (with_reducible repeat (first | apply Kd.R_alloc | apply Kd.R_drewN | apply Kd.R_drew)); exact HO_3.out) hg hat); have n1_ := Aside0.mk (hb); have n2_ := Aside0.mk ((show Kd.C k53 w22 (some ad101) y103.length y103 from by rw [Ny103.out]; exact Kd.C_take (m := (x5_2 : Int).toNat) ((Kd.R_reads' (Kd.R_after (ok := (fun _ => True)) (by (with_reducible repeat (first | apply Kd.R_alloc | apply Kd.R_drewN | apply Kd.R_drew)); exact HO_3.out) hg hat)).2.2) KL18.out)); have n3_ := Aside0.mk ((show Kd.C k53 w22 A21 y114.length y114 from by rw [Ny114.out, KA21.out]; exact Kd.C_drop (m := (x5_2 : Int).toNat) (c := co3) ((Kd.R_reads' (Kd.R_after (ok := (fun _ => True)) (by (with_reducible repeat (first | apply Kd.R_alloc | apply Kd.R_drewN | apply Kd.R_drew)); exact HO_3.out) hg hat)).2.2) KL21.out ((Kd.R_reads' (Kd.R_after (ok := (fun _ => True)) (by (with_reducible repeat (first | apply Kd.R_alloc | apply Kd.R_drewN | apply Kd.R_drew)); exact HO_3.out) hg hat)).2.1))); have n4_ := Aside0.mk (ho); clear HO_3; clear HB; clear HR106; clear HR117; clear HO113; have HO_3 := n0_; have HB := n1_; have HR106 := n2_; have HR117 := n3_; have HO120 := n4_; clear n0_ n1_ n2_ n3_ n4_; clear ho hb hg hat)); try go_wp2_with (first | ((with_reducible refine gate_builtin (b := .append) (xs := #[.tmp 33, .tmp 36]) rfl ?_); at_builtin; refine Kd.R_append_rows k53 (w0 := w) w.heap.size rfl (.tmp 33) (.tmp 36) 49 53 (.agg #[(.int .i64 0), (.int .i64 0), (.string ⟨#[]⟩)]) 32 rfl Try.underlying49 info53 rfl (by decide) (by omega) (.slice none 0 0) ([] : List (S53)) y103 _ _ _ (fun k_ => some k_ ≠ (.slice (some ad101) x3_1.length co3 : Value).ownBlock) (fun _ => False) rfl rfl ?aO ?aR (fun _ _ h => h) (fun _ h => h.elim) ?aF ?aB ?aS ?aL ?_; (case aR => repeat (first | exact (by repeat (first | (with_reducible exact HR106.out) | (with_reducible refine Kd.C_alloc ?_ _) | (with_reducible refine Kd.C_drewN ?_ _) | (with_reducible refine Kd.C_drew ?_) | exact HR106.out)) | (with_reducible refine Kd.C_alloc ?_ _) | (with_reducible refine Kd.C_drewN ?_ _) | (with_reducible refine Kd.C_drew ?_))); (case aB => exact (by repeat (first | (with_reducible first | exact HB.out | apply below_alloc | apply pw_below_drewN | apply below_drew1) | exact HB.out))); (case aF => exact (fun k_ hk => Kd.fresh' (Kd.R_lt (by (with_reducible repeat (first | apply Kd.R_alloc | apply Kd.R_drewN | apply Kd.R_drew)); exact HO_3.out)) k_ hk)); (case aO => exact ((Kd.R_nil _ _ _ _ (fun k_ => some k_ ≠ (.slice (some ad101) x3_1.length co3 : Value).ownBlock)))); (case aS => exact (below_size (by repeat (first | (with_reducible first | exact HB.out | apply below_alloc | apply pw_below_drewN | apply below_drew1) | exact HB.out)))); (case aL => have := LMc13.out; omega); intro v108 w19 ho hb hg hat; rw [← Ny107.out] at ho; have n0_ := Aside0.mk (Kd.R_after (Kd.R_apart_nil (by (with_reducible repeat (first | apply Kd.R_alloc | apply Kd.R_drewN | apply Kd.R_drew)); exact HO_3.out)) hg hat); have n1_ := Aside0.mk (hb); have n2_ := Aside0.mk ((show Kd.C k53 w19 (some ad101) y103.length y103 from by rw [Ny103.out]; exact Kd.C_take (m := (x5_2 : Int).toNat) ((Kd.R_reads' (Kd.R_after (Kd.R_apart_nil (by (with_reducible repeat (first | apply Kd.R_alloc | apply Kd.R_drewN | apply Kd.R_drew)); exact HO_3.out)) hg hat)).2.2) KL18.out)); have n3_ := Aside0.mk (ho); clear HO_3; clear HB; clear HR106; have HO_3 := n0_; have HB := n1_; have HR106 := n2_; have HO109 := n3_; clear n0_ n1_ n2_ n3_; clear ho hb hg hat; have p110 : 0 ≤ (x4_1 : Int) := of_decide_eq_true (by first | (with_reducible assumption) | assumption); have q110 : x4_1 < (l0.length : Int) := of_decide_eq_true (by first | (with_reducible assumption) | assumption); obtain ⟨ad110, e110, hx110_0, hx110_1, hx110_2⟩ := at_T53 HR0.out x4_1 p110 q110; obtain rfl : ad102 = ad110 := (by injection e110); replace hx110_0 := (HB.out.cell (World.block_lt_of_cell? w _ hx110_0)).trans hx110_0; replace hx110_1 := (HB.out.cell (World.block_lt_of_cell? w _ hx110_1)).trans hx110_1; replace hx110_2 := (HB.out.cell (World.block_lt_of_cell? w _ hx110_2)).trans hx110_2; replace p110 := eq_true p110; replace q110 := eq_true q110) | ((with_reducible refine gate_builtin (b := .append) (xs := #[.tmp 38, .tmp 43]) rfl ?_); at_builtin; refine Kd.R_append k53 (w0 := w) w.heap.size rfl (.tmp 38) (.tmp 43) 49 53 (.agg #[(.int .i64 0), (.int .i64 0), (.string ⟨#[]⟩)]) 32 rfl Try.underlying49 info53 rfl (by decide) (by omega) v108 y107 (⟨(rd_T53 l0 x4_1).f0, (rd_T53 l0 x4_1).f1, (rd_T53 l0 x4_1).f2⟩ : S53) [.int .i64 ((rd_T53 l0 x4_1).f0), .int .i64 ((rd_T53 l0 x4_1).f1), .string ((rd_T53 l0 x4_1).f2)] (fun k_ => some k_ ≠ (.slice (some ad101) x3_1.length co3 : Value).ownBlock) (fun _ => False) rfl rfl ?aP (fun _ hk => hk.elim) ?aF ?aO ?aB ?aS ?aL ?_; (case aP => exact k53_mkM _ _ _ (⟨(rd_T53 l0 x4_1).f0, (rd_T53 l0 x4_1).f1, (rd_T53 l0 x4_1).f2⟩ : S53)); (case aB => exact (by repeat (first | (with_reducible first | exact HB.out | apply below_alloc | apply pw_below_drewN | apply below_drew1) | exact HB.out))); (case aF => exact (fun k_ hk => Kd.fresh' (Kd.R_lt (by (with_reducible repeat (first | apply Kd.R_alloc | apply Kd.R_drewN | apply Kd.R_drew)); exact HO_3.out)) k_ hk)); (case aO => exact (by (with_reducible repeat (first | apply Kd.R_alloc | apply Kd.R_drewN | apply Kd.R_drew)); exact HO109.out)); (case aS => exact (below_size (by repeat (first | (with_reducible first | exact HB.out | apply below_alloc | apply pw_below_drewN | apply below_drew1) | exact HB.out)))); (case aL => have := LMc14.out; omega); intro v112 w20 ho hb hg hat; rw [← Ny111.out] at ho; have n0_ := Aside0.mk (Kd.R_after (ok := (fun _ => True)) (by (with_reducible repeat (first | apply Kd.R_alloc | apply Kd.R_drewN | apply Kd.R_drew)); exact HO_3.out) hg hat); have n1_ := Aside0.mk (hb); have n2_ := Aside0.mk ((show Kd.C k53 w20 (some ad101) y103.length y103 from by rw [Ny103.out]; exact Kd.C_take (m := (x5_2 : Int).toNat) ((Kd.R_reads' (Kd.R_after (ok := (fun _ => True)) (by (with_reducible repeat (first | apply Kd.R_alloc | apply Kd.R_drewN | apply Kd.R_drew)); exact HO_3.out) hg hat)).2.2) KL18.out)); have n3_ := Aside0.mk (ho); clear HO_3; clear HB; clear HR106; clear HO109; have HO_3 := n0_; have HB := n1_; have HR106 := n2_; have HO113 := n3_; clear n0_ n1_ n2_ n3_; clear ho hb hg hat; have q21 : (x5_2 : Int) ≤ ((x3_1.length : Int) : Int) := of_decide_eq_true (by first | (with_reducible assumption) | assumption); obtain ⟨i021, hi021, _, hsz21, _⟩ := info_parts info53; have hroom21 : x3_1.length ≤ co3 := (Kd.R_reads' HO_3.out).2.1; have hC21 : Kd.C k53 _ (some ad101) x3_1.length x3_1 := (Kd.R_reads' HO_3.out).2.2; have q021 : (0 : Int) ≤ (x5_2 : Int) := of_decide_eq_true (by first | (with_reducible assumption) | assumption); have hcut21 := cut_from (P := Try.prog) 49 53 .i64 Try.underlying49 hi021 3 hsz21 (some ad101) x3_1.length co3 x5_2 q021 q21; have hr21 := Kd.C_drop (m := (x5_2 : Int).toNat) (c := co3) hC21 (by omega) hroom21; obtain ⟨A21, hA21⟩ : ∃ A1, A1 = (if co3 = (x5_2 : Int).toNat then (some ad101) else ((some ad101) : Option Addr).map (·.add ((x5_2 : Int).toNat * 3))) := ⟨_, rfl⟩; obtain ⟨c21, hc21⟩ : ∃ c1, c1 = co3 - (x5_2 : Int).toNat := ⟨_, rfl⟩; have hy21 : y114.length = x3_1.length - (x5_2 : Int).toNat := (by rw [Ny114.out, List.length_drop] <;> omega); rw [show (x3_1).drop (x5_2 : Int).toNat = y114 from Ny114.out.symm] at hr21; replace hr21 : Kd.C k53 _ A21 y114.length y114 := (by rw [hA21]; exact hr21); rw [← hy21, ← hA21, ← hc21] at hcut21; have HR117 := Aside0.mk hr21; have HC117 := Aside0.mk (show y114.length ≤ c21 from by rw [hy21, hc21]; exact Nat.sub_le_sub_right hroom21 _); clear hr21 hC21 hroom21 hi021 hsz21 hc21; have KY21 := Aside0.mk hy21; have KA21 := Aside0.mk hA21; clear hy21 hA21; have KL21 := Aside0.mk (show (x5_2 : Int).toNat ≤ x3_1.length from by omega); replace q21 := eq_true q21) | ((with_reducible refine gate_builtin (b := .append) (xs := #[.tmp 45, .tmp 48]) rfl ?_); at_builtin; refine Kd.R_append_rows k53 (w0 := w) w.heap.size rfl (.tmp 45) (.tmp 48) 49 53 (.agg #[(.int .i64 0), (.int .i64 0), (.string ⟨#[]⟩)]) 32 rfl Try.underlying49 info53 rfl (by decide) (by omega) v112 y111 y114 _ _ _ (fun k_ => some k_ ≠ (.slice (some ad101) x3_1.length co3 : Value).ownBlock) (fun _ => False) rfl rfl ?aO ?aR (fun _ _ h => h) (fun _ h => h.elim) ?aF ?aB ?aS ?aL ?_; (case aR => repeat (first | exact (by repeat (first | (with_reducible exact HR117.out) | (with_reducible refine Kd.C_alloc ?_ _) | (with_reducible refine Kd.C_drewN ?_ _) | (with_reducible refine Kd.C_drew ?_) | exact HR117.out)) | (with_reducible refine Kd.C_alloc ?_ _) | (with_reducible refine Kd.C_drewN ?_ _) | (with_reducible refine Kd.C_drew ?_))); (case aB => exact (by repeat (first | (with_reducible first | exact HB.out | apply below_alloc | apply pw_below_drewN | apply below_drew1) | exact HB.out))); (case aF => exact (fun k_ hk => Kd.fresh' (Kd.R_lt (by (with_reducible repeat (first | apply Kd.R_alloc | apply Kd.R_drewN | apply Kd.R_drew)); exact HO_3.out)) k_ hk)); (case aO => exact (by (with_reducible repeat (first | apply Kd.R_alloc | apply Kd.R_drewN | apply Kd.R_drew)); exact HO113.out)); (case aS => exact (below_size (by repeat (first | (with_reducible first | exact HB.out | apply below_alloc | apply pw_below_drewN | apply below_drew1) | exact HB.out)))); (case aL => have := LMc17.out; omega); intro v119 w22 ho hb hg hat; rw [← Ny118.out] at ho; have n0_ := Aside0.mk (Kd.R_after (ok := (fun _ => True)) (by (with_reducible repeat (first | apply Kd.R_alloc | apply Kd.R_drewN | apply Kd.R_drew)); exact HO_3.out) hg hat); have n1_ := Aside0.mk (hb); have n2_ := Aside0.mk ((show Kd.C k53 w22 (some ad101) y103.length y103 from by rw [Ny103.out]; exact Kd.C_take (m := (x5_2 : Int).toNat) ((Kd.R_reads' (Kd.R_after (ok := (fun _ => True)) (by (with_reducible repeat (first | apply Kd.R_alloc | apply Kd.R_drewN | apply Kd.R_drew)); exact HO_3.out) hg hat)).2.2) KL18.out)); have n3_ := Aside0.mk ((show Kd.C k53 w22 A21 y114.length y114 from by rw [Ny114.out, KA21.out]; exact Kd.C_drop (m := (x5_2 : Int).toNat) (c := co3) ((Kd.R_reads' (Kd.R_after (ok := (fun _ => True)) (by (with_reducible repeat (first | apply Kd.R_alloc | apply Kd.R_drewN | apply Kd.R_drew)); exact HO_3.out) hg hat)).2.2) KL21.out ((Kd.R_reads' (Kd.R_after (ok := (fun _ => True)) (by (with_reducible repeat (first | apply Kd.R_alloc | apply Kd.R_drewN | apply Kd.R_drew)); exact HO_3.out) hg hat)).2.1))); have n4_ := Aside0.mk (ho); clear HO_3; clear HB; clear HR106; clear HR117; clear HO113; have HO_3 := n0_; have HB := n1_; have HR106 := n2_; have HR117 := n3_; have HO120 := n4_; clear n0_ n1_ n2_ n3_ n4_; clear ho hb hg hat)))
                                  go_roundg k2
                                  case measure => have := HK1.out; have := HK2.out; omega
                                  case rel => exact ⟨(y118), (wrap64 (x4_1 + 1)), (by first | rfl | (simp; done) | (simp [*]; done)), H', ⟨by have := HK1.out; have := HK2.out; omega⟩, ⟨by (with_reducible repeat (first | apply Kd.R_alloc | apply Kd.R_drewN | apply Kd.R_drew)); exact Kd.R_mono HO120.out (fun _ hk => trivial)⟩, ⟨by repeat (first | (with_reducible first | exact HB.out | apply below_alloc | apply pw_below_drewN | apply below_drew1) | exact HB.out)⟩⟩
                                · rw [if_neg c17] at H
                                  exact absurd H (by simp)
                              · rw [if_neg c14] at H
                                exact absurd H (by simp)
                            · rw [if_neg c13] at H
                              exact absurd H (by simp)
                          · rw [if_neg c12] at H
                            exact absurd H (by simp)
                        · rw [if_neg c11] at H
                          exact absurd H (by simp)
                    · rw [if_neg c9] at H
                      exact absurd H (by simp)
                  · rw [if_neg c8] at H
                    exact absurd H (by simp)
                · rw [if_neg c7] at H
                  exact absurd H (by simp)
              · rw [if_neg c6] at H
                exact absurd H (by simp)
            · rw [if_neg c4] at H
              have c4b0 : decide (0 < x5_2) = false := decide_eq_false c4
              clear c4
              by_cases c23 : 0 ≤ x5_2
              · rw [if_pos c23] at H
                have c23b0 := eq_true c23
                have c23b1 : decide (0 ≤ x5_2) = true := decide_eq_true c23
                clear c23
                by_cases c24 : x5_2 ≤ (x3_1.length : Int)
                · rw [if_pos c24] at H
                  have c24b0 := eq_true c24
                  have c24b1 : decide (x5_2 ≤ (x3_1.length : Int)) = true := decide_eq_true c24
                  clear c24
                  obtain ⟨y121, hy121⟩ : ∃ y_ : List (S53), y_ = (x3_1.take (x5_2 : Int).toNat) := ⟨_, rfl⟩
                  replace H : (if ([] : List (S53)).length + y121.length < 4398046511104 then ((some (([] : List (S53)) ++ y121 : List (S53))).bind fun y125 => (if 0 ≤ x4_1 then (if x4_1 < (l0.length : Int) then (if y125.length < 4398046511104 then ((some (y125 ++ [(⟨(rd_T53 l0 x4_1).f0, (rd_T53 l0 x4_1).f1, (rd_T53 l0 x4_1).f2⟩ : S53)] : List (S53))).bind fun y129 => ((some (x3_1.drop (x5_2 : Int).toNat : List (S53))).bind fun y132 => (if y129.length + y132.length < 4398046511104 then (paronymref03_Sorted.l0 k2 l0 (y129 ++ y132) (wrap64 (x4_1 + 1))) else (none)))) else (none)) else (none)) else (none))) else (none)) = some r := by first | (rw [hy121]; with_reducible exact H) | (have H2_ := (Option.bind_some _ _).symm.trans H; rw [hy121]; with_reducible exact H2_) | (have H2_ := (Option.bind_some _ _).symm.trans H; with_reducible exact H2_) | with_reducible exact H | (rw [hy121]; exact H) | exact H
                  have Ny121 := Aside0.mk hy121
                  clear hy121
                  by_cases c25 : ([] : List (S53)).length + y121.length < 4398046511104
                  · rw [if_pos c25] at H
                    have LMc25 := Aside0.mk c25
                    clear c25
                    obtain ⟨y125, hy125⟩ : ∃ y_ : List (S53), y_ = (([] : List (S53)) ++ y121) := ⟨_, rfl⟩
                    replace H : (if 0 ≤ x4_1 then (if x4_1 < (l0.length : Int) then (if y125.length < 4398046511104 then ((some (y125 ++ [(⟨(rd_T53 l0 x4_1).f0, (rd_T53 l0 x4_1).f1, (rd_T53 l0 x4_1).f2⟩ : S53)] : List (S53))).bind fun y129 => ((some (x3_1.drop (x5_2 : Int).toNat : List (S53))).bind fun y132 => (if y129.length + y132.length < 4398046511104 then (paronymref03_Sorted.l0 k2 l0 (y129 ++ y132) (wrap64 (x4_1 + 1))) else (none)))) else (none)) else (none)) else (none)) = some r := by first | (rw [hy125]; with_reducible exact H) | (have H2_ := (Option.bind_some _ _).symm.trans H; rw [hy125]; with_reducible exact H2_) | (have H2_ := (Option.bind_some _ _).symm.trans H; with_reducible exact H2_) | with_reducible exact H | (rw [hy125]; exact H) | exact H
                    have Ny125 := Aside0.mk hy125
                    clear hy125
                    by_cases c26 : 0 ≤ x4_1
                    · rw [if_pos c26] at H
                      have c26b0 : decide (0 ≤ x4_1) = true := decide_eq_true c26
                      clear c26
                      by_cases c27 : x4_1 < (l0.length : Int)
                      · rw [if_pos c27] at H
                        have c27b0 : decide (x4_1 < (l0.length : Int)) = true := decide_eq_true c27
                        clear c27
                        by_cases c28 : y125.length < 4398046511104
                        · rw [if_pos c28] at H
                          have LMc28 := Aside0.mk c28
                          clear c28
                          obtain ⟨y129, hy129⟩ : ∃ y_ : List (S53), y_ = (y125 ++ [(⟨(rd_T53 l0 x4_1).f0, (rd_T53 l0 x4_1).f1, (rd_T53 l0 x4_1).f2⟩ : S53)]) := ⟨_, rfl⟩
                          replace H : ((some (x3_1.drop (x5_2 : Int).toNat : List (S53))).bind fun y132 => (if y129.length + y132.length < 4398046511104 then (paronymref03_Sorted.l0 k2 l0 (y129 ++ y132) (wrap64 (x4_1 + 1))) else (none))) = some r := by first | (rw [hy129]; with_reducible exact H) | (have H2_ := (Option.bind_some _ _).symm.trans H; rw [hy129]; with_reducible exact H2_) | (have H2_ := (Option.bind_some _ _).symm.trans H; with_reducible exact H2_) | with_reducible exact H | (rw [hy129]; exact H) | exact H
                          have Ny129 := Aside0.mk hy129
                          clear hy129
                          have c29b0 := eq_true (of_decide_eq_true (by first | (with_reducible assumption) | assumption) : 0 ≤ x5_2)
                          have c30b0 := eq_true (of_decide_eq_true (by first | (with_reducible assumption) | assumption) : x5_2 ≤ (x3_1.length : Int))
                          obtain ⟨y132, hy132⟩ : ∃ y_ : List (S53), y_ = (x3_1.drop (x5_2 : Int).toNat) := ⟨_, rfl⟩
                          replace H : (if y129.length + y132.length < 4398046511104 then (paronymref03_Sorted.l0 k2 l0 (y129 ++ y132) (wrap64 (x4_1 + 1))) else (none)) = some r := by first | (rw [hy132]; with_reducible exact H) | (have H2_ := (Option.bind_some _ _).symm.trans H; rw [hy132]; with_reducible exact H2_) | (have H2_ := (Option.bind_some _ _).symm.trans H; with_reducible exact H2_) | with_reducible exact H | (rw [hy132]; exact H) | exact H
                          have Ny132 := Aside0.mk hy132
                          clear hy132
                          by_cases c31 : y129.length + y132.length < 4398046511104
                          · rw [if_pos c31] at H
                            have LMc31 := Aside0.mk c31
                            clear c31
                            obtain ⟨y136, hy136⟩ : ∃ y_ : List (S53), y_ = (y129 ++ y132) := ⟨_, rfl⟩
                            replace H : (paronymref03_Sorted.l0 k2 l0 y136 (wrap64 (x4_1 + 1))) = some r := by first | (rw [hy136]; with_reducible exact H) | (have H2_ := (Option.bind_some _ _).symm.trans H; rw [hy136]; with_reducible exact H2_) | (have H2_ := (Option.bind_some _ _).symm.trans H; with_reducible exact H2_) | with_reducible exact H | (rw [hy136]; exact H) | exact H
                            have Ny136 := Aside0.mk hy136
                            clear hy136
                            have H' := Aside0.mk H
                            clear H
                            have q32 : (x5_2 : Int) ≤ ((x3_1.length : Int) : Int) := of_decide_eq_true (by first | (with_reducible assumption) | assumption)
                            obtain ⟨i032, hi032, _, hsz32, _⟩ := info_parts info53
                            have hroom32 : x3_1.length ≤ co3 := (Kd.R_reads' HO_3.out).2.1
                            have hC32 : Kd.C k53 _ Ao3 x3_1.length x3_1 := (Kd.R_reads' HO_3.out).2.2
                            have hcut32 := cut_to (P := Try.prog) 49 53 .i64 Try.underlying49 hi032 Ao3 x3_1.length co3 x5_2 (of_decide_eq_true (by first | (with_reducible assumption) | assumption)) q32 hroom32
                            have hr32 := Kd.C_take (m := (x5_2 : Int).toNat) hC32 (by omega)
                            have hy32 : y121.length = (x5_2 : Int).toNat := (by rw [Ny121.out, List.length_take]; omega)
                            rw [← Ny121.out] at hr32
                            rw [← hy32] at hcut32
                            have HR124 := Aside0.mk hr32
                            have HC124 := Aside0.mk (show y121.length ≤ co3 from by omega)
                            clear hr32 hC32 hroom32 hi032 hsz32
                            have KY32 := Aside0.mk hy32
                            clear hy32
                            have KL32 := Aside0.mk (show (x5_2 : Int).toNat ≤ x3_1.length from by omega)
                            replace q32 := eq_true q32
                            go_wp2_with (first | ((with_reducible refine gate_builtin (b := .append) (xs := #[.tmp 33, .tmp 36]) rfl ?_); at_builtin; refine Kd.R_append_rows k53 (w0 := w) w.heap.size rfl (.tmp 33) (.tmp 36) 49 53 (.agg #[(.int .i64 0), (.int .i64 0), (.string ⟨#[]⟩)]) 32 rfl Try.underlying49 info53 rfl (by decide) (by omega) (.slice none 0 0) ([] : List (S53)) y121 _ _ _ (fun k_ => some k_ ≠ (.slice Ao3 x3_1.length co3 : Value).ownBlock) (fun _ => False) rfl rfl ?aO ?aR (fun _ _ h => h) (fun _ h => h.elim) ?aF ?aB ?aS ?aL ?_; (case aR => repeat (first | exact (by repeat (first | (with_reducible exact HR124.out) | (with_reducible refine Kd.C_alloc ?_ _) | (with_reducible refine Kd.C_drewN ?_ _) | (with_reducible refine Kd.C_drew ?_) | exact HR124.out)) | (with_reducible refine Kd.C_alloc ?_ _) | (with_reducible refine Kd.C_drewN ?_ _) | (with_reducible refine Kd.C_drew ?_))); (case aB => exact (by repeat (first | (with_reducible first | exact HB.out | apply below_alloc | apply pw_below_drewN | apply below_drew1) | exact HB.out))); (case aF => exact (fun k_ hk => Kd.fresh' (Kd.R_lt (by (with_reducible repeat (first | apply Kd.R_alloc | apply Kd.R_drewN | apply Kd.R_drew)); exact HO_3.out)) k_ hk)); (case aO => exact ((Kd.R_nil _ _ _ _ (fun k_ => some k_ ≠ (.slice Ao3 x3_1.length co3 : Value).ownBlock)))); (case aS => exact (below_size (by repeat (first | (with_reducible first | exact HB.out | apply below_alloc | apply pw_below_drewN | apply below_drew1) | exact HB.out)))); (case aL => have := LMc25.out; omega); intro v126 w33 ho hb hg hat; rw [← Ny125.out] at ho; have n0_ := Aside0.mk (Kd.R_after (Kd.R_apart_nil (by (with_reducible repeat (first | apply Kd.R_alloc | apply Kd.R_drewN | apply Kd.R_drew)); exact HO_3.out)) hg hat); have n1_ := Aside0.mk (hb); have n2_ := Aside0.mk ((show Kd.C k53 w33 Ao3 y121.length y121 from by rw [Ny121.out]; exact Kd.C_take (m := (x5_2 : Int).toNat) ((Kd.R_reads' (Kd.R_after (Kd.R_apart_nil (by (with_reducible repeat (first | apply Kd.R_alloc | apply Kd.R_drewN | apply Kd.R_drew)); exact HO_3.out)) hg hat)).2.2) KL32.out)); have n3_ := Aside0.mk (ho); clear HO_3; clear HB; clear HR124; have HO_3 := n0_; have HB := n1_; have HR124 := n2_; have HO127 := n3_; clear n0_ n1_ n2_ n3_; clear ho hb hg hat; have p128 : 0 ≤ (x4_1 : Int) := of_decide_eq_true (by first | (with_reducible assumption) | assumption); have q128 : x4_1 < (l0.length : Int) := of_decide_eq_true (by first | (with_reducible assumption) | assumption); obtain ⟨ad128, e128, hx128_0, hx128_1, hx128_2⟩ := at_T53 HR0.out x4_1 p128 q128; cases e128; replace hx128_0 := (HB.out.cell (World.block_lt_of_cell? w _ hx128_0)).trans hx128_0; replace hx128_1 := (HB.out.cell (World.block_lt_of_cell? w _ hx128_1)).trans hx128_1; replace hx128_2 := (HB.out.cell (World.block_lt_of_cell? w _ hx128_2)).trans hx128_2; replace p128 := eq_true p128; replace q128 := eq_true q128) | ((with_reducible refine gate_builtin (b := .append) (xs := #[.tmp 38, .tmp 43]) rfl ?_); at_builtin; refine Kd.R_append k53 (w0 := w) w.heap.size rfl (.tmp 38) (.tmp 43) 49 53 (.agg #[(.int .i64 0), (.int .i64 0), (.string ⟨#[]⟩)]) 32 rfl Try.underlying49 info53 rfl (by decide) (by omega) v126 y125 (⟨(rd_T53 l0 x4_1).f0, (rd_T53 l0 x4_1).f1, (rd_T53 l0 x4_1).f2⟩ : S53) [.int .i64 ((rd_T53 l0 x4_1).f0), .int .i64 ((rd_T53 l0 x4_1).f1), .string ((rd_T53 l0 x4_1).f2)] (fun k_ => some k_ ≠ (.slice Ao3 x3_1.length co3 : Value).ownBlock) (fun _ => False) rfl rfl ?aP (fun _ hk => hk.elim) ?aF ?aO ?aB ?aS ?aL ?_; (case aP => exact k53_mkM _ _ _ (⟨(rd_T53 l0 x4_1).f0, (rd_T53 l0 x4_1).f1, (rd_T53 l0 x4_1).f2⟩ : S53)); (case aB => exact (by repeat (first | (with_reducible first | exact HB.out | apply below_alloc | apply pw_below_drewN | apply below_drew1) | exact HB.out))); (case aF => exact (fun k_ hk => Kd.fresh' (Kd.R_lt (by (with_reducible repeat (first | apply Kd.R_alloc | apply Kd.R_drewN | apply Kd.R_drew)); exact HO_3.out)) k_ hk)); (case aO => exact (by (with_reducible repeat (first | apply Kd.R_alloc | apply Kd.R_drewN | apply Kd.R_drew)); exact HO127.out)); (case aS => exact (below_size (by repeat (first | (with_reducible first | exact HB.out | apply below_alloc | apply pw_below_drewN | apply below_drew1) | exact HB.out)))); (case aL => have := LMc28.out; omega); intro v130 w34 ho hb hg hat; rw [← Ny129.out] at ho; have n0_ := Aside0.mk (Kd.R_after (ok := (fun _ => True)) (by (with_reducible repeat (first | apply Kd.R_alloc | apply Kd.R_drewN | apply Kd.R_drew)); exact HO_3.out) hg hat); have n1_ := Aside0.mk (hb); have n2_ := Aside0.mk ((show Kd.C k53 w34 Ao3 y121.length y121 from by rw [Ny121.out]; exact Kd.C_take (m := (x5_2 : Int).toNat) ((Kd.R_reads' (Kd.R_after (ok := (fun _ => True)) (by (with_reducible repeat (first | apply Kd.R_alloc | apply Kd.R_drewN | apply Kd.R_drew)); exact HO_3.out) hg hat)).2.2) KL32.out)); have n3_ := Aside0.mk (ho); clear HO_3; clear HB; clear HR124; clear HO127; have HO_3 := n0_; have HB := n1_; have HR124 := n2_; have HO131 := n3_; clear n0_ n1_ n2_ n3_; clear ho hb hg hat; have q35 : (x5_2 : Int) ≤ ((x3_1.length : Int) : Int) := of_decide_eq_true (by first | (with_reducible assumption) | assumption); obtain ⟨i035, hi035, _, hsz35, _⟩ := info_parts info53; have hroom35 : x3_1.length ≤ co3 := (Kd.R_reads' HO_3.out).2.1; have hC35 : Kd.C k53 _ Ao3 x3_1.length x3_1 := (Kd.R_reads' HO_3.out).2.2; have q035 : (0 : Int) ≤ (x5_2 : Int) := of_decide_eq_true (by first | (with_reducible assumption) | assumption); have hcut35 := cut_from (P := Try.prog) 49 53 .i64 Try.underlying49 hi035 3 hsz35 Ao3 x3_1.length co3 x5_2 q035 q35; have hr35 := Kd.C_drop (m := (x5_2 : Int).toNat) (c := co3) hC35 (by omega) hroom35; obtain ⟨A35, hA35⟩ : ∃ A1, A1 = (if co3 = (x5_2 : Int).toNat then Ao3 else (Ao3 : Option Addr).map (·.add ((x5_2 : Int).toNat * 3))) := ⟨_, rfl⟩; obtain ⟨c35, hc35⟩ : ∃ c1, c1 = co3 - (x5_2 : Int).toNat := ⟨_, rfl⟩; have hy35 : y132.length = x3_1.length - (x5_2 : Int).toNat := (by rw [Ny132.out, List.length_drop] <;> omega); rw [show (x3_1).drop (x5_2 : Int).toNat = y132 from Ny132.out.symm] at hr35; replace hr35 : Kd.C k53 _ A35 y132.length y132 := (by rw [hA35]; exact hr35); rw [← hy35, ← hA35, ← hc35] at hcut35; have HR135 := Aside0.mk hr35; have HC135 := Aside0.mk (show y132.length ≤ c35 from by rw [hy35, hc35]; exact Nat.sub_le_sub_right hroom35 _); clear hr35 hC35 hroom35 hi035 hsz35 hc35; have KY35 := Aside0.mk hy35; have KA35 := Aside0.mk hA35; clear hy35 hA35; have KL35 := Aside0.mk (show (x5_2 : Int).toNat ≤ x3_1.length from by omega); replace q35 := eq_true q35) | ((with_reducible refine gate_builtin (b := .append) (xs := #[.tmp 45, .tmp 48]) rfl ?_); at_builtin; refine Kd.R_append_rows k53 (w0 := w) w.heap.size rfl (.tmp 45) (.tmp 48) 49 53 (.agg #[(.int .i64 0), (.int .i64 0), (.string ⟨#[]⟩)]) 32 rfl Try.underlying49 info53 rfl (by decide) (by omega) v130 y129 y132 _ _ _ (fun k_ => some k_ ≠ (.slice Ao3 x3_1.length co3 : Value).ownBlock) (fun _ => False) rfl rfl ?aO ?aR (fun _ _ h => h) (fun _ h => h.elim) ?aF ?aB ?aS ?aL ?_; (case aR => repeat (first | exact (by repeat (first | (with_reducible exact HR135.out) | (with_reducible refine Kd.C_alloc ?_ _) | (with_reducible refine Kd.C_drewN ?_ _) | (with_reducible refine Kd.C_drew ?_) | exact HR135.out)) | (with_reducible refine Kd.C_alloc ?_ _) | (with_reducible refine Kd.C_drewN ?_ _) | (with_reducible refine Kd.C_drew ?_))); (case aB => exact (by repeat (first | (with_reducible first | exact HB.out | apply below_alloc | apply pw_below_drewN | apply below_drew1) | exact HB.out))); (case aF => exact (fun k_ hk => Kd.fresh' (Kd.R_lt (by (with_reducible repeat (first | apply Kd.R_alloc | apply Kd.R_drewN | apply Kd.R_drew)); exact HO_3.out)) k_ hk)); (case aO => exact (by (with_reducible repeat (first | apply Kd.R_alloc | apply Kd.R_drewN | apply Kd.R_drew)); exact HO131.out)); (case aS => exact (below_size (by repeat (first | (with_reducible first | exact HB.out | apply below_alloc | apply pw_below_drewN | apply below_drew1) | exact HB.out)))); (case aL => have := LMc31.out; omega); intro v137 w36 ho hb hg hat; rw [← Ny136.out] at ho; have n0_ := Aside0.mk (Kd.R_after (ok := (fun _ => True)) (by (with_reducible repeat (first | apply Kd.R_alloc | apply Kd.R_drewN | apply Kd.R_drew)); exact HO_3.out) hg hat); have n1_ := Aside0.mk (hb); have n2_ := Aside0.mk ((show Kd.C k53 w36 Ao3 y121.length y121 from by rw [Ny121.out]; exact Kd.C_take (m := (x5_2 : Int).toNat) ((Kd.R_reads' (Kd.R_after (ok := (fun _ => True)) (by (with_reducible repeat (first | apply Kd.R_alloc | apply Kd.R_drewN | apply Kd.R_drew)); exact HO_3.out) hg hat)).2.2) KL32.out)); have n3_ := Aside0.mk ((show Kd.C k53 w36 A35 y132.length y132 from by rw [Ny132.out, KA35.out]; exact Kd.C_drop (m := (x5_2 : Int).toNat) (c := co3) ((Kd.R_reads' (Kd.R_after (ok := (fun _ => True)) (by (with_reducible repeat (first | apply Kd.R_alloc | apply Kd.R_drewN | apply Kd.R_drew)); exact HO_3.out) hg hat)).2.2) KL35.out ((Kd.R_reads' (Kd.R_after (ok := (fun _ => True)) (by (with_reducible repeat (first | apply Kd.R_alloc | apply Kd.R_drewN | apply Kd.R_drew)); exact HO_3.out) hg hat)).2.1))); have n4_ := Aside0.mk (ho); clear HO_3; clear HB; clear HR124; clear HR135; clear HO131; have HO_3 := n0_; have HB := n1_; have HR124 := n2_; have HR135 := n3_; have HO138 := n4_; clear n0_ n1_ n2_ n3_ n4_; clear ho hb hg hat))
                            repeat (go_quiet (first | ((with_reducible refine gate_builtin (b := .append) (xs := #[.tmp 33, .tmp 36]) rfl ?_); at_builtin; refine Kd.R_append_rows k53 (w0 := w) w.heap.size rfl (.tmp 33) (.tmp 36) 49 53 (.agg #[(.int .i64 0), (.int .i64 0), (.string ⟨#[]⟩)]) 32 rfl Try.underlying49 info53 rfl (by decide) (by omega) (.slice none 0 0) ([] : List (S53)) y121 _ _ _ (fun k_ => some k_ ≠ (.slice Ao3 x3_1.length co3 : Value).ownBlock) (fun _ => False) rfl rfl ?aO ?aR (fun _ _ h => h) (fun _ h => h.elim) ?aF ?aB ?aS ?aL ?_; (case aR => repeat (first | exact (by repeat (first | (with_reducible exact HR124.out) | (with_reducible refine Kd.C_alloc ?_ _) | (with_reducible refine Kd.C_drewN ?_ _) | (with_reducible refine Kd.C_drew ?_) | exact HR124.out)) | (with_reducible refine Kd.C_alloc ?_ _) | (with_reducible refine Kd.C_drewN ?_ _) | (with_reducible refine Kd.C_drew ?_))); (case aB => exact (by repeat (first | (with_reducible first | exact HB.out | apply below_alloc | apply pw_below_drewN | apply below_drew1) | exact HB.out))); (case aF => exact (fun k_ hk => Kd.fresh' (Kd.R_lt (by (with_reducible repeat (first | apply Kd.R_alloc | apply Kd.R_drewN | apply Kd.R_drew)); exact HO_3.out)) k_ hk)); (case aO => exact ((Kd.R_nil _ _ _ _ (fun k_ => some k_ ≠ (.slice Ao3 x3_1.length co3 : Value).ownBlock)))); (case aS => exact (below_size (by repeat (first | (with_reducible first | exact HB.out | apply below_alloc | apply pw_below_drewN | apply below_drew1) | exact HB.out)))); (case aL => have := LMc25.out; omega); intro v126 w33 ho hb hg hat; rw [← Ny125.out] at ho; have n0_ := Aside0.mk (Kd.R_after (Kd.R_apart_nil (by (with_reducible repeat (first | apply Kd.R_alloc | apply Kd.R_drewN | apply Kd.R_drew)); exact HO_3.out)) hg hat); have n1_ := Aside0.mk (hb); have n2_ := Aside0.mk ((show Kd.C k53 w33 Ao3 y121.length y121 from by rw [Ny121.out]; exact Kd.C_take (m := (x5_2 : Int).toNat) ((Kd.R_reads' (Kd.R_after (Kd.R_apart_nil (by (with_reducible repeat (first | apply Kd.R_alloc | apply Kd.R_drewN | apply Kd.R_drew)); exact HO_3.out)) hg hat)).2.2) KL32.out)); have n3_ := Aside0.mk (ho); clear HO_3; clear HB; clear HR124; have HO_3 := n0_; have HB := n1_; have HR124 := n2_; have HO127 := n3_; clear n0_ n1_ n2_ n3_; clear ho hb hg hat; have p128 : 0 ≤ (x4_1 : Int) := of_decide_eq_true (by first | (with_reducible assumption) | assumption); have q128 : x4_1 < (l0.length : Int) := of_decide_eq_true (by first | (with_reducible assumption) | assumption); obtain ⟨ad128, e128, hx128_0, hx128_1, hx128_2⟩ := at_T53 HR0.out x4_1 p128 q128; cases e128; replace hx128_0 := (HB.out.cell (World.block_lt_of_cell? w _ hx128_0)).trans hx128_0; replace hx128_1 := (HB.out.cell (World.block_lt_of_cell? w _ hx128_1)).trans hx128_1; replace hx128_2 := (HB.out.cell (World.block_lt_of_cell? w _ hx128_2)).trans hx128_2; replace p128 := eq_true p128; replace q128 := eq_true q128) | ((with_reducible refine gate_builtin (b := .append) (xs := #[.tmp 38, .tmp 43]) rfl ?_); at_builtin; refine Kd.R_append k53 (w0 := w) w.heap.size rfl (.tmp 38) (.tmp 43) 49 53 (.agg #[(.int .i64 0), (.int .i64 0), (.string ⟨#[]⟩)]) 32 rfl Try.underlying49 info53 rfl (by decide) (by omega) v126 y125 (⟨(rd_T53 l0 x4_1).f0, (rd_T53 l0 x4_1).f1, (rd_T53 l0 x4_1).f2⟩ : S53) [.int .i64 ((rd_T53 l0 x4_1).f0), .int .i64 ((rd_T53 l0 x4_1).f1), .string ((rd_T53 l0 x4_1).f2)] (fun k_ => some k_ ≠ (.slice Ao3 x3_1.length co3 : Value).ownBlock) (fun _ => False) rfl rfl ?aP (fun _ hk => hk.elim) ?aF ?aO ?aB ?aS ?aL ?_; (case aP => exact k53_mkM _ _ _ (⟨(rd_T53 l0 x4_1).f0, (rd_T53 l0 x4_1).f1, (rd_T53 l0 x4_1).f2⟩ : S53)); (case aB => exact (by repeat (first | (with_reducible first | exact HB.out | apply below_alloc | apply pw_below_drewN | apply below_drew1) | exact HB.out))); (case aF => exact (fun k_ hk => Kd.fresh' (Kd.R_lt (by (with_reducible repeat (first | apply Kd.R_alloc | apply Kd.R_drewN | apply Kd.R_drew)); exact HO_3.out)) k_ hk)); (case aO => exact (by (with_reducible repeat (first | apply Kd.R_alloc | apply Kd.R_drewN | apply Kd.R_drew)); exact HO127.out)); (case aS => exact (below_size (by repeat (first | (with_reducible first | exact HB.out | apply below_alloc | apply pw_below_drewN | apply below_drew1) | exact HB.out)))); (case aL => have := LMc28.out; omega); intro v130 w34 ho hb hg hat; rw [← Ny129.out] at ho; have n0_ := Aside0.mk (Kd.R_after (ok := (fun _ => True)) (by (with_reducible repeat (first | apply Kd.R_alloc | apply Kd.R_drewN | apply Kd.R_drew)); exact HO_3.out) hg hat); have n1_ := Aside0.mk (hb); have n2_ := Aside0.mk ((show Kd.C k53 w34 Ao3 y121.length y121 from by rw [Ny121.out]; exact Kd.C_take (m := (x5_2 : Int).toNat) ((Kd.R_reads' (Kd.R_after (ok := (fun _ => True)) (by (with_reducible repeat (first | apply Kd.R_alloc | apply Kd.R_drewN | apply Kd.R_drew)); exact HO_3.out) hg hat)).2.2) KL32.out)); have n3_ := Aside0.mk (ho); clear HO_3; clear HB; clear HR124; clear HO127; have HO_3 := n0_; have HB := n1_; have HR124 := n2_; have HO131 := n3_; clear n0_ n1_ n2_ n3_; clear ho hb hg hat; have q35 : (x5_2 : Int) ≤ ((x3_1.length : Int) : Int) := of_decide_eq_true (by first | (with_reducible assumption) | assumption); obtain ⟨i035, hi035, _, hsz35, _⟩ := info_parts info53; have hroom35 : x3_1.length ≤ co3 := (Kd.R_reads' HO_3.out).2.1; have hC35 : Kd.C k53 _ Ao3 x3_1.length x3_1 := (Kd.R_reads' HO_3.out).2.2; have q035 : (0 : Int) ≤ (x5_2 : Int) := of_decide_eq_true (by first | (with_reducible assumption) | assumption); have hcut35 := cut_from (P := Try.prog) 49 53 .i64 Try.underlying49 hi035 3 hsz35 Ao3 x3_1.length co3 x5_2 q035 q35; have hr35 := Kd.C_drop (m := (x5_2 : Int).toNat) (c := co3) hC35 (by omega) hroom35; obtain ⟨A35, hA35⟩ : ∃ A1, A1 = (if co3 = (x5_2 : Int).toNat then Ao3 else (Ao3 : Option Addr).map (·.add ((x5_2 : Int).toNat * 3))) := ⟨_, rfl⟩; obtain ⟨c35, hc35⟩ : ∃ c1, c1 = co3 - (x5_2 : Int).toNat := ⟨_, rfl⟩; have hy35 : y132.length = x3_1.length - (x5_2 : Int).toNat := (by rw [Ny132.out, List.length_drop] <;> omega); rw [show (x3_1).drop (x5_2 : Int).toNat = y132 from Ny132.out.symm] at hr35; replace hr35 : Kd.C k53 _ A35 y132.length y132 := (by rw [hA35]; exact hr35); rw [← hy35, ← hA35, ← hc35] at hcut35; have HR135 := Aside0.mk hr35; have HC135 := Aside0.mk (show y132.length ≤ c35 from by rw [hy35, hc35]; exact Nat.sub_le_sub_right hroom35 _); clear hr35 hC35 hroom35 hi035 hsz35 hc35; have KY35 := Aside0.mk hy35; have KA35 := Aside0.mk hA35; clear hy35 hA35; have KL35 := Aside0.mk (show (x5_2 : Int).toNat ≤ x3_1.length from by omega); replace q35 := eq_true q35) | ((with_reducible refine gate_builtin (b := .append) (xs := #[.tmp 45, .tmp 48]) rfl ?_); at_builtin; refine Kd.R_append_rows k53 (w0 := w) w.heap.size rfl (.tmp 45) (.tmp 48) 49 53 (.agg #[(.int .i64 0), (.int .i64 0), (.string ⟨#[]⟩)]) 32 rfl Try.underlying49 info53 rfl (by decide) (by omega) v130 y129 y132 _ _ _ (fun k_ => some k_ ≠ (.slice Ao3 x3_1.length co3 : Value).ownBlock) (fun _ => False) rfl rfl ?aO ?aR (fun _ _ h => h) (fun _ h => h.elim) ?aF ?aB ?aS ?aL ?_; (case aR => repeat (first | exact (by repeat (first | (with_reducible exact HR135.out) | (with_reducible refine Kd.C_alloc ?_ _) | (with_reducible refine Kd.C_drewN ?_ _) | (with_reducible refine Kd.C_drew ?_) | exact HR135.out)) | (with_reducible refine Kd.C_alloc ?_ _) | (with_reducible refine Kd.C_drewN ?_ _) | (with_reducible refine Kd.C_drew ?_))); (case aB => exact (by repeat (first | (with_reducible first | exact HB.out | apply below_alloc | apply pw_below_drewN | apply below_drew1) | exact HB.out))); (case aF => exact (fun k_ hk => Kd.fresh' (Kd.R_lt (by (with_reducible repeat (first | apply Kd.R_alloc | apply Kd.R_drewN | apply Kd.R_drew)); exact HO_3.out)) k_ hk)); (case aO => exact (by (with_reducible repeat (first | apply Kd.R_alloc | apply Kd.R_drewN | apply Kd.R_drew)); exact HO131.out)); (case aS => exact (below_size (by repeat (first | (with_reducible first | exact HB.out | apply below_alloc | apply pw_below_drewN | apply below_drew1) | exact HB.out)))); (case aL => have := LMc31.out; omega); intro v137 w36 ho hb hg hat; rw [← Ny136.out] at ho; have n0_ := Aside0.mk (Kd.R_after (ok := (fun _ => True)) (by (with_reducible repeat (first | apply Kd.R_alloc | apply Kd.R_drewN | apply Kd.R_drew)); exact HO_3.out) hg hat); have n1_ := Aside0.mk (hb); have n2_ := Aside0.mk ((show Kd.C k53 w36 Ao3 y121.length y121 from by rw [Ny121.out]; exact Kd.C_take (m := (x5_2 : Int).toNat) ((Kd.R_reads' (Kd.R_after (ok := (fun _ => True)) (by (with_reducible repeat (first | apply Kd.R_alloc | apply Kd.R_drewN | apply Kd.R_drew)); exact HO_3.out) hg hat)).2.2) KL32.out)); have n3_ := Aside0.mk ((show Kd.C k53 w36 A35 y132.length y132 from by rw [Ny132.out, KA35.out]; exact Kd.C_drop (m := (x5_2 : Int).toNat) (c := co3) ((Kd.R_reads' (Kd.R_after (ok := (fun _ => True)) (by (with_reducible repeat (first | apply Kd.R_alloc | apply Kd.R_drewN | apply Kd.R_drew)); exact HO_3.out) hg hat)).2.2) KL35.out ((Kd.R_reads' (Kd.R_after (ok := (fun _ => True)) (by (with_reducible repeat (first | apply Kd.R_alloc | apply Kd.R_drewN | apply Kd.R_drew)); exact HO_3.out) hg hat)).2.1))); have n4_ := Aside0.mk (ho); clear HO_3; clear HB; clear HR124; clear HR135; clear HO131; have HO_3 := n0_; have HB := n1_; have HR124 := n2_; have HR135 := n3_; have HO138 := n4_; clear n0_ n1_ n2_ n3_ n4_; clear ho hb hg hat)); try go_wp2_with (first | ((with_reducible refine gate_builtin (b := .append) (xs := #[.tmp 33, .tmp 36]) rfl ?_); at_builtin; refine Kd.R_append_rows k53 (w0 := w) w.heap.size rfl (.tmp 33) (.tmp 36) 49 53 (.agg #[(.int .i64 0), (.int .i64 0), (.string ⟨#[]⟩)]) 32 rfl Try.underlying49 info53 rfl (by decide) (by omega) (.slice none 0 0) ([] : List (S53)) y121 _ _ _ (fun k_ => some k_ ≠ (.slice Ao3 x3_1.length co3 : Value).ownBlock) (fun _ => False) rfl rfl ?aO ?aR (fun _ _ h => h) (fun _ h => h.elim) ?aF ?aB ?aS ?aL ?_; (case aR => repeat (first | exact (by repeat (first | (with_reducible exact HR124.out) | (with_reducible refine Kd.C_alloc ?_ _) | (with_reducible refine Kd.C_drewN ?_ _) | (with_reducible refine Kd.C_drew ?_) | exact HR124.out)) | (with_reducible refine Kd.C_alloc ?_ _) | (with_reducible refine Kd.C_drewN ?_ _) | (with_reducible refine Kd.C_drew ?_))); (case aB => exact (by repeat (first | (with_reducible first | exact HB.out | apply below_alloc | apply pw_below_drewN | apply below_drew1) | exact HB.out))); (case aF => exact (fun k_ hk => Kd.fresh' (Kd.R_lt (by (with_reducible repeat (first | apply Kd.R_alloc | apply Kd.R_drewN | apply Kd.R_drew)); exact HO_3.out)) k_ hk)); (case aO => exact ((Kd.R_nil _ _ _ _ (fun k_ => some k_ ≠ (.slice Ao3 x3_1.length co3 : Value).ownBlock)))); (case aS => exact (below_size (by repeat (first | (with_reducible first | exact HB.out | apply below_alloc | apply pw_below_drewN | apply below_drew1) | exact HB.out)))); (case aL => have := LMc25.out; omega); intro v126 w33 ho hb hg hat; rw [← Ny125.out] at ho; have n0_ := Aside0.mk (Kd.R_after (Kd.R_apart_nil (by (with_reducible repeat (first | apply Kd.R_alloc | apply Kd.R_drewN | apply Kd.R_drew)); exact HO_3.out)) hg hat); have n1_ := Aside0.mk (hb); have n2_ := Aside0.mk ((show Kd.C k53 w33 Ao3 y121.length y121 from by rw [Ny121.out]; exact Kd.C_take (m := (x5_2 : Int).toNat) ((Kd.R_reads' (Kd.R_after (Kd.R_apart_nil (by (with_reducible repeat (first | apply Kd.R_alloc | apply Kd.R_drewN | apply Kd.R_drew)); exact HO_3.out)) hg hat)).2.2) KL32.out)); have n3_ := Aside0.mk (ho); clear HO_3; clear HB; clear HR124; have HO_3 := n0_; have HB := n1_; have HR124 := n2_; have HO127 := n3_; clear n0_ n1_ n2_ n3_; clear ho hb hg hat; have p128 : 0 ≤ (x4_1 : Int) := of_decide_eq_true (by first | (with_reducible assumption) | assumption); have q128 : x4_1 < (l0.length : Int) := of_decide_eq_true (by first | (with_reducible assumption) | assumption); obtain ⟨ad128, e128, hx128_0, hx128_1, hx128_2⟩ := at_T53 HR0.out x4_1 p128 q128; cases e128; replace hx128_0 := (HB.out.cell (World.block_lt_of_cell? w _ hx128_0)).trans hx128_0; replace hx128_1 := (HB.out.cell (World.block_lt_of_cell? w _ hx128_1)).trans hx128_1; replace hx128_2 := (HB.out.cell (World.block_lt_of_cell? w _ hx128_2)).trans hx128_2; replace p128 := eq_true p128; replace q128 := eq_true q128) | ((with_reducible refine gate_builtin (b := .append) (xs := #[.tmp 38, .tmp 43]) rfl ?_); at_builtin; refine Kd.R_append k53 (w0 := w) w.heap.size rfl (.tmp 38) (.tmp 43) 49 53 (.agg #[(.int .i64 0), (.int .i64 0), (.string ⟨#[]⟩)]) 32 rfl Try.underlying49 info53 rfl (by decide) (by omega) v126 y125 (⟨(rd_T53 l0 x4_1).f0, (rd_T53 l0 x4_1).f1, (rd_T53 l0 x4_1).f2⟩ : S53) [.int .i64 ((rd_T53 l0 x4_1).f0), .int .i64 ((rd_T53 l0 x4_1).f1), .string ((rd_T53 l0 x4_1).f2)] (fun k_ => some k_ ≠ (.slice Ao3 x3_1.length co3 : Value).ownBlock) (fun _ => False) rfl rfl ?aP (fun _ hk => hk.elim) ?aF ?aO ?aB ?aS ?aL ?_; (case aP => exact k53_mkM _ _ _ (⟨(rd_T53 l0 x4_1).f0, (rd_T53 l0 x4_1).f1, (rd_T53 l0 x4_1).f2⟩ : S53)); (case aB => exact (by repeat (first | (with_reducible first | exact HB.out | apply below_alloc | apply pw_below_drewN | apply below_drew1) | exact HB.out))); (case aF => exact (fun k_ hk => Kd.fresh' (Kd.R_lt (by (with_reducible repeat (first | apply Kd.R_alloc | apply Kd.R_drewN | apply Kd.R_drew)); exact HO_3.out)) k_ hk)); (case aO => exact (by (with_reducible repeat (first | apply Kd.R_alloc | apply Kd.R_drewN | apply Kd.R_drew)); exact HO127.out)); (case aS => exact (below_size (by repeat (first | (with_reducible first | exact HB.out | apply below_alloc | apply pw_below_drewN | apply below_drew1) | exact HB.out)))); (case aL => have := LMc28.out; omega); intro v130 w34 ho hb hg hat; rw [← Ny129.out] at ho; have n0_ := Aside0.mk (Kd.R_after (ok := (fun _ => True)) (by (with_reducible repeat (first | apply Kd.R_alloc | apply Kd.R_drewN | apply Kd.R_drew)); exact HO_3.out) hg hat); have n1_ := Aside0.mk (hb); have n2_ := Aside0.mk ((show Kd.C k53 w34 Ao3 y121.length y121 from by rw [Ny121.out]; exact Kd.C_take (m := (x5_2 : Int).toNat) ((Kd.R_reads' (Kd.R_after (ok := (fun _ => True)) (by (with_reducible repeat (first | apply Kd.R_alloc | apply Kd.R_drewN | apply Kd.R_drew)); exact HO_3.out) hg hat)).2.2) KL32.out)); have n3_ := Aside0.mk (ho); clear HO_3; clear HB; clear HR124; clear HO127; have HO_3 := n0_; have HB := n1_; have HR124 := n2_; have HO131 := n3_; clear n0_ n1_ n2_ n3_; clear ho hb hg hat; have q35 : (x5_2 : Int) ≤ ((x3_1.length : Int) : Int) := of_decide_eq_true (by first | (with_reducible assumption) | assumption); obtain ⟨i035, hi035, _, hsz35, _⟩ := info_parts info53; have hroom35 : x3_1.length ≤ co3 := (Kd.R_reads' HO_3.out).2.1; have hC35 : Kd.C k53 _ Ao3 x3_1.length x3_1 := (Kd.R_reads' HO_3.out).2.2; have q035 : (0 : Int) ≤ (x5_2 : Int) := of_decide_eq_true (by first | (with_reducible assumption) | assumption); have hcut35 := cut_from (P := Try.prog) 49 53 .i64 Try.underlying49 hi035 3 hsz35 Ao3 x3_1.length co3 x5_2 q035 q35; have hr35 := Kd.C_drop (m := (x5_2 : Int).toNat) (c := co3) hC35 (by omega) hroom35; obtain ⟨A35, hA35⟩ : ∃ A1, A1 = (if co3 = (x5_2 : Int).toNat then Ao3 else (Ao3 : Option Addr).map (·.add ((x5_2 : Int).toNat * 3))) := ⟨_, rfl⟩; obtain ⟨c35, hc35⟩ : ∃ c1, c1 = co3 - (x5_2 : Int).toNat := ⟨_, rfl⟩; have hy35 : y132.length = x3_1.length - (x5_2 : Int).toNat := (by rw [Ny132.out, List.length_drop] <;> omega); rw [show (x3_1).drop (x5_2 : Int).toNat = y132 from Ny132.out.symm] at hr35; replace hr35 : Kd.C k53 _ A35 y132.length y132 := (by rw [hA35]; exact hr35); rw [← hy35, ← hA35, ← hc35] at hcut35; have HR135 := Aside0.mk hr35; have HC135 := Aside0.mk (show y132.length ≤ c35 from by rw [hy35, hc35]; exact Nat.sub_le_sub_right hroom35 _); clear hr35 hC35 hroom35 hi035 hsz35 hc35; have KY35 := Aside0.mk hy35; have KA35 := Aside0.mk hA35; clear hy35 hA35; have KL35 := Aside0.mk (show (x5_2 : Int).toNat ≤ x3_1.length from by omega); replace q35 := eq_true q35) | ((with_reducible refine gate_builtin (b := .append) (xs := #[.tmp 45, .tmp 48]) rfl ?_); at_builtin; refine Kd.R_append_rows k53 (w0 := w) w.heap.size rfl (.tmp 45) (.tmp 48) 49 53 (.agg #[(.int .i64 0), (.int .i64 0), (.string ⟨#[]⟩)]) 32 rfl Try.underlying49 info53 rfl (by decide) (by omega) v130 y129 y132 _ _ _ (fun k_ => some k_ ≠ (.slice Ao3 x3_1.length co3 : Value).ownBlock) (fun _ => False) rfl rfl ?aO ?aR (fun _ _ h => h) (fun _ h => h.elim) ?aF ?aB ?aS ?aL ?_; (case aR => repeat (first | exact (by repeat (first | (with_reducible exact HR135.out) | (with_reducible refine Kd.C_alloc ?_ _) | (with_reducible refine Kd.C_drewN ?_ _) | (with_reducible refine Kd.C_drew ?_) | exact HR135.out)) | (with_reducible refine Kd.C_alloc ?_ _) | (with_reducible refine Kd.C_drewN ?_ _) | (with_reducible refine Kd.C_drew ?_))); (case aB => exact (by repeat (first | (with_reducible first | exact HB.out | apply below_alloc | apply pw_below_drewN | apply below_drew1) | exact HB.out))); (case aF => exact (fun k_ hk => Kd.fresh' (Kd.R_lt (by (with_reducible repeat (first | apply Kd.R_alloc | apply Kd.R_drewN | apply Kd.R_drew)); exact HO_3.out)) k_ hk)); (case aO => exact (by (with_reducible repeat (first | apply Kd.R_alloc | apply Kd.R_drewN | apply Kd.R_drew)); exact HO131.out)); (case aS => exact (below_size (by repeat (first | (with_reducible first | exact HB.out | apply below_alloc | apply pw_below_drewN | apply below_drew1) | exact HB.out)))); (case aL => have := LMc31.out; omega); intro v137 w36 ho hb hg hat; rw [← Ny136.out] at ho; have n0_ := Aside0.mk (Kd.R_after (ok := (fun _ => True)) (by (with_reducible repeat (first | apply Kd.R_alloc | apply Kd.R_drewN | apply Kd.R_drew)); exact HO_3.out) hg hat); have n1_ := Aside0.mk (hb); have n2_ := Aside0.mk ((show Kd.C k53 w36 Ao3 y121.length y121 from by rw [Ny121.out]; exact Kd.C_take (m := (x5_2 : Int).toNat) ((Kd.R_reads' (Kd.R_after (ok := (fun _ => True)) (by (with_reducible repeat (first | apply Kd.R_alloc | apply Kd.R_drewN | apply Kd.R_drew)); exact HO_3.out) hg hat)).2.2) KL32.out)); have n3_ := Aside0.mk ((show Kd.C k53 w36 A35 y132.length y132 from by rw [Ny132.out, KA35.out]; exact Kd.C_drop (m := (x5_2 : Int).toNat) (c := co3) ((Kd.R_reads' (Kd.R_after (ok := (fun _ => True)) (by (with_reducible repeat (first | apply Kd.R_alloc | apply Kd.R_drewN | apply Kd.R_drew)); exact HO_3.out) hg hat)).2.2) KL35.out ((Kd.R_reads' (Kd.R_after (ok := (fun _ => True)) (by (with_reducible repeat (first | apply Kd.R_alloc | apply Kd.R_drewN | apply Kd.R_drew)); exact HO_3.out) hg hat)).2.1))); have n4_ := Aside0.mk (ho); clear HO_3; clear HB; clear HR124; clear HR135; clear HO131; have HO_3 := n0_; have HB := n1_; have HR124 := n2_; have HR135 := n3_; have HO138 := n4_; clear n0_ n1_ n2_ n3_ n4_; clear ho hb hg hat)))
                            go_roundg k2
                            case measure => have := HK1.out; have := HK2.out; omega
                            case rel => exact ⟨(y136), (wrap64 (x4_1 + 1)), (by first | rfl | (simp; done) | (simp [*]; done)), H', ⟨by have := HK1.out; have := HK2.out; omega⟩, ⟨by (with_reducible repeat (first | apply Kd.R_alloc | apply Kd.R_drewN | apply Kd.R_drew)); exact Kd.R_mono HO138.out (fun _ hk => trivial)⟩, ⟨by repeat (first | (with_reducible first | exact HB.out | apply below_alloc | apply pw_below_drewN | apply below_drew1) | exact HB.out)⟩⟩
                          · rw [if_neg c31] at H
                            exact absurd H (by simp)
                        · rw [if_neg c28] at H
                          exact absurd H (by simp)
                      · rw [if_neg c27] at H
                        exact absurd H (by simp)
                    · rw [if_neg c26] at H
                      exact absurd H (by simp)
                  · rw [if_neg c25] at H
                    exact absurd H (by simp)
                · rw [if_neg c24] at H
                  exact absurd H (by simp)
              · rw [if_neg c23] at H
                exact absurd H (by simp)
      · rw [if_neg c2] at H
        have c2b0 : decide (x4_1 < (l0.length : Int)) = false := decide_eq_false c2
        clear c2
        obtain rfl := Option.some.inj H
        go_wp2
        repeat (go_quiet (fail); try go_wp2)
        go_ret
        exact ⟨_, by first | rfl | (simp [errW_none, errW_some] <;> rfl) | (simp [*, errW_none, errW_some] <;> rfl), by (with_reducible repeat (first | apply Kd.R_alloc | apply Kd.R_drewN | apply Kd.R_drew)); exact HO_3.out, by repeat (first | (with_reducible first | exact HB.out | apply below_alloc | apply pw_below_drewN | apply below_drew1) | exact HB.out)⟩

end Go.Proofs.Ytlipbiihemhieaa.Q

-- from Qf34
-- Made by hp.py, a program of this session, with the kit's printer. Not trusted: Lean checks it.
namespace Go.Proofs.Ytlipbiihemhieaa.Q
open Go.RowKit Go.Proofs.YtlipbiihemhieaaW.PrintWords Go.Proofs.YtlipbiihemhieaaW.PrintLast Go.Proofs.YtlipbiihemhieaaW.PrintMore
attribute [local go_sem] max2_int min2_int max_two min_two max_three min_three max_four min_four   -- for this text's walks alone
set_option linter.unusedVariables false
set_option linter.unusedSimpArgs false

/-! ### paronymref03_New: function 34 -/
def paronymref03_New.l0 : Nat → List (S53) → List (S53) → Int → Option ((List (S53)) × Int)
  | 0, _, _, _ => none
  | k + 1, x0, x4, x5 => if x5 < (x0.length : Int) then (if 0 ≤ x5 then ((paronymref03_Check.f k x4 ((rd_T53 x0 x5).f0) ((rd_T53 x0 x5).f1) ((rd_T53 x0 x5).f2)).bind fun t102 => (if t102 = 0 then (if x4.length < 4398046511104 then (paronymref03_New.l0 k x0 (x4 ++ [(⟨(rd_T53 x0 x5).f0, (rd_T53 x0 x5).f1, (rd_T53 x0 x5).f2⟩ : S53)]) (wrap64 (x5 + 1))) else (none)) else (some (([] : List (S53)), t102)))) else (none)) else ((paronymref03_Sorted.f k x4).bind fun t107 => (some (t107, 0)))
def paronymref03_New.f (k : Nat) (l0 : List (S53)) : Option ((List (S53)) × Int) := paronymref03_New.l0 k l0 ([] : List (S53)) 0
theorem paronymref03_New.mono_l : ∀ k, (∀ y0 y1 y2, LeO (paronymref03_New.l0 k y0 y1 y2) (paronymref03_New.l0 (k + 1) y0 y1 y2))
  | 0 => fun _ _ _ r h => by simp [paronymref03_New.l0] at h
  | k + 1 => by
    have ih0 := paronymref03_New.mono_l k
    · intro y0 y1 y2
      unfold paronymref03_New.l0
      repeat' first
      | (with_reducible exact ih0 _ _ _)
      | (with_reducible exact paronymref03_Check.mono _ _ _ _ _)
      | (with_reducible exact paronymref03_Sorted.mono _ _)
      | (with_reducible exact LeO.refl _)
      | (with_reducible exact LeO.none _)
      | (with_reducible refine LeO.ite ?_ ?_)
      | (with_reducible refine LeO.bind ?_ (fun _ => ?_))
      | exact ih0 _ _ _
      | exact paronymref03_Check.mono _ _ _ _ _
      | exact paronymref03_Sorted.mono _ _
      | exact LeO.none _
      | refine LeO.ite ?_ ?_
      | refine LeO.bind ?_ (fun _ => ?_)
theorem paronymref03_New.mono : ∀ a0 k, LeO (paronymref03_New.f k a0) (paronymref03_New.f (k + 1) a0) := by
  intro a0 k
  have ih0 := paronymref03_New.mono_l k
  unfold paronymref03_New.f
  repeat' first
      | (with_reducible exact ih0 _ _ _)
      | (with_reducible exact paronymref03_Check.mono _ _ _ _ _)
      | (with_reducible exact paronymref03_Sorted.mono _ _)
      | (with_reducible exact LeO.refl _)
      | (with_reducible exact LeO.none _)
      | (with_reducible refine LeO.ite ?_ ?_)
      | (with_reducible refine LeO.bind ?_ (fun _ => ?_))
      | exact ih0 _ _ _
      | exact paronymref03_Check.mono _ _ _ _ _
      | exact paronymref03_Sorted.mono _ _
      | exact LeO.none _
      | refine LeO.ite ?_ ?_
      | refine LeO.bind ?_ (fun _ => ?_)
set_option maxHeartbeats 8000000 in
set_option maxRecDepth 100000 in
theorem paronymref03_New.calls (k : Nat) (A0 : Option Addr) (c0 : Nat) (l0 : List (S53)) (r1 : List (S53)) (r2 : Int) (w : World) (hr0 : Kd.C k53 w A0 l0.length l0) (hc0 : l0.length ≤ c0) (h : paronymref03_New.f k l0 = some (r1, r2)) :
    Calls Try.prog 34 #[.slice A0 l0.length c0] w fun e w' => ∃ v0_ : Value, e = .returned (.tuple #[v0_, .int .i64 r2]) ∧ Kd.R k53 53 w' w.heap.size (fun _ => True) v0_ r1 ∧ Below w.heap.size w w' := by
  have hu53 := Try.underlying53
  have HR0 := Aside0.mk hr0
  have HC0 := Aside0.mk hc0
  clear hr0 hc0
  have HB := Aside0.mk (Below.refl w.heap.size w)
  have H : (paronymref03_New.l0 k l0 ([] : List (S53)) 0) = some (r1, r2) := h
  clear h
  have H' := Aside0.mk H
  clear H
  go_enter Try.func34, Try.ntmps34
  go_wp2
  go_loopg [4, 5] k (fun kq v4 v5 w' => ∃ (x4_1 : List (S53)) (x5_1 : Int), v5 = .int .i64 x5_1 ∧ Aside0 (paronymref03_New.l0 kq l0 x4_1 x5_1 = some (r1, r2)) ∧ Aside0 (kq ≤ k) ∧ Aside0 (Kd.R k53 53 w' w.heap.size (fun _ => True) v4 x4_1) ∧ Aside0 (Below w.heap.size w w'))
  case atStart => exact ⟨(([] : List (S53))), (0), (by first | rfl | (simp; done) | (simp [*]; done)), H', ⟨Nat.le_refl _⟩, ⟨by first | exact Kd.R_nil _ _ _ _ _ | exact Kd.N_nil _ _ _ _ _ | exact Kd.V_nil _ _ _ _ _ | exact Kd.Q_nil _ _ _ _ _ | exact Kd.S_nil _ _ _ _ _⟩, ⟨by repeat (first | (with_reducible first | exact HB.out | apply below_alloc | apply pw_below_drewN | apply below_drew1) | exact HB.out)⟩⟩
  case round =>
    clear H'
    obtain ⟨x4_1, x5_1, rfl, HA, HK1, HO_4, HB⟩ := hrel
    cases gk with
    | zero => exact absurd HA.out (by simp [paronymref03_New.l0])
    | succ k1 =>
      have H := HA.out
      clear HA
      simp only [paronymref03_New.l0] at H
      by_cases c2 : x5_1 < (l0.length : Int)
      · rw [if_pos c2] at H
        have c2b0 : decide (x5_1 < (l0.length : Int)) = true := decide_eq_true c2
        clear c2
        by_cases c3 : 0 ≤ x5_1
        · rw [if_pos c3] at H
          have c3b0 : decide (0 ≤ x5_1) = true := decide_eq_true c3
          clear c3
          replace H := Option.bind_eq_some_iff.mp H
          obtain ⟨t102, A40, H⟩ := H
          replace H : (if t102 = 0 then (if x4_1.length < 4398046511104 then (paronymref03_New.l0 k1 l0 (x4_1 ++ [(⟨(rd_T53 l0 x5_1).f0, (rd_T53 l0 x5_1).f1, (rd_T53 l0 x5_1).f2⟩ : S53)]) (wrap64 (x5_1 + 1))) else (none)) else (some (([] : List (S53)), t102))) = some (r1, r2) := H
          have A4 := Aside0.mk A40
          clear A40
          by_cases c5 : t102 = 0
          · rw [if_pos c5] at H
            have c5b0 : (t102 == 0) = true := beq_iff_eq.mpr c5
            have c5b1 : (t102 != 0) = false := bne_eq_false_iff_eq.mpr c5
            clear c5
            by_cases c6 : x4_1.length < 4398046511104
            · rw [if_pos c6] at H
              have LMc6 := Aside0.mk c6
              clear c6
              obtain ⟨y104, hy104⟩ : ∃ y_ : List (S53), y_ = (x4_1 ++ [(⟨(rd_T53 l0 x5_1).f0, (rd_T53 l0 x5_1).f1, (rd_T53 l0 x5_1).f2⟩ : S53)]) := ⟨_, rfl⟩
              replace H : (paronymref03_New.l0 k1 l0 y104 (wrap64 (x5_1 + 1))) = some (r1, r2) := by first | (rw [hy104]; with_reducible exact H) | (have H2_ := (Option.bind_some _ _).symm.trans H; rw [hy104]; with_reducible exact H2_) | (have H2_ := (Option.bind_some _ _).symm.trans H; with_reducible exact H2_) | with_reducible exact H | (rw [hy104]; exact H) | exact H
              have Ny104 := Aside0.mk hy104
              clear hy104
              have H' := Aside0.mk H
              clear H
              have p101 : 0 ≤ (x5_1 : Int) := of_decide_eq_true (by first | (with_reducible assumption) | assumption)
              have q101 : x5_1 < (l0.length : Int) := of_decide_eq_true (by first | (with_reducible assumption) | assumption)
              obtain ⟨ad101, e101, hx101_0, hx101_1, hx101_2⟩ := at_T53 HR0.out x5_1 p101 q101
              cases e101
              replace hx101_0 := (HB.out.cell (World.block_lt_of_cell? w _ hx101_0)).trans hx101_0
              replace hx101_1 := (HB.out.cell (World.block_lt_of_cell? w _ hx101_1)).trans hx101_1
              replace hx101_2 := (HB.out.cell (World.block_lt_of_cell? w _ hx101_2)).trans hx101_2
              replace p101 := eq_true p101
              replace q101 := eq_true q101
              obtain ⟨Ao7, co7, eo7⟩ := Kd.R_slice HO_4.out
              subst eo7
              go_wp2_with (first | ((with_reducible refine gate_callee (f := 31) rfl ?_); refine goesL_ (some 18) rfl rfl Try.func31 (by kernel_rfl) rfl #[.slice Ao7 x4_1.length co7, .agg #[.int .i64 ((rd_T53 l0 x5_1).f0), .int .i64 ((rd_T53 l0 x5_1).f1), .string ((rd_T53 l0 x5_1).f2)]] rfl (by (try simp only [List.map_toArray, List.map_cons, List.map_nil]); first | done | rfl | (simp only [List.length_drop, List.length_take]; rfl)) ?_; (with_reducible refine (paronymref03_Check.calls k1 _ _ x4_1 ((rd_T53 l0 x5_1).f0) ((rd_T53 l0 x5_1).f1) ((rd_T53 l0 x5_1).f2) t102 _ ?side1 ?side2 A4.out).mono ?_); (case side1 => repeat (first | exact (Kd.R_reads' HO_4.out).2.2 | (with_reducible refine Kd.C_alloc ?_ _) | (with_reducible refine Kd.C_drewN ?_ _) | (with_reducible refine Kd.C_drew ?_))); (case side2 => exact (Kd.R_reads' HO_4.out).2.1); rintro e w8 ⟨rfl, hb⟩; refine ⟨_, rfl, ?_⟩; have n0_ := Aside0.mk (Kd.R_below (by (with_reducible repeat (first | apply Kd.R_alloc | apply Kd.R_drewN | apply Kd.R_drew)); exact HO_4.out) hb); have n1_ := Aside0.mk (below_step (by repeat (first | (with_reducible first | exact HB.out | apply below_alloc | apply pw_below_drewN | apply below_drew1) | exact HB.out)) hb); clear HO_4; clear HB; have HO_4 := n0_; have HB := n1_; clear n0_ n1_; (try clear hb); (try clear hb2); (try clear hk); (try clear hi); have p103 : 0 ≤ (x5_1 : Int) := of_decide_eq_true (by first | (with_reducible assumption) | assumption); have q103 : x5_1 < (l0.length : Int) := of_decide_eq_true (by first | (with_reducible assumption) | assumption); obtain ⟨ad103, e103, hx103_0, hx103_1, hx103_2⟩ := at_T53 HR0.out x5_1 p103 q103; obtain rfl : ad101 = ad103 := (by injection e103); replace hx103_0 := (HB.out.cell (World.block_lt_of_cell? w _ hx103_0)).trans hx103_0; replace hx103_1 := (HB.out.cell (World.block_lt_of_cell? w _ hx103_1)).trans hx103_1; replace hx103_2 := (HB.out.cell (World.block_lt_of_cell? w _ hx103_2)).trans hx103_2; replace p103 := eq_true p103; replace q103 := eq_true q103) | ((with_reducible refine gate_builtin (b := .append) (xs := #[.tmp 22, .tmp 27]) rfl ?_); at_builtin; refine Kd.R_append k53 (w0 := w) w.heap.size rfl (.tmp 22) (.tmp 27) 49 53 (.agg #[(.int .i64 0), (.int .i64 0), (.string ⟨#[]⟩)]) 32 rfl Try.underlying49 info53 rfl (by decide) (by omega) (.slice Ao7 x4_1.length co7) x4_1 (⟨(rd_T53 l0 x5_1).f0, (rd_T53 l0 x5_1).f1, (rd_T53 l0 x5_1).f2⟩ : S53) [.int .i64 ((rd_T53 l0 x5_1).f0), .int .i64 ((rd_T53 l0 x5_1).f1), .string ((rd_T53 l0 x5_1).f2)] (fun _ => True) (fun _ => False) rfl rfl ?aP (fun _ hk => hk.elim) ?aF ?aO ?aB ?aS ?aL ?_; (case aP => exact k53_mkM _ _ _ (⟨(rd_T53 l0 x5_1).f0, (rd_T53 l0 x5_1).f1, (rd_T53 l0 x5_1).f2⟩ : S53)); (case aB => exact (by repeat (first | (with_reducible first | exact HB.out | apply below_alloc | apply pw_below_drewN | apply below_drew1) | exact HB.out))); (case aF => exact (fun _ _ => trivial)); (case aO => exact (by (with_reducible repeat (first | apply Kd.R_alloc | apply Kd.R_drewN | apply Kd.R_drew)); exact HO_4.out)); (case aS => exact (below_size (by repeat (first | (with_reducible first | exact HB.out | apply below_alloc | apply pw_below_drewN | apply below_drew1) | exact HB.out)))); (case aL => have := LMc6.out; omega); intro v105 w9 ho hb hg hat; rw [← Ny104.out] at ho; have n0_ := Aside0.mk (hb); have n1_ := Aside0.mk (ho); clear HB; clear HO_4; have HB := n0_; have HO106 := n1_; clear n0_ n1_; clear ho hb hg hat))
              go_roundg k1
              case measure => have := HK1.out; omega
              case rel => exact ⟨(y104), (wrap64 (x5_1 + 1)), (by first | rfl | (simp; done) | (simp [*]; done)), H', ⟨by have := HK1.out; omega⟩, ⟨by (with_reducible repeat (first | apply Kd.R_alloc | apply Kd.R_drewN | apply Kd.R_drew)); exact HO106.out⟩, ⟨by repeat (first | (with_reducible first | exact HB.out | apply below_alloc | apply pw_below_drewN | apply below_drew1) | exact HB.out)⟩⟩
            · rw [if_neg c6] at H
              exact absurd H (by simp)
          · rw [if_neg c5] at H
            have c5b0 : (t102 == 0) = false := beq_eq_false_iff_ne.mpr c5
            have c5b1 : (t102 != 0) = true := bne_iff_ne.mpr c5
            simp only [Option.some.injEq, Prod.mk.injEq] at H
            obtain ⟨rfl, rfl⟩ := H
            have p101 : 0 ≤ (x5_1 : Int) := of_decide_eq_true (by first | (with_reducible assumption) | assumption)
            have q101 : x5_1 < (l0.length : Int) := of_decide_eq_true (by first | (with_reducible assumption) | assumption)
            obtain ⟨ad101, e101, hx101_0, hx101_1, hx101_2⟩ := at_T53 HR0.out x5_1 p101 q101
            cases e101
            replace hx101_0 := (HB.out.cell (World.block_lt_of_cell? w _ hx101_0)).trans hx101_0
            replace hx101_1 := (HB.out.cell (World.block_lt_of_cell? w _ hx101_1)).trans hx101_1
            replace hx101_2 := (HB.out.cell (World.block_lt_of_cell? w _ hx101_2)).trans hx101_2
            replace p101 := eq_true p101
            replace q101 := eq_true q101
            obtain ⟨Ao10, co10, eo10⟩ := Kd.R_slice HO_4.out
            subst eo10
            go_wp2_with (first | ((with_reducible refine gate_callee (f := 31) rfl ?_); refine goesL_ (some 18) rfl rfl Try.func31 (by kernel_rfl) rfl #[.slice Ao10 x4_1.length co10, .agg #[.int .i64 ((rd_T53 l0 x5_1).f0), .int .i64 ((rd_T53 l0 x5_1).f1), .string ((rd_T53 l0 x5_1).f2)]] rfl (by (try simp only [List.map_toArray, List.map_cons, List.map_nil]); first | done | rfl | (simp only [List.length_drop, List.length_take]; rfl)) ?_; (with_reducible refine (paronymref03_Check.calls k1 _ _ x4_1 ((rd_T53 l0 x5_1).f0) ((rd_T53 l0 x5_1).f1) ((rd_T53 l0 x5_1).f2) t102 _ ?side1 ?side2 A4.out).mono ?_); (case side1 => repeat (first | exact (Kd.R_reads' HO_4.out).2.2 | (with_reducible refine Kd.C_alloc ?_ _) | (with_reducible refine Kd.C_drewN ?_ _) | (with_reducible refine Kd.C_drew ?_))); (case side2 => exact (Kd.R_reads' HO_4.out).2.1); rintro e w11 ⟨rfl, hb⟩; refine ⟨_, rfl, ?_⟩; have n0_ := Aside0.mk (Kd.R_below (by (with_reducible repeat (first | apply Kd.R_alloc | apply Kd.R_drewN | apply Kd.R_drew)); exact HO_4.out) hb); have n1_ := Aside0.mk (below_step (by repeat (first | (with_reducible first | exact HB.out | apply below_alloc | apply pw_below_drewN | apply below_drew1) | exact HB.out)) hb); clear HO_4; clear HB; have HO_4 := n0_; have HB := n1_; clear n0_ n1_; (try clear hb); (try clear hb2); (try clear hk); (try clear hi)))
            go_ret2
            exact ⟨_, by first | rfl | (simp [errW_none, errW_some] <;> rfl) | (simp [*, errW_none, errW_some] <;> rfl), by first | exact Kd.R_nil _ _ _ _ _ | exact Kd.N_nil _ _ _ _ _ | exact Kd.V_nil _ _ _ _ _ | exact Kd.Q_nil _ _ _ _ _ | exact Kd.S_nil _ _ _ _ _, by repeat (first | (with_reducible first | exact HB.out | apply below_alloc | apply pw_below_drewN | apply below_drew1) | exact HB.out)⟩
        · rw [if_neg c3] at H
          exact absurd H (by simp)
      · rw [if_neg c2] at H
        have c2b0 : decide (x5_1 < (l0.length : Int)) = false := decide_eq_false c2
        clear c2
        replace H := Option.bind_eq_some_iff.mp H
        obtain ⟨t107, A120, H⟩ := H
        replace H : (some (t107, 0)) = some (r1, r2) := H
        have A12 := Aside0.mk A120
        clear A120
        simp only [Option.some.injEq, Prod.mk.injEq] at H
        obtain ⟨rfl, rfl⟩ := H
        obtain ⟨Ao13, co13, eo13⟩ := Kd.R_slice HO_4.out
        subst eo13
        go_wp2_with (first | ((with_reducible refine gate_callee (f := 66) rfl ?_); refine goesL_ (some 30) rfl rfl Try.func66 (by kernel_rfl) rfl #[.slice Ao13 x4_1.length co13] rfl (by (try simp only [List.map_toArray, List.map_cons, List.map_nil]); first | done | rfl | (simp only [List.length_drop, List.length_take]; rfl)) ?_; (with_reducible refine (paronymref03_Sorted.calls k1 _ _ x4_1 t107 _ ?side1 ?side2 A12.out).mono ?_); (case side1 => repeat (first | exact (Kd.R_reads' HO_4.out).2.2 | (with_reducible refine Kd.C_alloc ?_ _) | (with_reducible refine Kd.C_drewN ?_ _) | (with_reducible refine Kd.C_drew ?_))); (case side2 => exact (Kd.R_reads' HO_4.out).2.1); rintro e w14 ⟨v108, rfl, ho0, hb⟩; refine ⟨_, rfl, ?_⟩; have n0_ := Aside0.mk (Kd.R_elder' (by (with_reducible repeat (first | apply Kd.R_alloc | apply Kd.R_drewN | apply Kd.R_drew)); exact HO_4.out) (Kd.R_base ho0) hb); have n1_ := Aside0.mk (Kd.R_lower (Kd.R_new' ho0 (Kd.R_lt (by (with_reducible repeat (first | apply Kd.R_alloc | apply Kd.R_drewN | apply Kd.R_drew)); exact HO_4.out))) (below_size (by repeat (first | (with_reducible first | exact HB.out | apply below_alloc | apply pw_below_drewN | apply below_drew1) | exact HB.out)))); have n2_ := Aside0.mk (below_step (by repeat (first | (with_reducible first | exact HB.out | apply below_alloc | apply pw_below_drewN | apply below_drew1) | exact HB.out)) hb); clear HO_4; clear HB; have HO_4 := n0_; have HO109 := n1_; have HB := n2_; clear n0_ n1_ n2_; (try clear hb); (try clear hb2); (try clear hk); (try clear hi); (try clear ho0)))
        go_ret2
        exact ⟨_, by first | rfl | (simp [errW_none, errW_some] <;> rfl) | (simp [*, errW_none, errW_some] <;> rfl), by (with_reducible repeat (first | apply Kd.R_alloc | apply Kd.R_drewN | apply Kd.R_drew)); exact Kd.R_mono HO109.out (fun _ hk => trivial), by repeat (first | (with_reducible first | exact HB.out | apply below_alloc | apply pw_below_drewN | apply below_drew1) | exact HB.out)⟩

end Go.Proofs.Ytlipbiihemhieaa.Q

-- from Qf36
-- Made by hp.py, a program of this session, with the kit's printer. Not trusted: Lean checks it.
namespace Go.Proofs.Ytlipbiihemhieaa.Q
open Go.RowKit Go.Proofs.YtlipbiihemhieaaW.PrintWords Go.Proofs.YtlipbiihemhieaaW.PrintLast Go.Proofs.YtlipbiihemhieaaW.PrintMore
attribute [local go_sem] max2_int min2_int max_two min_two max_three min_three max_four min_four   -- for this text's walks alone
set_option linter.unusedVariables false
set_option linter.unusedSimpArgs false

/-! ### paronymref03_Value: function 36 -/
def paronymref03_Value.l0 : Nat → List (S53) → Int → Int → Option (ByteArray)
  | 0, _, _, _ => none
  | k + 1, x0, x1, x5 => if x5 < (x0.length : Int) then (if 0 ≤ x5 then (if ((rd_T53 x0 x5).f0) ≤ x1 then (if x1 ≤ ((rd_T53 x0 x5).f1) then (some ((rd_T53 x0 x5).f2)) else (paronymref03_Value.l0 k x0 x1 (wrap64 (x5 + 1)))) else (paronymref03_Value.l0 k x0 x1 (wrap64 (x5 + 1)))) else (none)) else (some (⟨#[]⟩ : ByteArray))
def paronymref03_Value.f (k : Nat) (l0 : List (S53)) (a1 : Int) : Option (ByteArray) := paronymref03_Value.l0 k l0 a1 0
theorem paronymref03_Value.mono_l : ∀ k, (∀ y0 y1 y2, LeO (paronymref03_Value.l0 k y0 y1 y2) (paronymref03_Value.l0 (k + 1) y0 y1 y2))
  | 0 => fun _ _ _ r h => by simp [paronymref03_Value.l0] at h
  | k + 1 => by
    have ih0 := paronymref03_Value.mono_l k
    · intro y0 y1 y2
      unfold paronymref03_Value.l0
      repeat' first
      | (with_reducible exact ih0 _ _ _)
      | (with_reducible exact LeO.refl _)
      | (with_reducible exact LeO.none _)
      | (with_reducible refine LeO.ite ?_ ?_)
      | (with_reducible refine LeO.bind ?_ (fun _ => ?_))
      | exact ih0 _ _ _
      | exact LeO.none _
      | refine LeO.ite ?_ ?_
      | refine LeO.bind ?_ (fun _ => ?_)
theorem paronymref03_Value.mono : ∀ a0 a1 k, LeO (paronymref03_Value.f k a0 a1) (paronymref03_Value.f (k + 1) a0 a1) := by
  intro a0 a1 k
  have ih0 := paronymref03_Value.mono_l k
  unfold paronymref03_Value.f
  repeat' first
      | (with_reducible exact ih0 _ _ _)
      | (with_reducible exact LeO.refl _)
      | (with_reducible exact LeO.none _)
      | (with_reducible refine LeO.ite ?_ ?_)
      | (with_reducible refine LeO.bind ?_ (fun _ => ?_))
      | exact ih0 _ _ _
      | exact LeO.none _
      | refine LeO.ite ?_ ?_
      | refine LeO.bind ?_ (fun _ => ?_)
set_option maxHeartbeats 8000000 in
set_option maxRecDepth 100000 in
theorem paronymref03_Value.calls (k : Nat) (A0 : Option Addr) (c0 : Nat) (l0 : List (S53)) (a1 : Int) (r : ByteArray) (w : World) (hr0 : Kd.C k53 w A0 l0.length l0) (hc0 : l0.length ≤ c0) (h : paronymref03_Value.f k l0 a1 = some r) :
    Calls Try.prog 36 #[.slice A0 l0.length c0, .int .i64 a1] w fun e w' => e = .returned (.string r) ∧ Drawn0 w w' := by
  have HR0 := Aside0.mk hr0
  have HC0 := Aside0.mk hc0
  clear hr0 hc0
  have H : (paronymref03_Value.l0 k l0 a1 0) = some r := h
  clear h
  have H' := Aside0.mk H
  clear H
  go_enter Try.func36, Try.ntmps36
  go_wp2
  go_loopg [5] k (fun kq v5 w' => ∃ (x5_1 : Int), v5 = .int .i64 x5_1 ∧ Aside0 (paronymref03_Value.l0 kq l0 a1 x5_1 = some r) ∧ Aside0 (kq ≤ k) ∧ Drawn0 w w')
  case atStart => exact ⟨(0), (by first | rfl | (simp; done) | (simp [*]; done)), H', ⟨Nat.le_refl _⟩, by repeat (first | exact Drawn0.refl _ | apply Drawn0.step)⟩
  case round =>
    clear H'
    try clear p2
    obtain ⟨x5_1, rfl, HA, HK1, ⟨m1, rfl⟩⟩ := hrel
    cases gk with
    | zero => exact absurd HA.out (by simp [paronymref03_Value.l0])
    | succ k1 =>
      have H := HA.out
      clear HA
      simp only [paronymref03_Value.l0] at H
      by_cases c3 : x5_1 < (l0.length : Int)
      · rw [if_pos c3] at H
        have c3b0 : decide (x5_1 < (l0.length : Int)) = true := decide_eq_true c3
        clear c3
        by_cases c4 : 0 ≤ x5_1
        · rw [if_pos c4] at H
          have c4b0 : decide (0 ≤ x5_1) = true := decide_eq_true c4
          clear c4
          by_cases c5 : ((rd_T53 l0 x5_1).f0) ≤ a1
          · rw [if_pos c5] at H
            have c5b0 : decide (((rd_T53 l0 x5_1).f0) ≤ a1) = true := decide_eq_true c5
            clear c5
            by_cases c6 : a1 ≤ ((rd_T53 l0 x5_1).f1)
            · rw [if_pos c6] at H
              have c6b0 : decide (a1 ≤ ((rd_T53 l0 x5_1).f1)) = true := decide_eq_true c6
              clear c6
              obtain rfl := Option.some.inj H
              have p101 : 0 ≤ (x5_1 : Int) := of_decide_eq_true (by first | (with_reducible assumption) | assumption)
              have q101 : x5_1 < (l0.length : Int) := of_decide_eq_true (by first | (with_reducible assumption) | assumption)
              obtain ⟨ad101, e101, hx101_0, hx101_1, hx101_2⟩ := at_T53 HR0.out x5_1 p101 q101
              cases e101
              replace p101 := eq_true p101
              replace q101 := eq_true q101
              have p102 : 0 ≤ (x5_1 : Int) := of_decide_eq_true (by first | (with_reducible assumption) | assumption)
              have q102 : x5_1 < (l0.length : Int) := of_decide_eq_true (by first | (with_reducible assumption) | assumption)
              obtain ⟨ad102, e102, hx102_0, hx102_1, hx102_2⟩ := at_T53 HR0.out x5_1 p102 q102
              obtain rfl : ad101 = ad102 := (by injection e102)
              replace p102 := eq_true p102
              replace q102 := eq_true q102
              have p103 : 0 ≤ (x5_1 : Int) := of_decide_eq_true (by first | (with_reducible assumption) | assumption)
              have q103 : x5_1 < (l0.length : Int) := of_decide_eq_true (by first | (with_reducible assumption) | assumption)
              obtain ⟨ad103, e103, hx103_0, hx103_1, hx103_2⟩ := at_T53 HR0.out x5_1 p103 q103
              obtain rfl : ad101 = ad103 := (by injection e103)
              replace p103 := eq_true p103
              replace q103 := eq_true q103
              go_wp2
              go_ret
              exact ⟨by first | rfl | (simp; done) | (simp [*]; done), by repeat (first | exact Drawn0.refl _ | apply Drawn0.step)⟩
            · rw [if_neg c6] at H
              have c6b0 : decide (a1 ≤ ((rd_T53 l0 x5_1).f1)) = false := decide_eq_false c6
              clear c6
              have H' := Aside0.mk H
              clear H
              have p101 : 0 ≤ (x5_1 : Int) := of_decide_eq_true (by first | (with_reducible assumption) | assumption)
              have q101 : x5_1 < (l0.length : Int) := of_decide_eq_true (by first | (with_reducible assumption) | assumption)
              obtain ⟨ad101, e101, hx101_0, hx101_1, hx101_2⟩ := at_T53 HR0.out x5_1 p101 q101
              cases e101
              replace p101 := eq_true p101
              replace q101 := eq_true q101
              have p102 : 0 ≤ (x5_1 : Int) := of_decide_eq_true (by first | (with_reducible assumption) | assumption)
              have q102 : x5_1 < (l0.length : Int) := of_decide_eq_true (by first | (with_reducible assumption) | assumption)
              obtain ⟨ad102, e102, hx102_0, hx102_1, hx102_2⟩ := at_T53 HR0.out x5_1 p102 q102
              obtain rfl : ad101 = ad102 := (by injection e102)
              replace p102 := eq_true p102
              replace q102 := eq_true q102
              go_wp2
              go_roundg k1
              case measure => have := HK1.out; omega
              case rel => exact ⟨(wrap64 (x5_1 + 1)), (by first | rfl | (simp; done) | (simp [*]; done)), H', ⟨by have := HK1.out; omega⟩, by repeat (first | exact Drawn0.refl _ | apply Drawn0.step)⟩
          · rw [if_neg c5] at H
            have c5b0 : decide (((rd_T53 l0 x5_1).f0) ≤ a1) = false := decide_eq_false c5
            clear c5
            have H' := Aside0.mk H
            clear H
            have p101 : 0 ≤ (x5_1 : Int) := of_decide_eq_true (by first | (with_reducible assumption) | assumption)
            have q101 : x5_1 < (l0.length : Int) := of_decide_eq_true (by first | (with_reducible assumption) | assumption)
            obtain ⟨ad101, e101, hx101_0, hx101_1, hx101_2⟩ := at_T53 HR0.out x5_1 p101 q101
            cases e101
            replace p101 := eq_true p101
            replace q101 := eq_true q101
            go_wp2
            go_roundg k1
            case measure => have := HK1.out; omega
            case rel => exact ⟨(wrap64 (x5_1 + 1)), (by first | rfl | (simp; done) | (simp [*]; done)), H', ⟨by have := HK1.out; omega⟩, by repeat (first | exact Drawn0.refl _ | apply Drawn0.step)⟩
        · rw [if_neg c4] at H
          exact absurd H (by simp)
      · rw [if_neg c3] at H
        have c3b0 : decide (x5_1 < (l0.length : Int)) = false := decide_eq_false c3
        clear c3
        obtain rfl := Option.some.inj H
        go_wp2
        go_ret
        exact ⟨by first | rfl | (simp; done) | (simp [*]; done), by repeat (first | exact Drawn0.refl _ | apply Drawn0.step)⟩

end Go.Proofs.Ytlipbiihemhieaa.Q

-- from Pspa2
/- Layer 3 on lists: Value, Has; the reference's Check, New, Sorted, Value; plain; small; same. -/
namespace Go.Proofs.Ytlipbiihemhieaa.K
set_option linter.unusedVariables false
set_option linter.unusedSimpArgs false
open Go.RowKit Go.Proofs.YtlipbiihemhieaaW.PrintWords Go.Proofs.YtlipbiihemhieaaW.PrintMore Go.Proofs.Ytlipbiihemhieaa.Q

def valR (L : List S43) (c : Int) : ByteArray := if pos L c < L.length then (if (rd_T43 L (pos L c : Int)).f0 ≤ c then (rd_T43 L (pos L c : Int)).f2 else ⟨#[]⟩) else ⟨#[]⟩
theorem value_ev {L : List S43} (hl : L.length ≤ 1000000) (hL : SpOK L) (c : Int) : Ev (fun k => span_Value.f k L c) (valR L c) := by
  unfold span_Value.f
  refine Ev.bind (find_ev hl hL c) ?_
  unfold valR
  by_cases h : pos L c < L.length
  · rw [if_pos h]
    refine Ev.pos (by omega) (Ev.pos (by omega) ?_)
    by_cases h2 : (rd_T43 L (pos L c : Int)).f0 ≤ c
    · refine Ev.pos h2 ?_
      rw [if_pos h2]; exact Ev.now _
    · refine Ev.neg h2 ?_
      rw [if_neg h2]; exact Ev.now _
  · rw [if_neg h]
    exact Ev.neg (by omega) (Ev.now _)
def hasR (L : List S43) (c : Int) (v : ByteArray) : Bool := if v.toList = ([] : List UInt8) then false else ((valR L c).toList == v.toList)
theorem has_ev {L : List S43} (hl : L.length ≤ 1000000) (hL : SpOK L) (c : Int) (v : ByteArray) : Ev (fun k => span_Has.f k L c v) (hasR L c v) := by
  unfold span_Has.f hasR
  by_cases h : v.toList = []
  · rw [if_pos h]; exact Ev.pos h (Ev.now _)
  · rw [if_neg h]; exact Ev.neg h (Ev.bind (value_ev hl hL c) (Ev.now _))
/-- A code point of a span of the table tells that span. -/
theorem valR_in {L : List S43} (hL : SpOK L) {c : Int} {i : Nat} (hi : i < L.length) (h1 : L[i].f0 ≤ c) (h2 : c ≤ L[i].f1) : valR L c = L[i].f2 := by
  have hp : pos L c = i := pos_uniq hL (by omega) (fun j hj => by have := hL.lt hj hi; omega) (fun _ => by omega)
  unfold valR
  rw [hp, if_pos hi, rd43 i hi, if_pos h1]
theorem valR_out {L : List S43} (hL : SpOK L) {c : Int} (h : ∀ s ∈ L, ¬ (s.f0 ≤ c ∧ c ≤ s.f1)) : valR L c = ⟨#[]⟩ := by
  unfold valR
  by_cases hp : pos L c < L.length
  · rw [if_pos hp, rd43 _ hp]
    have h1 := pos_at hp
    have h2 := h _ (List.getElem_mem hp)
    rw [if_neg (fun h3 => h2 ⟨h3, by omega⟩)]
  · rw [if_neg hp]

/-! the law's own functions -/
theorem rd53 {L : List S53} (i : Nat) (h : i < L.length) : rd_T53 L (i : Int) = L[i] := by
  unfold rd_T53
  rw [Int.toNat_natCast, List.getD_eq_getElem?_getD, List.getElem?_eq_getElem h]; rfl
theorem small_ev {l : List S43} (hl : l.length ≤ 1000000) : ∃ b, (b = true ↔ l.length ≤ 30 ∧ ∀ s ∈ l, s.f2.size ≤ 30) ∧ Ev (fun k => paronymlaw03_small.f k l) b := by
  unfold paronymlaw03_small.f
  by_cases h : (l.length : Int) > 30
  · exact ⟨false, by simp; omega, Ev.pos h (Ev.now _)⟩
  · have key : ∀ (d i : Nat), l.length - i = d → i ≤ l.length → (∀ a : Nat, (ha : a < i) → (h : a < l.length) → l[a].f2.size ≤ 30) → ∃ b, (b = true ↔ ∀ s ∈ l, s.f2.size ≤ 30) ∧ Ev (fun k => paronymlaw03_small.l0 k l (i : Int)) b := by
      intro d
      induction d with
      | zero =>
        intro i h1 h2 h3
        refine ⟨true, ⟨fun _ s hs => ?_, fun _ => rfl⟩, Ev.step (fun k => rfl) (Ev.neg (by omega) (Ev.now _))⟩
        obtain ⟨a, ha, rfl⟩ := List.getElem_of_mem hs
        exact h3 a (by omega) ha
      | succ d ih =>
        intro i h1 h2 h3
        have hi : i < l.length := by omega
        by_cases c : ((rd_T43 l (i : Int)).f2.size : Int) > 30
        · refine ⟨false, ⟨fun h => by simp at h, fun h => ?_⟩, Ev.step (fun k => rfl) (Ev.pos (by omega) (Ev.pos (by omega) (Ev.pos c (Ev.now _))))⟩
          rw [rd43 i hi] at c
          have := h _ (List.getElem_mem hi)
          omega
        · obtain ⟨b, hb, he⟩ := ih (i + 1) (by omega) (by omega) (fun a ha h => by
            by_cases e : a = i
            · subst e; rw [rd43 a hi] at c; omega
            · exact h3 a (by omega) h)
          refine ⟨b, hb, Ev.step (fun k => rfl) (Ev.pos (by omega) (Ev.pos (by omega) (Ev.neg c ?_)))⟩
          rw [w64 (by omega) (by omega)]
          exact he
    obtain ⟨b, hb, he⟩ := key l.length 0 (by omega) (by omega) (fun a ha => by omega)
    exact ⟨b, by rw [hb]; constructor <;> intro h' <;> (first | exact ⟨by omega, h'⟩ | exact h'.2), Ev.neg h he⟩
theorem plain_ev {l : List S43} (hl : l.length ≤ 1000000) : Ev (fun k => paronymlaw03_plain.f k l) (l.map c53) := by
  have key : ∀ (d i : Nat), l.length - i = d → i ≤ l.length → Ev (fun k => paronymlaw03_plain.l0 k l ((l.take i).map c53) (i : Int)) (l.map c53) := by
    intro d
    induction d with
    | zero =>
      intro i h1 h2
      refine Ev.step (fun k => rfl) (Ev.neg (by omega) ?_)
      rw [List.take_of_length_le (by omega)]
      exact Ev.now _
    | succ d ih =>
      intro i h1 h2
      have hi : i < l.length := by omega
      refine Ev.step (fun k => rfl) (Ev.pos (by omega) (Ev.pos (by omega) (Ev.pos (by rw [List.length_map, List.length_take]; omega) ?_)))
      rw [w64 (by omega) (by omega)]
      have := ih (i + 1) (by omega) (by omega)
      have e : (l.take (i + 1)).map c53 = (l.take i).map c53 ++ [(⟨(rd_T43 l (i : Int)).f0, (rd_T43 l (i : Int)).f1, (rd_T43 l (i : Int)).f2⟩ : S53)] := by
        rw [List.take_add_one, List.getElem?_eq_getElem hi, rd43 i hi, List.map_append]
        rfl
      rw [e] at this
      exact this
  unfold paronymlaw03_plain.f
  exact key l.length 0 (by omega) (by omega)
theorem same_ev {a : List S53} (hl : a.length ≤ 1000000) : Ev (fun k => paronymlaw03_same.f k a a) true := by
  have key : ∀ (d i : Nat), a.length - i = d → i ≤ a.length → Ev (fun k => paronymlaw03_same.l0 k a a (i : Int)) true := by
    intro d
    induction d with
    | zero =>
      intro i h1 h2
      exact Ev.step (fun k => rfl) (Ev.neg (by omega) (Ev.now _))
    | succ d ih =>
      intro i h1 h2
      refine Ev.step (fun k => rfl) (Ev.pos (by omega) (Ev.pos (by omega) (Ev.pos (by omega) (Ev.neg (by simp) ?_))))
      rw [w64 (by omega) (by omega)]
      exact ih (i + 1) (by omega) (by omega)
  unfold paronymlaw03_same.f
  exact Ev.pos rfl (key a.length 0 (by omega) (by omega))
/-- The reference's Check. -/
theorem check_ev {L : List S43} (hl : L.length ≤ 1000000) (s : S43) : Ev (fun k => paronymref03_Check.f k (L.map c53) s.f0 s.f1 s.f2) (errOf L s) := by
  have key : ∀ (d i : Nat), L.length - i = d → i ≤ L.length → (∀ a : Nat, (ha : a < i) → (h : a < L.length) → ¬ meets L[a] s) → Ev (fun k => paronymref03_Check.l0 k (L.map c53) (i : Int) s.f0 s.f1 s.f2) (if ∃ t ∈ L, meets t s then 15 else 0) := by
    intro d
    induction d with
    | zero =>
      intro i h1 h2 h3
      refine Ev.step (fun k => rfl) (Ev.neg (by rw [List.length_map]; omega) ?_)
      rw [if_neg (fun ⟨t, ht, hm⟩ => by obtain ⟨a, ha, rfl⟩ := List.getElem_of_mem ht; exact h3 a (by omega) ha hm)]
      exact Ev.now _
    | succ d ih =>
      intro i h1 h2 h3
      have hi : i < L.length := by omega
      have hr : rd_T53 (L.map c53) (i : Int) = c53 L[i] := by rw [rd53 i (by rw [List.length_map]; exact hi), List.getElem_map]
      refine Ev.step (fun k => rfl) (Ev.pos (by rw [List.length_map]; omega) (Ev.pos (by omega) ?_))
      rw [hr]
      have hn := ih (i + 1) (by omega) (by omega)
      rw [w64 (by omega) (by omega)]
      by_cases c1 : (c53 L[i]).f0 ≤ s.f1
      · refine Ev.pos c1 ?_
        by_cases c2 : s.f0 ≤ (c53 L[i]).f1
        · rw [if_pos ⟨L[i], List.getElem_mem hi, c1, c2⟩]
          exact Ev.pos c2 (Ev.now _)
        · exact Ev.neg c2 (hn (fun a ha h => by
            by_cases e : a = i
            · subst e; exact fun hm => c2 hm.2
            · exact h3 a (by omega) h))
      · exact Ev.neg c1 (hn (fun a ha h => by
          by_cases e : a = i
          · subst e; exact fun hm => c1 hm.1
          · exact h3 a (by omega) h))
  have hk := key L.length 0 (by omega) (by omega) (fun a ha => by omega)
  have hj : ∀ b : Bool, Ev (fun k => paronymref03_Check.j0 k (L.map c53) b s.f0 s.f1 s.f2) (if b = true then 14 else if s.f2.toList = [] then 16 else if ∃ t ∈ L, meets t s then 15 else 0) := by
    intro b
    cases b with
    | true => exact Ev.step (f := fun _ => some 14) (fun k => rfl) (Ev.now _)
    | false =>
      refine Ev.step (f := fun k => if s.f2.toList = ([] : List UInt8) then some 16 else paronymref03_Check.l0 k (L.map c53) 0 s.f0 s.f1 s.f2) (fun k => rfl) ?_
      rw [if_neg (by simp)]
      by_cases h : s.f2.toList = []
      · refine Ev.pos h ?_
        rw [if_pos h]
        exact Ev.now _
      · refine Ev.neg h ?_
        rw [if_neg h]
        exact hk
  unfold paronymref03_Check.f errOf
  by_cases h1 : s.f0 < 0
  · rw [if_pos (.inl h1)]
    exact Ev.pos h1 (hj true)
  · refine Ev.neg h1 ?_
    by_cases h2 : s.f1 > 1114111
    · rw [if_pos (.inr (.inl h2))]
      exact Ev.pos h2 (hj true)
    · refine Ev.neg h2 ?_
      have := hj (decide (s.f1 < s.f0))
      by_cases h3 : s.f1 < s.f0
      · rw [if_pos (.inr (.inr h3))]
        simpa [h3] using this
      · rw [if_neg (by omega)]
        simpa [h3] using this
end Go.Proofs.Ytlipbiihemhieaa.K

-- from Pspa3
/- Layer 3 on lists: the reference's Sorted, New, Value. -/
namespace Go.Proofs.Ytlipbiihemhieaa.K
set_option linter.unusedVariables false
set_option linter.unusedSimpArgs false
open Go.RowKit Go.Proofs.YtlipbiihemhieaaW.PrintWords Go.Proofs.YtlipbiihemhieaaW.PrintMore Go.Proofs.Ytlipbiihemhieaa.Q

theorem rdc {L : List S43} (i : Nat) (h : i < L.length) : rd_T53 (L.map c53) (i : Int) = c53 L[i] := by rw [rd53 i (by rw [List.length_map]; exact h), List.getElem_map]
theorem sorted_ev {l : List S43} (hl : l.length ≤ 100000) : ∀ (d i : Nat) (acc : List S43), l.length - i = d → i ≤ l.length → SpOK acc → acc.length + d ≤ 1000000 → (newR acc (l.drop i)).1 = 0 →
    Ev (fun k => paronymref03_Sorted.l0 k (l.map c53) (acc.map c53) (i : Int)) ((newR acc (l.drop i)).2.map c53) := by
  intro d
  induction d with
  | zero =>
    intro i acc h1 h2 h3 h4 h5
    refine Ev.step (fun k => rfl) (Ev.neg (by rw [List.length_map]; omega) ?_)
    rw [List.drop_eq_nil_of_le (by omega)]
    exact Ev.now _
  | succ d ih =>
    intro i acc h1 h2 h3 h4 h5
    have hi : i < l.length := by omega
    rw [List.drop_eq_getElem_cons hi] at h5 ⊢
    obtain ⟨s, hs⟩ : ∃ s, s = l[i] := ⟨_, rfl⟩
    rw [← hs] at h5 ⊢
    unfold newR at h5 ⊢
    by_cases e : (addR acc s).1 = 0
    · rw [if_pos e] at h5 ⊢
      obtain ⟨he, hv, hm⟩ := addR_ok h3 e
      obtain ⟨hb, ha⟩ := place_sides h3 hv hm
      have hple := pos_le acc s.f0
      have hlen : (addR acc s).2.length = acc.length + 1 := by rw [(addR_perm h3 e).length_eq, List.length_cons]
      have hn := ih (i + 1) (addR acc s).2 (by omega) (by omega) (addR_SpOK h3 e) (by omega) h5
      rw [he, List.map_append, List.map_cons, List.map_take, List.map_drop] at hn
      have hml : (acc.map c53).length = acc.length := List.length_map _
      have hrs : rd_T53 (l.map c53) (i : Int) = c53 s := by rw [rdc i hi, hs]
      refine Ev.step (fun k => rfl) (Ev.pos (by rw [List.length_map]; omega) ?_)
      have key : ∀ (q j : Nat), j - pos acc s.f0 = q → pos acc s.f0 ≤ j → j ≤ acc.length → Ev (fun k => paronymref03_Sorted.l1 k (l.map c53) (acc.map c53) (i : Int) (j : Int)) ((newR (acc.take (pos acc s.f0) ++ s :: acc.drop (pos acc s.f0)) (l.drop (i + 1))).2.map c53) := by
        intro q
        induction q with
        | zero =>
          intro j g1 g2 g3
          have : j = pos acc s.f0 := by omega
          subst this
          have ht : ((pos acc s.f0 : Int)).toNat = pos acc s.f0 := by omega
          have hlt : ((acc.map c53).take (pos acc s.f0)).length = pos acc s.f0 := by rw [List.length_take, hml]; omega
          have hld : ((acc.map c53).drop (pos acc s.f0)).length = acc.length - pos acc s.f0 := by rw [List.length_drop, hml]
          have hfin : (acc.map c53).take (pos acc s.f0) ++ [(⟨(c53 s).f0, (c53 s).f1, (c53 s).f2⟩ : S53)] ++ (acc.map c53).drop (pos acc s.f0) = (acc.map c53).take (pos acc s.f0) ++ c53 s :: (acc.map c53).drop (pos acc s.f0) := by simp
          by_cases z : pos acc s.f0 = 0
          · refine Ev.step (fun k => rfl) (Ev.neg (by omega) (Ev.pos (by omega) (Ev.pos (by omega) ?_)))
            rw [ht]
            refine Ev.bindS rfl (Ev.pos (by rw [hlt]; simp; omega) (Ev.bindS rfl (Ev.pos (by omega) (Ev.pos (by rw [List.length_map]; omega) ?_))))
            rw [List.nil_append]
            refine Ev.pos (by rw [hlt]; omega) ?_
            rw [hrs]
            refine Ev.bindS rfl (Ev.bindS rfl (Ev.pos (by rw [List.length_append, hlt, hld]; simp; omega) ?_))
            rw [w64 (by omega) (by omega), hfin]
            exact hn
          · have hw : wrap64 ((pos acc s.f0 : Int) - 1) = ((pos acc s.f0 - 1 : Nat) : Int) := by rw [w64 (by omega) (by omega)]; omega
            refine Ev.step (fun k => rfl) (Ev.pos (by omega) ?_)
            rw [hw]
            refine Ev.pos (by omega) (Ev.pos (by omega) (Ev.pos (by omega) (Ev.pos (by rw [List.length_map]; omega) ?_)))
            rw [rdc (pos acc s.f0 - 1) (by omega), hrs]
            have hlt1 := pos_before (L := acc) (c := s.f0) (i := pos acc s.f0 - 1) (by omega)
            have hle1 := (h3.at (i := pos acc s.f0 - 1) (by omega)).2.1
            refine Ev.neg (show ¬ acc[pos acc s.f0 - 1].f0 > s.f0 by omega) (Ev.pos (by omega) (Ev.pos (by omega) ?_))
            rw [ht]
            refine Ev.bindS rfl (Ev.pos (by rw [hlt]; simp; omega) (Ev.bindS rfl ?_))
            rw [List.nil_append]
            refine Ev.pos (by rw [hlt]; omega) ?_
            refine Ev.bindS rfl (Ev.bindS rfl (Ev.pos (by rw [List.length_append, hlt, hld]; simp; omega) ?_))
            rw [w64 (by omega) (by omega), hfin]
            exact hn
        | succ q ihq =>
          intro j g1 g2 g3
          have hw : wrap64 ((j : Int) - 1) = ((j - 1 : Nat) : Int) := by rw [w64 (by omega) (by omega)]; omega
          refine Ev.step (fun k => rfl) (Ev.pos (by omega) ?_)
          rw [hw]
          refine Ev.pos (by omega) (Ev.pos (by omega) (Ev.pos (by omega) (Ev.pos (by rw [List.length_map]; omega) ?_)))
          rw [rdc (j - 1) (by omega), hrs]
          have hgt := ha acc[j - 1] (by
            rw [List.mem_iff_getElem]
            exact ⟨j - 1 - pos acc s.f0, by rw [List.length_drop]; omega, by rw [List.getElem_drop]; congr 1; omega⟩)
          have hv1 := hv.2.1
          refine Ev.pos (show acc[j - 1].f0 > s.f0 by omega) ?_
          exact ihq (j - 1) (by omega) (by omega) (by omega)
      rw [hml, he]
      exact key (acc.length - pos acc s.f0) acc.length rfl hple (Nat.le_refl _)
    · rw [if_neg e] at h5
      exact absurd h5 e
/-- The reference's New. -/
theorem refNew_ev {l : List S43} (hl : l.length ≤ 100000) : Ev (fun k => paronymref03_New.f k (l.map c53)) (if (newR [] l).1 = 0 then ((newR [] l).2.map c53, 0) else ([], (newR [] l).1)) := by
  have key : ∀ (d i : Nat) (acc : List S43), l.length - i = d → i ≤ l.length → SpOK acc → acc.Perm (l.take i) → newR acc (l.drop i) = newR [] l →
      Ev (fun k => paronymref03_New.l0 k (l.map c53) ((l.take i).map c53) (i : Int)) (if (newR [] l).1 = 0 then ((newR [] l).2.map c53, 0) else ([], (newR [] l).1)) := by
    intro d
    induction d with
    | zero =>
      intro i acc h1 h2 h3 h4 h5
      have hi : i = l.length := by omega
      rw [List.drop_eq_nil_of_le (by omega)] at h5
      have h0 : (newR [] l).1 = 0 := by rw [← h5]; rfl
      refine Ev.step (fun k => rfl) (Ev.neg (by rw [List.length_map]; omega) ?_)
      rw [List.take_of_length_le (by omega), if_pos h0]
      refine Ev.bind ?_ (Ev.now _)
      have := sorted_ev hl l.length 0 [] (by omega) (by omega) SpOK.nil (by simp; omega) h0
      exact this
    | succ d ih =>
      intro i acc h1 h2 h3 h4 h5
      have hi : i < l.length := by omega
      have h5' := h5
      rw [List.drop_eq_getElem_cons hi] at h5
      obtain ⟨s, hs⟩ : ∃ s, s = l[i] := ⟨_, rfl⟩
      rw [← hs] at h5
      replace h5 : (if (addR acc s).1 = 0 then newR (addR acc s).2 (l.drop (i + 1)) else ((addR acc s).1, [])) = newR [] l := h5
      have herr : errOf (l.take i) s = (addR acc s).1 := by
        rw [addR_err h3]
        unfold errOf
        have : (∃ t ∈ l.take i, meets t s) ↔ (∃ t ∈ acc, meets t s) := ⟨fun ⟨t, ht, hm⟩ => ⟨t, h4.mem_iff.2 ht, hm⟩, fun ⟨t, ht, hm⟩ => ⟨t, h4.mem_iff.1 ht, hm⟩⟩
        by_cases hc : ∃ t ∈ acc, meets t s
        · rw [if_pos hc, if_pos (this.2 hc)]
        · rw [if_neg hc, if_neg (fun h => hc (this.1 h))]
      have hck := check_ev (L := l.take i) (by rw [List.length_take]; omega) s
      rw [herr] at hck
      refine Ev.step (fun k => rfl) (Ev.pos (by rw [List.length_map]; omega) (Ev.pos (by omega) ?_))
      rw [rdc i hi, ← hs]
      refine Ev.bind hck ?_
      by_cases e : (addR acc s).1 = 0
      · rw [if_pos e] at h5
        have hn := ih (i + 1) (addR acc s).2 (by omega) (by omega) (addR_SpOK h3 e) (by
          rw [List.take_add_one, List.getElem?_eq_getElem hi, ← hs]
          exact (addR_perm h3 e).trans ((List.Perm.cons _ h4).trans (List.perm_append_comm (l₁ := [s])))) h5
        refine Ev.pos e (Ev.pos (by rw [List.length_map, List.length_take]; omega) ?_)
        rw [w64 (by omega) (by omega)]
        rw [List.take_add_one, List.getElem?_eq_getElem hi, ← hs, List.map_append] at hn
        exact hn
      · rw [if_neg e] at h5
        have h0 : ¬ (newR [] l).1 = 0 := by rw [← h5]; exact e
        rw [if_neg h0, ← h5]
        exact Ev.neg e (Ev.now _)
  unfold paronymref03_New.f
  exact key l.length 0 [] (by omega) (by omega) SpOK.nil (by simp) rfl
theorem newR_SpOK {l : List S43} (h : (newR [] l).1 = 0) : SpOK (newR [] l).2 ∧ ((newR [] l).2).Perm l := by
  obtain ⟨h1, h2⟩ := newR_len SpOK.nil h
  rw [List.append_nil] at h2
  exact ⟨h1, h2⟩
/-- The reference's Value, of a table. -/
theorem refValue_ev {L : List S43} (hl : L.length ≤ 100000) (hL : SpOK L) (c : Int) : Ev (fun k => paronymref03_Value.f k (L.map c53) c) (valR L c) := by
  have key : ∀ (d i : Nat), L.length - i = d → i ≤ L.length → (∀ a : Nat, (ha : a < i) → (h : a < L.length) → ¬ (L[a].f0 ≤ c ∧ c ≤ L[a].f1)) → Ev (fun k => paronymref03_Value.l0 k (L.map c53) c (i : Int)) (valR L c) := by
    intro d
    induction d with
    | zero =>
      intro i h1 h2 h3
      refine Ev.step (fun k => rfl) (Ev.neg (by rw [List.length_map]; omega) ?_)
      rw [valR_out hL (fun s hs => by obtain ⟨a, ha, rfl⟩ := List.getElem_of_mem hs; exact h3 a (by omega) ha)]
      exact Ev.now _
    | succ d ih =>
      intro i h1 h2 h3
      have hi : i < L.length := by omega
      have hn := ih (i + 1) (by omega) (by omega)
      refine Ev.step (fun k => rfl) (Ev.pos (by rw [List.length_map]; omega) (Ev.pos (by omega) ?_))
      rw [rdc i hi, w64 (by omega) (by omega)]
      by_cases c1 : (c53 L[i]).f0 ≤ c
      · refine Ev.pos c1 ?_
        by_cases c2 : c ≤ (c53 L[i]).f1
        · rw [valR_in hL hi c1 c2]
          exact Ev.pos c2 (Ev.now _)
        · exact Ev.neg c2 (hn (fun a ha h => by
            by_cases e : a = i
            · subst e; exact fun hm => c2 hm.2
            · exact h3 a (by omega) h))
      · exact Ev.neg c1 (hn (fun a ha h => by
          by_cases e : a = i
          · subst e; exact fun hm => c1 hm.1
          · exact h3 a (by omega) h))
  unfold paronymref03_Value.f
  exact key L.length 0 (by omega) (by omega) (fun a ha => by omega)
/-- The same spans in another order: the same table. -/
theorem newR_perm {l m : List S43} (hp : m.Perm l) (h : (newR [] l).1 = 0) : newR [] m = (0, (newR [] l).2) := by
  have g := (newR_good (l := l) SpOK.nil).1 h
  have gm : Good m := ⟨fun s hs => g.1.1 s (hp.mem_iff.1 hs), (hp.pairwise_iff (fun {a b} hab hba => hab ⟨hba.2, hba.1⟩)).2 g.1.2⟩
  have h0 : (newR [] m).1 = 0 := (newR_good SpOK.nil).2 ⟨gm, fun s _ t ht => by cases ht⟩
  obtain ⟨a1, a2⟩ := newR_SpOK h
  obtain ⟨b1, b2⟩ := newR_SpOK h0
  have hpp : ((newR [] m).2).Perm (newR [] l).2 := b2.trans (hp.trans a2.symm)
  have heq : (newR [] m).2 = (newR [] l).2 := by
    refine List.Perm.eq_of_pairwise (le := fun a b => a.f1 < b.f0) ?_ b1.1 a1.1 hpp
    intro a b ha hb hab hba
    have h1 := (b1.2 a ha).2.1
    have h2 := (a1.2 b hb).2.1
    omega
  rw [← heq]
  exact Prod.ext h0 rfl
end Go.Proofs.Ytlipbiihemhieaa.K

-- from Haw3
/- span's law: awake. -/
namespace Go.Proofs.Ytlipbiihemhieaa.Q
open Go.RowKit Go.Shelf Go.Proofs.YtlipbiihemhieaaW.PrintWords Go.Proofs.YtlipbiihemhieaaW.PrintLast Go.Proofs.YtlipbiihemhieaaW.PrintMore Go.Proofs.Ytlipbiihemhieaa.K
set_option linter.unusedVariables false
set_option linter.unusedSimpArgs false

/-- The document's example. -/
def s3 : S43 := ⟨65, 90, ⟨#[76]⟩⟩
theorem s3_valid : valid s3 := ⟨by decide, by decide, by decide, by unfold s3; simp only; rw [ba_toList]; simp⟩
theorem s3_new : newR [] [s3] = (0, [s3]) := by
  have h : (newR [] [s3]).1 = 0 := (newR_good SpOK.nil).2 ⟨⟨fun s hs => by rw [List.mem_singleton.1 hs]; exact s3_valid, List.pairwise_singleton _ _⟩, fun s _ t ht => by cases ht⟩
  have := (newR_SpOK h).2
  exact Prod.ext h (List.perm_singleton.1 this)
theorem s3_ok : SpOK [s3] := by have := (newR_SpOK (l := [s3]) (by rw [s3_new])).1; rwa [s3_new] at this
/-- One span that lies in a row. -/
theorem one43 {W : World} {g : Nat} {s : S43} {e : Nat} {p : Nat × Nat} (h : W.heap[g]? = some (.cells #[.int .i64 s.f0, .int .i64 s.f1, .string s.f2] e p)) : Kd.C k43 W (some ⟨g, 0, none⟩) [s].length [s] := by
  refine ⟨rfl, by simp, fun _ => ⟨⟨g, 0, none⟩, rfl, fun j q hj => ?_⟩⟩
  cases j with
  | succ j => simp at hj
  | zero =>
    simp only [List.getElem?_cons_zero, Option.some.injEq] at hj
    subst hj
    refine ⟨_, rfl, k43_mk W s, fun i u hu => ?_⟩
    rw [Addr.add_lit]
    simp only [World.cell?]
    rw [h]
    simpa using hu
set_option maxHeartbeats 4000000 in
set_option maxRecDepth 100000 in
theorem paronymlaw03_awake.calls0 (w : World) : Calls Try.prog 26 #[] w fun e w' => e = .returned (.bool true) ∧ Below w.heap.size w w' := by
  obtain ⟨k1, hv1⟩ := (value_ev (L := [s3]) (by simp) s3_ok 66).rounds
  obtain ⟨k2, hv2⟩ := (value_ev (L := [s3]) (by simp) s3_ok 91).rounds
  rw [valR_in (i := 0) s3_ok (by simp) (by decide) (by decide)] at hv1
  rw [valR_out s3_ok (fun s hs => by rw [List.mem_singleton.1 hs]; decide)] at hv2
  have HV1 : Aside0 (span_Value.f k1 [s3] 66 = some ⟨#[76]⟩) := ⟨hv1⟩
  have HV2 := Aside0.mk hv2
  clear hv1 hv2
  have hb0 : Below w.heap.size w (w.alloc (.cells #[.int .i64 65, .int .i64 90, .string ⟨#[76]⟩] 43)) := (Below.refl _ w).alloc (Nat.le_refl _) _
  have HB0 := Aside0.mk hb0
  have HC0 : Aside0 (Kd.C k43 (w.alloc (.cells #[.int .i64 65, .int .i64 90, .string ⟨#[76]⟩] 43)) (some ⟨w.heap.size, 0, none⟩) [s3].length [s3]) := ⟨one43 (s := s3) (heap_alloc_new w _)⟩
  clear hb0
  go_enter Try.func26, Try.ntmps26
  go_wp2_with (first
    | (go_at_call 28
       refine (span_New.calls _ 1 [s3] _ HC0.out (by simp) (by simp)).mono ?_
       rintro e w1 ⟨hb1, q, rfl, hq⟩
       rw [s3_new] at hq
       rw [s3_new]
       rcases hq with ⟨hq, _⟩ | ⟨_, ⟨g, rfl⟩, hT⟩
       rotate_left
       have HT : Aside0 (Tab w1 (some ⟨g, 0, none⟩) [s3]) := ⟨hT⟩
       have HB1 := Aside0.mk (HB0.out.trans (hb1.mono HB0.out.size))
       clear hb1 hT
       rotate_left
       (exact absurd rfl hq))
    | (go_at_call 38
       (with_reducible refine (span_Value.calls k1 _ [s3] 66 _ _ HT.out HV1.out).mono ?_)
       rintro e w2 ⟨rfl, hb⟩
       have HT2 := Aside0.mk (HT.out.below hb)
       have HB2 := Aside0.mk (HB1.out.trans (hb.mono HB1.out.size))
       clear hb)
    | (go_at_call 38
       (with_reducible refine (span_Value.calls k2 _ [s3] 91 _ _ HT2.out HV2.out).mono ?_)
       rintro e w3 ⟨rfl, hb⟩
       have HT3 := Aside0.mk (HT2.out.below hb)
       have HB3 := Aside0.mk (HB2.out.trans (hb.mono HB2.out.size))
       clear hb)
    | (go_at_call 37
       refine (span_Len.calls _ [s3] _ HT3.out).mono ?_
       rintro e w4 ⟨rfl, rfl⟩))
  go_ret
  exact ⟨rfl, HB3.out⟩
end Go.Proofs.Ytlipbiihemhieaa.Q

-- from Hopn
/- What an argument reads as, by kinds: rows of anything. -/
namespace Go.Proofs.Ytlipbiihemhieaa.Q
open Go.ChangeShapes Go.WideShapes Go.RowKit Go.Proofs.YtlipbiihemhieaaW.PrintWords Go.Proofs.YtlipbiihemhieaaW.PrintLast Go.Proofs.YtlipbiihemhieaaW.PrintMore
set_option linter.unusedVariables false
set_option linter.unusedSimpArgs false

/-- Cells of type t that the call reads are of this kind, and right. -/
def Opens {H α : Type} (enc : TypeId × Value → H) (P : Program) (w : World) (t : TypeId) (d : Kd α) (q : α → Prop) : Prop :=
  ∀ (sp : Nat → Bool) (held : Bool) (fuel : Nat) (cs : List Value) (x : DataW H × List MemPlace), DataW.trod enc P w 0 sp held fuel t cs = some x → ∃ a, d.K w a cs ∧ q a
section
variable {H : Type} {enc : TypeId × Value → H} {P : Program} {w : World}
theorem opens_int {t : TypeId} {k : IntKind} (ht : P.underlying t = some (.int k)) : Opens enc P w t (Kd.int k) (fun n => (Lit.int k n).wf = true) := fun sp held fuel cs x h => by
  obtain ⟨n, rfl, _, hw⟩ := DataW.trod_int ht h
  exact ⟨n, rfl, hw⟩
theorem opens_bool {t : TypeId} (ht : P.underlying t = some .bool) : Opens enc P w t Kd.bool (fun _ => True) := fun sp held fuel cs x h => by
  obtain ⟨n, rfl, _⟩ := DataW.trod_bool ht h
  exact ⟨n, rfl, trivial⟩
theorem opens_string {t : TypeId} (ht : P.underlying t = some .string) : Opens enc P w t Kd.string (fun s => s.size ≤ 9223372036854775807) := fun sp held fuel cs x h => by
  obtain ⟨s, rfl, _, hs⟩ := DataW.trod_string ht h
  exact ⟨s, rfl, by unfold maxLen at hs; omega⟩
theorem opens_slice {α : Type} {t e : TypeId} {d : Kd α} {q : α → Prop} (ht : P.underlying t = some (.slice e)) (hc : P.cellsOf e = d.sz) (he : Opens enc P w e d q) : Opens enc P w t (Kd.slice e d) (fun l => ∀ a ∈ l, q a) := fun sp held fuel cs x h => by
  rcases DataW.trod_slice ht h with ⟨rfl, _⟩ | ⟨a, len, cap, elems, rest, m, _, rfl, _, _, hl, hm, hlen, hel, _⟩
  · exact ⟨[], ⟨none, 0, rfl, Nat.le_refl _, ⟨rfl, by simp, fun h => by simp at h⟩⟩, fun a ha => by cases ha⟩
  · have each : ∀ i, i < len → ∃ (y : α) (c : List Value), c.length = d.sz ∧ d.K w y c ∧ q y ∧ ∀ j u, c[j]? = some u → w.cell? (a.add (i * d.sz + j)) = some u := by
      intro i hi
      have hE := hel i hi
      rw [List.getElem?_eq_getElem (by omega : i < elems.length), Option.bind_eq_some_iff] at hE
      obtain ⟨cs', hcs', hy⟩ := hE
      obtain ⟨y, h1, h2⟩ := he _ _ _ _ _ hy
      obtain ⟨_, h3, h4⟩ := World.cells?_some hcs'
      rw [hc] at h3 h4
      refine ⟨y, cs', h3, h1, h2, fun j u hj => ?_⟩
      have hjl : j < d.sz := by rw [← h3]; exact (List.getElem?_eq_some_iff.1 hj).1
      have := h4 j hjl
      rw [Addr.add_add] at this
      rw [this, hj]
    have pick : ∀ m, m ≤ len → ∃ ls : List α, ls.length = m ∧ (∀ i y, ls[i]? = some y → ∃ c : List Value, c.length = d.sz ∧ d.K w y c ∧ q y ∧ ∀ j u, c[j]? = some u → w.cell? (a.add (i * d.sz + j)) = some u) := by
      intro m
      induction m with
      | zero => intro _; exact ⟨[], rfl, fun i l h => by simp at h⟩
      | succ m ih =>
        intro hm'
        obtain ⟨ls, g1, g2⟩ := ih (by omega)
        obtain ⟨y, c, q1, q2, q3, q4⟩ := each m (by omega)
        refine ⟨ls ++ [y], by simp [g1], fun i l' hi => ?_⟩
        by_cases hlt : i < ls.length
        · rw [List.getElem?_append_left hlt] at hi
          exact g2 i l' hi
        · have him : i = m := by
            have := (List.getElem?_eq_some_iff.1 hi).1
            simp at this
            omega
          subst him
          rw [List.getElem?_append_right (by omega), g1, Nat.sub_self] at hi
          simp at hi
          subst hi
          exact ⟨c, q1, q2, q3, q4⟩
    obtain ⟨ls, g1, g2⟩ := pick len (Nat.le_refl _)
    refine ⟨ls, ⟨some a, cap, by rw [g1], by omega, ⟨rfl, by unfold maxLen at hm; omega, fun _ => ⟨a, rfl, fun j p hj => ?_⟩⟩⟩, fun y hy => ?_⟩
    · obtain ⟨c, q1, q2, _, q4⟩ := g2 j p hj
      exact ⟨c, q1, q2, q4⟩
    · obtain ⟨i, hi⟩ := List.getElem?_of_mem hy
      exact (g2 i y hi).choose_spec.2.2.1
/-- The argument itself. -/
theorem opens_arg {α : Type} {t e : TypeId} {d : Kd α} {q : α → Prop} (ht : P.underlying t = some (.slice e)) (hc : P.cellsOf e = d.sz) (he : Opens enc P w e d q) {sp : Nat → Bool} {held : Bool} {A : Option Addr} {n c : Nat} {x : DataW H} {ps : List MemPlace} (h : DataW.Trod enc P w 0 sp held t (.slice A n c) x ps) :
    ∃ ls : List α, ls.length = n ∧ n ≤ c ∧ Kd.C d w A n ls ∧ ∀ a ∈ ls, q a := by
  obtain ⟨fuel, hf⟩ := h
  obtain ⟨ls, ⟨B, c', h1, h2, h3⟩, h4⟩ := opens_slice ht hc he _ _ _ _ _ hf
  simp only [Value.cells, List.cons.injEq, Value.slice.injEq, and_true] at h1
  obtain ⟨rfl, rfl, rfl⟩ := h1
  exact ⟨ls, rfl, h2, h3, h4⟩
/-- A struct by value. -/
theorem opens_one {α : Type} {t : TypeId} {d : Kd α} {q : α → Prop} (he : Opens enc P w t d q) {sp : Nat → Bool} {held : Bool} {v : Value} {x : DataW H} {ps : List MemPlace} (h : DataW.Trod enc P w 0 sp held t v x ps) :
    ∃ a, d.K w a v.cells.toList ∧ q a := by
  obtain ⟨fuel, hf⟩ := h
  exact he _ _ _ _ _ hf
end
end Go.Proofs.Ytlipbiihemhieaa.Q

-- from Qf33
-- Made by hp.py, a program of this session, with the kit's printer. Not trusted: Lean checks it.
namespace Go.Proofs.Ytlipbiihemhieaa.Q
open Go.RowKit Go.Proofs.YtlipbiihemhieaaW.PrintWords Go.Proofs.YtlipbiihemhieaaW.PrintLast Go.Proofs.YtlipbiihemhieaaW.PrintMore
attribute [local go_sem] max2_int min2_int max_two min_two max_three min_three max_four min_four   -- for this text's walks alone
set_option linter.unusedVariables false
set_option linter.unusedSimpArgs false

/-! ### paronymref01_Rest: function 33 -/
def paronymref01_Rest.f (a0 : Int) (a1 : Int) : Option (Int) := if a1 = 0 then (none) else (some (Int.tmod (wrap64 ((Int.tmod a0 a1) + a1)) a1))
set_option maxHeartbeats 8000000 in
set_option maxRecDepth 100000 in
theorem paronymref01_Rest.calls (a0 : Int) (a1 : Int) (r : Int) (w : World) (h : paronymref01_Rest.f a0 a1 = some r) :
    Calls Try.prog 33 #[.int .i64 a0, .int .i64 a1] w fun e w' => e = .returned (.int .i64 r) ∧ Drawn0 w w' := by
  have H : (if a1 = 0 then (none) else (some (Int.tmod (wrap64 ((Int.tmod a0 a1) + a1)) a1))) = some r := h
  clear h
  by_cases c3 : a1 = 0
  · rw [if_pos c3] at H
    exact absurd H (by simp)
  · rw [if_neg c3] at H
    have c3b0 : (a1 == 0) = false := beq_eq_false_iff_ne.mpr c3
    have c3b1 : (a1 != 0) = true := bne_iff_ne.mpr c3
    obtain rfl := Option.some.inj H
    go_enter Try.func33, Try.ntmps33
    go_wp2
    go_ret
    exact ⟨by first | rfl | (simp; done) | (simp [*]; done), by repeat (first | exact Drawn0.refl _ | apply Drawn0.step)⟩

end Go.Proofs.Ytlipbiihemhieaa.Q

-- from Hwsp
/- Layer 3: the contracts that the four laws' walks use, told without rounds. -/
namespace Go.Proofs.Ytlipbiihemhieaa.Q
open Go.ChangeShapes Go.WideShapes Go.RowKit Go.Shelf Go.Proofs.YtlipbiihemhieaaW.PrintWords Go.Proofs.YtlipbiihemhieaaW.PrintLast Go.Proofs.YtlipbiihemhieaaW.PrintMore Go.Proofs.Ytlipbiihemhieaa.K
set_option linter.unusedVariables false
set_option linter.unusedSimpArgs false

/-- A span that came in. -/
def wf43 (s : S43) : Prop := (Lit.int .i64 s.f0).wf = true ∧ (Lit.int .i64 s.f1).wf = true ∧ s.f2.size ≤ 9223372036854775807
set_option maxRecDepth 100000 in
theorem opens_S43 {H : Type} {enc : TypeId × Value → H} {w : World} : Opens enc Try.prog w 43 k43 wf43 := fun sp held fuel cs x h => by
  obtain ⟨y0, y1, y2, n, _, hlen, h0, h1, h2⟩ := Go.Deep.trod_struct3 Try.underlying43 h
  have hc : Try.prog.cellsOf 43 = 3 := by kernel_rfl
  rw [hc] at hlen
  match cs, hlen with
  | [a, b, c], _ =>
    obtain ⟨n0, e0, _, g0⟩ := DataW.trod_int Try.underlying3 h0
    obtain ⟨n1, e1, _, g1⟩ := DataW.trod_int Try.underlying3 h1
    obtain ⟨s, e2, _, g2⟩ := DataW.trod_string Try.underlying9 h2
    have hi : Try.prog.cellsOf 3 = 1 := by kernel_rfl
    have hs : Try.prog.cellsOf 9 = 1 := by kernel_rfl
    simp only [hi, hs] at e0 e1 e2
    simp at e0 e1 e2
    subst e0 e1 e2
    exact ⟨⟨n0, n1, s⟩, k43_mk w ⟨n0, n1, s⟩, g0, g1, by unfold maxLen at g2; omega⟩
def smallB (l : List S43) : Bool := decide (l.length ≤ 30 ∧ ∀ s ∈ l, s.f2.size ≤ 30)
theorem small_calls (A : Option Addr) (c : Nat) (l : List S43) (w : World) (hr : Kd.C k43 w A l.length l) (hc : l.length ≤ c) :
    Calls Try.prog 27 #[.slice A l.length c] w fun e w' => e = .returned (.bool (smallB l)) ∧ Below w.heap.size w w' := by
  by_cases h : l.length ≤ 30
  · obtain ⟨b, hb, he⟩ := small_ev (l := l) (by omega)
    obtain ⟨k, hk⟩ := he.rounds
    have : b = smallB l := by unfold smallB; rw [Bool.eq_iff_iff, hb, decide_eq_true_iff]
    subst this
    exact (paronymlaw03_small.calls k A c l _ w hr hc hk).mono fun e w' h => ⟨h.1, h.2.below⟩
  · have : smallB l = false := by unfold smallB; exact decide_eq_false (fun q => h q.1)
    rw [this]
    exact (paronymlaw03_small.calls 0 A c l false w hr hc (by unfold paronymlaw03_small.f; rw [if_pos (by omega)])).mono fun e w' h => ⟨h.1, h.2.below⟩
theorem plain_calls (A : Option Addr) (c : Nat) (l : List S43) (M : List S53) (w : World) (hM : M = l.map c53) (hr : Kd.C k43 w A l.length l) (hc : l.length ≤ c) (hl : l.length ≤ 1000) :
    Calls Try.prog 35 #[.slice A l.length c] w fun e w' => ∃ v, e = .returned v ∧ Kd.R k53 53 w' w.heap.size (fun _ => True) v M ∧ Below w.heap.size w w' := by
  subst hM
  obtain ⟨k, hk⟩ := (plain_ev (l := l) (by omega)).rounds
  exact paronymlaw03_plain.calls k A c l _ w hr hc hk
def refNewR (l : List S43) : List S53 × Int := if (newR [] l).1 = 0 then ((newR [] l).2.map c53, 0) else ([], (newR [] l).1)
theorem refNewR_err (l : List S43) : (refNewR l).2 = (newR [] l).1 := by
  unfold refNewR
  split
  · rename_i h; exact h.symm
  · rfl
theorem refNew_calls (A : Option Addr) (c : Nat) (l : List S43) (M M2 : List S53) (w : World) (hM : M = l.map c53) (hM2 : M2 = (refNewR l).1) (hr : Kd.C k53 w A M.length M) (hc : M.length ≤ c) (hl : l.length ≤ 1000) :
    Calls Try.prog 34 #[.slice A M.length c] w fun e w' => ∃ v, e = .returned (.tuple #[v, .int .i64 (newR [] l).1]) ∧ Kd.R k53 53 w' w.heap.size (fun _ => True) v M2 ∧ Below w.heap.size w w' := by
  subst hM hM2
  obtain ⟨k, hk⟩ := (refNew_ev (l := l) (by omega)).rounds
  have := paronymref03_New.calls k A c (l.map c53) (refNewR l).1 (refNewR l).2 w hr hc hk
  rw [refNewR_err] at this
  exact this
theorem same_calls (A : Option Addr) (c : Nat) (l : List S53) (A' : Option Addr) (c' : Nat) (w : World) (hr : Kd.C k53 w A l.length l) (hc : l.length ≤ c) (hr' : Kd.C k53 w A' l.length l) (hc' : l.length ≤ c') (hl : l.length ≤ 1000) :
    Calls Try.prog 32 #[.slice A l.length c, .slice A' l.length c'] w fun e w' => e = .returned (.bool true) ∧ Below w.heap.size w w' := by
  obtain ⟨k, hk⟩ := (same_ev (a := l) (by omega)).rounds
  exact (paronymlaw03_same.calls k A c l A' c' l true w hr hc hr' hc' hk).mono fun e w' h => ⟨h.1, h.2.below⟩
theorem refValue_calls (A : Option Addr) (n : Nat) (L : List S43) (M : List S53) (c : Int) (w : World) (hM : M = L.map c53) (hr : Kd.C k53 w A M.length M) (hc : M.length ≤ n) (hl : L.length ≤ 1000) (hL : SpOK L) :
    Calls Try.prog 36 #[.slice A M.length n, .int .i64 c] w fun e w' => e = .returned (.string (valR L c)) ∧ Below w.heap.size w w' := by
  subst hM
  obtain ⟨k, hk⟩ := (refValue_ev (by omega) hL c).rounds
  exact (paronymref03_Value.calls k A n _ c _ w hr hc hk).mono fun e w' h => ⟨h.1, h.2.below⟩
theorem value_calls (p : Option Addr) (L : List S43) (c : Int) (w : World) (hT : Tab w p L) (hl : L.length ≤ 1000) (hL : SpOK L) :
    Calls Try.prog 38 #[.pointer p, .int .i64 c] w fun e w' => e = .returned (.string (valR L c)) ∧ Below w.heap.size w w' := by
  obtain ⟨k, hk⟩ := (value_ev (by omega) hL c).rounds
  exact span_Value.calls k p L c _ w hT hk
theorem has_calls (p : Option Addr) (L : List S43) (c : Int) (v : ByteArray) (w : World) (hT : Tab w p L) (hl : L.length ≤ 1000) (hL : SpOK L) :
    Calls Try.prog 39 #[.pointer p, .int .i64 c, .string v] w fun e w' => e = .returned (.bool (hasR L c v)) ∧ Below w.heap.size w w' := by
  obtain ⟨k, hk⟩ := (has_ev (by omega) hL c v).rounds
  exact span_Has.calls k p L c v _ w hT hk
theorem listed_calls (p : Option Addr) (L : List S43) (M : List S53) (w : World) (hM : M = L.map c53) (hT : Tab w p L) (hl : L.length ≤ 1000) :
    Calls Try.prog 29 #[.pointer p] w fun e w' => ∃ v, e = .returned v ∧ Kd.R k53 53 w' w.heap.size (fun _ => True) v M ∧ Below w.heap.size w w' := by
  subst hM
  exact paronymlaw03_listed.calls p L w hT hl
theorem check_calls (A : Option Addr) (n : Nat) (L : List S43) (M : List S53) (s : S43) (w : World) (hM : M = L.map c53) (hr : Kd.C k53 w A M.length M) (hc : M.length ≤ n) (hl : L.length ≤ 1000) :
    Calls Try.prog 31 #[.slice A M.length n, .agg #[.int .i64 s.f0, .int .i64 s.f1, .string s.f2]] w fun e w' => e = .returned (.int .i64 (errOf L s)) ∧ Below w.heap.size w w' := by
  subst hM
  obtain ⟨k, hk⟩ := (check_ev (L := L) (by omega) s).rounds
  exact (paronymref03_Check.calls k A n _ s.f0 s.f1 s.f2 _ w hr hc hk).mono fun e w' h => ⟨h.1, by first | exact h.2 | exact h.2.below⟩
theorem add_calls (p : Option Addr) (L : List S43) (s : S43) (w : World) (hT : Tab w p L) (hl : L.length ≤ 1000) (hL : SpOK L) :
    Calls Try.prog 30 #[.pointer p, .agg #[.int .i64 s.f0, .int .i64 s.f1, .string s.f2]] w fun e w' => Below w.heap.size w w' ∧ ∃ q, e = .returned (.tuple #[.pointer q, .int .i64 (errOf L s)]) ∧
      ((errOf L s ≠ 0 ∧ q = none) ∨ (errOf L s = 0 ∧ (∃ g, q = some ⟨g, 0, none⟩) ∧ Tab w' q (addR L s).2)) := by
  obtain ⟨k, hk⟩ := (find_ev (by omega) hL s.f0).rounds
  have := span_Add.calls k p L s (pos L s.f0) w hT hk (pos_le _ _) (by omega)
  have e := addR_err hL s
  unfold addR at e ⊢
  rw [e] at this
  exact this
theorem len_calls (p : Option Addr) (L : List S43) (n : Nat) (w : World) (hn : n = L.length) (hT : Tab w p L) :
    Calls Try.prog 37 #[.pointer p] w fun e w' => e = .returned (.int .i64 (n : Int)) ∧ Below w.heap.size w w' := by
  subst hn
  exact (span_Len.calls p L w hT).mono fun e w' h => ⟨h.1, by rw [h.2]; exact Below.refl _ _⟩
theorem value_calls' (p : Option Addr) (L : List S43) (c : Int) (V : ByteArray) (w : World) (hV : V = valR L c) (hT : Tab w p L) (hl : L.length ≤ 1000) (hL : SpOK L) :
    Calls Try.prog 38 #[.pointer p, .int .i64 c] w fun e w' => e = .returned (.string V) ∧ Below w.heap.size w w' := by
  subst hV
  exact value_calls p L c w hT hl hL
theorem has_calls' (p : Option Addr) (L : List S43) (c : Int) (v : ByteArray) (b : Bool) (w : World) (hb : hasR L c v = b) (hT : Tab w p L) (hl : L.length ≤ 1000) (hL : SpOK L) :
    Calls Try.prog 39 #[.pointer p, .int .i64 c, .string v] w fun e w' => e = .returned (.bool b) ∧ Below w.heap.size w w' := by
  subst hb
  exact has_calls p L c v w hT hl hL
theorem refValue_calls' (A : Option Addr) (n : Nat) (L : List S43) (M : List S53) (c : Int) (V : ByteArray) (w : World) (hV : V = valR L c) (hM : M = L.map c53) (hr : Kd.C k53 w A M.length M) (hc : M.length ≤ n) (hl : L.length ≤ 1000) (hL : SpOK L) :
    Calls Try.prog 36 #[.slice A M.length n, .int .i64 c] w fun e w' => e = .returned (.string V) ∧ Below w.heap.size w w' := by
  subst hV
  exact refValue_calls A n L M c w hM hr hc hl hL
theorem tab_nil (w : World) : Tab w none [] := .inl ⟨rfl, rfl⟩
theorem valR_nil (c : Int) : (⟨#[]⟩ : ByteArray) = valR [] c := by unfold valR; simp
theorem hasR_nil (c : Int) (v : ByteArray) : hasR [] c v = false := by
  unfold hasR
  split
  · rfl
  · rename_i h
    rw [← valR_nil]
    cases hv : v.toList with
    | nil => exact absurd hv h
    | cons a l => rw [ba_toList]; rfl
theorem new_ok (A : Option Addr) (c : Nat) (l L : List S43) (w : World) (hn : newR [] l = (0, L)) (hr : Kd.C k43 w A l.length l) (hc : l.length ≤ c) (hl : l.length ≤ 1000) :
    Calls Try.prog 28 #[.slice A l.length c] w fun e w' => ∃ g, e = .returned (.tuple #[.pointer (some ⟨g, 0, none⟩), .int .i64 0]) ∧ Tab w' (some ⟨g, 0, none⟩) L ∧ Below w.heap.size w w' :=
  (span_New.calls A c l w hr hc hl).mono fun e w' ⟨hb, q, he, hq⟩ => by
    rw [hn] at he hq
    rcases hq with ⟨hq, _⟩ | ⟨_, ⟨g, rfl⟩, hT⟩
    · exact absurd rfl hq
    · exact ⟨g, he, hT, hb⟩
theorem new_err (A : Option Addr) (c : Nat) (l : List S43) (E : Int) (w : World) (hn : (newR [] l).1 = E) (hE : E ≠ 0) (hr : Kd.C k43 w A l.length l) (hc : l.length ≤ c) (hl : l.length ≤ 1000) :
    Calls Try.prog 28 #[.slice A l.length c] w fun e w' => e = .returned (.tuple #[.pointer none, .int .i64 E]) ∧ Below w.heap.size w w' :=
  (span_New.calls A c l w hr hc hl).mono fun e w' ⟨hb, q, he, hq⟩ => by
    rw [hn] at he hq
    rcases hq with ⟨_, rfl⟩ | ⟨hq, _⟩
    · exact ⟨he, hb⟩
    · exact absurd hq hE
theorem add_ok (p : Option Addr) (L : List S43) (s : S43) (w : World) (hE : errOf L s = 0) (hT : Tab w p L) (hl : L.length ≤ 1000) (hL : SpOK L) :
    Calls Try.prog 30 #[.pointer p, .agg #[.int .i64 s.f0, .int .i64 s.f1, .string s.f2]] w fun e w' => ∃ g, e = .returned (.tuple #[.pointer (some ⟨g, 0, none⟩), .int .i64 0]) ∧ Tab w' (some ⟨g, 0, none⟩) (addR L s).2 ∧ Below w.heap.size w w' :=
  (add_calls p L s w hT hl hL).mono fun e w' ⟨hb, q, he, hq⟩ => by
    rw [hE] at he hq
    rcases hq with ⟨hq, _⟩ | ⟨_, ⟨g, rfl⟩, hT⟩
    · exact absurd rfl hq
    · exact ⟨g, he, hT, hb⟩
theorem add_err (p : Option Addr) (L : List S43) (s : S43) (E : Int) (w : World) (hE : errOf L s = E) (h0 : E ≠ 0) (hT : Tab w p L) (hl : L.length ≤ 1000) (hL : SpOK L) :
    Calls Try.prog 30 #[.pointer p, .agg #[.int .i64 s.f0, .int .i64 s.f1, .string s.f2]] w fun e w' => e = .returned (.tuple #[.pointer none, .int .i64 E]) ∧ Below w.heap.size w w' :=
  (add_calls p L s w hT hl hL).mono fun e w' ⟨hb, q, he, hq⟩ => by
    rw [hE] at he hq
    rcases hq with ⟨_, rfl⟩ | ⟨hq, _⟩
    · exact ⟨he, hb⟩
    · exact absurd hq h0
theorem check_calls' (A : Option Addr) (n : Nat) (L : List S43) (M : List S53) (s : S43) (E : Int) (w : World) (hE : errOf L s = E) (hM : M = L.map c53) (hr : Kd.C k53 w A M.length M) (hc : M.length ≤ n) (hl : L.length ≤ 1000) :
    Calls Try.prog 31 #[.slice A M.length n, .agg #[.int .i64 s.f0, .int .i64 s.f1, .string s.f2]] w fun e w' => e = .returned (.int .i64 E) ∧ Below w.heap.size w w' := by
  subst hE
  exact check_calls A n L M s w hM hr hc hl
/-- How far the spans are turned. -/
theorem rest_some (a n : Int) (h0 : 0 < n) (h1 : n ≤ 1000) : ∃ r, paronymref01_Rest.f a n = some r ∧ 0 ≤ r ∧ r < n := by
  have h2 := Int.tmod_lt_of_pos a h0
  have h3 := Int.lt_tmod_of_pos a h0
  unfold paronymref01_Rest.f
  rw [if_neg (by omega), w64 (by omega) (by omega), Int.tmod_eq_emod_of_nonneg (by omega)]
  exact ⟨_, rfl, Int.emod_nonneg _ (by omega), Int.emod_lt_of_pos _ h0⟩
theorem rest_calls (a n r : Int) (w : World) (h : paronymref01_Rest.f a n = some r) :
    Calls Try.prog 33 #[.int .i64 a, .int .i64 n] w fun e w' => e = .returned (.int .i64 r) ∧ Drawn0 w w' := paronymref01_Rest.calls a n r w h
theorem rot_at {l : List S43} {r i : Nat} (hr : r < l.length) (hi : i < l.length) : (l.drop r ++ l.take r)[i]? = some (rd_T43 l ((((i : Int) + (r : Int)) % (l.length : Int)))) := by
  have e : ((i : Int) + (r : Int)) % (l.length : Int) = ((if i < l.length - r then r + i else i - (l.length - r) : Nat) : Int) := by
    split
    · rw [Int.emod_eq_of_lt (by omega) (by omega)]; omega
    · have : ((i : Int) + (r : Int)) = ((i : Int) + r - l.length) + l.length := by omega
      rw [this, Int.add_emod_right, Int.emod_eq_of_lt (by omega) (by omega)]; omega
  rw [e]
  split
  · rw [rd43 _ (by omega), List.getElem?_append_left (by rw [List.length_drop]; omega), List.getElem?_drop, List.getElem?_eq_getElem (by omega)]
  · rw [rd43 _ (by omega), List.getElem?_append_right (by rw [List.length_drop]; omega), List.length_drop, List.getElem?_take_of_lt (by omega), List.getElem?_eq_getElem (by omega)]
theorem info_span : (Try.prog.info? 43).map (fun i => (i.zero, i.size, i.bytes)) = some (some (.agg #[(.int .i64 0), (.int .i64 0), (.string ⟨#[]⟩)]), 3, 32) := by kernel_rfl
theorem agg_S43 {w : World} {s : S43} {cs : Array Value} (h : k43.K w s (Value.agg cs).cells.toList) : cs = #[.int .i64 s.f0, .int .i64 s.f1, .string s.f2] := by
  have := k43_open h
  cases cs
  simp [Value.cells] at this
  rw [this]
end Go.Proofs.Ytlipbiihemhieaa.Q

-- from Hppt
/- span: Table.Points: an iterator over an iterator. -/
namespace Go.Proofs.Ytlipbiihemhieaa.Q
open Go.RowKit Go.Shelf Go.Proofs.YtlipbiihemhieaaW.PrintWords Go.Proofs.YtlipbiihemhieaaW.PrintLast Go.Proofs.YtlipbiihemhieaaW.PrintMore Go.Proofs.Ytlipbiihemhieaa.K
set_option linter.unusedVariables false
set_option linter.unusedSimpArgs false
attribute [local go_sem] Oper.semAt_some

/-- Cells of other types. -/
def QT (ts : List Nat) (_ : Nat) (o : Obj) : Prop := ∃ cs t f, o = .cells cs t f ∧ t ∉ ts
theorem QT.mk {ts : List Nat} {k : Nat} {cs : Array Value} {t : Nat} {f : Nat × Nat} (h : t ∉ ts) : QT ts k (.cells cs t f) := ⟨cs, t, f, rfl, h⟩
/-- The code points of a span; of spans with a value. -/
def spanPts (s : S43) : List Int := (List.range (s.f1 + 1 - s.f0).toNat).map (fun j : Nat => s.f0 + (j : Int))
def ptsIn (v : ByteArray) (L : List S43) : List Int := L.flatMap (fun s => if s.f2.toList = v.toList then spanPts s else [])
def ptsOf (L : List S43) (v : ByteArray) : List Int := if v.toList = [] then [] else ptsIn v L
theorem ptsIn_snoc (v : ByteArray) (pre : List S43) (x : S43) : ptsIn v (pre ++ [x]) = ptsIn v pre ++ (if x.f2.toList = v.toList then spanPts x else []) := by
  unfold ptsIn; simp
theorem ptsIn_prefix {v : ByteArray} {a b : List S43} (h : a <+: b) : ptsIn v a <+: ptsIn v b := by
  obtain ⟨c, rfl⟩ := h
  unfold ptsIn
  rw [List.flatMap_append]
  exact List.prefix_append _ _
theorem spanPts_len (s : S43) : (spanPts s).length = (s.f1 + 1 - s.f0).toNat := by unfold spanPts; simp
theorem spanPts_take (s : S43) (j : Nat) (h : s.f0 + (j : Int) ≤ s.f1) : (spanPts s).take j ++ [s.f0 + (j : Int)] = (spanPts s).take (j + 1) := by
  have hl : j < (spanPts s).length := by rw [spanPts_len]; omega
  rw [List.take_add_one, List.getElem?_eq_getElem hl]
  simp [spanPts]
theorem wpIn_scope_wide {n : Nat} {P : Program} {c : Code} {Q : Exit → Act → World → Prop} {a : Act} {w : World} (h : c.wpIn Fence.wide n P (Exit.noGoto Q) a w) : (Code.scope c).wpIn Fence.wide n P Q a w := wpIn_wide.2 (wp_scope_straight (wpIn_wide.1 h))
theorem wpIn_label_wide {n : Nat} {P : Program} {l : Nat} {Q : Exit → Act → World → Prop} {a : Act} {w : World} (h : Q .normal a w) : (Code.label l).wpIn Fence.wide n P Q a w := wpIn_wide.2 (wp_label h)
set_option maxHeartbeats 4000000 in
set_option maxRecDepth 100000 in
/-- The iterator. -/
theorem span_Points.stops (L : List S43) (hl : L.length ≤ 1000) (hL : SpOK L) (v : ByteArray) (p : Option Addr) (Bv Bt : Nat) (w : World)
    (hBv : Boxed w Bv 9 (.string v)) (hBt : Boxed w Bt 45 (.pointer p)) (hT : Tab w p L) (n : Nat) (hn : 6 ≤ n) :
    SeqPw Fence.wide n Try.prog 67 #[.pointer (some ⟨Bv, 0, none⟩), .pointer (some ⟨Bt, 0, none⟩)] (fun c : Int => #[.int .i64 c]) (KeepO (QT [3, 22])) (fun _ _ => True) (fun ys => ys = ptsOf L v) (fun pre => pre <+: ptsOf L v) w := fun l J Jx W hW hJ hJx hY h0 => by
  refine callsIn_of_wp_marks Try.func67 rfl trivial ?_ rfl
  simp only [Try.ntmps67, List.size_toArray, List.length_cons, List.length_nil, Nat.reduceAdd, Nat.reduceSub, Array.replicate_succ, Array.replicate_zero, List.push_toArray, List.append_toArray, List.nil_append, List.cons_append]
  have hbv : Boxed W Bv 9 (.string v) := (hW.block _ hBv.lt).trans hBv
  have hbt : Boxed W Bt 45 (.pointer p) := (hW.block _ hBt.lt).trans hBt
  have HBv := Aside0.mk hbv
  have HBt := Aside0.mk hbt
  have HT := Aside0.mk (hT.below hW)
  have HJ := Aside0.mk hJ
  have HJX := Aside0.mk hJx
  have HY := Aside0.mk hY
  have H0 := Aside0.mk h0
  have HL := Aside0.mk hl
  have HOK := Aside0.mk hL
  have hcv := (hbv.alloc (.cells #[.func (.yield l) #[] #[]] 99)).cell
  have hct := (hbt.alloc (.cells #[.func (.yield l) #[] #[]] 99)).cell
  clear hbv hbt
  clear hBv hBt hT hJ hJx hY h0 hl hL hW
  by_cases hv : v.toList = ([] : List UInt8)
  · have b1 : (v.toList == ([] : List UInt8)) = true := beq_iff_eq.mpr hv
    have b2 : v.toList.isEmpty = true := by rw [hv]; rfl
    have HPT : Aside0 (ptsOf L v = []) := ⟨by unfold ptsOf; rw [if_pos hv]⟩
    clear hv
    gi_wp2
    refine wpIn_scope_wide ?_
    gi_wp2
    rw [Exit.noGoto_ret]
    exact ⟨_, results_none rfl _ _ _, ⟨_, rfl⟩, .inl ⟨[], HPT.out.symm, HJ.out _ _ _ none H0.out (World.grownBy_alloc W _ none) (fun r e => by cases e)⟩⟩
  · have b1 : (v.toList == ([] : List UInt8)) = false := beq_eq_false_iff_ne.mpr hv
    have b2 : v.toList.isEmpty = false := by
      cases hh : v.toList with
      | nil => exact absurd hh hv
      | cons _ _ => rfl
    have HPT : Aside0 (ptsOf L v = ptsIn v L) := ⟨by unfold ptsOf; rw [if_neg hv]⟩
    clear hv
    have hb0 : Below W.heap.size W (W.alloc (.cells #[.func (.yield l) #[] #[]] 99)) := (Below.refl _ W).alloc (Nat.le_refl _) _
    have HB0 := Aside0.mk hb0
    have HYB := Aside0.mk (Boxed.new W 99 (.func (.yield l) #[] #[]))
    clear hb0
    gi_wp2
    refine wpIn_scope_wide ?_
    gi_wp2
    refine wpIn_label_wide ?_
    gi_wp2_with (refine ⟨trivial, (fun h => by cases h), ?_⟩; gi_at_call 61; refine (callsIn_wide.2 (span_All.calls p L W _ HT.out HB0.out)).mono ?_; rintro e w4 ⟨A, c, rfl, rfl, hr, hC⟩; have HR := Aside0.mk hr; have HC := Aside0.mk hC; clear hr hC)
    have hW4 : ((W.alloc (.cells #[.func (.yield l) #[] #[]] 99)).alloc (.cells #[.slice A L.length c] 41)).heap.size = W.heap.size + 2 := by simp
    have hbx : Boxed ((W.alloc (.cells #[.func (.yield l) #[] #[]] 99)).alloc (.cells #[.slice A L.length c] 41)) (W.heap.size + 1) 41 (.slice A L.length c) := by
      have := Boxed.new (W.alloc (.cells #[.func (.yield l) #[] #[]] 99)) 41 (.slice A L.length c)
      rwa [World.size_alloc] at this
    have hbA : Below W.heap.size W ((W.alloc (.cells #[.func (.yield l) #[] #[]] 99)).alloc (.cells #[.slice A L.length c] 41)) := HB0.out.alloc (by simp) _
    have hC4 := Kd.C_below HC.out hbA
    have hbv4 : Boxed ((W.alloc (.cells #[.func (.yield l) #[] #[]] 99)).alloc (.cells #[.slice A L.length c] 41)) Bv 9 (.string v) := (hbA.block _ (Boxed.lt HBv.out)).trans HBv.out
    have hby4 := HYB.out.alloc (.cells #[.slice A L.length c] 41)
    have hj4 := HJ.out.alloc (.cells #[.slice A L.length c] 41) (HJ.out.alloc (.cells #[.func (.yield l) #[] #[]] 99) H0.out)
    have hst := span_Values.stopsO L (by have := HL.out; omega) (W.heap.size + 1) A c (QT [3, 22]) _ (QT.mk (by decide)) (fun ad o e hne ho => by
      have hlt := row43_lt HR.out (by have := HL.out; omega) ad e hne
      obtain ⟨cells, rfl⟩ := row43_type HR.out ad o e hne ((hbA.block _ hlt).symm.trans ho)
      exact QT.mk (by decide)) hbx hC4 (n - 1) (by omega)
    have HST := Aside0.mk (SeqPr.toPw hst)
    clear hst hbx hC4 hcv hct
    generalize hw4 : (W.alloc (.cells #[.func (.yield l) #[] #[]] 99)).alloc (.cells #[.slice A L.length c] 41) = w4 at *
    clear hw4
    have HI0 : Aside0 ((J [] w4 ∧ Boxed w4 Bv 9 (.string v)) ∧ (Boxed w4 W.heap.size 99 (.func (.yield l) #[] #[]) ∧ W.heap.size + 2 ≤ w4.heap.size)) := ⟨⟨⟨hj4, hbv4⟩, ⟨hby4, by omega⟩⟩⟩
    clear hj4 hbv4 hby4 hbA
    refine wpIn_range_w rfl (by omega) (gf := 93) (lb := #[Value.pointer (some { block := W.heap.size + 1, off := 0 })]) rfl trivial (enters_of Try.func93 (by kernel_rfl) rfl)
      HST.out KeepO.trans keepO_put (Below.refl _ _) (fun _ => rfl)
      (fun pre W' => (J (ptsIn v pre) W' ∧ Boxed W' Bv 9 (.string v)) ∧ (Boxed W' W.heap.size 99 (.func (.yield l) #[] #[]) ∧ W.heap.size + 2 ≤ W'.heap.size)) (fun c pre W' => c = .exit 0 ∧ ∃ q, q <+: ptsIn v L ∧ Jx q W')
      (fun s A B row hs hg hr => ⟨⟨HJ.out _ _ _ row hs.1.1 hg (fun r e => ⟨by have := (hr r e).1; omega, (hr r e).2⟩), boxed_own Bv 9 (fun _ : Unit => .string v) () A B row hs.1.2 hg (fun r e => (hr r e).2)⟩, ⟨boxed_own W.heap.size 99 (fun _ : Unit => .func (.yield l) #[] #[]) () A B row hs.2.1 hg (fun r e => (hr r e).2), Nat.le_trans hs.2.2 hg.size⟩⟩)
      (fun c s A B row hs hg hr => ⟨hs.1, by obtain ⟨q, h1, h2⟩ := hs.2; exact ⟨q, h1, HJX.out _ _ _ row h2 hg (fun r e => ⟨by have := (hr r e).1; omega, (hr r e).2⟩)⟩⟩)
      HI0.out
      (fun pre x a1 W' => ∃ vb, a1 = { tmps := #[Value.func (Fn.yield l) #[] #[], Value.pointer (some { block := Bv, off := 0 }), Value.pointer (some { block := Bt, off := 0 }), Value.pointer (some { block := W.heap.size, off := 0 }), Value.pointer (some { block := vb, off := 0 }), undef, Value.string v, Value.bool false, Value.pointer p, Value.func (Fn.func 93) #[] #[Value.pointer (some { block := W.heap.size + 1, off := 0 })], span_val x, undef, undef, undef, undef, undef, undef, undef, undef, undef, undef, undef, undef, undef, undef, undef, undef], defers := [] } ∧ W'.heap[vb]? = some (.cells #[.int .i64 x.f0, .int .i64 x.f1, .string x.f2] 43 (0, 0)) ∧ ((J (ptsIn v pre) W' ∧ Boxed W' Bv 9 (.string v)) ∧ (Boxed W' W.heap.size 99 (.func (.yield l) #[] #[]) ∧ W.heap.size + 2 ≤ W'.heap.size)))
      (fun pre x a1 s A B row hs hg hr => by
        obtain ⟨vb, h1, h2, h3⟩ := hs
        refine ⟨vb, h1, (hg.block vb (Array.getElem?_eq_some_iff.1 h2).1 (fun e => by
          obtain ⟨_, o, ho, hc⟩ := hr vb e.symm
          rw [h2] at ho
          cases ho
          cases hc)).trans h2, ⟨⟨HJ.out _ _ _ row h3.1.1 hg (fun r e => ⟨by have := (hr r e).1; omega, (hr r e).2⟩), boxed_own Bv 9 (fun _ : Unit => .string v) () A B row h3.1.2 hg (fun r e => (hr r e).2)⟩, ⟨boxed_own W.heap.size 99 (fun _ : Unit => .func (.yield l) #[] #[]) () A B row h3.2.1 hg (fun r e => (hr r e).2), Nat.le_trans h3.2.2 hg.size⟩⟩⟩) ?assign ?body ?done ?stop
    case assign =>
      rintro l' pre x W' K hI - hK
      have HI := Aside0.mk hI
      have HK := Aside0.mk hK
      clear hI hK
      simp only [span_val]
      gi_wp2
      have hbA : Below W'.heap.size W' (W'.alloc (.cells #[.int .i64 x.f0, .int .i64 x.f1, .string x.f2] 43)) := (Below.refl _ W').alloc (Nat.le_refl _) _
      refine HK.out _ _ ?_ ?_ ⟨W'.heap.size, rfl, heap_alloc_new W' _, ?_⟩
      · exact (KeepsOthers.alloc W' _).from _
      · exact KeepO.of_below hbA
      · exact ⟨⟨HJ.out.alloc _ HI.out.1.1, HI.out.1.2.alloc _⟩, ⟨HI.out.2.1.alloc _, Nat.le_trans HI.out.2.2 (by simp)⟩⟩
    case body =>
      rintro l' pre x a1 W' ⟨vb, rfl, hvb, ⟨hj, hbv⟩, ⟨hby, hsz⟩⟩ hsp
      have hx0 : W'.cell? ⟨vb, 0, none⟩ = some (.int .i64 x.f0) := by simp only [World.cell?]; rw [hvb]; rfl
      have hx1 : W'.cell? ⟨vb, 1, none⟩ = some (.int .i64 x.f1) := by simp only [World.cell?]; rw [hvb]; rfl
      have hx2 : W'.cell? ⟨vb, 2, none⟩ = some (.string x.f2) := by simp only [World.cell?]; rw [hvb]; rfl
      have hcv := hbv.cell
      have hcy := hby.cell
      have HVB := Aside0.mk hvb
      have HJ1 := Aside0.mk hj
      have HBV := Aside0.mk hbv
      have HBY := Aside0.mk hby
      have HSZ := Aside0.mk hsz
      have hsp' : ptsIn v (pre ++ [x]) <+: ptsIn v L := ptsIn_prefix hsp
      have HSP := Aside0.mk hsp'
      have hval : valid x := by
        have hm : x ∈ L := by
          obtain ⟨r, hr⟩ := hsp
          rw [← hr]; simp
        exact HOK.out.2 x hm
      have HVAL := Aside0.mk hval
      clear hvb hj hbv hby hsz hsp hsp' hval
      by_cases hq : x.f2.toList = v.toList
      · have HQ := Aside0.mk hq
        have d1 : (x.f2.toList != v.toList) = false := bne_eq_false_iff_eq.mpr hq
        have d2 : (x.f2.toList == v.toList) = true := beq_iff_eq.mpr hq
        rw [ptsIn_snoc, if_pos hq] at HSP
        clear hq
        gi_wp2
        gi_loopg [5] ((x.f1 + 1 - x.f0).toNat + 1) (fun kq v5 wr => ∃ (j : Nat) (ch : Int), v5 = .int .i64 ch ∧ Aside0 (ch = x.f0 + (j : Int) ∧ j + kq = (x.f1 + 1 - x.f0).toNat + 1 ∧ j ≤ (x.f1 + 1 - x.f0).toNat) ∧ Aside0 (J (ptsIn v pre ++ (spanPts x).take j) wr) ∧ Aside0 (KeepO (QT [3, 22]) W' wr) ∧ Aside0 (KeepsFrom w4.heap.size W' wr))
        case atStart => exact ⟨0, x.f0, rfl, ⟨by omega, by omega, by omega⟩, ⟨by rw [List.take_zero, List.append_nil]; exact HJ1.out⟩, ⟨KeepO.refl _ _⟩, ⟨KeepsFrom.refl _ _⟩⟩
        case round =>
          clear HJ1 hx0 hx1 hx2 hcv hcy
          obtain ⟨j, ch, rfl, HI, HJp, HKO, HKF⟩ := hrel
          cases gk with
          | zero => exact absurd HI.out (by omega)
          | succ kq =>
            have hvb2 := HKO.out.2 vb _ HVB.out rfl (QT.mk (by decide))
            have hx1 : wr.cell? ⟨vb, 1, none⟩ = some (.int .i64 x.f1) := by simp only [World.cell?]; rw [hvb2]; rfl
            have hby2 := HKO.out.boxed HBY.out (QT.mk (by decide))
            have hbv2 := HKO.out.boxed HBV.out (QT.mk (by decide))
            have hcy := hby2.cell
            have HBY2 := Aside0.mk hby2
            have HBV2 := Aside0.mk hbv2
            obtain ⟨v0, v1, v2, _⟩ := HVAL.out
            clear hvb2 hby2 hbv2
            by_cases c1 : ch ≤ x.f1
            · have d3 : decide (ch ≤ x.f1) = true := decide_eq_true c1
              have b0 : 0 ≤ ch := by have := HI.out; omega
              have b1 : ch ≤ 1114111 := by omega
              have hsn : (spanPts x).take j ++ [ch] = (spanPts x).take (j + 1) := by
                rw [HI.out.1]; exact spanPts_take x j (by have := HI.out.1; omega)
              have HSN := Aside0.mk hsn
              obtain ⟨fn, tmps, assign, body, hy, hR⟩ := HY.out (ptsIn v pre ++ (spanPts x).take j) ch wr HJp.out trivial (by
                rw [HPT.out, List.append_assoc, HSN.out]
                exact ((List.prefix_append_right_inj _).2 (List.take_prefix _ _)).trans HSP.out)
              have HRR := Aside0.mk hR
              have E3 := eq_true c1
              clear hsn hR c1 v0 v1 v2
              gi_wp2
              refine ⟨fun _ => by omega, ?_⟩
              refine (roundIn_any HRR.out).mono ?_
              rintro e W3 ⟨(⟨rfl, hJ3, hk3⟩ | ⟨rfl, hJx3⟩), hkf⟩
              · have HJ3 := Aside0.mk hJ3
                have HK3 := Aside0.mk (HKO.out.trans hk3)
                have HF3 := Aside0.mk (HKF.out.trans (KeepsFrom.up hkf (by omega : W.heap.size ≤ w4.heap.size)))
                clear hJ3 hk3 hkf HRR hy
                gi_wp2
                gi_roundg kq
                case measure => omega
                case rel =>
                  have hi := HI.out
                  have := of_decide_eq_true d3
                  exact ⟨j + 1, ch + 1, by first | rfl | (rw [w64 (by omega) (by omega)]), ⟨by omega, by omega, by omega⟩, ⟨by rw [← HSN.out, ← List.append_assoc]; exact HJ3.out⟩, HK3, HF3⟩
              · have HJ3 := Aside0.mk hJx3
                have HF3 := Aside0.mk (HKF.out.trans (KeepsFrom.up hkf (by omega : W.heap.size ≤ w4.heap.size)))
                clear hJx3 hkf HRR hy
                gi_wp2
                exact ⟨HF3.out, rfl, ptsIn v pre ++ (spanPts x).take j ++ [ch], by
                  rw [List.append_assoc, HSN.out]
                  exact ((List.prefix_append_right_inj _).2 (List.take_prefix _ _)).trans HSP.out, HJ3.out⟩
            · have d3 : decide (ch ≤ x.f1) = false := decide_eq_false c1
              have E3 := eq_false c1
              have hj : j = (x.f1 + 1 - x.f0).toNat := by have := HI.out; omega
              clear c1 v0 v1 v2
              gi_wp2
              refine ⟨HKF.out, HKO.out, ⟨?_, HBV2.out⟩, HBY2.out, Nat.le_trans HSZ.out HKO.out.1⟩
              have := HJp.out
              rw [hj, List.take_of_length_le (by rw [spanPts_len]; exact Nat.le_refl _)] at this
              rw [ptsIn_snoc, if_pos HQ.out]
              exact this
      · have HQ := Aside0.mk hq
        have d1 : (x.f2.toList != v.toList) = true := bne_iff_ne.mpr hq
        have d2 : (x.f2.toList == v.toList) = false := beq_eq_false_iff_ne.mpr hq
        clear hq
        gi_wp2
        refine ⟨KeepsFrom.refl _ _, KeepO.refl _ _, ⟨?_, HBV.out⟩, HBY.out, HSZ.out⟩
        rw [ptsIn_snoc, if_neg HQ.out, List.append_nil]
        exact HJ1.out
    case done =>
      rintro D ys W' hD hys ⟨⟨hj, hbv⟩, ⟨hby, hsz⟩⟩ hK
      subst hys
      have HJD := Aside0.mk hj
      have HK := Aside0.mk hK
      clear hj hK hbv hby
      gi_wp2
      rw [Exit.noGoto_normal]
      refine ⟨by simp, .inl ⟨_, _, rfl, run_takeDeferred (w := W') HK.out, ?_⟩⟩
      exact ⟨_, results_none rfl _ _ _, ⟨_, rfl⟩, .inl ⟨ptsIn v ys, HPT.out.symm, HJ.out.putObj _ HJD.out (by omega) HK.out rfl⟩⟩
    case stop =>
      rintro D c pre W' hD hSp ⟨rfl, q, hq, hjx⟩ hK
      have HJD := Aside0.mk hjx
      have HQ := Aside0.mk hq
      have HK := Aside0.mk hK
      clear hjx hq hK
      gi_wp2
      rw [Exit.noGoto_normal]
      refine ⟨by simp, .inl ⟨_, _, rfl, run_takeDeferred (w := W') HK.out, ?_⟩⟩
      exact ⟨_, results_none rfl _ _ _, ⟨_, rfl⟩, .inr ⟨q, by rw [HPT.out]; exact HQ.out, HJX.out.putObj _ HJD.out (by omega) HK.out rfl⟩⟩
end Go.Proofs.Ytlipbiihemhieaa.Q

-- from Qf22
-- Made by hp.py, a program of this session, with the kit's printer. Not trusted: Lean checks it.
namespace Go.Proofs.Ytlipbiihemhieaa.Q
open Go.RowKit Go.Proofs.YtlipbiihemhieaaW.PrintWords Go.Proofs.YtlipbiihemhieaaW.PrintLast Go.Proofs.YtlipbiihemhieaaW.PrintMore
attribute [local go_sem] max2_int min2_int max_two min_two max_three min_three max_four min_four   -- for this text's walks alone
set_option linter.unusedVariables false
set_option linter.unusedSimpArgs false

/-! ### paronymref01_Compare: function 22 -/
mutual
def paronymref01_Compare.l0 : Nat → List Int → List Int → Int → Option (Int)
  | 0, _, _, _ => none
  | k + 1, x0, x1, x5 => if x5 < (x0.length : Int) then (paronymref01_Compare.j1 k x0 x1 x5 (decide (x5 < (x1.length : Int)))) else (paronymref01_Compare.j1 k x0 x1 x5 false)
def paronymref01_Compare.j1 : Nat → List Int → List Int → Int → Bool → Option (Int)
  | 0, _, _, _, _ => none
  | k + 1, x0, x1, x5, x15 => if x15 = true then (if 0 ≤ x5 then (if x5 < (x0.length : Int) then (if x5 < (x1.length : Int) then (if (rd x0 x5) < (rd x1 x5) then (some (-1)) else (if (rd x0 x5) > (rd x1 x5) then (some 1) else (paronymref01_Compare.l0 k x0 x1 (wrap64 (x5 + 1))))) else (none)) else (none)) else (none)) else (if (x0.length : Int) < (x1.length : Int) then (some (-1)) else (if (x0.length : Int) > (x1.length : Int) then (some 1) else (some 0)))
end
def paronymref01_Compare.f (k : Nat) (l0 : List Int) (l1 : List Int) : Option (Int) := paronymref01_Compare.l0 k l0 l1 0
theorem paronymref01_Compare.mono_l : ∀ k, (∀ y0 y1 y2, LeO (paronymref01_Compare.l0 k y0 y1 y2) (paronymref01_Compare.l0 (k + 1) y0 y1 y2)) ∧ (∀ y0 y1 y2 y3, LeO (paronymref01_Compare.j1 k y0 y1 y2 y3) (paronymref01_Compare.j1 (k + 1) y0 y1 y2 y3))
  | 0 => ⟨fun _ _ _ r h => by simp [paronymref01_Compare.l0] at h, fun _ _ _ _ r h => by simp [paronymref01_Compare.j1] at h⟩
  | k + 1 => by
    obtain ⟨ih0, ih1⟩ := paronymref01_Compare.mono_l k
    refine ⟨?_, ?_⟩
    · intro y0 y1 y2
      unfold paronymref01_Compare.l0
      repeat' first
      | (with_reducible exact ih0 _ _ _)
      | (with_reducible exact ih1 _ _ _ _)
      | (with_reducible exact LeO.refl _)
      | (with_reducible exact LeO.none _)
      | (with_reducible refine LeO.ite ?_ ?_)
      | (with_reducible refine LeO.bind ?_ (fun _ => ?_))
      | exact ih0 _ _ _
      | exact ih1 _ _ _ _
      | exact LeO.none _
      | refine LeO.ite ?_ ?_
      | refine LeO.bind ?_ (fun _ => ?_)
    · intro y0 y1 y2 y3
      unfold paronymref01_Compare.j1
      repeat' first
      | (with_reducible exact ih0 _ _ _)
      | (with_reducible exact ih1 _ _ _ _)
      | (with_reducible exact LeO.refl _)
      | (with_reducible exact LeO.none _)
      | (with_reducible refine LeO.ite ?_ ?_)
      | (with_reducible refine LeO.bind ?_ (fun _ => ?_))
      | exact ih0 _ _ _
      | exact ih1 _ _ _ _
      | exact LeO.none _
      | refine LeO.ite ?_ ?_
      | refine LeO.bind ?_ (fun _ => ?_)
theorem paronymref01_Compare.mono : ∀ a0 a1 k, LeO (paronymref01_Compare.f k a0 a1) (paronymref01_Compare.f (k + 1) a0 a1) := by
  intro a0 a1 k
  obtain ⟨ih0, ih1⟩ := paronymref01_Compare.mono_l k
  unfold paronymref01_Compare.f
  repeat' first
      | (with_reducible exact ih0 _ _ _)
      | (with_reducible exact ih1 _ _ _ _)
      | (with_reducible exact LeO.refl _)
      | (with_reducible exact LeO.none _)
      | (with_reducible refine LeO.ite ?_ ?_)
      | (with_reducible refine LeO.bind ?_ (fun _ => ?_))
      | exact ih0 _ _ _
      | exact ih1 _ _ _ _
      | exact LeO.none _
      | refine LeO.ite ?_ ?_
      | refine LeO.bind ?_ (fun _ => ?_)
set_option maxHeartbeats 8000000 in
set_option maxRecDepth 100000 in
theorem paronymref01_Compare.calls (k : Nat) (A0 : Option Addr) (c0 : Nat) (l0 : List Int) (A1 : Option Addr) (c1 : Nat) (l1 : List Int) (r : Int) (w : World) (hr0 : Kd.C (Kd.int .i64) w A0 l0.length l0) (hc0 : l0.length ≤ c0) (hr1 : Kd.C (Kd.int .i64) w A1 l1.length l1) (hc1 : l1.length ≤ c1) (h : paronymref01_Compare.f k l0 l1 = some r) :
    Calls Try.prog 22 #[.slice A0 l0.length c0, .slice A1 l1.length c1] w fun e w' => e = .returned (.int .i64 r) ∧ Drawn0 w w' := by
  have HR0 := Aside0.mk hr0
  have HC0 := Aside0.mk hc0
  clear hr0 hc0
  have HR1 := Aside0.mk hr1
  have HC1 := Aside0.mk hc1
  clear hr1 hc1
  have H : (paronymref01_Compare.l0 k l0 l1 0) = some r := h
  clear h
  have H' := Aside0.mk H
  clear H
  go_enter Try.func22, Try.ntmps22
  go_wp2
  repeat (go_quiet (fail); try go_wp2)
  go_loopg [5] k (fun kq v5 w' => ∃ (x5_1 : Int), v5 = .int .i64 x5_1 ∧ Aside0 (paronymref01_Compare.l0 kq l0 l1 x5_1 = some r) ∧ Aside0 (kq ≤ k) ∧ Drawn0 w w')
  case atStart => exact ⟨(0), (by first | rfl | (simp; done) | (simp [*]; done)), H', ⟨Nat.le_refl _⟩, by repeat (first | exact Drawn0.refl _ | apply Drawn0.step)⟩
  case round =>
    clear H'
    try clear c1
    try clear c2
    try clear p2
    obtain ⟨x5_1, rfl, HA, HK1, ⟨m1, rfl⟩⟩ := hrel
    cases gk with
    | zero => exact absurd HA.out (by simp [paronymref01_Compare.l0])
    | succ k1 =>
      have H := HA.out
      clear HA
      simp only [paronymref01_Compare.l0] at H
      have HC3 := Aside0.mk H
      clear H
      go_upto_region 2 with (fail)
      repeat (go_quiet (fail); go_upto_region 2 with (fail))
      go_cut [15] (fun v15 wc => ∃ (kq : Nat) (x15_2 : Bool), v15 = .bool x15_2 ∧ Aside0 (paronymref01_Compare.j1 kq l0 l1 x5_1 x15_2 = some r) ∧ Aside0 (kq ≤ k1) ∧ Drawn0 w wc)
      case first =>
        have H := HC3.out
        clear HC3
        by_cases c4 : x5_1 < (l0.length : Int)
        · rw [if_pos c4] at H
          have c4b0 : decide (x5_1 < (l0.length : Int)) = true := decide_eq_true c4
          clear c4
          (first | rw [c4b0] | (simp only [i64_w, i32_w]; rw [c4b0]) | rw [c4b1] | (simp only [i64_w, i32_w]; rw [c4b1]) | skip)
          have H' := Aside0.mk H
          clear H
          go_wp2
          repeat (go_quiet (fail); try go_wp2)
          go_meet
          case rel => exact ⟨_, (decide (x5_1 < (l1.length : Int))), (by first | rfl | (simp; done) | (simp [*]; done)), H', ⟨by have := HK1.out; first | omega | exact Nat.le_refl _⟩, by repeat (first | exact Drawn0.refl _ | apply Drawn0.step)⟩
        · rw [if_neg c4] at H
          have c4b0 : decide (x5_1 < (l0.length : Int)) = false := decide_eq_false c4
          clear c4
          (first | rw [c4b0] | (simp only [i64_w, i32_w]; rw [c4b0]) | rw [c4b1] | (simp only [i64_w, i32_w]; rw [c4b1]) | skip)
          have H' := Aside0.mk H
          clear H
          go_wp2
          repeat (go_quiet (fail); try go_wp2)
          go_meet
          case rel => exact ⟨_, (false), (by first | rfl | (simp; done) | (simp [*]; done)), H', ⟨by have := HK1.out; first | omega | exact Nat.le_refl _⟩, by repeat (first | exact Drawn0.refl _ | apply Drawn0.step)⟩
      case rest =>
        clear HC3
        try clear c1
        try clear c2
        try clear p2
        try clear c4
        try clear c4b0
        try clear c4b1
        try clear p2
        obtain ⟨kq, x15_2, rfl, HA, HJ2, ⟨mc2, rfl⟩⟩ := hcut
        cases kq with
        | zero => exact absurd HA.out (by simp [paronymref01_Compare.j1])
        | succ kj2 =>
          have H := HA.out
          clear HA
          simp only [paronymref01_Compare.j1] at H
          by_cases c5 : x15_2 = true
          · subst c5
            have H1 : (if 0 ≤ x5_1 then (if x5_1 < (l0.length : Int) then (if x5_1 < (l1.length : Int) then (if (rd l0 x5_1) < (rd l1 x5_1) then (some (-1)) else (if (rd l0 x5_1) > (rd l1 x5_1) then (some 1) else (paronymref01_Compare.l0 kj2 l0 l1 (wrap64 (x5_1 + 1))))) else (none)) else (none)) else (none)) = some r := by rw [if_pos rfl] at H; exact H
            clear H
            have H := H1
            clear H1
            by_cases c6 : 0 ≤ x5_1
            · rw [if_pos c6] at H
              have c6b0 : decide (0 ≤ x5_1) = true := decide_eq_true c6
              clear c6
              by_cases c7 : x5_1 < (l0.length : Int)
              · rw [if_pos c7] at H
                have c7b0 : decide (x5_1 < (l0.length : Int)) = true := decide_eq_true c7
                clear c7
                by_cases c8 : x5_1 < (l1.length : Int)
                · rw [if_pos c8] at H
                  have c8b0 : decide (x5_1 < (l1.length : Int)) = true := decide_eq_true c8
                  clear c8
                  by_cases c9 : (rd l0 x5_1) < (rd l1 x5_1)
                  · rw [if_pos c9] at H
                    have c9b0 : decide ((rd l0 x5_1) < (rd l1 x5_1)) = true := decide_eq_true c9
                    clear c9
                    obtain rfl := Option.some.inj H
                    have p101 : 0 ≤ (x5_1 : Int) := of_decide_eq_true (by first | (with_reducible assumption) | assumption)
                    have q101 : x5_1 < (l0.length : Int) := of_decide_eq_true (by first | (with_reducible assumption) | assumption)
                    obtain ⟨ad101, e101, hx101_0⟩ := Kd.at_int HR0.out x5_1 p101 q101
                    cases e101
                    replace p101 := eq_true p101
                    replace q101 := eq_true q101
                    have p102 : 0 ≤ (x5_1 : Int) := of_decide_eq_true (by first | (with_reducible assumption) | assumption)
                    have q102 : x5_1 < (l1.length : Int) := of_decide_eq_true (by first | (with_reducible assumption) | assumption)
                    obtain ⟨ad102, e102, hx102_0⟩ := Kd.at_int HR1.out x5_1 p102 q102
                    cases e102
                    replace p102 := eq_true p102
                    replace q102 := eq_true q102
                    go_wp2
                    repeat (go_quiet (fail); try go_wp2)
                    go_ret
                    exact ⟨by first | rfl | (simp; done) | (simp [*]; done), by repeat (first | exact Drawn0.refl _ | apply Drawn0.step)⟩
                  · rw [if_neg c9] at H
                    have c9b0 : decide ((rd l0 x5_1) < (rd l1 x5_1)) = false := decide_eq_false c9
                    clear c9
                    by_cases c10 : (rd l0 x5_1) > (rd l1 x5_1)
                    · rw [if_pos c10] at H
                      have c10b0 : decide ((rd l1 x5_1) < (rd l0 x5_1)) = true := decide_eq_true c10
                      clear c10
                      obtain rfl := Option.some.inj H
                      have p101 : 0 ≤ (x5_1 : Int) := of_decide_eq_true (by first | (with_reducible assumption) | assumption)
                      have q101 : x5_1 < (l0.length : Int) := of_decide_eq_true (by first | (with_reducible assumption) | assumption)
                      obtain ⟨ad101, e101, hx101_0⟩ := Kd.at_int HR0.out x5_1 p101 q101
                      cases e101
                      replace p101 := eq_true p101
                      replace q101 := eq_true q101
                      have p102 : 0 ≤ (x5_1 : Int) := of_decide_eq_true (by first | (with_reducible assumption) | assumption)
                      have q102 : x5_1 < (l1.length : Int) := of_decide_eq_true (by first | (with_reducible assumption) | assumption)
                      obtain ⟨ad102, e102, hx102_0⟩ := Kd.at_int HR1.out x5_1 p102 q102
                      cases e102
                      replace p102 := eq_true p102
                      replace q102 := eq_true q102
                      have p103 : 0 ≤ (x5_1 : Int) := of_decide_eq_true (by first | (with_reducible assumption) | assumption)
                      have q103 : x5_1 < (l0.length : Int) := of_decide_eq_true (by first | (with_reducible assumption) | assumption)
                      obtain ⟨ad103, e103, hx103_0⟩ := Kd.at_int HR0.out x5_1 p103 q103
                      obtain rfl : ad101 = ad103 := (by injection e103)
                      replace p103 := eq_true p103
                      replace q103 := eq_true q103
                      have p104 : 0 ≤ (x5_1 : Int) := of_decide_eq_true (by first | (with_reducible assumption) | assumption)
                      have q104 : x5_1 < (l1.length : Int) := of_decide_eq_true (by first | (with_reducible assumption) | assumption)
                      obtain ⟨ad104, e104, hx104_0⟩ := Kd.at_int HR1.out x5_1 p104 q104
                      obtain rfl : ad102 = ad104 := (by injection e104)
                      replace p104 := eq_true p104
                      replace q104 := eq_true q104
                      go_wp2
                      repeat (go_quiet (fail); try go_wp2)
                      go_ret
                      exact ⟨by first | rfl | (simp; done) | (simp [*]; done), by repeat (first | exact Drawn0.refl _ | apply Drawn0.step)⟩
                    · rw [if_neg c10] at H
                      have c10b0 : decide ((rd l1 x5_1) < (rd l0 x5_1)) = false := decide_eq_false c10
                      clear c10
                      have H' := Aside0.mk H
                      clear H
                      have p101 : 0 ≤ (x5_1 : Int) := of_decide_eq_true (by first | (with_reducible assumption) | assumption)
                      have q101 : x5_1 < (l0.length : Int) := of_decide_eq_true (by first | (with_reducible assumption) | assumption)
                      obtain ⟨ad101, e101, hx101_0⟩ := Kd.at_int HR0.out x5_1 p101 q101
                      cases e101
                      replace p101 := eq_true p101
                      replace q101 := eq_true q101
                      have p102 : 0 ≤ (x5_1 : Int) := of_decide_eq_true (by first | (with_reducible assumption) | assumption)
                      have q102 : x5_1 < (l1.length : Int) := of_decide_eq_true (by first | (with_reducible assumption) | assumption)
                      obtain ⟨ad102, e102, hx102_0⟩ := Kd.at_int HR1.out x5_1 p102 q102
                      cases e102
                      replace p102 := eq_true p102
                      replace q102 := eq_true q102
                      have p103 : 0 ≤ (x5_1 : Int) := of_decide_eq_true (by first | (with_reducible assumption) | assumption)
                      have q103 : x5_1 < (l0.length : Int) := of_decide_eq_true (by first | (with_reducible assumption) | assumption)
                      obtain ⟨ad103, e103, hx103_0⟩ := Kd.at_int HR0.out x5_1 p103 q103
                      obtain rfl : ad101 = ad103 := (by injection e103)
                      replace p103 := eq_true p103
                      replace q103 := eq_true q103
                      have p104 : 0 ≤ (x5_1 : Int) := of_decide_eq_true (by first | (with_reducible assumption) | assumption)
                      have q104 : x5_1 < (l1.length : Int) := of_decide_eq_true (by first | (with_reducible assumption) | assumption)
                      obtain ⟨ad104, e104, hx104_0⟩ := Kd.at_int HR1.out x5_1 p104 q104
                      obtain rfl : ad102 = ad104 := (by injection e104)
                      replace p104 := eq_true p104
                      replace q104 := eq_true q104
                      go_wp2
                      repeat (go_quiet (fail); try go_wp2)
                      go_roundg kj2
                      case measure => have := HK1.out; have := HJ2.out; omega
                      case rel => exact ⟨(wrap64 (x5_1 + 1)), (by first | rfl | (simp; done) | (simp [*]; done)), H', ⟨by have := HK1.out; have := HJ2.out; omega⟩, by repeat (first | exact Drawn0.refl _ | apply Drawn0.step)⟩
                · rw [if_neg c8] at H
                  exact absurd H (by simp)
              · rw [if_neg c7] at H
                exact absurd H (by simp)
            · rw [if_neg c6] at H
              exact absurd H (by simp)
          · replace c5 := Bool.eq_false_iff.mpr c5
            subst c5
            have H1 : (if (l0.length : Int) < (l1.length : Int) then (some (-1)) else (if (l0.length : Int) > (l1.length : Int) then (some 1) else (some 0))) = some r := by rw [if_neg (show ¬ (false = true) by decide)] at H; exact H
            clear H
            have H := H1
            clear H1
            by_cases c11 : (l0.length : Int) < (l1.length : Int)
            · rw [if_pos c11] at H
              have c11b0 : decide ((l0.length : Int) < (l1.length : Int)) = true := decide_eq_true c11
              have c11b1 : decide (l0.length < l1.length) = true := decide_eq_true (Int.ofNat_lt.mp c11)
              clear c11
              obtain rfl := Option.some.inj H
              go_wp2
              repeat (go_quiet (fail); try go_wp2)
              go_ret
              exact ⟨by first | rfl | (simp; done) | (simp [*]; done), by repeat (first | exact Drawn0.refl _ | apply Drawn0.step)⟩
            · rw [if_neg c11] at H
              have c11b0 : decide ((l0.length : Int) < (l1.length : Int)) = false := decide_eq_false c11
              have c11b1 : decide (l0.length < l1.length) = false := decide_eq_false (fun h => c11 (Int.ofNat_lt.mpr h))
              clear c11
              by_cases c12 : (l0.length : Int) > (l1.length : Int)
              · rw [if_pos c12] at H
                have c12b0 : decide ((l1.length : Int) < (l0.length : Int)) = true := decide_eq_true c12
                have c12b1 : decide (l1.length < l0.length) = true := decide_eq_true (Int.ofNat_lt.mp c12)
                clear c12
                obtain rfl := Option.some.inj H
                go_wp2
                repeat (go_quiet (fail); try go_wp2)
                go_ret
                exact ⟨by first | rfl | (simp; done) | (simp [*]; done), by repeat (first | exact Drawn0.refl _ | apply Drawn0.step)⟩
              · rw [if_neg c12] at H
                have c12b0 : decide ((l1.length : Int) < (l0.length : Int)) = false := decide_eq_false c12
                have c12b1 : decide (l1.length < l0.length) = false := decide_eq_false (fun h => c12 (Int.ofNat_lt.mpr h))
                clear c12
                obtain rfl := Option.some.inj H
                go_wp2
                repeat (go_quiet (fail); try go_wp2)
                go_ret
                exact ⟨by first | rfl | (simp; done) | (simp [*]; done), by repeat (first | exact Drawn0.refl _ | apply Drawn0.step)⟩

end Go.Proofs.Ytlipbiihemhieaa.Q

-- from Qf20
-- Made by hp.py, a program of this session, with the kit's printer. Not trusted: Lean checks it.
namespace Go.Proofs.Ytlipbiihemhieaa.Q
open Go.RowKit Go.Proofs.YtlipbiihemhieaaW.PrintWords Go.Proofs.YtlipbiihemhieaaW.PrintLast Go.Proofs.YtlipbiihemhieaaW.PrintMore
attribute [local go_sem] max2_int min2_int max_two min_two max_three min_three max_four min_four   -- for this text's walks alone
set_option linter.unusedVariables false
set_option linter.unusedSimpArgs false

/-! ### paronymref01_Same: function 20 -/
def paronymref01_Same.f (k : Nat) (l0 : List Int) (l1 : List Int) : Option (Bool) := (paronymref01_Compare.f k l0 l1).bind fun t101 => (some (t101 == 0))
theorem paronymref01_Same.mono : ∀ a0 a1 k, LeO (paronymref01_Same.f k a0 a1) (paronymref01_Same.f (k + 1) a0 a1) := by
  intro a0 a1 k
  unfold paronymref01_Same.f
  repeat' first
      | (with_reducible exact paronymref01_Compare.mono _ _ _)
      | (with_reducible exact LeO.refl _)
      | (with_reducible exact LeO.none _)
      | (with_reducible refine LeO.ite ?_ ?_)
      | (with_reducible refine LeO.bind ?_ (fun _ => ?_))
      | exact paronymref01_Compare.mono _ _ _
      | exact LeO.none _
      | refine LeO.ite ?_ ?_
      | refine LeO.bind ?_ (fun _ => ?_)
set_option maxHeartbeats 8000000 in
set_option maxRecDepth 100000 in
theorem paronymref01_Same.calls (k : Nat) (A0 : Option Addr) (c0 : Nat) (l0 : List Int) (A1 : Option Addr) (c1 : Nat) (l1 : List Int) (r : Bool) (w : World) (hr0 : Kd.C (Kd.int .i64) w A0 l0.length l0) (hc0 : l0.length ≤ c0) (hr1 : Kd.C (Kd.int .i64) w A1 l1.length l1) (hc1 : l1.length ≤ c1) (h : paronymref01_Same.f k l0 l1 = some r) :
    Calls Try.prog 20 #[.slice A0 l0.length c0, .slice A1 l1.length c1] w fun e w' => e = .returned (.bool r) ∧ Drawn0 w w' := by
  have HR0 := Aside0.mk hr0
  have HC0 := Aside0.mk hc0
  clear hr0 hc0
  have HR1 := Aside0.mk hr1
  have HC1 := Aside0.mk hc1
  clear hr1 hc1
  have H : ((paronymref01_Compare.f k l0 l1).bind fun t101 => (some (t101 == 0))) = some r := h
  clear h
  replace H := Option.bind_eq_some_iff.mp H
  obtain ⟨t101, A30, H⟩ := H
  replace H : (some (t101 == 0)) = some r := H
  have A3 := Aside0.mk A30
  clear A30
  obtain rfl := Option.some.inj H
  go_enter Try.func20, Try.ntmps20
  go_wp2_with (first | ((with_reducible refine gate_callee (f := 22) rfl ?_); refine goesL_ (some 7) rfl rfl Try.func22 (by kernel_rfl) rfl #[.slice A0 l0.length c0, .slice A1 l1.length c1] rfl (by (try simp only [List.map_toArray, List.map_cons, List.map_nil]); first | done | rfl | (simp only [List.length_drop, List.length_take]; rfl)) ?_; (with_reducible refine (paronymref01_Compare.calls k _ _ l0 _ _ l1 t101 _ ?side1 ?side2 ?side3 ?side4 A3.out).mono ?_); (case side1 => repeat (first | exact HR0.out | (with_reducible refine Kd.C_alloc ?_ _) | (with_reducible refine Kd.C_drewN ?_ _) | (with_reducible refine Kd.C_drew ?_))); (case side2 => exact HC0.out); (case side3 => repeat (first | exact HR1.out | (with_reducible refine Kd.C_alloc ?_ _) | (with_reducible refine Kd.C_drewN ?_ _) | (with_reducible refine Kd.C_drew ?_))); (case side4 => exact HC1.out); rintro e w' ⟨rfl, ⟨nd, rfl⟩⟩; refine ⟨_, rfl, ?_⟩))
  go_ret
  exact ⟨by first | rfl | (simp; done) | (simp [*]; done), by repeat (first | exact Drawn0.refl _ | apply Drawn0.step)⟩

end Go.Proofs.Ytlipbiihemhieaa.Q

-- from Pcmp
/- Texts compared: the reference's Compare and Same on lists. -/
namespace Go.Proofs.Ytlipbiihemhieaa.K
set_option linter.unusedVariables false
set_option linter.unusedSimpArgs false
open Go.RowKit Go.Proofs.YtlipbiihemhieaaW.PrintWords Go.Proofs.YtlipbiihemhieaaW.PrintMore Go.Proofs.Ytlipbiihemhieaa.Q

def cmpL : List Int → List Int → Int
  | [], [] => 0
  | [], _ :: _ => -1
  | _ :: _, [] => 1
  | x :: l, y :: m => if x < y then -1 else if x > y then 1 else cmpL l m
theorem cmpL_zero : ∀ (l m : List Int), cmpL l m = 0 ↔ l = m
  | [], [] => by simp [cmpL]
  | [], _ :: _ => by simp [cmpL]
  | _ :: _, [] => by simp [cmpL]
  | x :: l, y :: m => by
    unfold cmpL
    by_cases a : x < y
    · rw [if_pos a]; simp; omega
    · rw [if_neg a]
      by_cases b : x > y
      · rw [if_pos b]; simp; omega
      · rw [if_neg b, cmpL_zero l m]
        have : x = y := by omega
        simp [this]
theorem refCompare_ev (l m : List Int) (hl : l.length ≤ 1099511627776) (hm : m.length ≤ 1099511627776) : Ev (fun k => paronymref01_Compare.f k l m) (cmpL l m) := by
  have key : ∀ (d i : Nat), l.length - i = d → i ≤ l.length → i ≤ m.length → Ev (fun k => paronymref01_Compare.l0 k l m i) (cmpL (l.drop i) (m.drop i)) := by
    have hend : ∀ i : Nat, i ≤ l.length → i ≤ m.length → (i = l.length ∨ i = m.length) → ∀ b : Bool, b = false → Ev (fun k => paronymref01_Compare.j1 k l m i b) (cmpL (l.drop i) (m.drop i)) := by
      intro i h1 h2 h3 b hb
      refine Ev.step (fun k => rfl) (Ev.neg (by simp [hb]) ?_)
      by_cases a : l.length < m.length
      · have e : i = l.length := by omega
        subst e
        rw [List.drop_length, drop_cons m l.length a]
        exact Ev.pos (by omega) (Ev.ret (by simp [cmpL]))
      · by_cases b : m.length < l.length
        · have e : i = m.length := by omega
          subst e
          rw [List.drop_length, drop_cons l m.length b]
          exact Ev.neg (by omega) (Ev.pos (by omega) (Ev.ret (by simp [cmpL])))
        · have e : i = l.length := by omega
          have e2 : i = m.length := by omega
          rw [List.drop_of_length_le (by omega), List.drop_of_length_le (by omega)]
          exact Ev.neg (by omega) (Ev.neg (by omega) (Ev.ret (by simp [cmpL])))
    intro d
    induction d with
    | zero =>
      intro i h1 h2 h3
      exact Ev.step (fun k => rfl) (Ev.neg (by omega) (hend i h2 h3 (.inl (by omega)) false rfl))
    | succ d ih =>
      intro i h1 h2 h3
      have hi : i < l.length := by omega
      refine Ev.step (fun k => rfl) (Ev.pos (by omega) ?_)
      by_cases a : i < m.length
      · have e : decide ((i : Int) < (m.length : Int)) = true := by simpa using a
        refine Ev.step (fun k => rfl) (Ev.pos e (Ev.pos (by omega) (Ev.pos (by omega) (Ev.pos (by omega) ?_))))
        rw [drop_cons l i hi, drop_cons m i a]
        unfold cmpL
        by_cases b : rd l i < rd m i
        · exact Ev.pos b (Ev.ret (if_pos b).symm)
        · refine Ev.neg b ?_
          rw [show (if rd l i < rd m i then (-1 : Int) else if rd l i > rd m i then 1 else cmpL (l.drop (i + 1)) (m.drop (i + 1))) = (if rd l i > rd m i then 1 else cmpL (l.drop (i + 1)) (m.drop (i + 1))) from if_neg b]
          by_cases c : rd l i > rd m i
          · exact Ev.pos c (Ev.ret (if_pos c).symm)
          · rw [show (if rd l i > rd m i then (1 : Int) else cmpL (l.drop (i + 1)) (m.drop (i + 1))) = cmpL (l.drop (i + 1)) (m.drop (i + 1)) from if_neg c]
            refine Ev.neg c ?_
            rw [w64 (by omega) (by omega)]
            exact ih (i + 1) (by omega) (by omega) (by omega)
      · have e : decide ((i : Int) < (m.length : Int)) = false := by simpa using a
        exact hend i h2 h3 (.inr (by omega)) _ e
  have := key l.length 0 (by omega) (by omega) (by omega)
  unfold paronymref01_Compare.f
  simpa using this
theorem refSame_ev (l m : List Int) (hl : l.length ≤ 1099511627776) (hm : m.length ≤ 1099511627776) : Ev (fun k => paronymref01_Same.f k l m) (decide (l = m)) := by
  unfold paronymref01_Same.f
  refine Ev.bind (refCompare_ev l m hl hm) (Ev.ret ?_)
  rw [Bool.eq_iff_iff]
  simp [cmpL_zero]

end Go.Proofs.Ytlipbiihemhieaa.K

-- from Qf40
-- Made by hp.py, a program of this session, with the kit's printer. Not trusted: Lean checks it.
namespace Go.Proofs.Ytlipbiihemhieaa.Q
open Go.RowKit Go.Proofs.YtlipbiihemhieaaW.PrintWords Go.Proofs.YtlipbiihemhieaaW.PrintLast Go.Proofs.YtlipbiihemhieaaW.PrintMore
attribute [local go_sem] max2_int min2_int max_two min_two max_three min_three max_four min_four   -- for this text's walks alone
set_option linter.unusedVariables false
set_option linter.unusedSimpArgs false

/-! ### paronymref03_Points: function 40 -/
mutual
def paronymref03_Points.l0 : Nat → List (S53) → ByteArray → Int → List Int → Int → Option (List Int)
  | 0, _, _, _, _, _ => none
  | k + 1, x0, x1, x2, x7, x8 => if x8 < (x0.length : Int) then (if 0 ≤ x8 then (paronymref03_Points.l1 k x0 x1 x2 x7 x8 ((rd_T53 x0 x8).f0)) else (none)) else (some x7)
def paronymref03_Points.l1 : Nat → List (S53) → ByteArray → Int → List Int → Int → Int → Option (List Int)
  | 0, _, _, _, _, _, _ => none
  | k + 1, x0, x1, x2, x7, x8, x9 => if 0 ≤ x8 then (if x8 < (x0.length : Int) then (if x9 ≤ ((rd_T53 x0 x8).f1) then (if (x7.length : Int) < x2 then (if ((rd_T53 x0 x8).f2).toList = x1.toList then (if x1.toList = ([] : List UInt8) then (paronymref03_Points.l0 k x0 x1 x2 x7 (wrap64 (x8 + 1))) else (if x7.length < 17592186044416 then (paronymref03_Points.l1 k x0 x1 x2 (x7 ++ [x9]) x8 (wrap64 (x9 + 1))) else (none))) else (paronymref03_Points.l0 k x0 x1 x2 x7 (wrap64 (x8 + 1)))) else (paronymref03_Points.l0 k x0 x1 x2 x7 (wrap64 (x8 + 1)))) else (paronymref03_Points.l0 k x0 x1 x2 x7 (wrap64 (x8 + 1)))) else (none)) else (none)
end
def paronymref03_Points.f (k : Nat) (l0 : List (S53)) (a1 : ByteArray) (a2 : Int) : Option (List Int) := paronymref03_Points.l0 k l0 a1 a2 ([] : List Int) 0
theorem paronymref03_Points.mono_l : ∀ k, (∀ y0 y1 y2 y3 y4, LeO (paronymref03_Points.l0 k y0 y1 y2 y3 y4) (paronymref03_Points.l0 (k + 1) y0 y1 y2 y3 y4)) ∧ (∀ y0 y1 y2 y3 y4 y5, LeO (paronymref03_Points.l1 k y0 y1 y2 y3 y4 y5) (paronymref03_Points.l1 (k + 1) y0 y1 y2 y3 y4 y5))
  | 0 => ⟨fun _ _ _ _ _ r h => by simp [paronymref03_Points.l0] at h, fun _ _ _ _ _ _ r h => by simp [paronymref03_Points.l1] at h⟩
  | k + 1 => by
    obtain ⟨ih0, ih1⟩ := paronymref03_Points.mono_l k
    refine ⟨?_, ?_⟩
    · intro y0 y1 y2 y3 y4
      unfold paronymref03_Points.l0
      repeat' first
      | (with_reducible exact ih0 _ _ _ _ _)
      | (with_reducible exact ih1 _ _ _ _ _ _)
      | (with_reducible exact LeO.refl _)
      | (with_reducible exact LeO.none _)
      | (with_reducible refine LeO.ite ?_ ?_)
      | (with_reducible refine LeO.bind ?_ (fun _ => ?_))
      | exact ih0 _ _ _ _ _
      | exact ih1 _ _ _ _ _ _
      | exact LeO.none _
      | refine LeO.ite ?_ ?_
      | refine LeO.bind ?_ (fun _ => ?_)
    · intro y0 y1 y2 y3 y4 y5
      unfold paronymref03_Points.l1
      repeat' first
      | (with_reducible exact ih0 _ _ _ _ _)
      | (with_reducible exact ih1 _ _ _ _ _ _)
      | (with_reducible exact LeO.refl _)
      | (with_reducible exact LeO.none _)
      | (with_reducible refine LeO.ite ?_ ?_)
      | (with_reducible refine LeO.bind ?_ (fun _ => ?_))
      | exact ih0 _ _ _ _ _
      | exact ih1 _ _ _ _ _ _
      | exact LeO.none _
      | refine LeO.ite ?_ ?_
      | refine LeO.bind ?_ (fun _ => ?_)
theorem paronymref03_Points.mono : ∀ a0 a1 a2 k, LeO (paronymref03_Points.f k a0 a1 a2) (paronymref03_Points.f (k + 1) a0 a1 a2) := by
  intro a0 a1 a2 k
  obtain ⟨ih0, ih1⟩ := paronymref03_Points.mono_l k
  unfold paronymref03_Points.f
  repeat' first
      | (with_reducible exact ih0 _ _ _ _ _)
      | (with_reducible exact ih1 _ _ _ _ _ _)
      | (with_reducible exact LeO.refl _)
      | (with_reducible exact LeO.none _)
      | (with_reducible refine LeO.ite ?_ ?_)
      | (with_reducible refine LeO.bind ?_ (fun _ => ?_))
      | exact ih0 _ _ _ _ _
      | exact ih1 _ _ _ _ _ _
      | exact LeO.none _
      | refine LeO.ite ?_ ?_
      | refine LeO.bind ?_ (fun _ => ?_)
set_option maxHeartbeats 8000000 in
set_option maxRecDepth 100000 in
theorem paronymref03_Points.calls (k : Nat) (A0 : Option Addr) (c0 : Nat) (l0 : List (S53)) (a1 : ByteArray) (a2 : Int) (r : List Int) (w : World) (hr0 : Kd.C k53 w A0 l0.length l0) (hc0 : l0.length ≤ c0) (h : paronymref03_Points.f k l0 a1 a2 = some r) :
    Calls Try.prog 40 #[.slice A0 l0.length c0, .string a1, .int .i64 a2] w fun e w' => ∃ v0_ : Value, e = .returned (v0_) ∧ Kd.R (Kd.int .i64) 3 w' w.heap.size (fun _ => True) v0_ r ∧ Below w.heap.size w w' := by
  have HR0 := Aside0.mk hr0
  have HC0 := Aside0.mk hc0
  clear hr0 hc0
  have HB := Aside0.mk (Below.refl w.heap.size w)
  have H : (paronymref03_Points.l0 k l0 a1 a2 ([] : List Int) 0) = some r := h
  clear h
  have H' := Aside0.mk H
  clear H
  go_enter Try.func40, Try.ntmps40
  go_wp2
  go_loopg [7, 8] k (fun kq v7 v8 w' => ∃ (x7_1 : List Int) (x8_1 : Int), v8 = .int .i64 x8_1 ∧ Aside0 (paronymref03_Points.l0 kq l0 a1 a2 x7_1 x8_1 = some r) ∧ Aside0 (kq ≤ k) ∧ Aside0 (Kd.R (Kd.int .i64) 3 w' w.heap.size (fun _ => True) v7 x7_1) ∧ Aside0 (Below w.heap.size w w'))
  case atStart => exact ⟨(([] : List Int)), (0), (by first | rfl | (simp; done) | (simp [*]; done)), H', ⟨Nat.le_refl _⟩, ⟨by first | exact Kd.R_nil _ _ _ _ _ | exact Kd.N_nil _ _ _ _ _ | exact Kd.V_nil _ _ _ _ _ | exact Kd.Q_nil _ _ _ _ _ | exact Kd.S_nil _ _ _ _ _⟩, ⟨by repeat (first | (with_reducible first | exact HB.out | apply below_alloc | apply pw_below_drewN | apply below_drew1) | exact HB.out)⟩⟩
  case round =>
    clear H'
    try clear p2
    obtain ⟨x7_1, x8_1, rfl, HA, HK1, HO_7, HB⟩ := hrel
    cases gk with
    | zero => exact absurd HA.out (by simp [paronymref03_Points.l0])
    | succ k1 =>
      have H := HA.out
      clear HA
      simp only [paronymref03_Points.l0] at H
      by_cases c4 : x8_1 < (l0.length : Int)
      · rw [if_pos c4] at H
        have c4b0 : decide (x8_1 < (l0.length : Int)) = true := decide_eq_true c4
        clear c4
        by_cases c5 : 0 ≤ x8_1
        · rw [if_pos c5] at H
          have c5b0 : decide (0 ≤ x8_1) = true := decide_eq_true c5
          clear c5
          have H' := Aside0.mk H
          clear H
          have p101 : 0 ≤ (x8_1 : Int) := of_decide_eq_true (by first | (with_reducible assumption) | assumption)
          have q101 : x8_1 < (l0.length : Int) := of_decide_eq_true (by first | (with_reducible assumption) | assumption)
          obtain ⟨ad101, e101, hx101_0, hx101_1, hx101_2⟩ := at_T53 HR0.out x8_1 p101 q101
          cases e101
          replace hx101_0 := (HB.out.cell (World.block_lt_of_cell? w _ hx101_0)).trans hx101_0
          replace hx101_1 := (HB.out.cell (World.block_lt_of_cell? w _ hx101_1)).trans hx101_1
          replace hx101_2 := (HB.out.cell (World.block_lt_of_cell? w _ hx101_2)).trans hx101_2
          replace p101 := eq_true p101
          replace q101 := eq_true q101
          go_wp2
          go_loopg [7, 9] k1 (fun kq v7 v9 w' => ∃ (x7_2 : List Int) (x9_2 : Int), v9 = .int .i64 x9_2 ∧ Aside0 (paronymref03_Points.l1 kq l0 a1 a2 x7_2 x8_1 x9_2 = some r) ∧ Aside0 (kq ≤ k1) ∧ Aside0 (Kd.R (Kd.int .i64) 3 w' w.heap.size (fun _ => True) v7 x7_2) ∧ Aside0 (Below w.heap.size w w'))
          case atStart => exact ⟨(x7_1), ((rd_T53 l0 x8_1).f0), (by first | rfl | (simp; done) | (simp [*]; done)), H', ⟨Nat.le_refl _⟩, ⟨by (with_reducible repeat (first | apply Kd.R_alloc | apply Kd.R_drewN | apply Kd.R_drew)); exact HO_7.out⟩, ⟨by repeat (first | (with_reducible first | exact HB.out | apply below_alloc | apply pw_below_drewN | apply below_drew1) | exact HB.out)⟩⟩
          case round =>
            clear H'
            try clear p1
            try clear q1
            try clear hx1
            try clear p2
            try clear c4
            try clear c4b0
            try clear c5
            try clear c5b0
            try clear hx101_0
            try clear hx101_1
            try clear hx101_2
            try clear p101
            try clear p2
            try clear q101
            obtain ⟨x7_2, x9_2, rfl, HA, HK2, HO_7, HB⟩ := hrel
            cases gk with
            | zero => exact absurd HA.out (by simp [paronymref03_Points.l1])
            | succ k2 =>
              have H := HA.out
              clear HA
              simp only [paronymref03_Points.l1] at H
              by_cases c6 : 0 ≤ x8_1
              · rw [if_pos c6] at H
                have c6b0 : decide (0 ≤ x8_1) = true := decide_eq_true c6
                clear c6
                by_cases c7 : x8_1 < (l0.length : Int)
                · rw [if_pos c7] at H
                  have c7b0 : decide (x8_1 < (l0.length : Int)) = true := decide_eq_true c7
                  clear c7
                  by_cases c8 : x9_2 ≤ ((rd_T53 l0 x8_1).f1)
                  · rw [if_pos c8] at H
                    have c8b0 : decide (x9_2 ≤ ((rd_T53 l0 x8_1).f1)) = true := decide_eq_true c8
                    clear c8
                    by_cases c9 : (x7_2.length : Int) < a2
                    · rw [if_pos c9] at H
                      have c9b0 : decide ((x7_2.length : Int) < a2) = true := decide_eq_true c9
                      clear c9
                      by_cases c10 : ((rd_T53 l0 x8_1).f2).toList = a1.toList
                      · rw [if_pos c10] at H
                        have c10b0 : (((rd_T53 l0 x8_1).f2).toList == a1.toList) = true := beq_iff_eq.mpr c10
                        have c10b1 : (((rd_T53 l0 x8_1).f2).toList != a1.toList) = false := bne_eq_false_iff_eq.mpr c10
                        clear c10
                        by_cases c11 : a1.toList = ([] : List UInt8)
                        · rw [if_pos c11] at H
                          have c11b0 : (a1.toList == ([] : List UInt8)) = true := beq_iff_eq.mpr c11
                          have c11b1 : (a1.toList != ([] : List UInt8)) = false := bne_eq_false_iff_eq.mpr c11
                          clear c11
                          have H' := Aside0.mk H
                          clear H
                          have p102 : 0 ≤ (x8_1 : Int) := of_decide_eq_true (by first | (with_reducible assumption) | assumption)
                          have q102 : x8_1 < (l0.length : Int) := of_decide_eq_true (by first | (with_reducible assumption) | assumption)
                          obtain ⟨ad102, e102, hx102_0, hx102_1, hx102_2⟩ := at_T53 HR0.out x8_1 p102 q102
                          obtain rfl : ad101 = ad102 := (by injection e102)
                          replace hx102_0 := (HB.out.cell (World.block_lt_of_cell? w _ hx102_0)).trans hx102_0
                          replace hx102_1 := (HB.out.cell (World.block_lt_of_cell? w _ hx102_1)).trans hx102_1
                          replace hx102_2 := (HB.out.cell (World.block_lt_of_cell? w _ hx102_2)).trans hx102_2
                          replace p102 := eq_true p102
                          replace q102 := eq_true q102
                          obtain ⟨Ao12, co12, eo12⟩ := Kd.R_slice HO_7.out
                          subst eo12
                          have p103 : 0 ≤ (x8_1 : Int) := of_decide_eq_true (by first | (with_reducible assumption) | assumption)
                          have q103 : x8_1 < (l0.length : Int) := of_decide_eq_true (by first | (with_reducible assumption) | assumption)
                          obtain ⟨ad103, e103, hx103_0, hx103_1, hx103_2⟩ := at_T53 HR0.out x8_1 p103 q103
                          obtain rfl : ad101 = ad103 := (by injection e103)
                          replace hx103_0 := (HB.out.cell (World.block_lt_of_cell? w _ hx103_0)).trans hx103_0
                          replace hx103_1 := (HB.out.cell (World.block_lt_of_cell? w _ hx103_1)).trans hx103_1
                          replace hx103_2 := (HB.out.cell (World.block_lt_of_cell? w _ hx103_2)).trans hx103_2
                          replace p103 := eq_true p103
                          replace q103 := eq_true q103
                          go_wp2
                          go_roundg k2
                          case measure => have := HK1.out; have := HK2.out; omega
                          case rel => exact ⟨(x7_2), (wrap64 (x8_1 + 1)), (by first | rfl | (simp; done) | (simp [*]; done)), H', ⟨by have := HK1.out; have := HK2.out; omega⟩, ⟨by (with_reducible repeat (first | apply Kd.R_alloc | apply Kd.R_drewN | apply Kd.R_drew)); exact HO_7.out⟩, ⟨by repeat (first | (with_reducible first | exact HB.out | apply below_alloc | apply pw_below_drewN | apply below_drew1) | exact HB.out)⟩⟩
                        · rw [if_neg c11] at H
                          have c11b0 : (a1.toList == ([] : List UInt8)) = false := beq_eq_false_iff_ne.mpr c11
                          have c11b1 : (a1.toList != ([] : List UInt8)) = true := bne_iff_ne.mpr c11
                          by_cases c13 : x7_2.length < 17592186044416
                          · rw [if_pos c13] at H
                            have LMc13 := Aside0.mk c13
                            clear c13
                            obtain ⟨y104, hy104⟩ : ∃ y_ : List Int, y_ = (x7_2 ++ [x9_2]) := ⟨_, rfl⟩
                            replace H : (paronymref03_Points.l1 k2 l0 a1 a2 y104 x8_1 (wrap64 (x9_2 + 1))) = some r := by first | (rw [hy104]; with_reducible exact H) | (have H2_ := (Option.bind_some _ _).symm.trans H; rw [hy104]; with_reducible exact H2_) | (have H2_ := (Option.bind_some _ _).symm.trans H; with_reducible exact H2_) | with_reducible exact H | (rw [hy104]; exact H) | exact H
                            have Ny104 := Aside0.mk hy104
                            clear hy104
                            have H' := Aside0.mk H
                            clear H
                            have p102 : 0 ≤ (x8_1 : Int) := of_decide_eq_true (by first | (with_reducible assumption) | assumption)
                            have q102 : x8_1 < (l0.length : Int) := of_decide_eq_true (by first | (with_reducible assumption) | assumption)
                            obtain ⟨ad102, e102, hx102_0, hx102_1, hx102_2⟩ := at_T53 HR0.out x8_1 p102 q102
                            obtain rfl : ad101 = ad102 := (by injection e102)
                            replace hx102_0 := (HB.out.cell (World.block_lt_of_cell? w _ hx102_0)).trans hx102_0
                            replace hx102_1 := (HB.out.cell (World.block_lt_of_cell? w _ hx102_1)).trans hx102_1
                            replace hx102_2 := (HB.out.cell (World.block_lt_of_cell? w _ hx102_2)).trans hx102_2
                            replace p102 := eq_true p102
                            replace q102 := eq_true q102
                            obtain ⟨Ao14, co14, eo14⟩ := Kd.R_slice HO_7.out
                            subst eo14
                            have p103 : 0 ≤ (x8_1 : Int) := of_decide_eq_true (by first | (with_reducible assumption) | assumption)
                            have q103 : x8_1 < (l0.length : Int) := of_decide_eq_true (by first | (with_reducible assumption) | assumption)
                            obtain ⟨ad103, e103, hx103_0, hx103_1, hx103_2⟩ := at_T53 HR0.out x8_1 p103 q103
                            obtain rfl : ad101 = ad103 := (by injection e103)
                            replace hx103_0 := (HB.out.cell (World.block_lt_of_cell? w _ hx103_0)).trans hx103_0
                            replace hx103_1 := (HB.out.cell (World.block_lt_of_cell? w _ hx103_1)).trans hx103_1
                            replace hx103_2 := (HB.out.cell (World.block_lt_of_cell? w _ hx103_2)).trans hx103_2
                            replace p103 := eq_true p103
                            replace q103 := eq_true q103
                            go_wp2_with (first | ((with_reducible refine gate_builtin (b := .append) (xs := #[.tmp 49, .tmp 51]) rfl ?_); (try (refine gate_guard (by rfl) ?_; dsimp only)); at_builtin; refine Kd.R_append (Kd.int .i64) (w0 := w) w.heap.size rfl (.tmp 49) (.tmp 51) 22 3 (.int .i64 0) 8 rfl Try.underlying22 info3 rfl (by decide) (by omega) (.slice Ao14 x7_2.length co14) x7_2 x9_2 [.int .i64 x9_2] (fun _ => True) (fun _ => False) rfl rfl ?aP (fun _ hk => hk.elim) ?aF ?aO ?aB ?aS ?aL ?_; (case aP => exact rfl); (case aB => exact (by repeat (first | (with_reducible first | exact HB.out | apply below_alloc | apply pw_below_drewN | apply below_drew1) | exact HB.out))); (case aF => exact (fun _ _ => trivial)); (case aO => exact (by (with_reducible repeat (first | apply Kd.R_alloc | apply Kd.R_drewN | apply Kd.R_drew)); exact HO_7.out)); (case aS => exact (below_size (by repeat (first | (with_reducible first | exact HB.out | apply below_alloc | apply pw_below_drewN | apply below_drew1) | exact HB.out)))); (case aL => have := LMc13.out; omega); intro v105 w15 ho hb hg hat; rw [← Ny104.out] at ho; have n0_ := Aside0.mk (hb); have n1_ := Aside0.mk (ho); clear HB; clear HO_7; have HB := n0_; have HO106 := n1_; clear n0_ n1_; clear ho hb hg hat))
                            go_roundg k2
                            case measure => have := HK1.out; have := HK2.out; omega
                            case rel => exact ⟨(y104), (wrap64 (x9_2 + 1)), (by first | rfl | (simp; done) | (simp [*]; done)), H', ⟨by have := HK1.out; have := HK2.out; omega⟩, ⟨by (with_reducible repeat (first | apply Kd.R_alloc | apply Kd.R_drewN | apply Kd.R_drew)); exact HO106.out⟩, ⟨by repeat (first | (with_reducible first | exact HB.out | apply below_alloc | apply pw_below_drewN | apply below_drew1) | exact HB.out)⟩⟩
                          · rw [if_neg c13] at H
                            exact absurd H (by simp)
                      · rw [if_neg c10] at H
                        have c10b0 : (((rd_T53 l0 x8_1).f2).toList == a1.toList) = false := beq_eq_false_iff_ne.mpr c10
                        have c10b1 : (((rd_T53 l0 x8_1).f2).toList != a1.toList) = true := bne_iff_ne.mpr c10
                        have H' := Aside0.mk H
                        clear H
                        have p102 : 0 ≤ (x8_1 : Int) := of_decide_eq_true (by first | (with_reducible assumption) | assumption)
                        have q102 : x8_1 < (l0.length : Int) := of_decide_eq_true (by first | (with_reducible assumption) | assumption)
                        obtain ⟨ad102, e102, hx102_0, hx102_1, hx102_2⟩ := at_T53 HR0.out x8_1 p102 q102
                        obtain rfl : ad101 = ad102 := (by injection e102)
                        replace hx102_0 := (HB.out.cell (World.block_lt_of_cell? w _ hx102_0)).trans hx102_0
                        replace hx102_1 := (HB.out.cell (World.block_lt_of_cell? w _ hx102_1)).trans hx102_1
                        replace hx102_2 := (HB.out.cell (World.block_lt_of_cell? w _ hx102_2)).trans hx102_2
                        replace p102 := eq_true p102
                        replace q102 := eq_true q102
                        obtain ⟨Ao16, co16, eo16⟩ := Kd.R_slice HO_7.out
                        subst eo16
                        have p103 : 0 ≤ (x8_1 : Int) := of_decide_eq_true (by first | (with_reducible assumption) | assumption)
                        have q103 : x8_1 < (l0.length : Int) := of_decide_eq_true (by first | (with_reducible assumption) | assumption)
                        obtain ⟨ad103, e103, hx103_0, hx103_1, hx103_2⟩ := at_T53 HR0.out x8_1 p103 q103
                        obtain rfl : ad101 = ad103 := (by injection e103)
                        replace hx103_0 := (HB.out.cell (World.block_lt_of_cell? w _ hx103_0)).trans hx103_0
                        replace hx103_1 := (HB.out.cell (World.block_lt_of_cell? w _ hx103_1)).trans hx103_1
                        replace hx103_2 := (HB.out.cell (World.block_lt_of_cell? w _ hx103_2)).trans hx103_2
                        replace p103 := eq_true p103
                        replace q103 := eq_true q103
                        go_wp2
                        go_roundg k2
                        case measure => have := HK1.out; have := HK2.out; omega
                        case rel => exact ⟨(x7_2), (wrap64 (x8_1 + 1)), (by first | rfl | (simp; done) | (simp [*]; done)), H', ⟨by have := HK1.out; have := HK2.out; omega⟩, ⟨by (with_reducible repeat (first | apply Kd.R_alloc | apply Kd.R_drewN | apply Kd.R_drew)); exact HO_7.out⟩, ⟨by repeat (first | (with_reducible first | exact HB.out | apply below_alloc | apply pw_below_drewN | apply below_drew1) | exact HB.out)⟩⟩
                    · rw [if_neg c9] at H
                      have c9b0 : decide ((x7_2.length : Int) < a2) = false := decide_eq_false c9
                      clear c9
                      have H' := Aside0.mk H
                      clear H
                      have p102 : 0 ≤ (x8_1 : Int) := of_decide_eq_true (by first | (with_reducible assumption) | assumption)
                      have q102 : x8_1 < (l0.length : Int) := of_decide_eq_true (by first | (with_reducible assumption) | assumption)
                      obtain ⟨ad102, e102, hx102_0, hx102_1, hx102_2⟩ := at_T53 HR0.out x8_1 p102 q102
                      obtain rfl : ad101 = ad102 := (by injection e102)
                      replace hx102_0 := (HB.out.cell (World.block_lt_of_cell? w _ hx102_0)).trans hx102_0
                      replace hx102_1 := (HB.out.cell (World.block_lt_of_cell? w _ hx102_1)).trans hx102_1
                      replace hx102_2 := (HB.out.cell (World.block_lt_of_cell? w _ hx102_2)).trans hx102_2
                      replace p102 := eq_true p102
                      replace q102 := eq_true q102
                      obtain ⟨Ao17, co17, eo17⟩ := Kd.R_slice HO_7.out
                      subst eo17
                      go_wp2
                      go_roundg k2
                      case measure => have := HK1.out; have := HK2.out; omega
                      case rel => exact ⟨(x7_2), (wrap64 (x8_1 + 1)), (by first | rfl | (simp; done) | (simp [*]; done)), H', ⟨by have := HK1.out; have := HK2.out; omega⟩, ⟨by (with_reducible repeat (first | apply Kd.R_alloc | apply Kd.R_drewN | apply Kd.R_drew)); exact HO_7.out⟩, ⟨by repeat (first | (with_reducible first | exact HB.out | apply below_alloc | apply pw_below_drewN | apply below_drew1) | exact HB.out)⟩⟩
                  · rw [if_neg c8] at H
                    have c8b0 : decide (x9_2 ≤ ((rd_T53 l0 x8_1).f1)) = false := decide_eq_false c8
                    clear c8
                    have H' := Aside0.mk H
                    clear H
                    have p102 : 0 ≤ (x8_1 : Int) := of_decide_eq_true (by first | (with_reducible assumption) | assumption)
                    have q102 : x8_1 < (l0.length : Int) := of_decide_eq_true (by first | (with_reducible assumption) | assumption)
                    obtain ⟨ad102, e102, hx102_0, hx102_1, hx102_2⟩ := at_T53 HR0.out x8_1 p102 q102
                    obtain rfl : ad101 = ad102 := (by injection e102)
                    replace hx102_0 := (HB.out.cell (World.block_lt_of_cell? w _ hx102_0)).trans hx102_0
                    replace hx102_1 := (HB.out.cell (World.block_lt_of_cell? w _ hx102_1)).trans hx102_1
                    replace hx102_2 := (HB.out.cell (World.block_lt_of_cell? w _ hx102_2)).trans hx102_2
                    replace p102 := eq_true p102
                    replace q102 := eq_true q102
                    go_wp2
                    go_roundg k2
                    case measure => have := HK1.out; have := HK2.out; omega
                    case rel => exact ⟨(x7_2), (wrap64 (x8_1 + 1)), (by first | rfl | (simp; done) | (simp [*]; done)), H', ⟨by have := HK1.out; have := HK2.out; omega⟩, ⟨by (with_reducible repeat (first | apply Kd.R_alloc | apply Kd.R_drewN | apply Kd.R_drew)); exact HO_7.out⟩, ⟨by repeat (first | (with_reducible first | exact HB.out | apply below_alloc | apply pw_below_drewN | apply below_drew1) | exact HB.out)⟩⟩
                · rw [if_neg c7] at H
                  exact absurd H (by simp)
              · rw [if_neg c6] at H
                exact absurd H (by simp)
        · rw [if_neg c5] at H
          exact absurd H (by simp)
      · rw [if_neg c4] at H
        have c4b0 : decide (x8_1 < (l0.length : Int)) = false := decide_eq_false c4
        clear c4
        obtain rfl := Option.some.inj H
        go_wp2
        go_ret
        exact ⟨_, by first | rfl | (simp [errW_none, errW_some] <;> rfl) | (simp [*, errW_none, errW_some] <;> rfl), by (with_reducible repeat (first | apply Kd.R_alloc | apply Kd.R_drewN | apply Kd.R_drew)); exact HO_7.out, by repeat (first | (with_reducible first | exact HB.out | apply below_alloc | apply pw_below_drewN | apply below_drew1) | exact HB.out)⟩

end Go.Proofs.Ytlipbiihemhieaa.Q

-- from Hpp2
/- span: Points' function value; the reference's Points on lists. -/
namespace Go.Proofs.Ytlipbiihemhieaa.Q
open Go.RowKit Go.Shelf Go.Proofs.YtlipbiihemhieaaW.PrintWords Go.Proofs.YtlipbiihemhieaaW.PrintLast Go.Proofs.YtlipbiihemhieaaW.PrintMore Go.Proofs.Ytlipbiihemhieaa.K
set_option linter.unusedVariables false
set_option linter.unusedSimpArgs false

set_option maxHeartbeats 1000000 in
set_option maxRecDepth 100000 in
theorem span_Points.calls (p : Option Addr) (v : ByteArray) (w : World) :
    Calls Try.prog 41 #[.pointer p, .string v] w fun e w' => e = .returned (.func (.func 67) #[] #[.pointer (some ⟨w.heap.size + 1, 0, none⟩), .pointer (some ⟨w.heap.size, 0, none⟩)]) ∧ w' = (w.alloc (.cells #[.pointer p] 45)).alloc (.cells #[.string v] 9) := by
  go_enter Try.func41, Try.ntmps41
  go_wp2
  go_ret
  exact ⟨rfl, rfl⟩
theorem ptsOf_in {L : List S43} (h : SpOK L) (v : ByteArray) : ptsOf L v = ptsIn v L := by
  unfold ptsOf
  split
  · rename_i hv
    unfold ptsIn
    symm
    rw [List.flatMap_eq_nil_iff]
    intro s hs
    rw [if_neg (fun e => (h.2 s hs).2.2.2 (by rw [e, hv]))]
  · rfl
theorem spanPts_drop (s : S43) (j : Nat) (h : s.f0 + (j : Int) ≤ s.f1) : (spanPts s).drop j = (s.f0 + (j : Int)) :: (spanPts s).drop (j + 1) := by
  have hl : j < (spanPts s).length := by rw [spanPts_len]; omega
  rw [List.drop_eq_getElem_cons hl]
  simp [spanPts]
/-- The reference's Points. -/
theorem refPoints_ev {L : List S43} (hl : L.length ≤ 1000) (hL : SpOK L) (v : ByteArray) (m : Nat) (hm : m ≤ 1000) : Ev (fun k => paronymref03_Points.f k (L.map c53) v (m : Int)) ((ptsOf L v).take m) := by
  rw [ptsOf_in hL]
  have key : ∀ (d i : Nat) (acc : List Int), L.length - i = d → i ≤ L.length → acc.length ≤ m → Ev (fun k => paronymref03_Points.l0 k (L.map c53) v (m : Int) acc (i : Int)) ((acc ++ ptsIn v (L.drop i)).take m) := by
    intro d
    induction d with
    | zero =>
      intro i acc h1 h2 h3
      refine Ev.step (fun k => rfl) (Ev.neg (by rw [List.length_map]; omega) ?_)
      rw [List.drop_eq_nil_of_le (by omega)]
      unfold ptsIn
      rw [List.flatMap_nil, List.append_nil, List.take_of_length_le h3]
      exact Ev.now _
    | succ d ih =>
      intro i acc h1 h2 h3
      have hi : i < L.length := by omega
      have hval := hL.at hi
      rw [List.drop_eq_getElem_cons hi]
      obtain ⟨s, hs⟩ : ∃ s, s = L[i] := ⟨_, rfl⟩
      rw [← hs] at hval ⊢
      have hrd : rd_T53 (L.map c53) (i : Int) = c53 s := by rw [rdc i hi, hs]
      obtain ⟨hv0, hv1, hv2, hv3⟩ := hval
      have hstep : ∀ (q j : Nat) (acc : List Int), (s.f1 + 1 - s.f0).toNat - j = q → j ≤ (s.f1 + 1 - s.f0).toNat → acc.length ≤ m →
          Ev (fun k => paronymref03_Points.l1 k (L.map c53) v (m : Int) acc (i : Int) (s.f0 + (j : Int))) ((acc ++ (if s.f2.toList = v.toList then (spanPts s).drop j else []) ++ ptsIn v (L.drop (i + 1))).take m) := by
        intro q
        induction q with
        | zero =>
          intro j acc g1 g2 g3
          have hn := ih (i + 1) acc (by omega) (by omega) g3
          refine Ev.step (fun k => rfl) (Ev.pos (by omega) (Ev.pos (by rw [List.length_map]; omega) ?_))
          rw [hrd, w64 (n := (i : Int) + 1) (by omega) (by omega)]
          refine Ev.neg (show ¬ s.f0 + (j : Int) ≤ s.f1 by omega) ?_
          have : (if s.f2.toList = v.toList then (spanPts s).drop j else []) = [] := by
            split
            · exact List.drop_eq_nil_of_le (by rw [spanPts_len]; omega)
            · rfl
          rw [this, List.append_nil]
          exact hn
        | succ q ihq =>
          intro j acc g1 g2 g3
          have hn := ih (i + 1) acc (by omega) (by omega) g3
          have hle : s.f0 + (j : Int) ≤ s.f1 := by omega
          refine Ev.step (fun k => rfl) (Ev.pos (by omega) (Ev.pos (by rw [List.length_map]; omega) ?_))
          rw [hrd, w64 (n := (i : Int) + 1) (by omega) (by omega)]
          refine Ev.pos (show s.f0 + (j : Int) ≤ s.f1 from hle) ?_
          by_cases c1 : acc.length < m
          · refine Ev.pos (show (acc.length : Int) < (m : Int) by omega) ?_
            by_cases c2 : s.f2.toList = v.toList
            · refine Ev.pos (show (c53 s).f2.toList = v.toList from c2) (Ev.neg (fun e => hv3 (by rw [c2, e])) (Ev.pos (show acc.length < 17592186044416 by omega) ?_))
              have h := ihq (j + 1) (acc ++ [s.f0 + (j : Int)]) (by omega) (by omega) (by rw [List.length_append]; simp; omega)
              rw [if_pos c2] at h ⊢
              rw [spanPts_drop s j hle]
              rw [w64 (n := s.f0 + (j : Int) + 1) (by omega) (by omega), show s.f0 + (j : Int) + 1 = s.f0 + ((j + 1 : Nat) : Int) by omega]
              simpa using h
            · refine Ev.neg (show ¬ (c53 s).f2.toList = v.toList from c2) ?_
              rw [if_neg c2, List.append_nil]
              exact hn
          · refine Ev.neg (show ¬ (acc.length : Int) < (m : Int) by omega) ?_
            have e : acc.length = m := by omega
            rw [List.take_append_of_le_length (by omega)] at hn
            rw [List.append_assoc, List.take_append_of_le_length (by omega)]
            exact hn
      refine Ev.step (fun k => rfl) (Ev.pos (by rw [List.length_map]; omega) (Ev.pos (by omega) ?_))
      rw [hrd]
      have h := hstep (s.f1 + 1 - s.f0).toNat 0 acc (by omega) (by omega) h3
      rw [List.drop_zero] at h
      have e1 : ptsIn v (s :: L.drop (i + 1)) = (if s.f2.toList = v.toList then spanPts s else []) ++ ptsIn v (L.drop (i + 1)) := by unfold ptsIn; rw [List.flatMap_cons]
      rw [e1, ← List.append_assoc]
      have e2 : (c53 s).f0 = s.f0 + ((0 : Nat) : Int) := by show s.f0 = _; omega
      rw [e2]
      exact h
  have := key L.length 0 [] (by omega) (by omega) (by simp)
  rw [List.nil_append, List.drop_zero] at this
  unfold paronymref03_Points.f
  exact this
theorem refPoints_calls (A : Option Addr) (n : Nat) (L : List S43) (M : List S53) (v : ByteArray) (m : Nat) (X : List Int) (w : World) (hX : X = (ptsOf L v).take m) (hm : m ≤ 1000) (hM : M = L.map c53) (hr : Kd.C k53 w A M.length M) (hc : M.length ≤ n) (hl : L.length ≤ 1000) (hL : SpOK L) :
    Calls Try.prog 40 #[.slice A M.length n, .string v, .int .i64 (m : Int)] w fun e w' => ∃ u, e = .returned u ∧ Kd.R (Kd.int .i64) 3 w' w.heap.size (fun _ => True) u X ∧ Below w.heap.size w w' := by
  subst hX hM
  obtain ⟨k, hk⟩ := (refPoints_ev hl hL v m hm).rounds
  exact paronymref03_Points.calls k A n _ v _ _ w hr hc hk
theorem sameI_calls (A A' : Option Addr) (c c' : Nat) (l : List Int) (w : World) (hr : Kd.C (Kd.int .i64) w A l.length l) (hc : l.length ≤ c) (hr' : Kd.C (Kd.int .i64) w A' l.length l) (hc' : l.length ≤ c') (hl : l.length ≤ 1000) :
    Calls Try.prog 20 #[.slice A l.length c, .slice A' l.length c'] w fun e w' => e = .returned (.bool true) ∧ Below w.heap.size w w' := by
  obtain ⟨k, hk⟩ := (refSame_ev l l (by omega) (by omega)).rounds
  rw [decide_eq_true rfl] at hk
  exact (paronymref01_Same.calls k A c l A' c' l true w hr hc hr' hc' hk).mono fun e w' h => ⟨h.1, h.2.below⟩
end Go.Proofs.Ytlipbiihemhieaa.Q

-- from Hwpoints
/- SpanPoints: the walk. -/
namespace Go.Proofs.Ytlipbiihemhieaa.Q
open Go.ChangeShapes Go.WideShapes Go.RowKit Go.Shelf Go.Proofs.YtlipbiihemhieaaW.PrintWords Go.Proofs.YtlipbiihemhieaaW.PrintLast Go.Proofs.YtlipbiihemhieaaW.PrintMore Go.Proofs.Ytlipbiihemhieaa.K
set_option linter.unusedVariables false
set_option linter.unusedSimpArgs false
attribute [local go_sem] Oper.semAt_some

set_option maxHeartbeats 8000000 in
set_option maxRecDepth 100000 in
theorem points_out (A0 : Option Addr) (c0 : Nat) (l : List S43) (v : ByteArray) (m : Nat) (w : World) (hr : Kd.C k43 w A0 l.length l) (hc : l.length ≤ c0) (h : smallB l = false ∨ 30 < v.size) :
    Calls Try.prog 10 #[.slice A0 l.length c0, .string v, .int .u8 (m : Int)] w fun e w' => e = .returned (.bool true) ∧ Below w.heap.size w w' := by
  have HR := Aside0.mk hr
  have HC := Aside0.mk hc
  clear hr hc
  cases hb : smallB l with
  | false =>
    have HBB := Aside0.mk hb
    clear hb h
    go_enter Try.func10, Try.ntmps10
    have HB : Aside0 (Below w.heap.size w (w.alloc (.cells #[.int .u8 (m : Int)] 5))) := ⟨(Below.refl _ w).alloc (Nat.le_refl _) _⟩
    go_wp2_with (first
      | (go_at_call 26
         (with_reducible refine (paronymlaw03_awake.calls0 _).mono ?_)
         rintro e w1 ⟨rfl, hb⟩
         have HB := Aside0.mk (HB.out.trans (hb.mono HB.out.size))
         clear hb)
      | (go_at_call 27
         (with_reducible refine (small_calls _ _ l _ (Kd.C_below HR.out HB.out) HC.out).mono ?_)
         rintro e w1 ⟨rfl, hb⟩
         rw [HBB.out]
         have HB := Aside0.mk (HB.out.trans (hb.mono HB.out.size))
         clear hb))
    go_ret
    exact ⟨rfl, HB.out⟩
  | true =>
    have HBB := Aside0.mk hb
    have hv : 30 < v.size := by rcases h with h | h; (rw [hb] at h; cases h); exact h
    have e1 : decide ((30 : Int) < (v.size : Int)) = true := decide_eq_true (by omega)
    have e2 : decide (30 < v.size) = true := decide_eq_true hv
    clear hb h
    go_enter Try.func10, Try.ntmps10
    have HB : Aside0 (Below w.heap.size w (w.alloc (.cells #[.int .u8 (m : Int)] 5))) := ⟨(Below.refl _ w).alloc (Nat.le_refl _) _⟩
    go_wp2_with (first
      | (go_at_call 26
         (with_reducible refine (paronymlaw03_awake.calls0 _).mono ?_)
         rintro e w1 ⟨rfl, hb⟩
         have HB := Aside0.mk (HB.out.trans (hb.mono HB.out.size))
         clear hb)
      | (go_at_call 27
         (with_reducible refine (small_calls _ _ l _ (Kd.C_below HR.out HB.out) HC.out).mono ?_)
         rintro e w1 ⟨rfl, hb⟩
         rw [HBB.out]
         have HB := Aside0.mk (HB.out.trans (hb.mono HB.out.size))
         clear hb))
    go_ret
    exact ⟨rfl, HB.out⟩
set_option maxHeartbeats 8000000 in
set_option maxRecDepth 100000 in
theorem points_err (A0 : Option Addr) (c0 : Nat) (l : List S43) (v : ByteArray) (m : Nat) (w : World) (hr : Kd.C k43 w A0 l.length l) (hc : l.length ≤ c0) (hs : smallB l = true) (hv : ¬ 30 < v.size) (hn : (newR [] l).1 ≠ 0) :
    Calls Try.prog 10 #[.slice A0 l.length c0, .string v, .int .u8 (m : Int)] w fun e w' => e = .returned (.bool true) ∧ Below w.heap.size w w' := by
  have HR := Aside0.mk hr
  have HC := Aside0.mk hc
  have HBB := Aside0.mk hs
  have hl : l.length ≤ 30 := by unfold smallB at hs; exact (of_decide_eq_true hs).1
  have HL := Aside0.mk hl
  have e1 : decide ((30 : Int) < (v.size : Int)) = false := decide_eq_false (by omega)
  have e2 : decide (30 < v.size) = false := decide_eq_false hv
  obtain ⟨E, hE⟩ : ∃ E, E = (newR [] l).1 := ⟨_, rfl⟩
  rw [← hE] at hn
  have HE := Aside0.mk hE
  have HN := Aside0.mk hn
  have e4 : (E == 0) = false := beq_eq_false_iff_ne.mpr hn
  have e5 : (E != 0) = true := bne_iff_ne.mpr hn
  have e6 : decide (E = 0) = false := decide_eq_false hn
  have e7 := eq_false hn
  clear hr hc hs hv hn hl hE
  go_enter Try.func10, Try.ntmps10
  have HB : Aside0 (Below w.heap.size w (w.alloc (.cells #[.int .u8 (m : Int)] 5))) := ⟨(Below.refl _ w).alloc (Nat.le_refl _) _⟩
  go_wp2_with (first
    | (go_at_call 26
       (with_reducible refine (paronymlaw03_awake.calls0 _).mono ?_)
       rintro e w1 ⟨rfl, hb⟩
       have HB := Aside0.mk (HB.out.trans (hb.mono HB.out.size))
       clear hb)
    | (go_at_call 27
       (with_reducible refine (small_calls _ _ l _ (Kd.C_below HR.out HB.out) HC.out).mono ?_)
       rintro e w1 ⟨rfl, hb⟩
       rw [HBB.out]
       have HB := Aside0.mk (HB.out.trans (hb.mono HB.out.size))
       clear hb)
    | (go_at_call 28
       (with_reducible refine (new_err _ _ l E _ HE.out.symm HN.out (Kd.C_below HR.out HB.out) HC.out (Nat.le_trans HL.out (by decide))).mono ?_)
       rintro e w1 ⟨rfl, hb⟩
       have HB := Aside0.mk (HB.out.trans (hb.mono HB.out.size))
       clear hb))
  go_ret
  exact ⟨rfl, HB.out⟩
theorem info_int3 : (Try.prog.info? 3).map (fun i => (i.zero, i.size, i.bytes)) = some (some (.int .i64 0), 1, 8) := by kernel_rfl
/-- The result so far. -/
def ptI (w w6 : World) (m : Nat) (B : Nat) (pre : List Int) (W : World) : Prop := (∃ u, Boxed W w6.heap.size 22 u ∧ Kd.R (Kd.int .i64) 3 W B (fun _ => True) u pre) ∧ (Boxed W w.heap.size 5 (.int .u8 (m : Int)) ∧ (Below w6.heap.size w6 W ∧ B ≤ W.heap.size)) ∧ pre.length ≤ m
theorem ptI_own (w w6 : World) (m B B' : Nat) (hB : w6.heap.size ≤ B') : OwnFrom B' (ptI w w6 m B) := fun s W W' row hs hg hr => by
  obtain ⟨⟨u, h1, h2⟩, ⟨h3, h4, h5⟩, h6⟩ := hs
  exact ⟨⟨u, boxed_own w6.heap.size 22 (fun _ : Unit => u) () W W' row h1 hg (fun r e => (hr r e).2), rowK_own (B := B') () W W' row h2 hg hr⟩, ⟨boxed_own w.heap.size 5 (fun _ : Unit => .int .u8 (m : Int)) () W W' row h3 hg (fun r e => (hr r e).2), ownFrom_below (β := Unit) (Nat.le_refl _) hB () W W' row h4 hg hr, Nat.le_trans h5 hg.size⟩, h6⟩
/-- One more: the append, and the store. -/
theorem ptI_step {w w6 W W2 : World} {m B B' : Nat} {pre : List Int} {x : Int} {u v2 : Value} (hlt : w.heap.size < w6.heap.size) (hB : w6.heap.size < B) (hb : Boxed W w6.heap.size 22 u) (hm : Boxed W w.heap.size 5 (.int .u8 (m : Int))) (hbel : Below w6.heap.size w6 W) (hsz : B ≤ W.heap.size)
    (hR : Kd.R (Kd.int .i64) 3 W B (fun _ => True) u pre) (hR2 : Kd.R (Kd.int .i64) 3 W2 B (fun _ => True) v2 (pre ++ [x])) (hg : W.grownBy W2 u.ownBlock) (hl : pre.length < m) :
    KeepsFrom B' W (W2.setCell ⟨w6.heap.size, 0, none⟩ v2) ∧ KeepO (QT [3, 22]) W (W2.setCell ⟨w6.heap.size, 0, none⟩ v2) ∧ ptI w w6 m B (pre ++ [x]) (W2.setCell ⟨w6.heap.size, 0, none⟩ v2) := by
  obtain ⟨inner, ho⟩ := Kd.R_own hR
  obtain ⟨inner2, ho2⟩ := Kd.R_own hR2
  have hne : some w6.heap.size ≠ u.ownBlock := fun e => by have := own_base ho _ e.symm; omega
  have hne0 : some w.heap.size ≠ u.ownBlock := fun e => by have := own_base ho _ e.symm; omega
  have hb2 : Boxed W2 w6.heap.size 22 u := hb.kept hg hne
  have k2 : KeepsOthers W W2 := KeepsOthers.of_grownBy hg (fun j ob hj hob => by
    obtain ⟨cells, hc⟩ := own_typed ho j hj
    rw [hc] at hob
    injection hob with hob
    rw [← hob]; rfl)
  refine ⟨(k2.trans (KeepsOthers.setCell _ _ _)).from B', ?_, ⟨v2, Boxed.set _ hb2, ?_⟩, ⟨?_, ?_, ?_⟩, ?_⟩
  · refine KeepO.trans (KeepO.grown hg (fun k o hk hoo hc hq => ?_)) (KeepO.of_set (fun o hoo hq => ?_))
    · obtain ⟨cells, hc2⟩ := own_typed ho k hk
      rw [hc2] at hoo
      cases hoo
      obtain ⟨cs, t, f, e, hn⟩ := hq
      cases e
      exact hn (by decide)
    · have hbb : W2.heap[w6.heap.size]? = some (.cells #[u] 22 (0, 0)) := hb2
      rw [hbb] at hoo
      cases hoo
      obtain ⟨cs, t, f, e, hn⟩ := hq
      cases e
      exact hn (by decide)
  · exact Kd.R_mono (Kd.R_far (p := ⟨w6.heap.size, 0, none⟩) (Kd.R_bound hR2) (fun k hk e => by have := hk.2.1; simp only at e; omega) _) (fun _ _ => trivial)
  · exact (hm.kept hg hne0).other (by omega) _
  · exact (hbel.grown hg (by omega) (fun k e => by have := own_base ho k e; omega)).setCell (p := ⟨w6.heap.size, 0, none⟩) (Nat.le_refl _) _
  · have := hg.size
    show B ≤ (W2.setCell _ _).heap.size
    simp; omega
  · rw [List.length_append]; simp; omega
/-- A box stays. -/
theorem upM {W W' : World} {k : Nat} {t : TypeId} {v : Value} (h : Boxed W k t v) (hb : Below W.heap.size W W') : Boxed W' k t v := (hb.block _ h.lt).trans h
set_option maxHeartbeats 8000000 in
set_option maxRecDepth 100000 in
theorem points_main (A0 : Option Addr) (c0 : Nat) (l : List S43) (v : ByteArray) (m : Nat) (w : World) (hr : Kd.C k43 w A0 l.length l) (hc : l.length ≤ c0) (hm : m ≤ 255) (hs : smallB l = true) (hv : ¬ 30 < v.size) (hn : (newR [] l).1 = 0) :
    Calls Try.prog 10 #[.slice A0 l.length c0, .string v, .int .u8 (m : Int)] w fun e w' => e = .returned (.bool true) ∧ Below w.heap.size w w' := by
  have HR := Aside0.mk hr
  have HC := Aside0.mk hc
  have HBB := Aside0.mk hs
  have hl : l.length ≤ 30 := by unfold smallB at hs; exact (of_decide_eq_true hs).1
  have HL := Aside0.mk hl
  have e1 : decide ((30 : Int) < (v.size : Int)) = false := decide_eq_false (by omega)
  have e2 : decide (30 < v.size) = false := decide_eq_false hv
  obtain ⟨L, hL⟩ : ∃ L, L = (newR [] l).2 := ⟨_, rfl⟩
  obtain ⟨hok, hperm⟩ := newR_SpOK hn
  rw [← hL] at hok hperm
  have HLE : Aside0 (newR [] l = (0, L)) := ⟨Prod.ext hn hL.symm⟩
  have HOK := Aside0.mk hok
  have HLL : Aside0 (L.length ≤ 1000) := ⟨by rw [hperm.length_eq]; omega⟩
  obtain ⟨M, HMM⟩ : ∃ M, Aside0 (M = L.map c53) := ⟨_, ⟨rfl⟩⟩
  obtain ⟨X, HX⟩ : ∃ X, Aside0 (X = (ptsOf L v).take m) := ⟨_, ⟨rfl⟩⟩
  have HMS := Aside0.mk hm
  clear hr hc hs hv hn hl hL hok hperm hm
  refine (callsIn_wide (n := 20)).1 ?_
  refine callsIn_of_wp_marks Try.func10 rfl trivial ?_ rfl
  simp only [Try.ntmps10, List.size_toArray, List.length_cons, List.length_nil, Nat.reduceAdd, Nat.reduceSub, Array.replicate_succ, Array.replicate_zero, List.push_toArray, List.append_toArray, List.nil_append, List.cons_append]
  have HB : Aside0 (Below w.heap.size w (w.alloc (.cells #[.int .u8 (m : Int)] 5))) := ⟨(Below.refl _ w).alloc (Nat.le_refl _) _⟩
  have HM := Aside0.mk (Boxed.new w 5 (.int .u8 (m : Int)))
  gi_wp2_with (first
    | (refine ⟨trivial, ?_⟩
       gi_at_call 26
       (refine (callsIn_wide.2 (paronymlaw03_awake.calls0 _)).mono ?_)
       rintro e w1 ⟨rfl, hb⟩
       have HM := Aside0.mk (upM HM.out hb)
       have HB := Aside0.mk (HB.out.trans (hb.mono HB.out.size))
       clear hb)
    | (refine ⟨trivial, ?_⟩
       gi_at_call 27
       (refine (callsIn_wide.2 (small_calls _ _ l _ (Kd.C_below HR.out HB.out) HC.out)).mono ?_)
       rintro e w1 ⟨rfl, hb⟩
       rw [HBB.out]
       have HM := Aside0.mk (upM HM.out hb)
       have HB := Aside0.mk (HB.out.trans (hb.mono HB.out.size))
       clear hb)
    | (refine ⟨trivial, ?_⟩
       gi_at_call 28
       (refine (callsIn_wide.2 (new_ok _ _ l L _ HLE.out (Kd.C_below HR.out HB.out) HC.out (Nat.le_trans HL.out (by decide)))).mono ?_)
       rintro e w1 ⟨g, rfl, hT, hb⟩
       have HT := Aside0.mk hT
       have HM := Aside0.mk (upM HM.out hb)
       have HB := Aside0.mk (HB.out.trans (hb.mono HB.out.size))
       clear hb hT))
  have hcm := HM.out.cell
  have b0 : 0 ≤ (m : Int) := by omega
  have b1 : (m : Int) ≤ 255 := by have := HMS.out; omega
  have b2 : IntKind.i64.wrap (m : Int) = (m : Int) := Go.IntWalk.i64_in _ (by omega)
  have b3 : wrap64 (m : Int) = (m : Int) := w64 (by omega) (by omega)
  refine wpIn_wide.2 ?_
  have hS : Below w1.heap.size w1 w1.drew := (Below.refl _ w1).drew
  refine wp_region_noPanic ?_
  refine wp_region_held (S := fun w' => Below w1.heap.size w1 w') (by kernel_rfl) ?_
  show wpAnyH _ _ _ _ _ _ _ _ w1.drew
  refine wpAnyH_take (i := 0) (v := .pointer (some ⟨g, 0, none⟩)) rfl (by kernel_rfl) (by kernel_rfl) (by kernel_rfl) (fun _ _ _ h => h) (.inl ⟨by kernel_rfl, fun w' hS => by first | (go_simp; done) | (go_simp; simp [*]; done)⟩) hS ?_
  try simp only [List.getElem_toArray, List.getElem_cons_succ, List.getElem_cons_zero, Act.put, List.setIfInBounds_toArray, List.set_cons_zero, List.set_cons_succ]
  refine wpAnyH_take (i := 2) (v := .string v) rfl (by kernel_rfl) (by kernel_rfl) (by kernel_rfl) (fun _ _ _ h => h) (.inl ⟨by kernel_rfl, fun w' hS => by first | (go_simp; done) | (go_simp; simp [*]; done)⟩) hS ?_
  try simp only [List.getElem_toArray, List.getElem_cons_succ, List.getElem_cons_zero, Act.put, List.setIfInBounds_toArray, List.set_cons_zero, List.set_cons_succ]
  refine wpAnyH_take (i := 3) (v := .int .u8 (m : Int)) rfl (by kernel_rfl) (by kernel_rfl) (by kernel_rfl) (fun _ _ _ h => h) (.inl ⟨by kernel_rfl, fun w' hS => by have q_ := (hS.cell (World.block_lt_of_cell? w1 _ hcm)).trans hcm; first | (go_simp; done) | (go_simp; simp [*]; done)⟩) hS ?_
  try simp only [List.getElem_toArray, List.getElem_cons_succ, List.getElem_cons_zero, Act.put, List.setIfInBounds_toArray, List.set_cons_zero, List.set_cons_succ]
  refine wpAnyH_take (i := 4) (v := .int .i64 (m : Int)) rfl (by kernel_rfl) (by kernel_rfl) (by kernel_rfl) (fun _ _ _ h => h) (.inl ⟨by kernel_rfl, fun w' hS => by first | (go_simp; done) | (go_simp; simp [*]; done)⟩) hS ?_
  try simp only [List.getElem_toArray, List.getElem_cons_succ, List.getElem_cons_zero, Act.put, List.setIfInBounds_toArray, List.set_cons_zero, List.set_cons_succ]
  refine wpAnyH_ready (rs := [1]) (by kernel_rfl) (by simp) (AllReadyH.cons rfl (fun K' hK => ?_) AllReadyH.nil)
  rw [if_pos (by kernel_rfl)]
  go_simp
  go_at_call 29
  (with_reducible refine (listed_calls (some ⟨g, 0, none⟩) L M _ HMM.out (HT.out.below hS) HLL.out).mono ?_)
  rintro e w5 ⟨v3, rfl, hr3, hb⟩
  obtain ⟨A2, c2, rfl, hc3, hC3⟩ := Kd.R_reads hr3
  have HC2 := Aside0.mk hc3
  have HR2 := Aside0.mk hC3
  clear hr3 hc3 hC3
  have hS' := hS.trans (hb.mono hS.size)
  refine hK.out _ _ hS' (fun _ => ?_)
  clear hK hS hb
  have hS := hS'
  clear hS'
  try simp only [List.getElem_toArray, List.getElem_cons_succ, List.getElem_cons_zero, Act.put, List.setIfInBounds_toArray, List.set_cons_zero, List.set_cons_succ]
  refine wpAnyH_ready (rs := [5]) (by kernel_rfl) (by simp) (AllReadyH.cons rfl (fun K' hK => ?_) AllReadyH.nil)
  rw [if_pos (by kernel_rfl)]
  go_simp
  go_at_call 40
  (with_reducible refine (refPoints_calls _ _ L M v m X _ HX.out (Nat.le_trans HMS.out (by decide)) HMM.out HR2.out HC2.out HLL.out HOK.out).mono ?_)
  rintro e w6 ⟨v4, rfl, hr4, hb⟩
  obtain ⟨A4, c4, rfl, hc4, hC4⟩ := Kd.R_reads hr4
  have HC4 := Aside0.mk hc4
  have HR4 := Aside0.mk hC4
  clear hr4 hc4 hC4
  have hS' := hS.trans (hb.mono hS.size)
  refine hK.out _ _ hS' (fun _ => ?_)
  clear hK hS hb
  have hS := hS'
  clear hS'
  try simp only [List.getElem_toArray, List.getElem_cons_succ, List.getElem_cons_zero, Act.put, List.setIfInBounds_toArray, List.set_cons_zero, List.set_cons_succ]
  refine wpAnyH_take (i := 6) (v := .slice A4 X.length c4) rfl (by kernel_rfl) (by kernel_rfl) (by kernel_rfl) (fun _ _ _ h => h) (.inl ⟨by kernel_rfl, fun w' hS => by first | (go_simp; done) | (go_simp; simp [*]; done)⟩) hS ?_
  try simp only [List.getElem_toArray, List.getElem_cons_succ, List.getElem_cons_zero, Act.put, List.setIfInBounds_toArray, List.set_cons_zero, List.set_cons_succ]
  refine wpAnyH_done (by kernel_rfl) ?_ _
  refine NoPanic.normal ?_
  gi_wp2_with (refine ⟨trivial, ?_⟩; gi_at_call 41; refine (callsIn_wide.2 (span_Points.calls _ v _)).mono ?_; rintro e w7 ⟨rfl, rfl⟩)
  clear hcm
  have hb6 := HB.out.trans (hS.mono HB.out.size)
  have hm6 := upM HM.out hS
  have ht6 := HT.out.below hS
  have hbA : Below w6.heap.size w6 (((w6.alloc (.cells #[.slice none 0 0] 22)).alloc (.cells #[.pointer (some ⟨g, 0, none⟩)] 45)).alloc (.cells #[.string v] 9)) := (((Below.refl _ w6).alloc (Nat.le_refl _) _).alloc (by simp) _).alloc (by simp; omega) _
  have hsz : (((w6.alloc (.cells #[.slice none 0 0] 22)).alloc (.cells #[.pointer (some ⟨g, 0, none⟩)] 45)).alloc (.cells #[.string v] 9)).heap.size = w6.heap.size + 3 := by simp
  have hg7 : Boxed (((w6.alloc (.cells #[.slice none 0 0] 22)).alloc (.cells #[.pointer (some ⟨g, 0, none⟩)] 45)).alloc (.cells #[.string v] 9)) w6.heap.size 22 (.slice none 0 0) := ((Boxed.new w6 _ _).alloc _).alloc _
  have ht7 : Boxed (((w6.alloc (.cells #[.slice none 0 0] 22)).alloc (.cells #[.pointer (some ⟨g, 0, none⟩)] 45)).alloc (.cells #[.string v] 9)) (w6.heap.size + 1) 45 (.pointer (some ⟨g, 0, none⟩)) := by
    have := (Boxed.new (w6.alloc (.cells #[.slice none 0 0] 22)) 45 (.pointer (some ⟨g, 0, none⟩))).alloc (.cells #[.string v] 9)
    rwa [World.size_alloc] at this
  have hv7 : Boxed (((w6.alloc (.cells #[.slice none 0 0] 22)).alloc (.cells #[.pointer (some ⟨g, 0, none⟩)] 45)).alloc (.cells #[.string v] 9)) (w6.heap.size + 2) 9 (.string v) := by
    have := Boxed.new ((w6.alloc (.cells #[.slice none 0 0] 22)).alloc (.cells #[.pointer (some ⟨g, 0, none⟩)] 45)) 9 (.string v)
    rwa [World.size_alloc, World.size_alloc] at this
  generalize hw7 : (((w6.alloc (.cells #[.slice none 0 0] 22)).alloc (.cells #[.pointer (some ⟨g, 0, none⟩)] 45)).alloc (.cells #[.string v] 9)) = w7 at *
  clear hw7
  have HST := Aside0.mk (span_Points.stops L HLL.out HOK.out v (some ⟨g, 0, none⟩) (w6.heap.size + 2) (w6.heap.size + 1) w7 hv7 ht7 (ht6.below hbA) 19 (by omega))
  have HM7 := Aside0.mk (upM hm6 hbA)
  have HB6w := Aside0.mk hb6
  have HB7 := Aside0.mk (hb6.trans (hbA.mono hb6.size))
  have HB67 := Aside0.mk hbA
  have HG7 := Aside0.mk hg7
  have HSZ := Aside0.mk hsz
  have HS6 := Aside0.mk hb6.size
  have HLT : Aside0 (w.heap.size < w6.heap.size) := ⟨hm6.lt⟩
  clear hb6 hm6 ht6 hbA hsz hg7 ht7 hv7 hS
  have HI0 : Aside0 (ptI w w6 m w7.heap.size [] w7) := ⟨⟨_, HG7.out, Kd.R_nil _ _ _ _ _⟩, ⟨HM7.out, HB67.out, Nat.le_refl _⟩, Nat.zero_le _⟩
  refine wpIn_range_w rfl (by omega) (gf := 67) (lb := #[Value.pointer (some { block := w6.heap.size + 2, off := 0 }), Value.pointer (some { block := w6.heap.size + 1, off := 0 })]) rfl trivial (enters_of Try.func67 (by kernel_rfl) rfl)
    HST.out KeepO.trans keepO_put (Below.refl _ _) (fun _ => rfl)
    (ptI w w6 m w7.heap.size) (fun c xs W => c = .exit 0 ∧ ∃ pre x, xs = pre ++ [x] ∧ pre.length = m ∧ ptI w w6 m w7.heap.size pre W) (ptI_own w w6 m _ _ (by have := HSZ.out; omega))
    (fun c s W W' row hs hg hr => by
      obtain ⟨h1, pre, x, h2, h3, h4⟩ := hs
      exact ⟨h1, pre, x, h2, h3, ptI_own w w6 m _ _ (by have := HSZ.out; omega) pre W W' row h4 hg hr⟩) HI0.out
    (fun pre x a1 W => a1 = { tmps := #[Value.slice A0 l.length c0, Value.string v, Value.int IntKind.u8 (m : Int), undef, undef, Value.pointer (some { block := w.heap.size, off := 0 }), Value.bool false, Value.pointer (some { block := g, off := 0 }), Value.int IntKind.i64 0, Value.slice A4 X.length c4, Value.pointer (some { block := w6.heap.size, off := 0 }), Value.int IntKind.i64 x, Value.bool true, Value.bool false, Value.bool false, Value.slice A0 l.length c0, Value.bool true, Value.bool false, Value.bool false, Value.bool false, Value.string v, Value.int IntKind.i64 (v.size : Int), Value.bool false, Value.bool false, undef, Value.tuple #[Value.pointer (some { block := g, off := 0 }), Value.int IntKind.i64 0], Value.slice A0 l.length c0, Value.tuple #[Value.pointer (some { block := g, off := 0 }), Value.int IntKind.i64 0], Value.pointer (some { block := g, off := 0 }), Value.int IntKind.i64 0, Value.int IntKind.i64 0, Value.bool false, Value.bool false, Value.pointer (some { block := g, off := 0 }), Value.bool false, Value.bool false, undef, undef, undef, undef, undef, undef, Value.pointer (some { block := g, off := 0 }), Value.slice A2 M.length c2, Value.string v, Value.int IntKind.u8 (m : Int), Value.int IntKind.i64 (m : Int), Value.slice A4 X.length c4, Value.pointer (some { block := g, off := 0 }), Value.string v, Value.func (Fn.func 67) #[] #[Value.pointer (some { block := w6.heap.size + 2, off := 0 }), Value.pointer (some { block := w6.heap.size + 1, off := 0 })], Value.int IntKind.i64 x, undef, undef, undef, undef, undef, undef, undef, undef, undef, undef, undef, undef], defers := [] } ∧ ptI w w6 m w7.heap.size pre W)
    (fun pre x a1 s W W' row hs hg hr => ⟨hs.1, ptI_own w w6 m _ _ (by have := HSZ.out; omega) pre W W' row hs.2 hg hr⟩) ?assign ?body ?done ?stop
  case assign =>
    rintro l' pre x W K hI - hK
    have HI := Aside0.mk hI
    have HK := Aside0.mk hK
    clear hI hK
    gi_wp2
    exact HK.out _ _ (KeepsFrom.refl _ _) (KeepO.refl _ _) ⟨rfl, HI.out⟩
  case body =>
    rintro l' pre x a1 W ⟨rfl, ⟨u, hu, hR⟩, ⟨hm, hbel, hsz⟩, hlen⟩ hsp
    obtain ⟨A5, c5, hv5⟩ := Kd.R_slice hR
    subst hv5
    have hcm := hm.cell
    have hcu := hu.cell
    have hfu := hu.frozen
    have HU := Aside0.mk hu
    have HR5 := Aside0.mk hR
    have HMW := Aside0.mk hm
    have HBL := Aside0.mk hbel
    have HSW := Aside0.mk hsz
    have HLEN := Aside0.mk hlen
    clear hu hR hm hbel hsz hlen hsp
    by_cases c1 : pre.length < m
    · have d1 : decide ((m : Int) ≤ (pre.length : Int)) = false := decide_eq_false (by omega)
      have d2 : decide (m ≤ pre.length) = false := decide_eq_false (by omega)
      have HC1 := Aside0.mk c1
      obtain ⟨i0, hi0, hii⟩ := Option.map_eq_some_iff.1 info_int3
      simp only [Prod.mk.injEq] at hii
      have hown := Kd.own_of_R HR5.out
      have hown1 : (W.alloc (.cells #[.int .i64 x] 3)).ownsRow w7.heap.size 3 1 (.slice A5 pre.length c5) pre.length (encs (Value.int .i64) pre) := own_move hown (fun k hk => Below.heap_alloc W _ k (own_lt hown k hk))
      have hnc : ∀ j u, ([.int .i64 x] : List Value)[j]? = some u → (W.alloc (.cells #[.int .i64 x] 3)).cell? ((⟨W.heap.size, 0, none⟩ : Addr).add j) = some u := fun j u hj => by
        rw [Addr.add_lit]; simp only [World.cell?]; rw [World.alloc_heap_new]; simpa using hj
      have HOWN := Aside0.mk hown1
      clear c1 hown hown1
      gi_wp2_with (gi_at_builtin; refine wpListIn_append_own _ rfl _ _ 22 rfl w7.heap.size 3 i0 _ 1 8 Try.underlying22 hi0 hii.1 hii.2.1 hii.2.2 rfl (by omega) _ pre.length (encs (Value.int .i64) pre) rfl HOWN.out ⟨W.heap.size, 0, none⟩ 1 1 [.int .i64 x] rfl rfl hnc (by simp [Value.oneCell']) (by simp only [maxLen]; have := HLEN.out; have := HMS.out; omega) (by have := HLEN.out; have := HMS.out; omega) (by simp; have := HSW.out; omega) ?_; (intro v2 W2 ho2 hg2 _; have hb2 := (HU.out.alloc (.cells #[.int .i64 x] 3)).kept hg2 (fun e => by have := own_base HOWN.out _ e.symm; have := HSZ.out; omega); have hc2 := hb2.cell; have hf2 := hb2.frozen; obtain ⟨A7, c7, rfl⟩ := own_some ho2; have HO2 := Aside0.mk ho2; have HG2 := Aside0.mk hg2; clear ho2 hg2 hb2 hcu hfu hnc hii hi0))
      refine ptI_step HLT.out (by have := HSZ.out; omega) HU.out HMW.out HBL.out HSW.out HR5.out ?_ (World.grownBy.trans (World.grownBy_alloc W _ _) HG2.out) HC1.out
      exact Kd.R_of_own (by have := HO2.out; rw [List.length_append]; simpa [encs] using this) (fun _ _ => trivial)
    · have d1 : decide ((m : Int) ≤ (pre.length : Int)) = true := decide_eq_true (by omega)
      have d2 : decide (m ≤ pre.length) = true := decide_eq_true (by omega)
      have he : pre.length = m := by have := HLEN.out; omega
      have HE := Aside0.mk he
      clear c1 he
      gi_wp2
      exact ⟨KeepsFrom.refl _ _, rfl, pre, x, rfl, HE.out, ⟨_, HU.out, HR5.out⟩, ⟨HMW.out, HBL.out, HSW.out⟩, HLEN.out⟩
  case done =>
    rintro D ys W hD hys hI hK
    subst hys
    obtain ⟨⟨u, hu, hR⟩, ⟨hm, hbel, hsz⟩, hlen⟩ := hI
    have hX : X = ptsOf L v := by rw [HX.out, List.take_of_length_le hlen]
    rw [← hX] at hR
    obtain ⟨A8, c8, rfl, hc8, hC8⟩ := Kd.R_reads hR
    have hcu := hu.cell
    have HC8 := Aside0.mk hc8
    have HR8 := Aside0.mk hC8
    have HR9 := Aside0.mk (Kd.C_below HR4.out hbel)
    have HLX : Aside0 (X.length ≤ 1000) := ⟨by rw [HX.out, List.length_take]; have := HMS.out; omega⟩
    have HK := Aside0.mk hK
    have HSW := Aside0.mk hsz
    have hbw : Below w.heap.size w W := (HB6w.out).trans (hbel.mono (Nat.le_of_lt HLT.out))
    have HBW := Aside0.mk hbw
    clear hu hR hm hbel hsz hlen hX hc8 hC8 hK hbw
    gi_wp2_with (refine ⟨trivial, ?_⟩; gi_at_call 20; refine (callsIn_wide.2 (sameI_calls A8 A4 c8 c4 X _ HR8.out HC8.out HR9.out HC4.out HLX.out)).mono ?_; rintro e w8 ⟨rfl, hb8⟩; have HB8 := Aside0.mk hb8; clear hb8)
    have hDlt : D < W.heap.size := (Array.getElem?_eq_some_iff.1 HK.out).1
    have hD8 : w8.heap[D]? = some (.deferred (some [])) := (HB8.out.block D hDlt).trans HK.out
    have hDw : w.heap.size ≤ D := by have := HSZ.out; have := HLT.out; omega
    refine ⟨by simp, .inl ⟨_, _, rfl, run_takeDeferred (w := w8) hD8, ?_⟩⟩
    exact ⟨_, by simp [results, Try.results10, go_sem], rfl, (HBW.out.trans (HB8.out.mono HBW.out.size)).trans (belowK_b (w := w) (Nat.le_refl _) w8 D _ _ hDw hD8 rfl rfl)⟩
  case stop =>
    rintro D c xs W hD hSp ⟨rfl, pre, x, rfl, hl, hI⟩ hK
    obtain ⟨⟨u, hu, hR⟩, ⟨hm, hbel, hsz⟩, hlen⟩ := hI
    have hX : X = pre := by
      rw [HX.out]
      obtain ⟨r, hr⟩ := hSp
      rw [← hr, List.append_assoc, List.take_append_of_le_length (by omega), List.take_of_length_le (by omega)]
    rw [← hX] at hR
    obtain ⟨A8, c8, rfl, hc8, hC8⟩ := Kd.R_reads hR
    have hcu := hu.cell
    have HC8 := Aside0.mk hc8
    have HR8 := Aside0.mk hC8
    have HR9 := Aside0.mk (Kd.C_below HR4.out hbel)
    have HLX : Aside0 (X.length ≤ 1000) := ⟨by rw [HX.out, List.length_take]; have := HMS.out; omega⟩
    have HK := Aside0.mk hK
    have HSW := Aside0.mk hsz
    have hbw : Below w.heap.size w W := (HB6w.out).trans (hbel.mono (Nat.le_of_lt HLT.out))
    have HBW := Aside0.mk hbw
    clear hu hR hm hbel hsz hlen hX hc8 hC8 hK hbw
    gi_wp2_with (refine ⟨trivial, ?_⟩; gi_at_call 20; refine (callsIn_wide.2 (sameI_calls A8 A4 c8 c4 X _ HR8.out HC8.out HR9.out HC4.out HLX.out)).mono ?_; rintro e w8 ⟨rfl, hb8⟩; have HB8 := Aside0.mk hb8; clear hb8)
    have hDlt : D < W.heap.size := (Array.getElem?_eq_some_iff.1 HK.out).1
    have hD8 : w8.heap[D]? = some (.deferred (some [])) := (HB8.out.block D hDlt).trans HK.out
    have hDw : w.heap.size ≤ D := by have := HSZ.out; have := HLT.out; omega
    refine ⟨by simp, .inl ⟨_, _, rfl, run_takeDeferred (w := w8) hD8, ?_⟩⟩
    exact ⟨_, by simp [results, Try.results10, go_sem], rfl, (HBW.out.trans (HB8.out.mono HBW.out.size)).trans (belowK_b (w := w) (Nat.le_refl _) w8 D _ _ hDw hD8 rfl rfl)⟩
theorem paronymlaw03_SpanPoints.walk (a0 : Option Addr) (cap0 : Nat) (ls0 : List S43) (a1 : ByteArray) (a2 : Int) (w : World) (hC0 : Kd.C k43 w a0 ls0.length ls0) (hcap0 : ls0.length ≤ cap0) (hwf0 : ∀ a ∈ ls0, wf43 a) (w1 : a1.size ≤ 140737488351232) (w2 : (Lit.int .u8 a2).wf = true) :
    Calls Try.prog 10 #[.slice a0 ls0.length cap0, .string a1, .int .u8 a2] w fun e w' => e = .returned (.bool true) ∧ Below w.heap.size w w' := by
  obtain ⟨h0, h9⟩ := u8_of_wf w2
  obtain ⟨m, rfl⟩ := Int.eq_ofNat_of_zero_le h0
  by_cases h1 : smallB ls0 = true
  · by_cases h2 : 30 < a1.size
    · exact points_out a0 cap0 ls0 a1 m w hC0 hcap0 (.inr h2)
    · by_cases h3 : (newR [] ls0).1 = 0
      · exact points_main a0 cap0 ls0 a1 m w hC0 hcap0 (by omega) h1 h2 h3
      · exact points_err a0 cap0 ls0 a1 m w hC0 hcap0 h1 h2 h3
  · exact points_out a0 cap0 ls0 a1 m w hC0 hcap0 (.inl (by simpa using h1))
end Go.Proofs.Ytlipbiihemhieaa.Q

-- from LawSpanPoints
-- Made by hp.py, a program of this session, with the kit's printer. Not trusted: Lean checks it.
namespace Go.Proofs.Ytlipbiihemhieaa.spanPoints
open Go.ChangeShapes Go.WideShapes Go.ChangeAt Go.RowKit
open Go.ChangeMaps (open_string shut_string)
set_option linter.unusedVariables false
theorem own : ownKnob Try.prog.godebug = none := by kernel_rfl
theorem laidOut : laidOutB Try.prog = true := by kernel_rfl
def IsRow (k : IntKind) (w : World) (a : Option Addr) (len cap : Nat) (zs : List Int) : Prop :=
  (a = none ∧ len = 0 ∧ cap = 0 ∧ zs = []) ∨
  ∃ x, a = some x ∧ len ≤ cap ∧ cap ≤ maxLen ∧ zs.length = cap ∧ (∀ i, i < zs.length → w.cell? (x.add i) = some (.int k (zs.getD i 0))) ∧ ∀ n ∈ zs, (Lit.int k n).wf = true
set_option maxRecDepth 100000 in
theorem lifted (os : Os) (started : os.Started) (H : Type) (enc : TypeId × Value → H) :
    ReturnsInHanded {} Try.checked os 10 .any (Rows.spanPointsSpec.pre6 enc Try.prog Try.f10 Rows.spanPointsRow.domain false) (Rows.spanPointsSpec.post enc Try.prog Try.f10 false true false false) := by
  refine returnsInHanded_of_change_sized (C := Try.checked) own started (by kernel_rfl) Try.func10
    (ChangeSpec.witness6 (enc := enc) (C := Try.checked) false ⟨#[], #[.slice none 0 0, .string ByteArray.empty, .int .u8 0], []⟩ 8 (by kernel_rfl) (by kernel_rfl) (by kernel_rfl) (by kernel_rfl)) ?_
  intro W base args ds gs before hval0 hW hcnd hsz0 _
  have hsz : (DataW.weightsEach Try.prog (Try.f10.params.toList ++ Rows.spanPointsSpec.plain.varTypes Try.prog) (ds ++ gs)).all (· ≤ reachBytes) = true := hsz0
  have hval : ∀ (j : Nat) t v, Try.f10.params[j]? = some t → args[j]? = some v → Value.okWide Try.prog W .any base t v := hval0
  have hW' := hW
  obtain ⟨p, q, hA0, hV, rfl, hfz, hnd⟩ := hW
  have hA : DataW.TrodAll enc Try.prog W 0 (fun _ => true) true Try.f10.params.toList args.toList ds p := hA0
  rw [Try.params10] at hA hval hsz
  obtain ⟨v0, vs0, d0, ds0, p0, q0, hargs, rfl, rfl, h0, r0⟩ := trodAll_cons hA
  obtain ⟨v1, vs1, d1, ds1, p1, q1, rfl, rfl, rfl, h1, r1⟩ := trodAll_cons r0
  obtain ⟨v2, vs2, d2, ds2, p2, q2, rfl, rfl, rfl, h2, r2⟩ := trodAll_cons r1
  obtain ⟨rfl, rfl, rfl⟩ := trodAll_nil r2
  obtain rfl : args = #[v0, v1, v2] := by cases args; simp_all
  obtain ⟨rfl, rfl⟩ := trodVars_none hV
  obtain ⟨a0, len0, cap0, rfl⟩ := okWide_slice Try.underlying41 (hval 0 41 v0 rfl rfl)
  have k0 := h0
  have lt0 : ∀ x ∈ p0, x.block < W.heap.size := by obtain ⟨m, hm⟩ := k0; exact DataW.trod_lt m _ _ _ hm
  obtain ⟨ls0, hn0, hcap0, hC0, hwf0⟩ := Q.opens_arg Try.underlying41 (by kernel_rfl) Q.opens_S43 h0
  subst hn0
  obtain ⟨a1, rfl, rfl, rfl, y1⟩ := open_string Try.underlying9 (hval 1 9 v1 rfl rfl) h1
  have w1 : a1.size ≤ 140737488351232 := by
    have z := sized_string hsz (j := 1) (t := 9) rfl rfl
    rw [Array.length_toList] at z
    exact z
  obtain ⟨a2, rfl, rfl, rfl, w2⟩ := open_int Try.underlying5 (hval 2 5 v2 rfl rfl) h2
  clear hA0 hval0 hsz0 hsz
  refine (Q.paronymlaw03_SpanPoints.walk a0 cap0 ls0 a1 a2 W hC0 hcap0 hwf0 w1 w2).mono fun e W' ⟨he, bel⟩ => ?_
  subst he
  exact ⟨_, rfl, _, _, _, [], _, [], hW', trodAll_mk1 (shut_bool Try.underlying4 _), (trodAll_cons_mk (Below.trod laidOut (by kernel_rfl) (of_decide_eq_true (by kernel_rfl)) k0 bel lt0) (trodAll_cons_mk (shut_string Try.underlying9 y1) (trodAll_cons_mk (shut_int Try.underlying5 w2) trodAll_mk0))), rfl, bel.frame _, fun h => by cases h⟩
theorem over : Rows.spanPointsRow.holds Try.pinned (OpenSpec.ofChange Rows.spanPointsSpec) :=
  OpenClaim.holds_of_wide 10 Try.f10 rfl rfl rfl rfl rfl rfl rfl ⟨rfl, rfl, rfl, rfl, rfl⟩ rfl rfl rfl rfl rfl (by kernel_rfl) Try.func10 (by kernel_rfl)
    (of_decide_eq_true (by kernel_rfl)) (by unfold Func.isWrapper; first | (rw [if_pos (by decide +kernel)]; kernel_rfl) | (rw [if_neg (by decide +kernel)]; exact ⟨rfl, rfl⟩))
    (fun os started H enc _ => lifted os started H enc)
theorem proved : Rows.SpanPointsSaid := over
#print axioms proved
end Go.Proofs.Ytlipbiihemhieaa.spanPoints
namespace Go.Proofs.Ytlipbiihemhieaa
/-- The row, under a short name, for the claim. -/
theorem spanPoints_holds : Rows.SpanPointsSaid := spanPoints.proved
end Go.Proofs.Ytlipbiihemhieaa
